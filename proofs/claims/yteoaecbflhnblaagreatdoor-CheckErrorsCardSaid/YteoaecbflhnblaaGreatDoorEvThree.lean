/- The evaluator's operations on maps, ranges, append, len, conversions are sound; every operation is sound. -/
import Derived.Test.YteoaecbflhnblaaGreatDoorEvTwo
import Derived.Laws.BytesString
set_option linter.unusedVariables false
set_option linter.unusedSimpArgs false
/- Maps: what the evaluator says of them is what the model does. -/
namespace Go.Ev
open Go.RowKit

variable {G : Ghost} {W0 : Old} {s : St} {w : World} {P : Program}

/-- Entries, one by one. -/
structure EsRel (G : Ghost) (es : List (AVal × AVal × Nat)) (cs : List MapEntry) : Prop where
  len : cs.length = es.length
  rel : ∀ (i : Nat) (x : AVal × AVal × Nat) (e : MapEntry), es[i]? = some x → cs[i]? = some e → VRel G x.1 e.key ∧ VRel G x.2.1 e.val ∧ e.born = x.2.2
theorem EsRel.nil : EsRel G [] [] := ⟨rfl, fun i x e h => by simp at h⟩
theorem EsRel.cons {x : AVal × AVal × Nat} {e : MapEntry} {es : List (AVal × AVal × Nat)} {cs : List MapEntry} (h : VRel G x.1 e.key ∧ VRel G x.2.1 e.val ∧ e.born = x.2.2) (t : EsRel G es cs) : EsRel G (x :: es) (e :: cs) :=
  ⟨by simp [t.len], fun i y u hy hu => by
    cases i with
    | zero => simp at hy hu; subst hy; subst hu; exact h
    | succ i => simp at hy hu; exact t.rel i y u hy hu⟩
theorem EsRel.inv {x : AVal × AVal × Nat} {es : List (AVal × AVal × Nat)} {cs : List MapEntry} (h : EsRel G (x :: es) cs) : ∃ e cs', cs = e :: cs' ∧ (VRel G x.1 e.key ∧ VRel G x.2.1 e.val ∧ e.born = x.2.2) ∧ EsRel G es cs' := by
  cases cs with
  | nil => have := h.len; simp at this
  | cons e cs => exact ⟨e, cs, rfl, h.rel 0 x e rfl rfl, ⟨by have := h.len; simpa using this, fun i y u hy hu => h.rel (i + 1) y u hy hu⟩⟩
theorem EsRel.nil_inv {cs : List MapEntry} (h : EsRel G [] cs) : cs = [] := List.eq_nil_of_length_eq_zero h.len
theorem EsRel.append {a b : List (AVal × AVal × Nat)} {c d : List MapEntry} (h : EsRel G a c) (k : EsRel G b d) : EsRel G (a ++ b) (c ++ d) := by
  induction a generalizing c with
  | nil => have := h.nil_inv; subst this; exact k
  | cons x xs ih => obtain ⟨e, cs, rfl, h1, h2⟩ := h.inv; exact .cons h1 (ih h2)

theorem keySame_sound {t : TypeId} {d : TypeDesc} (hu : P.underlying t = some d) {x y : AVal} {r : Bool} (h : keySame P t x y = some r) {a b : Value} (ha : VRel G x a) (hb : VRel G y b) : Instr.sameNow d a b = some r := by
  unfold keySame at h
  split at h
  · have := ha.int_inv; subst this
    have := hb.int_inv; subst this
    split at h
    · rename_i hu'
      rw [hu] at hu'; cases hu'
      split at h
      · rename_i e; subst e; cases h; simp [Instr.sameNow]
      · cases h
    · cases h
  · obtain ⟨a', rfl, a1, a2⟩ := ha.str_inv
    obtain ⟨b', rfl, b1, b2⟩ := hb.str_inv
    split at h
    · rename_i hu'
      rw [hu] at hu'; cases hu'
      cases h
      subst a1; subst a2; subst b1; subst b2
      rw [strEq]
      simp only [Instr.sameNow]
      congr 1
      have : (a' == b') = (a'.data.toList == b'.data.toList) := by
        show (a'.data == b'.data) = _
        by_cases e : a'.data = b'.data
        · rw [e]; simp
        · rw [beq_false_of_ne e, beq_false_of_ne (fun h => e (Array.toList_inj.1 h))]
      exact this
    · cases h
  · have := ha.bool_inv; subst this
    have := hb.bool_inv; subst this
    split at h
    · rename_i hu'
      rw [hu] at hu'; cases hu'
      cases h; simp [Instr.sameNow]
    · cases h
  · cases h

theorem aFind_sound {t : TypeId} {d : TypeDesc} (hu : P.underlying t = some d) {k : AVal} {kv : Value} (hk : VRel G k kv) : ∀ (es : List (AVal × AVal × Nat)) (cs : List MapEntry) (i : Nat) (r : Option (AVal × Nat)), EsRel G es cs → aFind P t k es = some r →
    match r with
    | none => Instr.findNow d kv cs i = some none
    | some (x, n) => ∃ j e, Instr.findNow d kv cs i = some (some (i + j, e.val)) ∧ cs[j]? = some e ∧ VRel G x e.val ∧ e.born = n ∧ Instr.sameNow d kv e.key = some true ∧ ∀ q, q < j → ∃ e', cs[q]? = some e' ∧ Instr.sameNow d kv e'.key = some false
  | [], cs, i, r, hr, h => by
    have := hr.nil_inv; subst this
    simp only [aFind] at h; cases h; rfl
  | (k', v, n) :: es, cs, i, r, hr, h => by
    obtain ⟨e, cs', rfl, ⟨h1, h2, h3⟩, hr'⟩ := hr.inv
    simp only [aFind] at h
    cases hs : keySame P t k k' with
    | none => simp [hs] at h
    | some b =>
      have hsn := keySame_sound hu hs hk h1
      simp only [hs, Option.bind_eq_bind, Option.bind_some] at h
      cases b with
      | true =>
        simp only [if_true] at h; cases h
        exact ⟨0, e, by simp [Instr.findNow, hsn], rfl, h2, h3, hsn, fun q hq => by omega⟩
      | false =>
        simp only [Bool.false_eq_true, if_false] at h
        have ih := aFind_sound hu hk es cs' (i + 1) r hr' h
        cases r with
        | none => simp only at ih ⊢; simp [Instr.findNow, hsn, ih]
        | some x =>
          obtain ⟨x, n'⟩ := x
          simp only at ih ⊢
          obtain ⟨j, e', a1, a2, a3, a4, a5, a6⟩ := ih
          refine ⟨j + 1, e', ?_, by simpa using a2, a3, a4, a5, fun q hq => ?_⟩
          · simp only [Instr.findNow, hsn, a1]; congr 3; omega
          · cases q with
            | zero => exact ⟨e, rfl, hsn⟩
            | succ q => obtain ⟨e'', b1, b2⟩ := a6 q (by omega); exact ⟨e'', by simpa using b1, b2⟩

theorem checkKey_run {t : TypeId} {k : AVal} {kv : Value} (hk : keyKind P t k = true) (hr : VRel G k kv) (b : Bool) (w : World) : (Instr.checkKey b 10000 t kv).run P w = .ok () w := by
  unfold keyKind at hk
  split at hk
  · rename_i hu; have := hr.int_inv; subst this
    show (Instr.checkKey b (9999 + 1) t _).run P w = _
    generalize 9999 = d
    simp [Instr.checkKey, tDesc_run hu]
  · rename_i hu; obtain ⟨_, rfl, _⟩ := hr.str_inv
    show (Instr.checkKey b (9999 + 1) t _).run P w = _
    generalize 9999 = d
    simp [Instr.checkKey, tDesc_run hu]
  · rename_i hu; have := hr.bool_inv; subst this
    show (Instr.checkKey b (9999 + 1) t _).run P w = _
    generalize 9999 = d
    simp [Instr.checkKey, tDesc_run hu]
  · cases hk
theorem keyKind_desc {t : TypeId} {k : AVal} (hk : keyKind P t k = true) : ∃ d, P.underlying t = some d := by
  unfold keyKind at hk
  split at hk <;> first | (exact ⟨_, by assumption⟩) | cases hk

theorem tMap_run {t k e : TypeId} (h : tMap P t = some (k, e)) (w : World) : (underlying t).run P w = .ok (.map k e) w := by
  unfold tMap at h
  split at h
  · cases h; rename_i hu; exact tDesc_run hu w
  · cases h

theorem findKey_run {t : TypeId} {d : TypeDesc} (hu : P.underlying t = some d) {kv : Value} {cs : List MapEntry} {r : Option (Nat × Value)} (h : Instr.findNow d kv cs 0 = some r) (w : World) : (Instr.findKey t kv cs).run P w = .ok r w := by
  simp [Instr.findKey, tDesc_run hu, h]

theorem Rel.map (h : Rel G W0 s w) {name r : Nat} (hr : G.blk name = some r) {es : List (AVal × AVal × Nat)} {clock : Nat} (he : s.entries name = some (es, clock)) :
    ∃ cs : Array MapEntry, w.heap[r]? = some (.map cs clock) ∧ EsRel G es cs.toList ∧ G.base ≤ r ∧ s.heap.get name = some (.map es clock) := by
  unfold St.entries at he
  cases ho : s.heap.get name with
  | none => simp [ho] at he
  | some o =>
    cases o <;> simp [ho] at he
    obtain ⟨rfl, rfl⟩ := he
    obtain ⟨c, hc, hrel⟩ := h.obj name r _ hr ho
    cases c <;> try exact hrel.elim
    obtain ⟨a1, a2, a3, a4⟩ := hrel
    subst a2
    exact ⟨_, hc, ⟨by simpa using a3, fun i x e hx he => a4 i x e hx (by simpa using he)⟩, a1, rfl⟩

theorem getObj_run {r : Nat} {o : Obj} (h : w.heap[r]? = some o) (hn : ∀ c e f, o ≠ .cells c e f) : (getObj r).run P w = .ok o w := by
  simp only [getObj, Sem.run, h]
theorem setObj_run {r : Nat} {o : Obj} (o' : Obj) (h : w.heap[r]? = some o) (hn : ∀ c e f, o ≠ .cells c e f) : (setObj r o').run P w = .ok () (w.putObj r o') := by
  simp only [setObj, Sem.run, h]
  cases o <;> first | rfl | exact absurd rfl (hn _ _ _)

theorem aLookup_sound (h : Rel G W0 s w) {t : TypeId} {m k r : AVal} {ok : Bool} (he : aLookup P t s m k ok = some r) {mv kv : Value} (hm : VRel G m mv) (hk : VRel G k kv) :
    ∃ v, VRel G r v ∧ (Instr.lookup t mv kv ok).run P w = .ok v w := by
  unfold aLookup at he
  cases ht : tMap P t with
  | none => simp [ht] at he
  | some ke =>
    obtain ⟨kt, et⟩ := ke
    simp only [ht, Option.bind_eq_bind, Option.bind_some] at he
    split at he
    · cases he
    · rename_i hkk
      have hkk' : keyKind P kt k = true := by simpa using hkk
      obtain ⟨d, hd⟩ := keyKind_desc hkk'
      -- the entries
      have key : ∀ (es : List (AVal × AVal × Nat)) (cs : Array MapEntry), EsRel G es cs.toList → (do let z ← tZero P et; let r ← aFind P kt k es; match r with | some (v, _) => some (if ok then .tuple [v, .bool true] else v) | none => some (if ok then .tuple [z, .bool false] else z) : Option AVal) = some r →
          ∃ v, VRel G r v ∧ (do
            Instr.checkKey cs.isEmpty 10000 kt kv
            let (v, ok') ← match ← Instr.findKey kt kv cs.toList with
              | some (_, v) => pure (v, true)
              | none => pure (← zeroValue et, false)
            pure (if ok then .tuple #[v, .bool ok'] else v) : Sem Value).run P w = .ok v w := by
        intro es cs hes hq
        cases hz : tZero P et with
        | none => simp [hz] at hq
        | some z =>
          cases hf : aFind P kt k es with
          | none => simp [hz, hf] at hq
          | some fr =>
            simp only [hz, hf, Option.bind_eq_bind, Option.bind_some] at hq
            obtain ⟨zv, hzr, hzrun⟩ := tZero_run hz G
            have hfs := aFind_sound hd hk es cs.toList 0 fr hes hf
            cases fr with
            | none =>
              simp only at hq hfs
              cases hq
              have hrun := findKey_run hd hfs w
              cases ok with
              | false => exact ⟨zv, hzr, by simp [checkKey_run hkk' hk, hrun, hzrun]⟩
              | true => exact ⟨.tuple #[zv, .bool false], .tuple _ _ rfl (fun i x v hx hv => (LRel.cons hzr (.cons (.bool false) (.nil G))).rel i x v hx (by simpa using hv)), by simp [checkKey_run hkk' hk, hrun, hzrun]⟩
            | some xn =>
              obtain ⟨x, n⟩ := xn
              simp only at hq hfs
              cases hq
              obtain ⟨j, e, a1, a2, a3, _⟩ := hfs
              have hrun := findKey_run hd a1 w
              cases ok with
              | false => exact ⟨e.val, a3, by simp [checkKey_run hkk' hk, hrun]⟩
              | true => exact ⟨.tuple #[e.val, .bool true], .tuple _ _ rfl (fun i x v hx hv => (LRel.cons a3 (.cons (.bool true) (.nil G))).rel i x v hx (by simpa using hv)), by simp [checkKey_run hkk' hk, hrun]⟩
      cases hm with
      | nilm =>
        simp only at he
        obtain ⟨v, hv, hrun⟩ := key [] #[] .nil he
        refine ⟨v, hv, ?_⟩
        simp only [Instr.lookup, Sem.run_bind, tMap_run ht, Result.andThen_ok, Sem.run_pure] at hrun ⊢
        exact hrun
      | map name r' hr =>
        simp only at he
        cases hes : s.entries name with
        | none => simp [hes] at he
        | some ec =>
          obtain ⟨es, clock⟩ := ec
          simp only [hes, Option.map_some, Option.bind_some] at he
          obtain ⟨cs, hc, hrel, _⟩ := h.map hr hes
          obtain ⟨v, hv, hrun⟩ := key es cs hrel he
          refine ⟨v, hv, ?_⟩
          have hg := getObj_run (P := P) hc (by simp)
          simp only [Instr.lookup, Sem.run_bind, tMap_run ht, Result.andThen_ok, hg, Sem.run_pure] at hrun ⊢
          exact hrun
      | _ => simp at he

end Go.Ev

/- Maps that are written, ranged over: what the evaluator says of them is what the model does. -/
namespace Go.Ev
open Go.RowKit

variable {G : Ghost} {W0 : Old} {s : St} {w : World} {P : Program}

theorem aSetEntry_sound {t : TypeId} {d : TypeDesc} (hu : P.underlying t = some d) {k v : AVal} {kv vv : Value} (hk : VRel G k kv) (hv : VRel G v vv) : ∀ (es es' : List (AVal × AVal × Nat)) (cs : List MapEntry), EsRel G es cs → aSetEntry P t k v es = some es' →
    ∃ j e, cs[j]? = some e ∧ Instr.sameNow d kv e.key = some true ∧ (∀ q, q < j → ∃ e', cs[q]? = some e' ∧ Instr.sameNow d kv e'.key = some false) ∧ EsRel G es' (cs.set j { e with key := kv, val := vv })
  | [], es', cs, hr, h => by simp [aSetEntry] at h
  | (k', v', n) :: es, es', cs, hr, h => by
    obtain ⟨e, cs', rfl, ⟨h1, h2, h3⟩, hr'⟩ := hr.inv
    simp only [aSetEntry] at h
    cases hs : keySame P t k k' with
    | none => simp [hs] at h
    | some b =>
      have hsn := keySame_sound hu hs hk h1
      simp only [hs, Option.bind_eq_bind, Option.bind_some] at h
      cases b with
      | true =>
        simp only [if_true] at h; cases h
        exact ⟨0, e, rfl, hsn, fun q hq => by omega, by simpa using EsRel.cons (x := (k, v, n)) (e := { e with key := kv, val := vv }) ⟨hk, hv, h3⟩ hr'⟩
      | false =>
        simp only [Bool.false_eq_true, if_false] at h
        cases hq : aSetEntry P t k v es with
        | none => simp [hq] at h
        | some es2 =>
          simp [hq] at h; subst h
          obtain ⟨j, e', a1, a2, a3, a4⟩ := aSetEntry_sound hu hk hv es es2 cs' hr' hq
          refine ⟨j + 1, e', by simpa using a1, a2, fun q hq => ?_, by simpa using EsRel.cons ⟨h1, h2, h3⟩ a4⟩
          cases q with
          | zero => exact ⟨e, rfl, hsn⟩
          | succ q => obtain ⟨e'', b1, b2⟩ := a3 q (by omega); exact ⟨e'', by simpa using b1, b2⟩

theorem findNow_at {d : TypeDesc} {kv : Value} : ∀ (cs : List MapEntry) (i j : Nat) (e : MapEntry), cs[j]? = some e → Instr.sameNow d kv e.key = some true → (∀ q, q < j → ∃ e', cs[q]? = some e' ∧ Instr.sameNow d kv e'.key = some false) →
    Instr.findNow d kv cs i = some (some (i + j, e.val))
  | [], _, j, e, h, _, _ => by simp at h
  | c :: cs, i, 0, e, h, h1, _ => by simp at h; subst h; simp [Instr.findNow, h1]
  | c :: cs, i, j + 1, e, h, h1, h2 => by
    obtain ⟨e', a1, a2⟩ := h2 0 (by omega)
    simp at a1; subst a1
    simp only [Instr.findNow, a2]
    rw [findNow_at cs (i + 1) j e (by simpa using h) h1 (fun q hq => by obtain ⟨e'', b1, b2⟩ := h2 (q + 1) (by omega); exact ⟨e'', by simpa using b1, b2⟩)]
    congr 3; omega

theorem sameNow_eq {d : TypeDesc} {a b : Value} (h : Instr.sameNow d a b = some true) : a = b := by
  unfold Instr.sameNow at h
  split at h
  · split at h
    · rename_i e; subst e; simp at h; subst h; rfl
    · cases h
  · simp at h
    rename_i x y
    have : x = y := by
      have hd : (x.data == y.data) = true := h
      cases x; cases y; simp at hd; simp [hd]
    subst this; rfl
  · simp at h; subst h; rfl
  · cases h
theorem sameBits_refl {d : TypeDesc} {a b : Value} (h : Instr.sameNow d a b = some true) : Instr.sameBits 10000 b a = true := by
  have e := sameNow_eq h
  subst e
  have : (∃ k n, a = .int k n) ∨ (∃ x, a = .string x) ∨ (∃ x, a = .bool x) := by
    unfold Instr.sameNow at h
    split at h
    · exact .inl ⟨_, _, rfl⟩
    · exact .inr (.inl ⟨_, rfl⟩)
    · exact .inr (.inr ⟨_, rfl⟩)
    · cases h
  rcases this with ⟨k, n, rfl⟩ | ⟨x, rfl⟩ | ⟨x, rfl⟩
  · simp [Instr.sameBits]
  · simp only [Instr.sameBits]; exact beq_self_eq_true x.data
  · simp [Instr.sameBits]

theorem Rel.turnMap (h : Rel G W0 s w) {name r : Nat} (hr : G.blk name = some r) {es' : List (AVal × AVal × Nat)} {clock clock' : Nat} {cs cs' : Array MapEntry} (hc : w.heap[r]? = some (.map cs clock)) (hB : G.base ≤ r) (he : EsRel G es' cs'.toList) :
    Rel G W0 (s.put name (some (.map es' clock'))) (w.putObj r (.map cs' clock')) :=
  h.turn hr hB hc (by simp) (by simp) (fun x hx => by
    cases hx
    exact ⟨⟨hB, rfl, by simpa using he.len, fun i x e hx he' => he.rel i x e hx (by simpa using he')⟩, by simp⟩)

theorem aMapPut_sound (h : Rel G W0 s w) {t : TypeId} {m k v : AVal} {s' : St} (he : aMapPut P t s m k v = some s') {mv kv vv : Value} (hm : VRel G m mv) (hk : VRel G k kv) (hv : VRel G v vv) :
    ∃ w', (Instr.mapUpdate t mv kv vv).run P w = .ok () w' ∧ Rel G W0 s' w' := by
  unfold aMapPut at he
  split at he
  · rename_i name
    cases ht : tMap P t with
    | none => simp [ht] at he
    | some ke =>
      obtain ⟨kt, et⟩ := ke
      simp only [ht, Option.bind_eq_bind, Option.bind_some] at he
      split at he
      · cases he
      · rename_i hkk
        have hkk' : keyKind P kt k = true := by simpa using hkk
        obtain ⟨d, hd⟩ := keyKind_desc hkk'
        cases hes : s.entries name with
        | none => simp [hes] at he
        | some ec =>
          obtain ⟨es, clock⟩ := ec
          simp only [hes, Option.bind_some] at he
          cases hm with
          | map _ r hr =>
            obtain ⟨cs, hc, hrel, hB, _⟩ := h.map hr hes
            have hg := getObj_run (P := P) hc (by simp)
            cases hf : aFind P kt k es with
            | none => simp [hf] at he
            | some fr =>
              simp only [hf, Option.bind_some] at he
              have hfs := aFind_sound hd hk es cs.toList 0 fr hrel hf
              cases fr with
              | none =>
                simp only at he hfs
                cases he
                have hrun := findKey_run hd hfs w
                refine ⟨w.putObj r (.map (cs.push { key := kv, val := vv, born := clock }) (clock + 1)), ?_, h.turnMap hr hc hB ?_⟩
                · simp [Instr.mapUpdate, tMap_run ht, hg, checkKey_run hkk' hk, hrun, setObj_run _ hc (by simp)]
                · rw [Array.toList_push]
                  exact hrel.append (.cons ⟨hk, hv, rfl⟩ .nil)
              | some xn =>
                simp only at he
                cases hse : aSetEntry P kt k v es with
                | none => simp [hse] at he
                | some es' =>
                  simp [hse] at he
                  subst he
                  obtain ⟨j, e, a1, a2, a3, a4⟩ := aSetEntry_sound hd hk hv es es' cs.toList hrel hse
                  have hfn := findNow_at cs.toList 0 j e a1 a2 a3
                  rw [Nat.zero_add] at hfn
                  have hrun := findKey_run hd hfn w
                  have hj : cs[j]? = some e := by simpa using a1
                  have hjl := (Array.getElem?_eq_some_iff.1 hj).1
                  have hkeep : ∀ w, (Instr.keyThatStays (((cs[j]?).map (·.key)).getD kv) kv).run P w = .ok kv w := fun w => by
                    rw [hj]
                    simp only [Option.map_some, Option.getD_some, Instr.keyThatStays]
                    rw [if_pos (sameBits_refl a2)]
                    rfl
                  refine ⟨w.putObj r (.map (cs.modify j fun e => { e with key := kv, val := vv }) clock), ?_, h.turnMap hr hc hB ?_⟩
                  · simp [Instr.mapUpdate, tMap_run ht, hg, checkKey_run hkk' hk, hrun, hkeep, setObj_run _ hc (by simp)]
                  · have : (cs.modify j fun e => { e with key := kv, val := vv }).toList = cs.toList.set j { e with key := kv, val := vv } := by
                      apply List.ext_getElem?
                      intro q
                      simp only [Array.getElem?_toList, Array.getElem?_modify, List.getElem?_set]
                      by_cases e1 : j = q
                      · subst e1; rw [if_pos rfl, if_pos rfl, hj]; simp [hjl]
                      · rw [if_neg e1, if_neg e1]
                    rw [this]; exact a4
  · cases he

end Go.Ev

/- A range over a map: what the evaluator says of it is what the model does. -/
namespace Go.Ev
open Go.RowKit

variable {G : Ghost} {W0 : Old} {s : St} {w : World} {P : Program}

/-- A new named object: the name, and the block. -/
theorem Rel.new (h : Rel G W0 s w) (o : AObj) {c : Obj} (hc : ORel (G.setBlk s.next w.heap.size) w.heap.size o c) (hf : ∀ cs e lo hi, c = .cells cs e (lo, hi) → lo = hi ∨ cs.size ≤ lo) :
    Rel (G.setBlk s.next w.heap.size) W0 (s.alloc o).2 (w.alloc c) ∧ G.le (G.setBlk s.next w.heap.size) := by
  have hn := (h.fresh s.next (Nat.le_refl _)).1
  refine ⟨(h.name o).lay (by simp [St.alloc]) (fun e => by have := (h.res _ e).1; omega) hn (by simp [St.alloc, Trie.get_set_same]) hc hf, Ghost.le_setBlk hn⟩

theorem tDesc_map {t : TypeId} {k e : TypeId} (h : P.underlying t = some (.map k e)) : tMap P t = some (k, e) := by simp [tMap, h]

theorem aRange_sound (h : Rel G W0 s w) {t : TypeId} {x r : AVal} {s' : St} (he : aRange P t s x = some (r, s')) {v : Value} (hx : VRel G x v) :
    ∃ G' w' u, G.le G' ∧ (Instr.range t v).run P w = .ok u w' ∧ Rel G' W0 s' w' ∧ VRel G' r u := by
  unfold aRange at he
  split at he
  · rename_i k e hu
    cases hx
    cases he
    obtain ⟨h1, h2⟩ := h.new (.iter none 0 [] 0) (c := .mapIter none 0 #[] 0) ⟨h.base, rfl, rfl, rfl, fun x hx => by simp at hx, trivial⟩ (fun _ _ _ _ e => by cases e)
    exact ⟨_, _, _, h2, by simp [Instr.range, tDesc_run hu], h1, .ptr _ 0 _ (Ghost.setBlk_same _ _ _)⟩
  · rename_i k e m hu
    cases hx with
    | map _ rb hr =>
      cases hes : s.entries m with
      | none => simp [hes] at he
      | some ec =>
        obtain ⟨es, clock⟩ := ec
        simp only [hes, Option.bind_eq_bind, Option.bind_some] at he
        cases he
        obtain ⟨cs, hc, hrel, hB, _⟩ := h.map hr hes
        have hn := (h.fresh s.next (Nat.le_refl _)).1
        obtain ⟨h1, h2⟩ := h.new (.iter (some m) clock [] clock) (c := .mapIter (some rb) clock #[] clock) ⟨h.base, rfl, rfl, rfl, fun x hx => by simp at hx, (Ghost.le_setBlk hn).blk _ _ hr⟩ (fun _ _ _ _ e => by cases e)
        have hg := getObj_run (P := P) hc (by simp)
        exact ⟨_, _, _, h2, by simp [Instr.range, tDesc_run hu, hg], h1, .ptr _ 0 _ (Ghost.setBlk_same _ _ _)⟩
  · cases he

theorem EsRel.filter (f : Nat → Bool) : ∀ {es : List (AVal × AVal × Nat)} {cs : List MapEntry}, EsRel G es cs → EsRel G (es.filter fun e => f e.2.2) (cs.filter fun e => f e.born)
  | [], cs, h => by have := h.nil_inv; subst this; exact .nil
  | x :: es, cs, h => by
    obtain ⟨e, cs', rfl, h1, h2⟩ := h.inv
    have ih := EsRel.filter f h2
    simp only [List.filter_cons, h1.2.2]
    split
    · exact .cons h1 ih
    · exact ih
theorem EsRel.any (f : Nat → Bool) : ∀ {es : List (AVal × AVal × Nat)} {cs : List MapEntry}, EsRel G es cs → (cs.any fun e => f e.born) = (es.any fun e => f e.2.2)
  | [], cs, h => by have := h.nil_inv; subst this; rfl
  | x :: es, cs, h => by
    obtain ⟨e, cs', rfl, h1, h2⟩ := h.inv
    simp [h1.2.2, EsRel.any f h2]

theorem aNext_sound (h : Rel G W0 s w) {it r : AVal} {b : Bool} {s' : St} (he : aNext s it b = some (r, s')) {v : Value} (hv : VRel G it v) (t : TypeId) :
    ∃ w' u, (Instr.next v b t).run P w = .ok u w' ∧ Rel G W0 s' w' ∧ VRel G r u := by
  unfold aNext at he
  split at he
  · rename_i n
    cases hv with
    | ptr _ _ rb hr =>
      have over : VRel G (.tuple [.bool false]) (.tuple #[.bool false]) := .tuple _ _ rfl (fun i x v hx hv => (LRel.cons (.bool false) (.nil G)).rel i x v hx (by simpa using hv))
      split at he
      · rename_i a1 a2 a3 ho
        cases he
        obtain ⟨c, hc, hrel⟩ := h.obj n rb _ hr ho
        cases c <;> try exact hrel.elim
        rename_i mr since' seen' last'
        obtain ⟨_, _, _, _, _, hm⟩ := hrel
        cases mr with
        | some q => exact hm.elim
        | none =>
          have hg := getObj_run (P := P) hc (by simp)
          exact ⟨w, _, by simp [Instr.next, hg], h, over⟩
      · rename_i m since seen last ho
        obtain ⟨c, hc, hrel⟩ := h.obj n rb _ hr ho
        cases c <;> try exact hrel.elim
        rename_i mr since' seen' last'
        obtain ⟨hB, e1, e2, e3, hlast, hm⟩ := hrel
        subst e1; subst e2; subst e3
        cases mr with
        | none => exact hm.elim
        | some mb =>
          have hm' : G.blk m = some mb := hm
          have hg := getObj_run (P := P) hc (by simp)
          cases hes : s.entries m with
          | none => simp [hes] at he
          | some ec =>
            obtain ⟨es, clock⟩ := ec
            simp only [hes, Option.bind_eq_bind, Option.bind_some] at he
            obtain ⟨cs, hcs, hrel2, hB2, _⟩ := h.map hm' hes
            have hgm := getObj_run (P := P) hcs (by simp)
            have hfil := hrel2.filter (G := G) (fun x => !seen'.toList.contains x)
            have hleft : (cs.filter fun e => !seen'.contains e.born).toList = cs.toList.filter fun e => !seen'.toList.contains e.born := by simp
            -- nothing is amiss with the entries
            have hguard : ∀ (hcond : (seen'.toList.isEmpty || es.isEmpty || es.any (fun e => seen'.toList.contains e.2.2)) = true), (!seen'.isEmpty && !cs.isEmpty && cs.all (fun x => decide (x.born ≥ last'))) = false := by
              intro hcond
              rw [← Bool.not_eq_true]
              intro hh
              simp only [Bool.and_eq_true, Bool.not_eq_true', Array.isEmpty_eq_false_iff, Array.all_eq_true_iff_forall_mem, decide_eq_true_eq] at hh
              obtain ⟨⟨g1, g2⟩, g3⟩ := hh
              simp only [Bool.or_eq_true, List.isEmpty_iff] at hcond
              rcases hcond with (hcond | hcond) | hcond
              · exact g1 (Array.toList_eq_nil_iff.1 hcond)
              · subst hcond; exact g2 (Array.toList_eq_nil_iff.1 hrel2.nil_inv)
              · rw [← hrel2.any (fun x => seen'.toList.contains x)] at hcond
                obtain ⟨e, he1, he2⟩ := List.any_eq_true.1 hcond
                have := g3 e (by simpa using he1)
                have := hlast e.born (by simpa using he2)
                omega
            split at he
            · rename_i hl
              split at he
              · rename_i hcond
                cases he
                rw [hl] at hfil
                have hnil := hfil.nil_inv
                rw [← hleft] at hnil
                have hnil' := Array.toList_eq_nil_iff.1 hnil
                refine ⟨w, _, ?_, h, over⟩
                simp only [Instr.next, Sem.run_bind, hg, Result.andThen_ok, hgm, hguard hcond, Bool.false_eq_true, if_false, hnil']
                simp [Question.forced]
              · cases he
            · rename_i k x q hl
              split at he
              · rename_i hcond
                obtain ⟨c1, c2, c3⟩ := hcond
                cases he
                rw [hl] at hfil
                obtain ⟨e, cs', hcs', ⟨r1, r2, r3⟩, hr'⟩ := hfil.inv
                have := hr'.nil_inv; subst this
                rw [← hleft] at hcs'
                have hone : (cs.filter fun e => !seen'.contains e.born) = #[e] := by
                  apply Array.toList_inj.1; simpa using hcs'
                have c2' : (seen'.toList.isEmpty || es.isEmpty || es.any (fun e => seen'.toList.contains e.2.2)) = true := by
                  simp only [Bool.or_eq_true] at c2 ⊢
                  rcases c2 with c2 | c2
                  · exact .inl (.inl c2)
                  · exact .inr c2
                have r3' : e.born = q := r3
                refine ⟨w.putObj rb (.mapIter (some mb) since' (seen'.push q) clock), .tuple #[.bool true, e.key, e.val], ?_, ?_, ?_⟩
                · simp only [Instr.next, Sem.run_bind, hg, Result.andThen_ok, hgm, hguard c2', Bool.false_eq_true, if_false, hone]
                  have o1 : (#[e] : Array MapEntry).filter (fun x => decide (x.born < since')) = #[e] := by simp [r3', c1]
                  have o2 : (#[e] : Array MapEntry).filter (fun x => decide (x.born ≥ since')) = #[] := by simp [r3']; omega
                  simp only [o1, o2]
                  simp [Question.forced, r3', setObj_run _ hc]
                · refine h.turn hr hB hc (by simp) (by simp) (fun x hx => ?_)
                  cases hx
                  refine ⟨⟨hB, rfl, by simp, rfl, fun y hy => by have := List.all_eq_true.1 c3 y hy; rwa [Nat.blt_eq] at this, hm'⟩, by simp⟩
                · exact .tuple _ _ rfl (fun i x v hx hv => (LRel.cons (.bool true) (.cons r1 (.cons r2 (.nil G)))).rel i x v hx (by simpa using hv))
              · cases he
            · cases he
      · cases he
  · cases he

theorem aOfBorn_sound : ∀ {es : List (AVal × AVal × Nat)} {cs : List MapEntry} {n : Nat} {k v : AVal}, EsRel G es cs → aOfBorn n es = some (k, v) → ∃ e, cs.find? (·.born == n) = some e ∧ VRel G k e.key ∧ VRel G v e.val
  | [], cs, n, k, v, h, he => by simp [aOfBorn] at he
  | (k', v', m) :: es, cs, n, k, v, h, he => by
    obtain ⟨e, cs', rfl, ⟨h1, h2, h3⟩, h4⟩ := h.inv
    simp only [aOfBorn] at he
    split at he
    · rename_i e1; subst e1; cases he
      have : (e.born == m) = true := by simpa using h3
      exact ⟨e, by simp [this], h1, h2⟩
    · rename_i e1
      obtain ⟨e', a1, a2⟩ := aOfBorn_sound h4 he
      have : (e.born == n) = false := by simp; intro e2; exact e1 (by rw [← e2]; exact h3.symm)
      exact ⟨e', by simp [this, a1], a2⟩

theorem aEntry_sound (h : Rel G W0 s w) {it r : AVal} (he : aEntry s it = some r) {v : Value} (hv : VRel G it v) : ∃ u, (Instr.entry v).run P w = .ok u w ∧ VRel G r u := by
  unfold aEntry at he
  split at he
  · rename_i n
    cases hv with
    | ptr _ _ rb hr =>
      split at he
      · rename_i m since seen last ho
        obtain ⟨c, hc, hrel⟩ := h.obj n rb _ hr ho
        cases c <;> try exact hrel.elim
        rename_i mr since' seen' last'
        obtain ⟨hB, e1, e2, e3, hlast, hm⟩ := hrel
        subst e1; subst e2; subst e3
        cases mr with
        | none => exact hm.elim
        | some mb =>
          have hm' : G.blk m = some mb := hm
          have hg := getObj_run (P := P) hc (by simp)
          cases hst : seen'.toList.getLast? with
          | none => simp [hst] at he
          | some stamp =>
            cases hes : s.entries m with
            | none => simp [hst, hes] at he
            | some ec =>
              obtain ⟨es, clock⟩ := ec
              simp only [hst, hes, Option.bind_eq_bind, Option.bind_some] at he
              obtain ⟨cs, hcs, hrel2, hB2, _⟩ := h.map hm' hes
              have hgm := getObj_run (P := P) hcs (by simp)
              split at he
              · rename_i e1
                cases hob : aOfBorn stamp es with
                | none => simp [hob] at he
                | some kv =>
                  obtain ⟨k, x⟩ := kv
                  simp [hob] at he
                  subst he
                  obtain ⟨e, f1, f2, f3⟩ := aOfBorn_sound hrel2 hob
                  have hback : seen'.back? = some stamp := by rw [← hst]; simp
                  have hfind : cs.find? (·.born == stamp) = some e := by rw [← f1]; simp
                  refine ⟨.tuple #[e.key, e.val], ?_, .tuple _ _ rfl (fun i x v hx hv => (LRel.cons f2 (.cons f3 (.nil G))).rel i x v hx (by simpa using hv))⟩
                  simp [Instr.entry, hg, hback, hgm, e1, hfind]
              · cases he
      · cases he
  · cases he

end Go.Ev

/- append: what the evaluator says of it is what the model does, whatever room the tape gives. -/
namespace Go.Ev
open Go.RowKit

variable {G : Ghost} {W0 : Old} {s : St} {w : World} {P : Program}

theorem Rel.drew (h : Rel G W0 s w) (n : Nat) : Rel G W0 s { w with drawn := n } :=
  ⟨h.obj, h.lt, h.inj, h.imm, h.apart, h.tok, h.tok2, h.fresh, h.frz, h.base, ⟨h.below.os, h.below.tape, h.below.output, h.below.size, h.below.block⟩, h.glob, h.opq, h.opqInj, h.res, fun b c hp => (h.priv b c hp).of rfl (fun e f he => ⟨e, f, he⟩) (fun _ hn => hn) (fun _ => rfl) (fun t lo hi ht hg hl => ⟨ht, hg⟩)⟩

theorem elems_spec {arr : Trie (List AVal)} : ∀ (n i : Nat) (els : List (List AVal)), elems arr i n = some els → els.length = n ∧ ∀ j, j < n → els[j]? = arr.get (i + j)
  | 0, i, els, h => by simp only [elems] at h; cases h; exact ⟨rfl, fun j hj => by omega⟩
  | n + 1, i, els, h => by
    simp only [elems] at h
    cases h1 : arr.get i with
    | none => simp [h1] at h
    | some x =>
      cases h2 : elems arr (i + 1) n with
      | none => simp [h1, h2] at h
      | some xs =>
        simp [h1, h2] at h; subst h
        obtain ⟨a, b⟩ := elems_spec n (i + 1) xs h2
        refine ⟨by simp [a], fun j hj => ?_⟩
        cases j with
        | zero => simp [h1]
        | succ j => simp only [List.getElem?_cons_succ]; rw [b j (by omega)]; congr 1; omega

theorem divmod (i c sz : Nat) (h : c < sz) : (i * sz + c) / sz = i ∧ (i * sz + c) % sz = c := by
  constructor
  · rw [Nat.mul_comm, Nat.mul_add_div (by omega), Nat.div_eq_of_lt h, Nat.add_zero]
  · rw [Nat.mul_comm, Nat.mul_add_mod, Nat.mod_eq_of_lt h]

/-- A row's elements as they lie in memory. -/
theorem vec_elems (h : Rel G W0 s w) {sz : Nat} {arr : Trie (List AVal)} {off len : Nat} {tok : Tok} {v : Value} (hv : VRel G (.vec sz arr off len tok) v) {els : List (List AVal)} (he : elems arr off len = some els) :
    ∃ vs, ERel G els sz vs ∧ els.length = len ∧ (∀ w', Rel G W0 s w' → (Builtin.firstCells sz len v).run P w' = .ok vs.toArray w') ∧ ∀ w, (Builtin.lenOf v).run P w = .ok len w := by
  obtain ⟨b, o, cap, cv, rfl, hc, hel, hi, hr, ht⟩ := hv.vec_inv
  obtain ⟨hl, hg⟩ := elems_spec len off els he
  have hidx : ∀ k, k < len * sz → k / sz < len ∧ k % sz < sz ∧ k / sz * sz + k % sz = k := fun k hk => by
    have hpos : 0 < sz := Nat.pos_of_ne_zero (fun e => by rw [e] at hk; simp at hk)
    refine ⟨Nat.div_lt_of_lt_mul (by rwa [Nat.mul_comm] at hk), Nat.mod_lt _ hpos, ?_⟩
    rw [Nat.mul_comm]; exact Nat.div_add_mod k sz
  refine ⟨(List.range (len * sz)).map fun k => cv (k / sz) (k % sz), ⟨by simp [hl], fun i cells hx => ?_, fun i c cells x hx hcx => ?_, fun v hv => ?_⟩, hl, fun w' hw' => ?_, fun w => by simp [Builtin.lenOf]⟩
  · have hlt : i < len := by have := (List.getElem?_eq_some_iff.1 hx).1; omega
    rw [hg i hlt] at hx
    obtain ⟨cells', a1, a2⟩ := hel i hlt
    rw [hx] at a1; cases a1; exact a2
  · have hlt : i < len := by have := (List.getElem?_eq_some_iff.1 hx).1; omega
    rw [hg i hlt] at hx
    obtain ⟨cells', a1, a2⟩ := hel i hlt
    rw [hx] at a1; cases a1
    have hcl : c < sz := by have := (List.getElem?_eq_some_iff.1 hcx).1; omega
    obtain ⟨d1, d2⟩ := divmod i c sz hcl
    exact ⟨cv i c, by simp [index_lt hlt hcl, d1, d2], hr i c cells x hlt hx hcx⟩
  · simp only [List.mem_map, List.mem_range] at hv
    obtain ⟨k, hk, rfl⟩ := hv
    obtain ⟨k1, k2, _⟩ := hidx k hk
    exact (h.immCell (hi _ _ k1 k2)).2
  · have := run_loadCells_list (P := P) w' ⟨b, o, none⟩ ((List.range (len * sz)).map fun k => cv (k / sz) (k % sz)) (fun j v hj => by
      have hk : j < len * sz := by have := (List.getElem?_eq_some_iff.1 hj).1; simpa using this
      simp [hk] at hj; subst hj
      obtain ⟨k1, k2, k3⟩ := hidx j hk
      have := (hw'.immCell (hi _ _ k1 k2)).1
      rw [Nat.add_assoc, k3] at this
      rw [addr_add]; exact this)
    simp only [Builtin.firstCells]
    simpa using this

theorem strElems_spec (m len : Nat) : ∀ (n : Nat), (strElems m len n).length = n ∧ ∀ i, i < n → (strElems m len n)[i]? = some [.int .u8 ((m >>> (8 * (n - 1 - i))) % 256 : Nat)]
  | 0 => ⟨rfl, fun i hi => by omega⟩
  | n + 1 => by
    obtain ⟨a, b⟩ := strElems_spec m len n
    refine ⟨by simp [strElems, a], fun i hi => ?_⟩
    cases i with
    | zero => simp [strElems]
    | succ i =>
      simp only [strElems, List.getElem?_cons_succ]
      rw [b i (by omega)]
      have : n - 1 - i = n + 1 - 1 - (i + 1) := by omega
      rw [this]

theorem str_elems {len m : Nat} {v : Value} (hv : VRel G (.str len m) v) : ∃ vs, ERel G (strElems m len len) 1 vs ∧ (strElems m len len).length = len ∧ (∀ w, (Builtin.firstCells 1 len v).run P w = .ok vs.toArray w) ∧ (∀ w, (Builtin.lenOf v).run P w = .ok len w) ∧
    ∃ b, v = .string b ∧ b.data.toList.length = len ∧ vs = b.data.toList.map fun c => .int .u8 c.toNat := by
  obtain ⟨b, rfl, hl, hn⟩ := hv.str_inv
  obtain ⟨s1, s2⟩ := strElems_spec m len len
  have hel : ∀ i cells, (strElems m len len)[i]? = some cells → ∃ (hlt : i < b.data.toList.length), cells = [.int .u8 ((b.data.toList[i]).toNat : Nat)] := fun i cells hx => by
    have hlt : i < len := by have := (List.getElem?_eq_some_iff.1 hx).1; omega
    rw [s2 i hlt] at hx
    cases hx
    have hlt' : i < b.data.toList.length := by omega
    refine ⟨hlt', ?_⟩
    have := encB_byte b.data.toList i hlt'
    rw [hl, hn] at this
    rw [this]
  refine ⟨b.data.toList.map fun c => .int .u8 c.toNat, ⟨by rw [List.length_map, s1, hl, Nat.mul_one], fun i cells hx => ?_, fun i c cells x hx hcx => ?_, fun v hv => ?_⟩, s1, fun w => ?_, fun w => ?_, b, rfl, hl, rfl⟩
  · obtain ⟨_, rfl⟩ := hel i cells hx; rfl
  · obtain ⟨hlt, rfl⟩ := hel i cells hx
    have hc0 : c = 0 := by
      have := (List.getElem?_eq_some_iff.1 hcx).1
      simp at this; exact this
    subst hc0
    simp only [List.getElem?_cons_zero, Option.some.injEq] at hcx
    subst hcx
    exact ⟨.int .u8 ((b.data.toList[i]).toNat : Nat), by rw [Nat.mul_one, Nat.add_zero, List.getElem?_map, List.getElem?_eq_getElem hlt]; rfl, .int _ _⟩
  · simp only [List.mem_map] at hv
    obtain ⟨c, _, rfl⟩ := hv; rfl
  · have hbl : b.size = len := by simpa using hl
    simp only [Builtin.firstCells, Sem.run_pure]
    congr 1
    rw [← hbl]
    apply Array.toList_inj.1
    simp
  · have hbl : b.size = len := by simpa using hl
    simp [Builtin.lenOf, hbl]

theorem ERel.append {a b : List (List AVal)} {sz : Nat} {vs us : List Value} (h : ERel G a sz vs) (k : ERel G b sz us) : ERel G (a ++ b) sz (vs ++ us) := by
  refine ⟨by simp [h.len, k.len, Nat.add_mul], fun i cells hx => ?_, fun i c cells x hx hcx => ?_, fun v hv => ?_⟩
  · rw [List.getElem?_append] at hx
    split at hx
    · exact h.size i cells hx
    · exact k.size _ cells hx
  · rw [List.getElem?_append] at hx
    have hcl : c < sz := by
      have := (List.getElem?_eq_some_iff.1 hcx).1
      split at hx
      · rw [h.size _ _ hx] at this; exact this
      · rw [k.size _ _ hx] at this; exact this
    split at hx
    · rename_i hlt
      obtain ⟨v, hv, hr⟩ := h.rel i c cells x hx hcx
      refine ⟨v, ?_, hr⟩
      rw [List.getElem?_append, if_pos (by rw [h.len]; exact index_lt hlt hcl)]
      exact hv
    · rename_i hlt
      obtain ⟨v, hv, hr⟩ := k.rel _ c cells x hx hcx
      refine ⟨v, ?_, hr⟩
      have hge : a.length * sz ≤ i * sz := Nat.mul_le_mul_right _ (by omega)
      rw [List.getElem?_append, if_neg (by rw [h.len]; omega), h.len]
      rw [← hv]; congr 1
      rw [Nat.sub_mul]; omega
  · rcases List.mem_append.1 hv with hv | hv
    · exact h.one v hv
    · exact k.one v hv

theorem nextcap_le (need cap : Nat) (h : cap < need) : Builtin.nextslicecap need cap ≤ 4 * need := by
  unfold Builtin.nextslicecap
  split
  · omega
  · split
    · omega
    · simp only [Builtin.growBy]
      split
      · omega
      · split
        · omega
        · split
          · omega
          · split
            · omega
            · omega

theorem cut_appendCap (need old : Nat) (e : TypeId) (t : Nat) : need ≤ (Question.appendCap need old e).cut t := by simp [Question.cut]

theorem zeroCells_size (z : Array Value) (n : Nat) : (Builtin.zeroCells z n).size = n * z.size := by simp [Builtin.zeroCells]

/-- A new, larger row: all elements, and room behind them. -/
theorem Rel.regrow (h : Rel G W0 s w) {els : List (List AVal)} {sz : Nat} {vs : List Value} (he : ERel G els sz vs) (e : TypeId) (rest : Array Value) (newCap : Nat) (hcap : els.length ≤ newCap) (hrest : rest.size = (newCap - els.length) * sz) (arr : Trie (List AVal)) (off : Nat)
    (ha : ∀ i, i < els.length → arr.get (off + i) = els[i]?) :
    ∃ G', G.le G' ∧ Rel G' W0 (s.alloc .tok).2 (w.alloc (.cells (vs.toArray ++ rest) e)) ∧ VRel G' (.vec sz arr off els.length (.live s.next)) (.slice (some ⟨w.heap.size, 0, none⟩) els.length newCap) := by
  obtain ⟨G1, l1, r1, v1, i1, b1, t1⟩ := h.layVec he e rest arr off ha
  obtain ⟨r2, l2⟩ := r1.layTok (b := w.heap.size) (lo := els.length * sz) (hi := newCap * sz) (by rw [l1.base]; exact h.base) (fun _ => ⟨_, _, _, by rw [heap_alloc, if_pos rfl], by
      have := Nat.sub_mul newCap els.length sz
      have := Nat.mul_le_mul_right sz hcap
      simp [hrest, he.len]; omega⟩) i1 b1 t1 h.noPriv
  refine ⟨_, Ghost.le_trans l1 l2, r2, ?_⟩
  have hvv := v1 .dead newCap hcap trivial
  have := (hvv.mono l2).vec_inv
  obtain ⟨b', o', cap', cv, e1, q1, q2, q3, q4, _⟩ := this
  cases e1
  exact .vec sz arr off els.length (.live s.next) w.heap.size 0 newCap cv q1 q2 q3 q4 ⟨by rw [l2.base, l1.base]; exact h.base, fun _ => by simp [Ghost.setTok]⟩

end Go.Ev

/- append, len, conversions and what else makes new rows: what the evaluator says of them is what the model does. -/
namespace Go.Ev
open Go.RowKit

variable {G : Ghost} {W0 : Old} {s : St} {w : World} {P : Program}

theorem ofElems (h : Rel G W0 s w) {size : Nat} {y : AVal} {yv : Value} (hy : VRel G y yv) {els : List (List AVal)} (he : aElemsOf size y = some els) :
    ∃ vs, ERel G els size vs ∧ (∀ w', Rel G W0 s w' → (Builtin.firstCells size els.length yv).run P w' = .ok vs.toArray w') ∧ ∀ w, (Builtin.lenOf yv).run P w = .ok els.length w := by
  unfold aElemsOf at he
  split at he
  · cases he; cases hy
    exact ⟨[], ⟨by simp, fun i c h => by simp at h, fun i c l x h => by simp at h, fun v h => by simp at h⟩, fun w' _ => by simp [Builtin.firstCells], fun w => by simp [Builtin.lenOf]⟩
  · split at he
    · rename_i e; subst e
      obtain ⟨vs, a, b, c, d⟩ := vec_elems (P := P) h hy he
      exact ⟨vs, a, by rw [b]; exact c, by rw [b]; exact d⟩
    · cases he
  · split at he
    · rename_i e; subst e; cases he
      obtain ⟨vs, a, b, c, d, _⟩ := str_elems (P := P) hy
      exact ⟨vs, a, by rw [b]; exact fun w' _ => c w', by rw [b]; exact d⟩
    · cases he
  · cases he

/-- The way in which there is no room. -/
theorem append_grows {t0 t1 e : TypeId} {d1 : TypeDesc} {i : TypeInfo} {zv : Value} {els : List (List AVal)} (ht0 : P.underlying t0 = some (.slice e)) (hd1 : P.underlying t1 = some d1) (hi1 : isRowDesc d1 = true) (hi : P.info? e = some i)
    (hz : ∀ w, (zeroValue e).run P w = .ok zv w) {a : Option Addr} {l cap : Nat} {yv : Value} {old new : Array Value} (hl : ∀ w, (Builtin.lenOf yv).run P w = .ok els.length w) (hn : ¬ l + els.length ≤ cap) (hb : 4 * (l + els.length) * (i.bytes + 1) ≤ 2 ^ 47)
    (hold : (Builtin.firstCells i.size l (.slice a l cap)).run P w.drew = .ok old w.drew) (hnew : (Builtin.firstCells i.size els.length yv).run P w.drew = .ok new w.drew) (ts : Array TypeId) (hts0 : ts[0]? = some t0) (hts1 : ts[1]? = some t1) (t : TypeId) :
    ∃ newCap, l + els.length ≤ newCap ∧ (Builtin.append_ ts t #[.slice a l cap, yv]).run P w = .ok (.slice (some ⟨w.heap.size, 0, none⟩) (l + els.length) newCap) (w.drew.alloc (.cells (old ++ new ++ Builtin.zeroCells zv.cells (newCap - (l + els.length))) e)) := by
  have hcap := nextcap_le (l + els.length) cap (by omega)
  have e1 : 4 * (l + els.length) * (i.bytes + 1) = 4 * (l + els.length) * i.bytes + 4 * (l + els.length) := by rw [Nat.mul_add, Nat.mul_one]
  have p1 : (2 : Nat) ^ 48 = 281474976710656 := by rfl
  have p2 : (2 : Nat) ^ 47 = 140737488355328 := by rfl
  have hbig : ¬ Builtin.nextslicecap (l + els.length) cap * i.bytes > 2 ^ 48 := by
    have := Nat.mul_le_mul_right i.bytes hcap
    omega
  have hmax : ¬ ((l + els.length : Nat) : Int) > IntKind.i64.max := by
    have h2 : (IntKind.i64.max : Int) = 9223372036854775807 := by decide
    rw [h2]; omega
  refine ⟨(Question.appendCap (l + els.length) cap e).cut (w.tape w.drawn (.appendCap (l + els.length) cap e)), cut_appendCap _ _ _ _, ?_⟩
  have hsz : ∀ w, (sizeOf e).run P w = .ok i.size w := fun w => tSize_run (by simp [tSize, hi]) w
  have hmax' : ¬ ((9223372036854775807 : Int) < (l : Int) + (els.length : Int)) := by
    have h2 : (IntKind.i64.max : Int) = 9223372036854775807 := by decide
    rw [h2] at hmax; omega
  have hbig' : ¬ (2 ^ 48 < Builtin.nextslicecap (l + els.length) cap * i.bytes) := hbig
  cases d1 with
  | slice e1 => simp [Builtin.append_, hts0, hts1, tDesc_run ht0, hsz, tDesc_run hd1, hl, hn, hmax', hbig', tInfo_run hi, Question.forced, hold, hnew, hz, newRow]
  | string => simp [Builtin.append_, hts0, hts1, tDesc_run ht0, hsz, tDesc_run hd1, hl, hn, hmax', hbig', tInfo_run hi, Question.forced, hold, hnew, hz, newRow]
  | _ => cases hi1

theorem Rel.drew' (h : Rel G W0 s w) : Rel G W0 s w.drew := h.drew _

theorem aGrow_sound (h : Rel G W0 s w) {t0 t1 e : TypeId} {d1 : TypeDesc} {i : TypeInfo} {z : AVal} (ht0 : P.underlying t0 = some (.slice e)) (hd1 : P.underlying t1 = some d1) (hi1 : isRowDesc d1 = true) (hi : P.info? e = some i) (hz : tZero P e = some z) (hzl : z.cells.length = i.size) (hz0 : i.size ≠ 0)
    (ts : Array TypeId) (hts0 : ts[0]? = some t0) (hts1 : ts[1]? = some t1) (t : TypeId) {x y : AVal} {xv yv : Value} (hx : VRel G x xv) (hy : VRel G y yv) {els : List (List AVal)} (he : aElemsOf i.size y = some els) {r : AVal} {s' : St} (hg : aGrow i.bytes i.size s x els = some (r, s')) :
    ∃ G' w' v, G.le G' ∧ (Builtin.append_ ts t #[xv, yv]).run P w = .ok v w' ∧ Rel G' W0 s' w' ∧ VRel G' r v := by
  obtain ⟨us, heu, hfu, hlu⟩ := ofElems (P := P) h hy he
  obtain ⟨zv, hzr, hzrun⟩ := tZero_run hz G
  have hzc := hzr.cellsRel (tZero_notTuple hz)
  have hzs : zv.cells.size = i.size := by rw [hzc.size, hzl]
  have hsz : ∀ w, (sizeOf e).run P w = .ok i.size w := fun w => tSize_run (by simp [tSize, hi]) w
  have stay : ∀ (a : Option Addr) (l c : Nat), l ≤ c → els = [] → (Builtin.append_ ts t #[.slice a l c, yv]).run P w = .ok (.slice a l c) w := fun a l c hlc hnil => by
    subst hnil
    have hu0 : us = [] := List.eq_nil_of_length_eq_zero (by have := heu.len; simpa using this)
    subst hu0
    have hf0 := hfu w h
    simp only [List.length_nil] at hf0
    have hl0 : ∀ w, (Builtin.lenOf yv).run P w = .ok 0 w := fun w => by simpa using hlu w
    cases a with
    | none =>
      cases d1 with
      | slice e1 => simp [Builtin.append_, hts0, hts1, tDesc_run ht0, hsz, tDesc_run hd1, hl0, hlc, hf0]
      | string => simp [Builtin.append_, hts0, hts1, tDesc_run ht0, hsz, tDesc_run hd1, hl0, hlc, hf0]
      | _ => cases hi1
    | some a =>
      cases d1 with
      | slice e1 => simp [Builtin.append_, hts0, hts1, tDesc_run ht0, hsz, tDesc_run hd1, hl0, hlc, hf0, storeCells]
      | string => simp [Builtin.append_, hts0, hts1, tDesc_run ht0, hsz, tDesc_run hd1, hl0, hlc, hf0, storeCells]
      | _ => cases hi1
  unfold aGrow at hg
  split at hg
  · -- onto nothing
    cases hx
    split at hg
    · cases hg
      exact ⟨G, w, _, Ghost.le_refl G, stay none 0 0 (Nat.le_refl _) rfl, h, .nils⟩
    · rename_i e0 es
      split at hg
      · rename_i hb
        cases hg
        obtain ⟨newCap, hcap, hrun⟩ := append_grows (P := P) (w := w) (els := e0 :: es) ht0 hd1 hi1 hi hzrun (a := none) (l := 0) (cap := 0) (old := #[]) hlu (by simp) (by simpa using hb)
          (by simp [Builtin.firstCells]) (hfu _ h.drew') ts hts0 hts1 t
        rw [Nat.zero_add] at hcap hrun
        obtain ⟨G', l', r', v'⟩ := h.drew'.regrow heu e (Builtin.zeroCells zv.cells (newCap - (e0 :: es).length)) newCap hcap (by rw [zeroCells_size, hzs]) (Trie.ofList (e0 :: es)) 0 (fun j hj => by rw [Nat.zero_add, Trie.get_ofList])
        simp only [Array.empty_append] at hrun
        exact ⟨G', _, _, l', hrun, r', v'⟩
      · cases hg
  · -- onto a row
    rename_i sz arr off len tok
    split at hg
    · cases hg
    · rename_i hne
      have hne' : sz = i.size := by simpa using hne
      subst hne'
      obtain ⟨b, o, cap, cv, rfl, hc, hel, hi', hr', ht⟩ := hx.vec_inv
      split at hg
      · cases hg
        exact ⟨G, w, _, Ghost.le_refl G, stay _ len cap hc rfl, h, hx⟩
      · rename_i e0 es
        split at hg
        · rename_i hb
          -- the elements that are there
          have hold : ∃ olds, elems arr off len = some olds := by
            have : ∀ n i, (∀ j, j < n → ∃ cells, arr.get (i + j) = some cells ∧ cells.length = i) ∨ True → True := fun _ _ _ => trivial
            have go : ∀ n k, (∀ j, j < n → ∃ cells, arr.get (k + j) = some cells) → ∃ olds, elems arr k n = some olds := by
              intro n
              induction n with
              | zero => intro k _; exact ⟨[], rfl⟩
              | succ n ih =>
                intro k hk
                obtain ⟨c, hc⟩ := hk 0 (by omega)
                rw [Nat.add_zero] at hc
                obtain ⟨os, hos⟩ := ih (k + 1) (fun j hj => by obtain ⟨c, hc⟩ := hk (j + 1) (by omega); exact ⟨c, by rw [← hc]; congr 1; omega⟩)
                exact ⟨c :: os, by simp [elems, hc, hos]⟩
            exact go len off (fun j hj => let ⟨c, h1, _⟩ := hel j hj; ⟨c, h1⟩)
          obtain ⟨olds, holds⟩ := hold
          obtain ⟨vs, hev, hlo, hfv, _⟩ := vec_elems (P := P) h hx holds
          obtain ⟨_, hgold⟩ := elems_spec len off olds holds
          have hall := hev.append heu
          have hget : ∀ j, j < (olds ++ e0 :: es).length → (arr.putAll (off + len) (e0 :: es)).get (off + j) = (olds ++ e0 :: es)[j]? := fun j hj => by
            rw [Trie.get_putAll, List.getElem?_append]
            simp only [List.length_append] at hj
            by_cases h1 : j < olds.length
            · rw [if_neg (by omega), if_pos h1, hgold j (by omega)]
            · rw [if_pos (by omega), if_neg h1]; congr 1; omega
          have htot : (olds ++ e0 :: es).length = len + (e0 :: es).length := by simp [hlo]
          -- no room
          have big : ∀ s0, Rel G W0 s0 w → ¬ len + (e0 :: es).length ≤ cap → ∃ G' w' v, G.le G' ∧ (Builtin.append_ ts t #[.slice (some ⟨b, o, none⟩) len cap, yv]).run P w = .ok v w' ∧ Rel G' W0 (s0.alloc .tok).2 w' ∧ VRel G' (.vec i.size (arr.putAll (off + len) (e0 :: es)) off (len + (e0 :: es).length) (.live s0.next)) v := fun s0 h0 hn => by
            obtain ⟨newCap, hcap, hrun⟩ := append_grows (P := P) (w := w) (els := e0 :: es) ht0 hd1 hi1 hi hzrun (a := some ⟨b, o, none⟩) (l := len) (cap := cap) (old := vs.toArray) hlu hn hb (hfv _ h.drew') (hfu _ h.drew') ts hts0 hts1 t
            obtain ⟨G', l', r', v'⟩ := h0.drew'.regrow hall e (Builtin.zeroCells zv.cells (newCap - (len + (e0 :: es).length))) newCap (by rw [htot]; exact hcap) (by rw [zeroCells_size, hzs, htot]) (arr.putAll (off + len) (e0 :: es)) off hget
            rw [htot] at v'
            exact ⟨G', _, _, l', hrun, by simpa using r', v'⟩
          cases tok with
          | dead => cases hg
          | full =>
            cases hg
            exact big s h (by have := ht.1; simp; omega)
          | live t0' =>
            simp only at hg
            split at hg
            · rename_i htok
              cases hg
              by_cases hn : len + (e0 :: es).length ≤ cap
              · -- there is room
                have hlt : len < cap := by simp at hn; omega
                have htk := ht.2 hlt
                have hsub : o + len * i.size + us.length ≤ o + cap * i.size := by
                  rw [heu.len, Nat.add_assoc, ← Nat.add_mul]
                  exact Nat.add_le_add_left (Nat.mul_le_mul_right _ hn) _
                have hlt2 : o + len * i.size < o + cap * i.size := Nat.add_lt_add_left (Nat.mul_lt_mul_of_pos_right hlt (Nat.pos_of_ne_zero hz0)) _
                obtain ⟨q1, q2, q3, q4⟩ := h.tok t0' b _ _ htok htk hlt2
                obtain ⟨c, ce, cf, hcb, hcs⟩ := q2
                obtain ⟨r1, l1, c1, n1⟩ := h.growIn htok htk us hsub hlt2 heu.one
                have hend : o + len * i.size + us.length = o + (len + (e0 :: es).length) * i.size := by rw [heu.len, Nat.add_assoc, ← Nat.add_mul]
                obtain ⟨r2, l2⟩ := r1.layTok (b := b) (lo := o + (len + (e0 :: es).length) * i.size) (hi := o + cap * i.size) q1 (fun _ => c1) (fun off' ho => by
                  simp only [Ghost.addImm]
                  rw [if_neg (by rw [hend]; omega)]
                  exact q3 off' (by rw [← hend] at ho; omega)) q4 n1 (by
                  cases hp : W0.priv b with
                  | none => rfl
                  | some cp => exact absurd hlt2 ((h.priv b cp hp).tok t0' _ _ htok htk))
                have lall := Ghost.le_trans l1 l2
                refine ⟨_, _, _, lall, ?_, r2, .vec i.size _ off (len + (e0 :: es).length) (.live s.next) b o cap (fun j c => if j < len then cv j c else us.getD ((j - len) * i.size + c) undef) hn (fun j hj => ?_) (fun j c hj hc => ?_) (fun j c cells x hj hgc hcx => ?_) ⟨q1, fun _ => by simp [Ghost.setTok, St.put_eq]⟩⟩
                · have hst := run_storeCells_cells (P := P) b (o + len * i.size) us 0 w (fun j hj => by
                    simp [World.cell?, hcb, show o + len * i.size + j < c.size by omega]) (fun j hj => h.notFrozen hcb q1 (by omega)) heu.one
                  simp only [Nat.add_zero] at hst
                  have hn' : len + (es.length + 1) ≤ cap := by simpa using hn
                  have hfu' := hfu w h
                  simp only [List.length_cons] at hfu'
                  cases d1 with
                  | slice e1 => simp [Builtin.append_, hts0, hts1, tDesc_run ht0, hsz, tDesc_run hd1, hlu, hn', hfu', addr_add, hst]
                  | string => simp [Builtin.append_, hts0, hts1, tDesc_run ht0, hsz, tDesc_run hd1, hlu, hn', hfu', addr_add, hst]
                  | _ => cases hi1
                · have := hget j (by rw [htot]; exact hj)
                  rw [List.getElem?_eq_getElem (by rw [htot]; exact hj)] at this
                  exact ⟨_, this, hall.size j _ (List.getElem?_eq_getElem (by rw [htot]; exact hj))⟩
                · split
                  · rename_i hjl
                    exact lall.imm _ _ _ (hi' j c hjl hc)
                  · rename_i hjl
                    have hidx : (j - len) * i.size + c < us.length := by rw [heu.len]; exact index_lt (by omega) hc
                    have hpos : o + j * i.size + c = o + len * i.size + ((j - len) * i.size + c) := by
                      have : j * i.size = len * i.size + (j - len) * i.size := by rw [← Nat.add_mul]; congr 1; omega
                      omega
                    apply l2.imm
                    have hp1 : o + len * i.size ≤ o + j * i.size + c := by omega
                    have hp2 : o + j * i.size + c < o + len * i.size + us.length := by omega
                    have hp3 : o + j * i.size + c - (o + len * i.size) = (j - len) * i.size + c := by omega
                    simp only [Ghost.addImm]
                    rw [if_pos ⟨trivial, hp1, hp2⟩, hp3]
                · have hgj := hget j (by rw [htot]; exact hj)
                  rw [hgc] at hgj
                  rw [List.getElem?_append] at hgj
                  split
                  · rename_i hjl
                    rw [if_pos (by omega)] at hgj
                    rw [hgold j hjl] at hgj
                    exact (hr' j c cells x hjl hgj.symm hcx).mono lall
                  · rename_i hjl
                    rw [if_neg (by omega), hlo] at hgj
                    obtain ⟨v, hv, hvr⟩ := heu.rel (j - len) c cells x hgj.symm hcx
                    simp only [List.getD, hv, Option.getD_some]
                    exact hvr.mono lall
              · exact big _ (h.forget t0') hn
            · cases hg
        · cases hg
  · cases hg

end Go.Ev

/- What is left of the operations, and each operation as the model carries it out. -/
namespace Go.Ev
open Go.RowKit

variable {G : Ghost} {W0 : Old} {s : St} {w : World} {P : Program}

theorem aLen_sound (h : Rel G W0 s w) {t : TypeId} {x : AVal} {n : Nat} (he : aLen P t s x = some n) {v : Value} (hx : VRel G x v) (ts : Array TypeId) (ht : ts[0]? = some t) (ty : TypeId) : (Builtin.len_ ts ty #[v]).run P w = .ok (.int .i64 n) w := by
  unfold aLen at he
  split at he
  · split at he
    · rename_i hu; cases he; obtain ⟨b, rfl, hl, _⟩ := hx.str_inv
      have hbl : b.size = n := by simpa using hl
      simp [Builtin.len_, ht, tDesc_run hu, hbl, goInt]
    · cases he
  · split at he
    · rename_i hu; cases he; cases hx; simp [Builtin.len_, ht, tDesc_run hu, goInt]
    · cases he
  · split at he
    · rename_i hu; cases he; obtain ⟨b, o, cap, cv, rfl, _⟩ := hx.vec_inv; simp [Builtin.len_, ht, tDesc_run hu, goInt]
    · cases he
  · split at he
    · rename_i hu; cases he; cases hx; simp [Builtin.len_, ht, tDesc_run hu, goInt]
    · cases he
  · rename_i name
    split at he
    · rename_i k e hu
      cases hx with
      | map _ r hr =>
        cases hes : s.entries name with
        | none => simp [hes] at he
        | some ec =>
          obtain ⟨es, clock⟩ := ec
          simp [hes] at he; subst he
          obtain ⟨cs, hc, hrel, _⟩ := h.map hr hes
          have hg := getObj_run (P := P) hc (by simp)
          have hlen : cs.size = es.length := by simpa using hrel.len
          simp [Builtin.len_, ht, tDesc_run hu, hg, hlen, goInt]
    · cases he
  · cases he

theorem frz_of_zero {c : Obj} (h : ∀ cs e f, c = .cells cs e f → f = (0, 0)) : ∀ cs e lo hi, c = .cells cs e (lo, hi) → lo = hi ∨ cs.size ≤ lo := fun cs e lo hi he => by
  have := h cs e (lo, hi) he; cases this; exact .inl rfl

/-- A block of bytes in which a string might share. -/
theorem Rel.freezeEnd (h : Rel G W0 s w) {b : Nat} {c : Array Value} {e : TypeId} {f : Nat × Nat} (hb : w.heap[b]? = some (.cells c e f)) (hB : G.base ≤ b) : Rel G W0 s (w.freeze ⟨b, c.size, none⟩ 1) := by
  have heap : ∀ k, (w.freeze ⟨b, c.size, none⟩ 1).heap[k]? = if k = b then some (.cells c e (if f.1 = f.2 then (c.size, c.size + 1) else (min f.1 c.size, max f.2 (c.size + 1)))) else w.heap[k]? := fun k => by
    simp only [World.freeze, Nat.one_ne_zero, if_false, Array.getElem?_modify]
    by_cases e1 : b = k
    · subst e1; rw [if_pos rfl, if_pos rfl, hb]
      obtain ⟨lo, hi⟩ := f
      simp
    · rw [if_neg e1, if_neg (fun e2 => e1 e2.symm)]
  have hsz : (w.freeze ⟨b, c.size, none⟩ 1).heap.size = w.heap.size := by simp [World.freeze]
  have cells : ∀ (k : Nat) (x : Array Value) (y : TypeId) (z : Nat × Nat), w.heap[k]? = some (.cells x y z) → ∃ z', (w.freeze ⟨b, c.size, none⟩ 1).heap[k]? = some (.cells x y z') := fun k x y z hk => by
    rw [heap]
    split
    · rename_i e1; subst e1; rw [hb] at hk; cases hk; exact ⟨_, rfl⟩
    · exact ⟨z, hk⟩
  refine ⟨fun n b' o hn ho => ?_, fun n b' hn => by rw [hsz]; exact h.lt n b' hn, h.inj, fun b' off v hv => ?_, h.apart, fun t b' lo hi ht hg hl => ?_, h.tok2, h.fresh, fun b' cs e' lo hi hB' hc' => ?_, by rw [hsz]; exact h.base, ?_, h.glob, h.opq, h.opqInj, h.res,
    fun b' cs hp => (h.priv b' cs hp).of rfl (fun x y he => let ⟨z, hz⟩ := cells b' _ _ _ he; ⟨x, z, hz⟩) (fun _ hn => hn) (fun _ => rfl) (fun t lo hi ht hg hl => ⟨ht, hg⟩)⟩
  · obtain ⟨co, hco, hr⟩ := h.obj n b' o hn ho
    cases co with
    | cells x y z =>
      obtain ⟨z', hz'⟩ := cells b' x y z hco
      refine ⟨_, hz', ?_⟩
      cases o <;> first | exact hr | exact hr.elim
    | _ =>
      refine ⟨_, ?_, hr⟩
      rw [heap, if_neg (fun e1 => by subst e1; rw [hb] at hco; cases hco)]
      exact hco
  · obtain ⟨⟨x, y, z, hk, hv'⟩, h1⟩ := h.imm b' off v hv
    obtain ⟨z', hz'⟩ := cells b' x y z hk
    exact ⟨⟨x, y, z', hz', hv'⟩, h1⟩
  · obtain ⟨a1, ⟨x, y, z, hk, hs⟩, a3, a4⟩ := h.tok t b' lo hi ht hg hl
    obtain ⟨z', hz'⟩ := cells b' x y z hk
    exact ⟨a1, ⟨x, y, z', hz', hs⟩, a3, a4⟩
  · rw [heap] at hc'
    split at hc'
    · rename_i e1; subst e1
      have h0 := h.frz b' c e f.1 f.2 hB hb
      split at hc'
      · cases hc'; exact .inr (Nat.le_refl _)
      · rename_i hne
        cases hc'
        rcases h0 with h0 | h0
        · exact absurd h0 hne
        · exact .inr (by rw [Nat.min_eq_right h0]; exact Nat.le_refl _)
    · exact h.frz b' cs e' lo hi hB' hc'
  · refine h.below.trans ⟨rfl, rfl, rfl, by rw [hsz]; exact Nat.le_refl _, fun k hk => ?_⟩
    rw [heap, if_neg (by omega)]

theorem bytesOf_sound {arr : Trie (List AVal)} : ∀ (n i acc m : Nat), bytesOf arr i n acc = some m → ∃ l : List UInt8, l.length = n ∧ m = encB l acc ∧ ∀ j, j < n → ∃ hj : j < l.length, arr.get (i + j) = some [.int .u8 (l[j].toNat : Nat)]
  | 0, i, acc, m, h => by simp only [bytesOf] at h; cases h; exact ⟨[], rfl, rfl, fun j hj => by omega⟩
  | n + 1, i, acc, m, h => by
    simp only [bytesOf] at h
    split at h
    · rename_i c hc
      split at h
      · rename_i hr
        obtain ⟨l, h1, h2, h3⟩ := bytesOf_sound n (i + 1) _ m h
        have hb : (UInt8.ofNat c.toNat).toNat = c.toNat := by
          simp; omega
        refine ⟨UInt8.ofNat c.toNat :: l, by simp [h1], by simp only [encB, hb]; exact h2, fun j hj => ?_⟩
        cases j with
        | zero =>
          refine ⟨by simp, ?_⟩
          rw [Nat.add_zero, hc]
          simp only [List.getElem_cons_zero, hb]
          rw [Int.toNat_of_nonneg hr.1]
        | succ j =>
          obtain ⟨hj', e⟩ := h3 j (by omega)
          refine ⟨by simp; omega, ?_⟩
          simp only [List.getElem_cons_succ]
          rw [← e]; congr 1; omega
      · cases h
    · cases h

theorem foldl_push : ∀ (l : List UInt8) (b : ByteArray), ((l.map fun c => ((c.toNat : Nat) : Int)).foldl (fun r n => r.push (UInt8.ofNat n.toNat)) b).data.toList = b.data.toList ++ l
  | [], b => by simp
  | c :: l, b => by
    simp only [List.map_cons, List.foldl_cons]
    rw [foldl_push l]
    simp

theorem markStringish_run {b : Nat} {c : Array Value} {e : TypeId} {f : Nat × Nat} (hb : w.heap[b]? = some (.cells c e f)) (o : Nat) : (markStringish ⟨b, o, none⟩).run P w = .ok () (w.freeze ⟨b, c.size, none⟩ 1) := by
  simp [markStringish, World.shape?, hb]

theorem aConvert_sound (h : Rel G W0 s w) {src dst : TypeId} {x r : AVal} {s' : St} (he : aConvert P src dst s x = some (r, s')) {v : Value} (hx : VRel G x v) :
    ∃ G' w' u, G.le G' ∧ (convert src dst v).run P w = .ok u w' ∧ Rel G' W0 s' w' ∧ VRel G' r u := by
  unfold aConvert at he
  split at he
  · rename_i d k k' n h1 h2
    cases he
    have := hx.int_inv; subst this
    exact ⟨G, w, _, Ghost.le_refl G, by simp [convert, tDesc_run h1, tDesc_run h2, Conv.intToInt], h, .int _ _⟩
  · rename_i d l n h1 h2
    cases he
    obtain ⟨b, rfl, hl, hn⟩ := hx.str_inv
    exact ⟨G, w, _, Ghost.le_refl G, by cases d <;> simp [convert, tDesc_run h1, tDesc_run h2], h, hx⟩
  · rename_i d k n h1 h2
    split at he
    · rename_i hc
      cases he
      have := hx.int_inv; subst this
      refine ⟨G, w, .string (Utf8.encode n), Ghost.le_refl G, by simp [convert, tDesc_run h1, tDesc_run h2, Conv.intToString], h, ?_⟩
      have hv : Utf8.valid n = true := by simp [Utf8.valid]; omega
      have he : Utf8.encode n = ⟨#[UInt8.ofNat n.toNat]⟩ := by
        simp [Utf8.encode, hv]; omega
      rw [he]
      refine .str _ _ _ rfl ?_
      simp [encS, encB]; omega
    · cases he
  · rename_i d e len m h1 h2
    split at he
    · rename_i hu8
      cases he
      obtain ⟨us, heu, hsl, hfu, hlu, b, rfl, hbl, husb⟩ := str_elems (P := P) hx
      have hbs : b.size = len := by simpa using hbl
      obtain ⟨q, hq⟩ : ∃ q, (Question.appendCap len 0 e).cut (w.tape w.drawn (.appendCap len 0 e)) = q := ⟨_, rfl⟩
      have hqle : len ≤ q := by rw [← hq]; exact cut_appendCap _ _ _ _
      obtain ⟨G', l', r', v'⟩ := h.drew'.regrow heu e (Array.replicate (q - len) (Value.int .u8 0)) q (by rw [hsl]; exact hqle) (by rw [hsl]; simp) (Trie.ofList (strElems m len len)) 0 (fun j hj => by rw [Nat.zero_add, Trie.get_ofList])
      rw [hsl] at v'
      have hblk : (w.drew.alloc (.cells (us.toArray ++ Array.replicate (q - len) (Value.int .u8 0)) e)).heap[w.heap.size]? = some (.cells (us.toArray ++ Array.replicate (q - len) (Value.int .u8 0)) e (0, 0)) :=
        (heap_alloc _ _ _).trans (if_pos rfl)
      have r2 := r'.freezeEnd hblk (by rw [l'.base]; exact h.base)
      refine ⟨G', _, _, l', ?_, r2, v'⟩
      have hus : (b.data.map fun c => Value.int .u8 (c.toNat : Nat)) = us.toArray := by rw [husb]; apply Array.toList_inj.1; simp
      have hms := fun o => markStringish_run (P := P) hblk o
      have hconv : (Conv.stringToBytes e b).run P w = .ok (.slice (some ⟨w.heap.size, 0, none⟩) len q) ((w.drew.alloc (.cells (us.toArray ++ Array.replicate (q - len) (Value.int .u8 0)) e)).freeze ⟨w.heap.size, (us.toArray ++ Array.replicate (q - len) (Value.int .u8 0)).size, none⟩ 1) := by
        unfold Conv.stringToBytes
        simp only [Sem.run_bind, run_choose, Question.forced, Bool.false_eq_true, if_false, Result.andThen_ok, hbs, hq, hus, newRow, run_newObj, Sem.run_pure]
        have := hms 0
        simp only [World.alloc, World.drew] at this ⊢
        rw [this]; rfl
      cases d <;> simp [convert, tDesc_run h1, tDesc_run h2, tDesc_run hu8, hconv]
    · cases he
  · rename_i d e sz arr off len tok h1 h2
    split at he
    · rename_i hu8
      split at he
      · rename_i hc
        obtain ⟨c1, c2, c4, c3⟩ := hc
        cases he
        subst c1
        obtain ⟨b, o, cap, cv, rfl, hcap, hel, hi', hr', ht⟩ := hx.vec_inv
        have hB : G.base ≤ b := by
          cases tok with
          | dead => cases c3
          | full => exact ht.2.resolve_left c2
          | live t => exact ht.1
        obtain ⟨⟨x, y, z, hxb, _⟩, _⟩ := h.imm _ _ _ (hi' 0 0 (by omega) (by omega))
        have hms := markStringish_run (P := P) hxb o
        refine ⟨G, _, _, Ghost.le_refl G, ?_, h.freezeEnd hxb hB, hx⟩
        rw [h1] at h2; cases h2
        simp [convert, tDesc_run h1, tDesc_run hu8, hms]
      · cases he
    · cases he
  · rename_i e h1 h2 _ _
    split at he
    · rename_i hu8 _ _
      cases he; cases hx
      refine ⟨G, w, _, Ghost.le_refl G, by simp [convert, tDesc_run h1, tDesc_run h2, tDesc_run hu8, Conv.bytesToString], h, .str .empty 0 0 rfl rfl⟩
    · rename_i arr off len tok hu8 _ _
      cases hb : bytesOf arr off len 0 with
      | none => simp [hb] at he
      | some m =>
        simp [hb] at he
        obtain ⟨rfl, rfl⟩ := he
        obtain ⟨l, hl, hm, hg⟩ := bytesOf_sound len off 0 m hb
        obtain ⟨b, o, cap, cv, rfl, hcap, hel, hi', hr', ht⟩ := hx.vec_inv
        have hload := run_loadCells_list (P := P) w ⟨b, o, none⟩ (l.map fun c => Value.int .u8 (c.toNat : Nat)) (fun j u hj => by
          have hjl : j < l.length := by have := (List.getElem?_eq_some_iff.1 hj).1; simpa using this
          obtain ⟨hjl', hgj⟩ := hg j (by omega)
          have h3 := hi' j 0 (by omega) (by omega)
          have h4 := (hr' j 0 _ _ (by omega) hgj rfl).int_inv
          have h5 := (h.immCell h3).1
          rw [addr_add]
          simp [hjl] at hj
          subst hj
          rw [h4] at h5
          simpa using h5)
        have := run_bytesToString (P := P) w ⟨b, o, none⟩ len cap (l.map fun c => ((c.toNat : Nat) : Int)) (by rw [← hl]; simpa [Function.comp_def] using hload)
        refine ⟨G, w, _, Ghost.le_refl G, by simp only [convert, Sem.run_bind, tDesc_run h1, tDesc_run h2, Result.andThen_ok, tDesc_run hu8]; exact this, h, ?_⟩
        refine .mk_str _ ?_ ?_
        · rw [foldl_push]; simpa using hl
        · rw [foldl_push, hm]; rfl
    · cases he
  · cases he

end Go.Ev

/- One operation of the evaluator is one operation of the model. -/
namespace Go.Ev
open Go.RowKit

variable {G : Ghost} {W0 : Old} {s : St} {w : World} {P : Program}

theorem aTypeAssert_sound {x r : AVal} {t : TypeId} {ok : Bool} (he : aTypeAssert P x t ok = some r) {v : Value} (hx : VRel G x v) (xt : TypeId) : ∃ u, VRel G r u ∧ ∀ w, (Instr.typeAssert v xt t ok).run P w = .ok u w := by
  unfold aTypeAssert at he
  split at he
  · cases he
  · rename_i d hnot hu
    have pair : ∀ {y : AVal} {z : Value} {b : Bool}, VRel G y z → VRel G (.tuple [y, .bool b]) (.tuple #[z, .bool b]) := fun hy => .tuple _ _ rfl (fun i x v hx hv => (LRel.cons hy (.cons (.bool _) (.nil G))).rel i x v hx (by simpa using hv))
    have hd : ∀ m, d ≠ .interface m := fun m e => hnot m e
    split at he
    · cases hx
      split at he
      · rename_i hok
        subst hok
        cases hz : tZero P t with
        | none => simp [hz] at he
        | some z =>
          simp [hz] at he; subst he
          obtain ⟨zv, hzr, hzrun⟩ := tZero_run hz G
          refine ⟨_, pair hzr, fun w => ?_⟩
          cases d <;> first | exact absurd rfl (hd _) | simp [Instr.typeAssert, tDesc_run hu, hzrun]
      · cases he
    · rename_i t' y
      cases hx with
      | iface _ _ u hu' =>
        split at he
        · rename_i e; subst e
          cases he
          cases ok with
          | true => exact ⟨_, pair hu', fun w => by cases d <;> first | exact absurd rfl (hd _) | simp [Instr.typeAssert, tDesc_run hu]⟩
          | false => exact ⟨_, hu', fun w => by cases d <;> first | exact absurd rfl (hd _) | simp [Instr.typeAssert, tDesc_run hu]⟩
        · rename_i hne
          split at he
          · rename_i hok
            subst hok
            cases hz : tZero P t with
            | none => simp [hz] at he
            | some z =>
              simp [hz] at he; subst he
              obtain ⟨zv, hzr, hzrun⟩ := tZero_run hz G
              refine ⟨_, pair hzr, fun w => ?_⟩
              cases d <;> first | exact absurd rfl (hd _) | simp [Instr.typeAssert, tDesc_run hu, hzrun, hne]
          · cases he
    · cases he
  · cases he

/-- What the operands of an operation are. -/
def OpsRel (G : Ghost) (fr : Fr) (a : Act) (o : Oper) : Prop := ∀ x ∈ o.op.operands.toList, ∀ v, ev fr x = some v → VRel G v (a.eval x)

theorem evL_sound {fr : Fr} {a : Act} : ∀ (xs : List Operand) (l : List AVal), (∀ x ∈ xs, ∀ v, ev fr x = some v → VRel G v (a.eval x)) → evL fr xs = some l → LRel G l (xs.map a.eval)
  | [], l, _, h => by simp only [evL] at h; cases h; exact .nil G
  | x :: xs, l, hx, h => by
    simp only [evL] at h
    cases h1 : ev fr x with
    | none => simp [h1] at h
    | some v =>
      cases h2 : evL fr xs with
      | none => simp [h1, h2] at h
      | some vs =>
        simp [h1, h2] at h; subst h
        exact .cons (hx x (by simp) v h1) (evL_sound xs vs (fun y hy => hx y (by simp [hy])) h2)

theorem evParts_sound {fr : Fr} {a : Act} : ∀ (xs : List (Nat × Operand)) (l : List (Nat × AVal)), (∀ x ∈ xs, ∀ v, ev fr x.2 = some v → VRel G v (a.eval x.2)) → evParts fr xs = some l → PRel G l (xs.map fun x => (x.1, a.eval x.2))
  | [], l, _, h => by simp only [evParts] at h; cases h; exact ⟨rfl, fun i x v h => by simp at h⟩
  | (i, x) :: xs, l, hx, h => by
    simp only [evParts] at h
    cases h1 : ev fr x with
    | none => simp [h1] at h
    | some v =>
      cases h2 : evParts fr xs with
      | none => simp [h1, h2] at h
      | some vs =>
        simp [h1, h2] at h; subst h
        have ih := evParts_sound xs vs (fun y hy => hx y (by simp [hy])) h2
        refine ⟨by simp [ih.len], fun j y u hy hu => ?_⟩
        cases j with
        | zero => simp at hy hu; subst hy; subst hu; exact ⟨rfl, hx (i, x) (by simp) v h1⟩
        | succ j => simp at hy; exact ih.rel j y u hy (by simpa using hu)

/-- What an operation comes to, in the model. -/
def OutRel (P : Program) (G : Ghost) (W0 : Old) (w : World) (sem : Sem Next) (out : Out) (s s' : St) : Prop :=
  match out with
  | .val v => ∃ G' w' nx u, G.le G' ∧ sem.run P w = .ok nx w' ∧ (nx = .value u ∨ nx = .skip ∧ u = undef) ∧ Rel G' W0 s' w' ∧ VRel G' v u
  | .call f args => s' = s ∧ ∃ us, sem.run P w = .ok (.enter f us) w ∧ LRel G args us.toList
  | .round l args => s' = s ∧ ∃ r us, G.blk l = some r ∧ sem.run P w = (Instr.yield r us).run P w ∧ LRel G args us.toList

theorem OutRel.of_value {sem : Sem Value} {v : AVal} {s' : St} {G' : Ghost} {w' : World} {u : Value} (hle : G.le G') (hr : sem.run P w = .ok u w') (hrel : Rel G' W0 s' w') (hv : VRel G' v u) : OutRel P G W0 w (do pure (.value (← sem))) (.val v) s s' :=
  ⟨G', w', .value u, u, hle, by simp [hr], .inl rfl, hrel, hv⟩
theorem OutRel.of_unit {sem : Sem Unit} {s' : St} {G' : Ghost} {w' : World} (hle : G.le G') (hr : sem.run P w = .ok () w') (hrel : Rel G' W0 s' w') : OutRel P G W0 w (do sem; pure .skip) (.val (.tuple [])) s s' :=
  ⟨G', w', .skip, undef, hle, by simp [hr], .inr ⟨rfl, rfl⟩, hrel, .tuple _ _ rfl (fun i x v hx => by simp at hx)⟩

theorem LRel.toArr {l : List AVal} {vs : Array Value} (h : LRel G l vs.toList) : vs.size = l.length ∧ ∀ (i : Nat) (x : AVal) (v : Value), l[i]? = some x → vs[i]? = some v → VRel G x v :=
  ⟨by simpa using h.len, fun i x v hx hv => h.rel i x v hx (by simpa using hv)⟩
theorem LRel.ofArr {l : List AVal} {vs : Array Value} (hl : vs.size = l.length) (h : ∀ (i : Nat) (x : AVal) (v : Value), l[i]? = some x → vs[i]? = some v → VRel G x v) : LRel G l vs.toList :=
  ⟨by simpa using hl, fun i x v hx hv => h i x v hx (by simpa using hv)⟩

theorem hasBody_run {f : FuncId} (h : hasBody P f = true) (args : Array Value) (w : World) : (callFunc f args).run P w = .ok (.enter f args) w := by
  unfold hasBody at h
  split at h
  · rename_i fn hf
    simp only [Bool.and_eq_true, bne_iff_ne, ne_eq] at h
    have h1 : fn.body.isNone = false := by cases hb : fn.body <;> simp_all
    simp [callFunc, hf, h.2]
    intro h0; rw [h0] at h1; cases h1
  · cases h

theorem aCallValue_sound {g : AVal} {gv : Value} (hg : VRel G g gv) {args : List AVal} {us : Array Value} (hl : LRel G args us.toList) {out : Out} (h : aCallValue P g args = some out) (s : St) :
    OutRel P G W0 w (do let d ← Deferred.ofValue gv us; invoke d.target d.args) out s s := by
  unfold aCallValue at h
  split at h
  · rename_i f first captured
    split at h
    · rename_i hb
      cases h
      cases hg with
      | func _ _ _ fs cs hf hc h1 h2 =>
        refine ⟨rfl, fs ++ us ++ cs, ?_, ?_⟩
        · simp [Deferred.ofValue, invoke, hasBody_run hb]
        · have a1 := LRel.ofArr hf h1
          have a2 := LRel.ofArr hc h2
          simpa using (a1.append hl).append a2
    · cases h
  · cases h
    cases hg with
    | yieldf _ r hr =>
      refine ⟨rfl, r, us, hr, ?_, hl⟩
      simp [Deferred.ofValue, invoke]
  · cases h

theorem bRel {fr : Fr} {a : Act} {x : Option Operand} {v : Option AVal} (hx : ∀ y, x = some y → ∀ v, ev fr y = some v → VRel G v (a.eval y)) (h : evO fr x = some v) : BRel v (x.map a.eval) := by
  cases x with
  | none => simp only [evO] at h; cases h; trivial
  | some y =>
    simp only [evO] at h
    cases h1 : ev fr y with
    | none => simp [h1] at h
    | some z =>
      simp [h1] at h; subst h
      intro k n e
      subst e
      exact (hx y rfl _ h1).int_inv

theorem val_some {x : Option AVal} {out : Out} {s s' : St} (h : val s x = some (out, s')) : ∃ v, x = some v ∧ out = .val v ∧ s' = s := by
  unfold val at h
  cases x with
  | none => simp at h
  | some v => simp at h; exact ⟨v, rfl, h.1.symm, h.2.symm⟩

theorem bind_some {α β : Type} {x : Option α} {f : α → Option β} {y : β} (h : x.bind f = some y) : ∃ a, x = some a ∧ f a = some y := by
  cases x with
  | none => cases h
  | some a => exact ⟨a, rfl, h⟩

theorem execOp_call (ρ : Operand → Value) (o : Oper) (c : Call) (ho : o.op = .call c) : execOp ρ o = (do let d ← resolve ρ c o.type; invoke d.target d.args) := by
  unfold execOp; rw [ho]

def okNil : Value → Bool
  | .pointer none | .nilIface | .nilFunc => false
  | .func (.method _) _ _ => false
  | _ => true
theorem nilCheck_ok {o : Oper} {x : Operand} (ho : o.op = .nilCheck x) {ρ : Operand → Value} (h : okNil (ρ x) = true) (w : World) : (execOp ρ o).run P w = .ok (.value (ρ x)) w := by
  unfold execOp
  rw [ho]
  simp only
  generalize ρ x = v at h
  cases v with
  | pointer a => cases a <;> first | rfl | (cases h)
  | func fn f c => cases fn <;> first | rfl | (cases h)
  | nilIface => cases h
  | nilFunc => cases h
  | _ => rfl

theorem LRel.two {x y : AVal} {us : Array Value} (h : LRel G [x, y] us.toList) : ∃ u v, us = #[u, v] ∧ VRel G x u ∧ VRel G y v := by
  obtain ⟨h1, h2⟩ := h.toArr
  obtain ⟨l⟩ := us
  match l, h1 with
  | [u, v], _ => exact ⟨u, v, rfl, h2 0 x u rfl rfl, h2 1 y v rfl rfl⟩
theorem LRel.one {x : AVal} {us : Array Value} (h : LRel G [x] us.toList) : ∃ u, us = #[u] ∧ VRel G x u := by
  obtain ⟨h1, h2⟩ := h.toArr
  obtain ⟨l⟩ := us
  match l, h1 with
  | [u], _ => exact ⟨u, rfl, h2 0 x u rfl rfl⟩

theorem aBuiltin_sound (h : Rel G W0 s w) {b : Builtin} {ts : Array TypeId} {args : List AVal} {us : Array Value} (hl : LRel G args us.toList) {v : AVal} {s' : St} (he : aBuiltin P b ts s args = some (v, s')) (t : TypeId) (cs : Array Bool) :
    ∃ G' w' u, G.le G' ∧ (builtin b ts t cs us).run P w = .ok (.value u) w' ∧ Rel G' W0 s' w' ∧ VRel G' v u := by
  unfold aBuiltin at he
  split at he
  · rename_i x y
    obtain ⟨u1, u2, rfl, h1, h2⟩ := hl.two
    unfold aAppend at he
    split at he
    · rename_i t0 t1 ht0 ht1
      split at he
      · rename_i e d1 hte hd1
        split at he
        · rename_i i z els hi hz hels
          split at he
          · rename_i hc
            obtain ⟨c1, c2, c3⟩ := hc
            have hu : P.underlying t0 = some (.slice e) := by
              unfold tElem at hte
              split at hte
              · cases hte; assumption
              · cases hte
            have hsz : (tSize P e).getD 0 = i.size := by simp [tSize, hi]
            rw [hsz] at hels
            obtain ⟨G', w', u, a1, a2, a3, a4⟩ := aGrow_sound h hu hd1 c1 hi hz c2 c3 ts ht0 ht1 t h1 h2 hels he
            exact ⟨G', w', u, a1, by simp [builtin, a2], a3, a4⟩
          · cases he
        · cases he
      · cases he
    · cases he
  · rename_i x
    obtain ⟨u, rfl, h1⟩ := hl.one
    obtain ⟨t0, ht0, he⟩ := bind_some he
    obtain ⟨n, hn, he⟩ := bind_some he
    cases he
    have := aLen_sound h hn h1 ts ht0 t
    exact ⟨G, w, _, Ghost.le_refl G, by simp [builtin, this], h, .int _ _⟩
  · rename_i k a k' b
    obtain ⟨u1, u2, rfl, h1, h2⟩ := hl.two
    cases he
    have := h1.int_inv; subst this
    have := h2.int_inv; subst this
    exact ⟨G, w, _, Ghost.le_refl G, by simp [builtin, Builtin.min_, Builtin.min2], h, .int _ _⟩
  · cases he

set_option maxHeartbeats 1000000 in
theorem evOp_sound (h : Rel G W0 s w) {fr : Fr} {o : Oper} {out : Out} {s' : St} (he : evOp P fr o s = some (out, s')) {a : Act} (ha : OpsRel G fr a o) : OutRel P G W0 w (execOp a.eval o) out s s' := by
  rw [evOp_eq] at he
  unfold evOpM at he
  unfold OpsRel at ha
  have hle := Ghost.le_refl G
  split at he
  case h_1 x ho => -- move
    rw [ho] at ha
    obtain ⟨v, hv, rfl, rfl⟩ := val_some he
    exact ⟨G, w, .value (a.eval x), a.eval x, hle, by simp [execOp, ho], .inl rfl, h, ha x (by simp [Op.operands]) v hv⟩
  case h_2 x ho => -- assign
    rw [ho] at ha
    obtain ⟨v, hv, rfl, rfl⟩ := val_some he
    exact ⟨G, w, .value (a.eval x), a.eval x, hle, by simp [execOp, ho], .inl rfl, h, ha x (by simp [Op.operands]) v hv⟩
  case h_3 c x y ho => -- pick
    rw [ho] at ha
    obtain ⟨b, hb, he⟩ := bind_some he
    have hcv := ha c (by simp [Op.operands]) b hb
    split at he
    · rename_i t
      have := hcv.bool_inv
      obtain ⟨v, hv, rfl, rfl⟩ := val_some he
      cases t with
      | true => exact ⟨G, w, .value (a.eval x), a.eval x, hle, by simp [execOp, ho, this, asBool], .inl rfl, h, ha x (by simp [Op.operands]) v hv⟩
      | false => exact ⟨G, w, .value (a.eval y), a.eval y, hle, by simp [execOp, ho, this, asBool], .inl rfl, h, ha y (by simp [Op.operands]) v hv⟩
    · cases he
  case h_4 e ho => -- alloc
    obtain ⟨z, hz, he⟩ := bind_some he
    split at he
    · rename_i hnt
      cases he
      obtain ⟨zv, hzr, hzrun⟩ := tZero_run hz G
      have hc := hzr.cellsRel hnt
      obtain ⟨h1, h2⟩ := h.new (.cells z.cells) (c := .cells zv.cells e) ⟨h.base, hc.size, fun i x v hx hv => ⟨(hc.rel i x v hx hv).mono (Ghost.le_setBlk (h.fresh s.next (Nat.le_refl _)).1), hc.one i v hv⟩⟩ (fun _ _ _ _ e => by cases e; exact .inl rfl)
      exact ⟨_, _, .value (.pointer (some ⟨w.heap.size, 0, none⟩)), _, h2, by simp [execOp, ho, Instr.alloc, hzrun, newVar, newRow], .inl rfl, h1, .ptr _ 0 _ (Ghost.setBlk_same _ _ _)⟩
    · cases he
  case h_5 e x ho => -- box
    rw [ho] at ha
    obtain ⟨z, hz, he⟩ := bind_some he
    split at he
    · rename_i hnt
      cases he
      have hzr := ha x (by simp [Op.operands]) z hz
      have hc := hzr.cellsRel hnt
      obtain ⟨h1, h2⟩ := h.new (.cells z.cells) (c := .cells (a.eval x).cells e) ⟨h.base, hc.size, fun i x v hx hv => ⟨(hc.rel i x v hx hv).mono (Ghost.le_setBlk (h.fresh s.next (Nat.le_refl _)).1), hc.one i v hv⟩⟩ (fun _ _ _ _ e => by cases e; exact .inl rfl)
      exact ⟨_, _, .value (.pointer (some ⟨w.heap.size, 0, none⟩)), _, h2, by simp [execOp, ho, Instr.box, newVar, newRow], .inl rfl, h1, .ptr _ 0 _ (Ghost.setBlk_same _ _ _)⟩
    · cases he
  case h_6 t ps ho => -- build
    rw [ho] at ha
    obtain ⟨l, hl, he⟩ := bind_some he
    obtain ⟨v, hv, rfl, rfl⟩ := val_some he
    have hp := evParts_sound ps.toList l (fun x hx v hv => ha x.2 (by simp [Op.operands]; exact ⟨x.1, by simpa using hx⟩) v hv) hl
    obtain ⟨u, hu, hrun⟩ := aBuild_sound hv hp
    have : ps.map (fun (i, x) => (i, a.eval x)) = (ps.toList.map fun x => (x.1, a.eval x.2)).toArray := by apply Array.toList_inj.1; simp
    have hx : execOp a.eval o = (do pure (.value (← Instr.build t (ps.map fun (i, x) => (i, a.eval x))))) := by unfold execOp; rw [ho]
    rw [hx, this]
    exact .of_value hle (hrun w) h hu
  case h_7 t n ps ho => -- buildSlice
    rw [ho] at ha
    obtain ⟨l, hl, he⟩ := bind_some he
    obtain ⟨v, hv, rfl, rfl⟩ := val_some he
    have hp := evParts_sound ps.toList l (fun x hx v hv => ha x.2 (by simp [Op.operands]; exact ⟨x.1, by simpa using hx⟩) v hv) hl
    obtain ⟨G', w', u, h1, h2, h3, h4⟩ := aBuildSlice_sound h hv hp
    have : ps.map (fun (i, x) => (i, a.eval x)) = (ps.toList.map fun x => (x.1, a.eval x.2)).toArray := by apply Array.toList_inj.1; simp
    have hx : execOp a.eval o = (do pure (.value (← Instr.buildSlice t n (ps.map fun (i, x) => (i, a.eval x))))) := by unfold execOp; rw [ho]
    rw [hx, this]
    exact .of_value h1 h2 h3 h4
  case h_8 t x ho => -- load
    rw [ho] at ha
    obtain ⟨p, hp, he⟩ := bind_some he
    obtain ⟨v, hv, rfl, rfl⟩ := val_some he
    obtain ⟨u, h1, h2⟩ := aLoad_sound h (ha x (by simp [Op.operands]) p hp) hv
    have hx : execOp a.eval o = (do pure (.value (← Instr.loadAt t (a.eval x)))) := by unfold execOp; rw [ho]
    rw [hx]
    exact .of_value hle h1 h h2
  case h_9 t x y ho => -- store
    rw [ho] at ha
    obtain ⟨p, hp, he⟩ := bind_some he
    obtain ⟨q, hq, he⟩ := bind_some he
    obtain ⟨s1, hs, he⟩ := bind_some he
    cases he
    obtain ⟨w', h1, h2⟩ := aStore_sound h (ha x (by simp [Op.operands]) p hp) (ha y (by simp [Op.operands]) q hq) hs
    have hx : execOp a.eval o = (do Instr.storeAt t (a.eval x) (a.eval y); pure .skip) := by unfold execOp; rw [ho]
    rw [hx]
    exact .of_unit hle h1 h2
  case h_10 x ho => -- nilCheck
    rw [ho] at ha
    obtain ⟨p, hp, he⟩ := bind_some he
    have hr := ha x (by simp [Op.operands]) p hp
    obtain ⟨vv, hvv⟩ : ∃ vv, a.eval x = vv := ⟨_, rfl⟩
    rw [hvv] at hr
    have done : ∀ {q : AVal}, VRel G q vv → okNil vv = true → OutRel P G W0 w (execOp a.eval o) (.val q) s s := fun hq hok =>
      ⟨G, w, .value vv, vv, hle, hvv ▸ nilCheck_ok ho (hvv.symm ▸ hok) w, .inl rfl, h, hq⟩
    split at he
    · cases he; cases hr with | ptr _ _ b hb => exact done (.ptr _ _ b hb) rfl
    · cases he; cases hr with | eptr _ _ b o cv hi hv => exact done (.eptr _ _ b o cv hi hv) rfl
    · cases he; cases hr with | func _ _ _ fs cs hf hc h1 h2 => exact done (.func _ _ _ fs cs hf hc h1 h2) rfl
    · cases he; cases hr with | yieldf _ r hb => exact done (.yieldf _ r hb) rfl
    · cases he; cases hr with | iface _ _ u hu => exact done (.iface _ _ u hu) rfl
    · cases he
  case h_11 op t x y yt ho => -- binOp
    rw [ho] at ha
    obtain ⟨p, hp, he⟩ := bind_some he
    obtain ⟨q, hq, he⟩ := bind_some he
    obtain ⟨v, hv, rfl, rfl⟩ := val_some he
    obtain ⟨u, h1, h2⟩ := aBin_sound h hv (ha x (by simp [Op.operands]) p hp) (ha y (by simp [Op.operands]) q hq)
    have hx : execOp a.eval o = (do pure (.value (← (do eqGuard op t x y (a.eval x) (a.eval y); binOp op t (a.eval x) (a.eval y) : Sem Value)))) := by unfold execOp; rw [ho]
    rw [hx]
    exact .of_value hle h2 h h1
  case h_12 op t x ho => -- unOp
    rw [ho] at ha
    obtain ⟨p, hp, he⟩ := bind_some he
    obtain ⟨v, hv, rfl, rfl⟩ := val_some he
    obtain ⟨u, h1, h2⟩ := aUn_sound (P := P) hv (ha x (by simp [Op.operands]) p hp)
    have hx : execOp a.eval o = (do pure (.value (← Op.unary op (a.eval x)))) := by unfold execOp; rw [ho]
    rw [hx]
    exact .of_value hle (h2 w) h h1
  case h_13 src dst x ho => -- convert
    rw [ho] at ha
    obtain ⟨p, hp, he⟩ := bind_some he
    obtain ⟨⟨v, s1⟩, hv, he⟩ := bind_some he
    cases he
    obtain ⟨G', w', u, h1, h2, h3, h4⟩ := aConvert_sound h hv (ha x (by simp [Op.operands]) p hp)
    have hx : execOp a.eval o = (do pure (.value (← convert src dst (a.eval x)))) := by unfold execOp; rw [ho]
    rw [hx]
    exact .of_value h1 h2 h3 h4
  case h_14 t x ho => -- makeInterface
    rw [ho] at ha
    obtain ⟨p, hp, he⟩ := bind_some he
    have hr := ha x (by simp [Op.operands]) p hp
    have hx : execOp a.eval o = (do pure (.value (← Instr.makeInterface t (a.eval x)))) := by unfold execOp; rw [ho]
    rw [hx]
    split at he
    · cases he
    · rename_i d hnot hu
      cases he
      refine .of_value hle ?_ h (.iface t p _ hr)
      have hd : ∀ m, d ≠ .interface m := fun m e => hnot m e
      cases d <;> first | exact absurd rfl (hd _) | simp [Instr.makeInterface, tDesc_run hu]
    · cases he
  case h_15 f first captured ho => -- makeFunc
    rw [ho] at ha
    obtain ⟨p, hp, he⟩ := bind_some he
    obtain ⟨q, hq, he⟩ := bind_some he
    cases he
    have l1 := evL_sound first.toList p (fun x hx v hv => ha x (by simp [Op.operands]; exact .inl (by simpa using hx)) v hv) hp
    have l2 := evL_sound captured.toList q (fun x hx v hv => ha x (by simp [Op.operands]; exact .inr (by simpa using hx)) v hv) hq
    have hx : execOp a.eval o = (do pure (.value (← Instr.makeFunc (.func f) (first.map a.eval) (captured.map a.eval)))) := by unfold execOp; rw [ho]
    rw [hx]
    have l1' : LRel G p (first.map a.eval).toList := by simpa using l1
    have l2' : LRel G q (captured.map a.eval).toList := by simpa using l2
    exact .of_value hle rfl h (.func _ _ _ _ _ l1'.toArr.1 l2'.toArr.1 l1'.toArr.2 l2'.toArr.2)
  case h_16 t ho => -- makeMap
    split at he
    · cases he
      obtain ⟨h1, h2⟩ := h.new (.map [] 0) (c := .map #[] 0) ⟨h.base, rfl, rfl, fun i x e hx => by simp at hx⟩ (fun _ _ _ _ e => by cases e)
      have hx : execOp a.eval o = (do pure (.value (← Instr.makeMap t none))) := by unfold execOp; rw [ho]; rfl
      rw [hx]
      exact .of_value h2 (by simp [Instr.makeMap]) h1 (.map _ _ (Ghost.setBlk_same _ _ _))
    · cases he
  case h_17 t x ho => -- range
    rw [ho] at ha
    obtain ⟨p, hp, he⟩ := bind_some he
    obtain ⟨⟨v, s1⟩, hv, he⟩ := bind_some he
    cases he
    obtain ⟨G', w', u, h1, h2, h3, h4⟩ := aRange_sound h hv (ha x (by simp [Op.operands]) p hp)
    have hx : execOp a.eval o = (do pure (.value (← Instr.range t (a.eval x)))) := by unfold execOp; rw [ho]
    rw [hx]
    exact .of_value h1 h2 h3 h4
  case h_18 it str ho => -- next
    rw [ho] at ha
    obtain ⟨p, hp, he⟩ := bind_some he
    obtain ⟨⟨v, s1⟩, hv, he⟩ := bind_some he
    cases he
    obtain ⟨w', u, h2, h3, h4⟩ := aNext_sound h hv (ha it (by simp [Op.operands]) p hp) o.type
    have hx : execOp a.eval o = (do pure (.value (← Instr.next (a.eval it) str o.type))) := by unfold execOp; rw [ho]
    rw [hx]
    exact .of_value hle h2 h3 h4
  case h_19 it ho => -- entry
    rw [ho] at ha
    obtain ⟨p, hp, he⟩ := bind_some he
    obtain ⟨v, hv, rfl, rfl⟩ := val_some he
    obtain ⟨u, h2, h4⟩ := aEntry_sound h hv (ha it (by simp [Op.operands]) p hp)
    have hx : execOp a.eval o = (do pure (.value (← Instr.entry (a.eval it)))) := by unfold execOp; rw [ho]
    rw [hx]
    exact .of_value hle h2 h h4
  case h_20 t x lo hi mx ho => -- slice
    rw [ho] at ha
    obtain ⟨p, hp, he⟩ := bind_some he
    obtain ⟨l, hl, he⟩ := bind_some he
    obtain ⟨q, hq, he⟩ := bind_some he
    obtain ⟨m, hm, he⟩ := bind_some he
    obtain ⟨v, hv, rfl, rfl⟩ := val_some he
    obtain ⟨u, h1, h2⟩ := aSlice_sound (P := P) hv (ha x (by simp [Op.operands]) p hp) (bRel (a := a) (fun y e => ha y (by subst e; simp [Op.operands])) hl) (bRel (a := a) (fun y e => ha y (by subst e; simp [Op.operands])) hq) (bRel (a := a) (fun y e => ha y (by subst e; simp [Op.operands])) hm)
    have hx : execOp a.eval o = (do pure (.value (← Instr.sliceAt t (a.eval x) (lo.map a.eval) (hi.map a.eval) (mx.map a.eval)))) := by unfold execOp; rw [ho]
    rw [hx]
    exact .of_value hle (h2 w) h h1
  case h_21 t x f ho => -- fieldAddr
    rw [ho] at ha
    obtain ⟨p, hp, he⟩ := bind_some he
    obtain ⟨v, hv, rfl, rfl⟩ := val_some he
    obtain ⟨u, h1, h2⟩ := aFieldAddr_sound (P := P) hv (ha x (by simp [Op.operands]) p hp)
    have hx : execOp a.eval o = (do pure (.value (← Instr.fieldAt t (a.eval x) f))) := by unfold execOp; rw [ho]
    rw [hx]
    exact .of_value hle (h2 w) h h1
  case h_22 t x f ho => -- field
    rw [ho] at ha
    obtain ⟨p, hp, he⟩ := bind_some he
    obtain ⟨v, hv, rfl, rfl⟩ := val_some he
    obtain ⟨u, h1, h2⟩ := aField_sound (P := P) hv (ha x (by simp [Op.operands]) p hp)
    have hx : execOp a.eval o = (do pure (.value (← Instr.field t (a.eval x) f))) := by unfold execOp; rw [ho]
    rw [hx]
    exact .of_value hle (h2 w) h h1
  case h_23 t x i ho => -- indexAddr
    rw [ho] at ha
    obtain ⟨p, hp, he⟩ := bind_some he
    obtain ⟨q, hq, he⟩ := bind_some he
    obtain ⟨v, hv, rfl, rfl⟩ := val_some he
    obtain ⟨u, h1, h2⟩ := aIndexAddr_sound (P := P) hv (ha x (by simp [Op.operands]) p hp) (ha i (by simp [Op.operands]) q hq)
    have hx : execOp a.eval o = (do pure (.value (← Instr.indexAt t (a.eval x) (a.eval i)))) := by unfold execOp; rw [ho]
    rw [hx]
    exact .of_value hle (h2 w) h h1
  case h_24 t x i ho => -- index
    rw [ho] at ha
    obtain ⟨p, hp, he⟩ := bind_some he
    obtain ⟨q, hq, he⟩ := bind_some he
    obtain ⟨v, hv, rfl, rfl⟩ := val_some he
    obtain ⟨u, h1, h2⟩ := aIndex_sound (P := P) hv (ha x (by simp [Op.operands]) p hp) (ha i (by simp [Op.operands]) q hq)
    have hx : execOp a.eval o = (do pure (.value (← Instr.index t (a.eval x) (a.eval i)))) := by unfold execOp; rw [ho]
    rw [hx]
    exact .of_value hle (h2 w) h h1
  case h_25 t m k ok ho => -- lookup
    rw [ho] at ha
    obtain ⟨p, hp, he⟩ := bind_some he
    obtain ⟨q, hq, he⟩ := bind_some he
    obtain ⟨v, hv, rfl, rfl⟩ := val_some he
    obtain ⟨u, h1, h2⟩ := aLookup_sound h hv (ha m (by simp [Op.operands]) p hp) (ha k (by simp [Op.operands]) q hq)
    have hx : execOp a.eval o = (do pure (.value (← Instr.lookup t (a.eval m) (a.eval k) ok))) := by unfold execOp; rw [ho]
    rw [hx]
    exact .of_value hle h2 h h1
  case h_26 t m k x ho => -- mapUpdate
    rw [ho] at ha
    obtain ⟨p, hp, he⟩ := bind_some he
    obtain ⟨q, hq, he⟩ := bind_some he
    obtain ⟨v, hv, he⟩ := bind_some he
    obtain ⟨s1, hs, he⟩ := bind_some he
    cases he
    obtain ⟨w', h1, h2⟩ := aMapPut_sound h hs (ha m (by simp [Op.operands]) p hp) (ha k (by simp [Op.operands]) q hq) (ha x (by simp [Op.operands]) v hv)
    have hx : execOp a.eval o = (do Instr.mapUpdate t (a.eval m) (a.eval k) (a.eval x); pure .skip) := by unfold execOp; rw [ho]
    rw [hx]
    exact .of_unit hle h1 h2
  case h_27 t m k x ho => -- insert
    rw [ho] at ha
    obtain ⟨p, hp, he⟩ := bind_some he
    obtain ⟨q, hq, he⟩ := bind_some he
    obtain ⟨v, hv, he⟩ := bind_some he
    obtain ⟨s1, hs, he⟩ := bind_some he
    cases he
    obtain ⟨w', h1, h2⟩ := aMapPut_sound h hs (ha m (by simp [Op.operands]) p hp) (ha k (by simp [Op.operands]) q hq) (ha x (by simp [Op.operands]) v hv)
    have hx : execOp a.eval o = (do Instr.mapUpdate t (a.eval m) (a.eval k) (a.eval x); pure .skip) := by unfold execOp; rw [ho]
    rw [hx]
    exact .of_unit hle h1 h2
  case h_28 x xt t ok ho => -- typeAssert
    rw [ho] at ha
    obtain ⟨p, hp, he⟩ := bind_some he
    obtain ⟨v, hv, rfl, rfl⟩ := val_some he
    obtain ⟨u, h1, h2⟩ := aTypeAssert_sound (P := P) hv (ha x (by simp [Op.operands]) p hp) xt
    have hx : execOp a.eval o = (do pure (.value (← Instr.typeAssert (a.eval x) xt t ok))) := by unfold execOp; rw [ho]
    rw [hx]
    exact .of_value hle (h2 w) h h1
  case h_29 x i ho => -- extract
    rw [ho] at ha
    obtain ⟨p, hp, he⟩ := bind_some he
    have hr := ha x (by simp [Op.operands]) p hp
    have hx : execOp a.eval o = (do pure (.value (← Instr.extract (a.eval x) i))) := by unfold execOp; rw [ho]
    rw [hx]
    split at he
    · rename_i vs
      obtain ⟨v, hv, rfl, rfl⟩ := val_some he
      generalize a.eval x = vv at hr
      cases hr with
      | tuple _ cs hl hrel =>
        have hlt : i < cs.size := by have := (List.getElem?_eq_some_iff.1 hv).1; omega
        exact .of_value hle (by simp [Instr.extract, hlt]) h (hrel i v _ hv (Array.getElem?_eq_getElem hlt))
    · cases he
  case h_30 f args ts ho => -- call of a value
    have hx := execOp_call a.eval o _ ho
    rw [ho] at ha
    obtain ⟨g, hg, he⟩ := bind_some he
    obtain ⟨l, hl, he⟩ := bind_some he
    obtain ⟨out', hout, he⟩ := bind_some he
    cases he
    have hgr := ha f (by simp [Op.operands, Call.operands]) g hg
    have hlr : LRel G l (args.map a.eval).toList := by
      have := evL_sound (a := a) args.toList l (fun x hx v hv => ha x (by simp [Op.operands, Call.operands]; exact .inr (by simpa using hx)) v hv) hl
      simpa using this
    rw [hx]
    exact aCallValue_sound hgr hlr hout s
  case h_31 b args ts ho => -- call of a builtin
    have hx := execOp_call a.eval o _ ho
    rw [ho] at ha
    obtain ⟨l, hl, he⟩ := bind_some he
    obtain ⟨⟨v, s1⟩, hb, he⟩ := bind_some he
    cases he
    have hlr : LRel G l (args.map a.eval).toList := by
      have := evL_sound (a := a) args.toList l (fun x hx v hv => ha x (by simp [Op.operands, Call.operands]; simpa using hx) v hv) hl
      simpa using this
    rw [hx]
    obtain ⟨G', w', u, a1, a2, a3, a4⟩ := aBuiltin_sound h hlr hb o.type (args.map fun | .const _ => true | _ => false)
    exact ⟨G', w', .value u, u, a1, a2, .inl rfl, a3, a4⟩
  case h_32 => cases he

end Go.Ev
