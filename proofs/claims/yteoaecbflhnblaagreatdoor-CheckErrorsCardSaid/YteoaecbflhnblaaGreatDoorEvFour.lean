/- The evaluator is sound: code, ranges over functions, calls, regions whose order is open; a call from a start. -/
import Derived.Test.YteoaecbflhnblaaGreatDoorEvThree
import Derived.LoopNIn
import Derived.RangeFuncLeaves
import Derived.OrdersIn
import Derived.RangeFuncNested
import Derived.LaidLaws
set_option linter.unusedVariables false
set_option linter.unusedSimpArgs false
/- Control: where the evaluator answers, the model's code leads there. (Regions whose order is open: the next text.) -/
namespace Go.Ev
open Go.RowKit

variable {G : Ghost} {W0 : Old} {s : St} {w : World} {P : Program}

theorem Ghost.le.le_trans {A B C : Ghost} (h : A.le B) (k : B.le C) : A.le C := Ghost.le_trans h k

/-- All that the machine may do; in a round, or not. -/
def FF (ro : Option Nat) : Fence := { Fence.wide with round := ro }
theorem FF_fn (ro : Option Nat) (f : FuncId) : (FF ro).fn f := trivial
theorem FF_room (ro : Option Nat) (n : Nat) : (FF ro).room n := fun _ h => by simp [FF, Fence.wide] at h
theorem FF_depth (ro : Option Nat) {p : Prop} : (FF ro).depth.isSome = true → p := fun h => by simp [FF, Fence.wide] at h

/-- The marks that a function's ranges over functions leave. -/
def DRel (G : Ghost) : List Nat → List Deferred → Prop
  | [], [] => True
  | n :: ns, d :: ds => (∃ r, d = { target := .collected r, args := #[] } ∧ G.blk n = some r) ∧ DRel G ns ds
  | _, _ => False
theorem DRel.mono {G' : Ghost} (hg : G.le G') : ∀ {ns : List Nat} {ds : List Deferred}, DRel G ns ds → DRel G' ns ds
  | [], [], _ => trivial
  | _ :: _, _ :: _, ⟨⟨r, h1, h2⟩, h3⟩ => ⟨⟨r, h1, hg.blk _ _ h2⟩, h3.mono hg⟩
  | [], _ :: _, h => h.elim
  | _ :: _, [], h => h.elim

def RoRel (G : Ghost) : Option Nat → Option Nat → Prop
  | none, none => True
  | some l, some r => G.blk l = some r
  | _, _ => False
theorem RoRel.mono {G' : Ghost} (hg : G.le G') {a b : Option Nat} (h : RoRel G a b) : RoRel G' a b := by
  cases a <;> cases b <;> first | trivial | exact h.elim | exact hg.blk _ _ h

structure ARel (G : Ghost) (ro : Option Nat) (fr : Fr) (a : Act) : Prop where
  frame : FRel G fr a.tmps
  defers : DRel G fr.defers a.defers
  round : RoRel G fr.round ro
theorem ARel.mono {G' : Ghost} (hg : G.le G') {ro : Option Nat} {fr : Fr} {a : Act} (h : ARel G ro fr a) : ARel G' ro fr a := ⟨h.frame.mono hg, h.defers.mono hg, h.round.mono hg⟩

theorem ARel.put {ro : Option Nat} {fr fr' : Fr} {a : Act} (h : ARel G ro fr a) {dst : Option Nat} {x : AVal} {v : Value} (hp : fr.put dst x = some fr') (hv : VRel G x v) : ARel G ro fr' (a.put dst v) := by
  cases dst with
  | none => simp only [Fr.put] at hp; cases hp; exact h
  | some d =>
    rw [Fr.put_some] at hp; simp only [cond_eq_ite, Nat.blt_eq] at hp
    split at hp
    · rename_i hd
      cases hp
      exact ⟨⟨h.frame.tmps.set hd hv, h.frame.globs⟩, h.defers, h.round⟩
    · cases hp

def AExit.conc : AExit → Exit
  | .normal => .normal
  | .exit id => .exit id
  | .ret => .ret

def SoundCode (P : Program) (r : Ev) : Prop := ∀ (c : Code) (fr : Fr) (s : St) (e : AExit) (fr' : Fr) (s' : St), r.code c fr s = some (e, fr', s') → ∀ (G : Ghost) (W0 : Old) (w : World) (ro : Option Nat) (a : Act), Rel G W0 s w → G.glob = r.globs → ARel G ro fr a →
  ∀ Q : Exit → Act → World → Prop, (∀ G' a' w', G.le G' → Rel G' W0 s' w' → ARel G' ro fr' a' → Q e.conc a' w') → c.wpIn (FF ro) 0 P Q a w
def SoundLoop (P : Program) (r : Ev) (n : Nat) : Prop := ∀ (c : Code) (fr : Fr) (s : St) (e : AExit) (fr' : Fr) (s' : St), r.code (.loop c) fr s = some (e, fr', s') → ∀ (G : Ghost) (W0 : Old) (w : World) (ro : Option Nat) (a : Act), Rel G W0 s w → G.glob = r.globs → ARel G ro fr a →
  ∀ Q : Exit → Act → World → Prop, (∀ G' a' w', G.le G' → Rel G' W0 s' w' → ARel G' ro fr' a' → Q e.conc a' w') → Code.roundsIn (FF ro) 0 P c Q n a w
def SoundCall (P : Program) (r : Ev) : Prop := ∀ (f : FuncId) (args : List AVal) (s : St) (v : AVal) (s' : St), r.call f args s = some (v, s') → ∀ (G : Ghost) (W0 : Old) (w : World) (us : Array Value) (ro : Option Nat), Rel G W0 s w → G.glob = r.globs → LRel G args us.toList →
  CallsIn (FF ro) 0 P f us w fun e w' => ∃ G' u, G.le G' ∧ e = .returned u ∧ Rel G' W0 s' w' ∧ VRel G' v u

theorem yieldedA {fr : Fr} {a : Act} {ro : Option Nat} (ha : ARel G ro fr a) {ops : Array Oper} {o : Oper} {b : Bool} (h : wantedA fr ops o = some b) : Region.wanted o (yielded ops a.tmps) = b := by
  unfold wantedA at h
  unfold Region.wanted
  split at h
  · rename_i hg; cases h; rw [hg]
  · rename_i j want hg
    rw [hg]
    obtain ⟨g, hg1, h⟩ := bind_some h
    obtain ⟨d, hd, h⟩ := bind_some h
    obtain ⟨v, hv, h⟩ := bind_some h
    have hr := ha.frame.tmps.rel d v hv
    have hy : yielded ops a.tmps j = match a.tmps[d]? with | some (.bool b) => some b | _ => none := by
      simp only [yielded, hg1, Option.bind_some, hd]
      rfl
    simp only
    rw [hy]
    cases hq : a.tmps[d]? with
    | none =>
      simp [Array.getD_eq_getD_getElem?, hq, undef] at hr
      cases hr
      simp only at h; cases h; rfl
    | some u =>
      simp [Array.getD_eq_getD_getElem?, hq] at hr
      cases hr <;> simp only at h <;> cases h <;> rfl

theorem evOp_noDefer {fr : Fr} {o : Oper} {x : Out × St} (h : evOp P fr o s = some x) : ∀ c, o.op ≠ .defer c := fun c hc => by
  rw [evOp_eq] at h
  unfold evOpM at h
  rw [hc] at h
  cases h

theorem ops_ok (h : Rel G W0 s w) {ro : Option Nat} {fr : Fr} {a : Act} (ha : ARel G ro fr a) (o : Oper) : OpsRel G fr a o := fun _ _ _ hv => ev_sound h ha.frame hv

theorem about_any (ro : Option Nat) (o : Oper) (a : Act) : ∀ f, o.about P w a.eval = some f → (FF ro).fn f := fun _ _ => trivial

/-- A round of a range over a function: the loop's record is met at yield. -/
theorem Rel.loopObj (h : Rel G W0 s w) {l r : Nat} (hl : G.blk l = some r) {tmps : Trie AVal} {n : Nat} {params : List Nat} {assign body : Code} {d : Nat} {p : Option Jump} {rd : Bool} (ho : s.heap.get l = some (.loop tmps n params assign body d p rd)) :
    ∃ L, w.heap[r]? = some (.loop L) ∧ G.base ≤ r ∧ TRel G tmps n L.tmps ∧ L.params.toList = params ∧ L.assign = assign ∧ L.body = body ∧ G.blk d = some L.defers ∧ L.pending = p.map Jump.code ∧
      L.state = loopState rd p := by
  obtain ⟨c, hc, hr⟩ := h.obj l r _ hl ho
  cases c <;> try exact hr.elim
  exact ⟨_, hc, hr⟩

theorem setParams_rel {t : Trie AVal} {n : Nat} : ∀ (ps : List Nat) (vs : List AVal) (us : List Value) (t : Trie AVal) (a : Array Value), TRel G t n a → LRel G vs us → ps.all (fun p => Nat.blt p n) = true → ps.length = vs.length →
    TRel G (setParams t ps vs) n ((ps.zip us).foldl (fun t x => t.setIfInBounds x.1 x.2) a)
  | [], vs, us, t, a, h, hl, _, _ => by simpa [setParams] using h
  | p :: ps, [], us, t, a, h, hl, _, he => by simp at he
  | p :: ps, v :: vs, us, t, a, h, hl, hall, he => by
    cases us with
    | nil => have := hl.len; simp at this
    | cons u us =>
      simp only [List.all_cons, Bool.and_eq_true, Nat.blt_eq] at hall
      simp only [setParams, List.zip_cons_cons, List.foldl_cons]
      exact setParams_rel (t := t) ps vs us _ _ (h.set hall.1 (hl.rel 0 v u rfl rfl)) ⟨by have := hl.len; simpa using this, fun i x y hx hy => hl.rel (i + 1) x y hx hy⟩ hall.2 (by simpa using he)

theorem yield_run {l : Nat} {L : Loop} {us : Array Value} (h : w.heap[l]? = some (.loop L)) (hs : us.size = L.params.size) :
    (Instr.yield l us).run P w = .ok (.round l L.fn ((L.params.zip us).foldl (fun tmps (t, a) => tmps.setIfInBounds t a) L.tmps) L.assign L.body) w := by
  have hg := getObj_run (P := P) h (by simp)
  simp [Instr.yield, Instr.getLoop, hg, hs]
theorem beginRound_run {l : Nat} {L : Loop} (h : w.heap[l]? = some (.loop L)) (hs : L.state = .ready) : (Instr.beginRound l).run P w = .ok () (w.putObj l (.loop { L with state := .busy })) := by
  have hg := getObj_run (P := P) h (by simp)
  have hset := setObj_run (P := P) (.loop { L with state := .busy }) h (by simp)
  simp [Instr.beginRound, Instr.getLoop, hg, hset, hs]
theorem endRound_run {l : Nat} {L : Loop} (h : w.heap[l]? = some (.loop L)) (j : Option Code) : (Instr.endRound l j).run P w = .ok (.bool j.isNone) (w.putObj l (.loop { L with state := if j.isNone then .ready else .done, pending := j })) := by
  have hg := getObj_run (P := P) h (by simp)
  have hset := setObj_run (P := P) (.loop { L with state := if j.isNone then .ready else .done, pending := j }) h (by simp)
  simp only [Instr.endRound, Instr.getLoop, Sem.run_bind, hg, Result.andThen_ok, Sem.run_pure, hset]

theorem Rel.turnLoop (h : Rel G W0 s w) {l r : Nat} (hl : G.blk l = some r) {L L' : Loop} (hL : w.heap[r]? = some (.loop L)) (hB : G.base ≤ r) {tmps : Trie AVal} {n : Nat} {params : List Nat} {assign body : Code} {d : Nat} {p : Option Jump} {rd : Bool}
    (ho : ORel G r (.loop tmps n params assign body d p rd) (.loop L')) : Rel G W0 (s.put l (some (.loop tmps n params assign body d p rd))) (w.putObj r (.loop L')) :=
  h.turn hl hB hL (by simp) (by simp) (fun x hx => by cases hx; exact ⟨ho, by simp⟩)

theorem round_sound {r : Ev} (hc : SoundCode P r) (h : Rel G W0 s w) (hgl : G.glob = r.globs) {l rb : Nat} (hl : G.blk l = some rb) {args : List AVal} {us : Array Value} (hargs : LRel G args us.toList) {v : AVal} {s' : St} (he : runRound P r l args s = some (v, s')) (ro : Option Nat) :
    ∃ f tmps assign body, (Instr.yield rb us).run P w = .ok (.round rb f tmps assign body) w ∧
      RoundIn (FF ro) 0 P rb f tmps assign body w fun e w' => ∃ G' u, G.le G' ∧ e = .returned u ∧ Rel G' W0 s' w' ∧ VRel G' v u := by
  unfold runRound at he
  split at he
  · rename_i tmps n params assign body defers ho
    split at he
    · rename_i hcond
      obtain ⟨hlen, hall⟩ := hcond
      obtain ⟨L, hL, hB, hT, hpar, hass, hbody, hdef, hpend, hst⟩ := h.loopObj hl ho
      have hus : us.size = L.params.size := by
        have h1 : us.size = args.length := by simpa using hargs.len
        have h2 : L.params.size = params.length := by rw [← hpar]; simp
        omega
      refine ⟨_, _, _, _, yield_run hL hus, roundIn_of_wpIn (FF_fn ro _) ?_⟩
      rw [hass, hbody]
      split at he
      · rename_i fr1 s1 h1
        -- the assignment
        refine hc _ _ _ _ _ _ h1 G W0 w (some rb) _ h hgl ⟨⟨?_, ?_⟩, (show DRel G [] [] from trivial), hl⟩ _ (fun G1 a1 w1 hle1 hr1 ha1 => ?_)
        · have := setParams_rel (t := tmps) params args us.toList tmps L.tmps hT hargs hall hlen.symm
          have e1 : (L.params.zip us).foldl (fun tmps (t, a) => tmps.setIfInBounds t a) L.tmps = (params.zip us.toList).foldl (fun t x => t.setIfInBounds x.1 x.2) L.tmps := by
            rw [← Array.foldl_toList, Array.toList_zip, hpar]
          rw [e1]; exact this
        · show r.globs ≤ G.glob; omega
        · split at he
          · rename_i t1 n1 p1 a1' b1 d1 ho1
            have hl1 := hle1.blk _ _ hl
            obtain ⟨L1, hL1, hB1, hT1, hpar1, hass1, hbody1, hdef1, hpend1, hst1⟩ := hr1.loopObj hl1 ho1
            refine ⟨_, beginRound_run (P := P) hL1 hst1, ?_⟩
            split at he
            · rename_i e2 fr2 s2 h2
              have hr1' := hr1.turnLoop hl1 hL1 hB1 (tmps := t1) (n := n1) (params := p1) (assign := a1') (body := b1) (d := d1) (p := none) (rd := false) (L' := { L1 with state := .busy })
                ⟨hB1, hT1, hpar1, hass1, hbody1, hdef1, hpend1, rfl⟩
              refine hc _ _ _ _ _ _ h2 G1 W0 _ (some rb) _ hr1' (hle1.glob.trans hgl) ha1 _ (fun G2 a2 w2 hle2 hr2 ha2 => ?_)
              split at he
              · rename_i t2 n2 p2 a2' b2 d2 ho2
                have hl2 := hle2.blk _ _ hl1
                obtain ⟨L2, hL2, hB2, hT2, hpar2, hass2, hbody2, hdef2, hpend2, hst2⟩ := hr2.loopObj hl2 ho2
                have hle := hle1.le_trans hle2
                cases e2 with
                | normal =>
                  cases he
                  refine ⟨_, _, endRound_run (P := P) hL2 none, G2, _, hle, rfl, hr2.turnLoop hl2 hL2 hB2 ⟨hB2, hT2, hpar2, hass2, hbody2, hdef2, rfl, rfl⟩, .bool _⟩
                | ret =>
                  cases he
                  refine ⟨_, _, endRound_run (P := P) hL2 (some .ret), G2, _, hle, rfl, hr2.turnLoop hl2 hL2 hB2 ⟨hB2, hT2, hpar2, hass2, hbody2, hdef2, rfl, rfl⟩, .bool _⟩
                | exit id =>
                  cases he
                  refine ⟨_, _, endRound_run (P := P) hL2 (some (.exit id)), G2, _, hle, rfl, hr2.turnLoop hl2 hL2 hB2 ⟨hB2, hT2, hpar2, hass2, hbody2, hdef2, rfl, rfl⟩, .bool _⟩
              · cases he
            · cases he
          · cases he
      · cases he
    · cases he
  · cases he

end Go.Ev

/- Control: code, ranges over functions, calls. -/
namespace Go.Ev
open Go.RowKit

variable {G : Ghost} {W0 : Old} {s : St} {w : World} {P : Program}

theorem VRel.undef (G : Ghost) : VRel G (.tuple []) undef := .tuple _ _ rfl (fun i x v hx => by simp at hx)

theorem stepOp_sound {r : Ev} (hc : SoundCode P r) (hk : SoundCall P r) (h : Rel G W0 s w) (hgl : G.glob = r.globs) {ro : Option Nat} {fr : Fr} {a : Act} (ha : ARel G ro fr a)
    {ops : Array Oper} {o : Oper} {v : AVal} {s' : St} (he : stepOp P r ops o fr s = some (v, s')) {next : Act → World → Prop} {Q : Exit → Act → World → Prop}
    (hnext : ∀ G' w' u, G.le G' → Rel G' W0 s' w' → VRel G' v u → next (a.put o.dst u) w') :
    if Region.wanted o (yielded ops a.tmps) = true then o.wpIn (FF ro) 0 P a w next Q else (∀ f, o.about P w a.eval = some f → (FF ro).fn f) ∧ next (a.put o.dst undef) w := by
  rw [stepOp_eq] at he
  unfold stepOpM at he
  obtain ⟨b, hb, he⟩ := bind_some he
  rw [yieldedA ha hb]
  cases b with
  | false =>
    simp at he; obtain ⟨rfl, rfl⟩ := he
    rw [if_neg (by simp)]
    exact ⟨about_any ro o a, hnext G w undef (Ghost.le_refl G) h (.undef G)⟩
  | true =>
    rw [if_pos rfl]
    rw [if_pos rfl] at he
    obtain ⟨⟨out, s1⟩, h1, he2⟩ := bind_some he
    clear he
    refine ⟨about_any ro o a, ?_⟩
    show o.uponIn (FF ro) 0 P a next Q ((o.semAt ro a.eval).run P w)
    rw [Oper.semAt_eq _ _ _ (evOp_noDefer h1)]
    have hs := evOp_sound h h1 (ops_ok h ha o)
    cases out with
    | val x =>
      simp [runOut] at he2; obtain ⟨rfl, rfl⟩ := he2
      obtain ⟨G', w', nx, u, hle, hr, hnx, hrel, hv⟩ := hs
      rw [hr]
      rcases hnx with rfl | ⟨rfl, rfl⟩
      · exact hnext G' w' u hle hrel hv
      · exact hnext G' w' undef hle hrel hv
    | call f args =>
      obtain ⟨rfl, us, hr, hus⟩ := hs
      rw [hr]
      refine ⟨FF_depth ro, ?_⟩
      refine CallsIn.mono (hk f args _ _ _ he2 G W0 w us ro h hgl hus) ?_
      rintro e w' ⟨G', u, hle, rfl, hrel, hv⟩
      exact hnext G' w' u hle hrel hv
    | round l args =>
      obtain ⟨rfl, rb, us, hl, hr, hus⟩ := hs
      obtain ⟨f, tmps, assign, body, hy, hround⟩ := round_sound hc h hgl hl hus he2 ro
      rw [hr, hy]
      refine ⟨FF_depth ro, RoundIn.mono hround ?_⟩
      rintro e w' ⟨G', u, hle, rfl, hrel, hv⟩
      exact hnext G' w' u hle hrel hv

theorem runOps_sound {r : Ev} (hc : SoundCode P r) (hk : SoundCall P r) {ro : Option Nat} {ops : Array Oper} : ∀ (is : List Nat) {G : Ghost} {s : St} {w : World} {fr : Fr} {a : Act} (_ : Rel G W0 s w) (_ : G.glob = r.globs) (_ : ARel G ro fr a)
    {fr' : Fr} {s' : St} (_ : runOps P r ops is fr s = some (fr', s')) {Q : Exit → Act → World → Prop} (_ : ∀ G' a' w', G.le G' → Rel G' W0 s' w' → ARel G' ro fr' a' → Q .normal a' w'), wpOpsIn (FF ro) 0 P ops Q is a w
  | [], G, s, w, fr, a, h, hgl, ha, fr', s', he, Q, hq => by
    simp only [runOps] at he; cases he
    exact hq G a w (Ghost.le_refl G) h ha
  | i :: is, G, s, w, fr, a, h, hgl, ha, fr', s', he, Q, hq => by
    simp only [runOps] at he
    obtain ⟨o, ho, he⟩ := bind_some he
    obtain ⟨⟨v, s1⟩, h1, he⟩ := bind_some he
    obtain ⟨fr1, h2, he⟩ := bind_some he
    rw [wpOpsIn_cons]
    unfold wpOpIn
    rw [ho]
    refine stepOp_sound hc hk h hgl ha h1 (fun G1 w1 u hle hr hv => ?_)
    exact runOps_sound hc hk is hr (hle.glob.trans hgl) ((ha.mono hle).put h2 hv) he (fun G' a' w' hle' => hq G' a' w' (hle.le_trans hle'))

theorem runOps_from {r : Ev} {ops : Array Oper} : ∀ (n k : Nat), k + n = ops.size → ∀ (fr : Fr) (s : St), runOps P r ops (List.range' k n) fr s = runOpsL P r ops (ops.toList.drop k) fr s
  | 0, k, h, fr, s => by
    rw [List.drop_eq_nil_of_le (by simp; omega)]; rfl
  | n + 1, k, h, fr, s => by
    have hk : k < ops.toList.length := by simp; omega
    rw [List.range'_succ, List.drop_eq_getElem_cons hk]
    show (do let o ← ops[k]?; let (v, s) ← stepOp P r ops o fr s; let fr ← fr.put o.dst v; runOps P r ops (List.range' (k + 1) n) fr s) = ob (stepOp P r ops ops.toList[k] fr s) (putRest (fun fr s => runOpsL P r ops (ops.toList.drop (k + 1)) fr s) ops.toList[k].dst fr)
    have ho : ops[k]? = some ops.toList[k] := by simp at hk; simp [hk]
    rw [ho, ob_eq]
    show (stepOp P r ops ops.toList[k] fr s).bind _ = _
    refine congrArg _ (funext fun q => ?_)
    obtain ⟨v, s⟩ := q
    show _ = ob (fr.put _ v) _
    rw [ob_eq]
    show (fr.put _ v).bind _ = _
    exact congrArg _ (funext fun fr => runOps_from n (k + 1) (by omega) fr s)
theorem runOps_all {r : Ev} {ops : Array Oper} {fr : Fr} {s : St} : runOps P r ops (List.range ops.size) fr s = runOpsL P r ops ops.toList fr s := by
  have := runOps_from (P := P) (r := r) (ops := ops) ops.size 0 (by simp) fr s
  rw [List.range_eq_range']
  simpa using this

theorem rangeEnter_sound (h : Rel G W0 s w) {ro : Option Nat} {fr : Fr} {a : Act} (ha : ARel G ro fr a) {d : Nat} {fr' : Fr} {s1 : St} (he : rangeEnter fr s = some (d, fr', s1)) :
    ∃ G1 r w1 mark, G.le G1 ∧ Rel G1 W0 s1 w1 ∧ ARel G1 ro fr' { a with defers := mark ++ a.defers } ∧ G1.blk d = some r ∧
      ∀ (fn : FuncId) (tm : Array Value) (ps : Array Tmp) (assign body : Code), (Instr.enterLoop fn tm ps assign body ro).run P w =
        .ok (w1.heap.size, mark) (w1.alloc (.loop { state := .ready, pending := none, fn, tmps := tm, params := ps, assign, body, defers := r })) := by
  unfold rangeEnter at he
  have hro := ha.round
  split at he
  · rename_i hn
    rw [hn] at hro
    cases ro with
    | some r => exact hro.elim
    | none =>
      cases he
      obtain ⟨h1, h2⟩ := h.new .defer (c := .deferred (some [])) h.base (fun _ _ _ _ e => by cases e)
      refine ⟨_, w.heap.size, w.alloc (.deferred (some [])), [{ target := .collected w.heap.size, args := #[] }], h2, h1, ?_, Ghost.setBlk_same _ _ _, ?_⟩
      · refine ⟨⟨(ha.frame.mono h2).tmps, (ha.frame.mono h2).globs⟩, ?_, ?_⟩
        · exact ⟨⟨_, rfl, Ghost.setBlk_same _ _ _⟩, ha.defers.mono h2⟩
        · show RoRel _ fr.round none
          rw [hn]; trivial
      · intro fn tm ps assign body
        rw [run_enterLoop_outer]
        simp [World.size_alloc]
  · rename_i l hn
    rw [hn] at hro
    cases ro with
    | none => exact hro.elim
    | some r =>
      split at he
      · rename_i q1 q2 q3 q4 q5 q6 q7 q8 ho
        cases he
        obtain ⟨L, hL, hB, hT, hpar, hass, hbody, hdef, hpend, hst⟩ := h.loopObj hro ho
        refine ⟨G, L.defers, w, [], Ghost.le_refl G, h, ha, hdef, ?_⟩
        intro fn tm ps assign body
        exact run_enterLoop_inner hL _ _ _ _ _
      · cases he

theorem rangeLeave_sound (h : Rel G W0 s w) {ro : Option Nat} {fr : Fr} {a : Act} (ha : ARel G ro fr a) {l r : Nat} (hl : G.blk l = some r) {e : AExit} {fr' : Fr} {s' : St} (he : rangeLeave fr l s = some (e, fr', s'))
    {Q : Exit → Act → World → Prop} (hq : ∀ w', Rel G W0 s' w' → fr' = fr → Q e.conc a w') :
    ∃ jump w4, (Instr.endLoop r).run P w = .ok jump w4 ∧ (match jump with | none => Q .normal a w4 | some c => c.wpIn (FF ro) 0 P Q a w4) := by
  unfold rangeLeave at he
  split at he
  · rename_i q1 q2 q3 q4 q5 q6 p ho
    obtain ⟨L, hL, hB, hT, hpar, hass, hbody, hdef, hpend, hst⟩ := h.loopObj hl ho
    have hnb : L.state ≠ .busy := by rw [hst]; unfold loopState; cases p <;> simp
    have hrel : Rel G W0 (s.put l none) (w.putObj r (.loop { L with state := .exhausted })) := h.turn hl hB hL (by simp) (by simp) (fun x hx => by cases hx)
    refine ⟨_, _, run_endLoop hL hnb, ?_⟩
    generalize w.putObj r (.loop { L with state := .exhausted }) = w4 at hrel ⊢
    rw [hpend]
    split at he
    · cases he; exact hq _ hrel rfl
    · cases he; exact wpIn_ret (hq _ hrel rfl)
    · cases he; exact wpIn_exit (hq _ hrel rfl)
  · cases he

theorem rangeF_sound {r : Ev} (hk : SoundCall P r) (h : Rel G W0 s w) (hgl : G.glob = r.globs) {ro : Option Nat} {fr : Fr} {a : Act} (ha : ARel G ro fr a) {f : Operand} {ps : Array Tmp} {assign body : Code}
    {e : AExit} {fr' : Fr} {s' : St} (he : rangeF P r f ps assign body fr s = some (e, fr', s')) {Q : Exit → Act → World → Prop}
    (hq : ∀ G' a' w', G.le G' → Rel G' W0 s' w' → ARel G' ro fr' a' → Q e.conc a' w') : (Code.rangeFunc f ps assign body).wpIn (FF ro) 0 P Q a w := by
  unfold rangeF at he
  split at he
  · rename_i g first captured hf
    have hv := ev_sound h ha.frame hf
    obtain ⟨gv, hgv⟩ : ∃ gv, a.eval f = gv := ⟨_, rfl⟩
    rw [hgv] at hv
    cases hv with
    | func _ _ _ fs cs hfs hcs h1 h2 =>
      split at he
      · cases he
      · rename_i hbody
        have hb : hasBody P g = true := by simpa using hbody
        split at he
        · cases he
        · rename_i d fr1 s1 hent
          split at he
          · rename_i v2 s2 hcall
            obtain ⟨G1, rb, w1, mark, hle1, hr1, ha1, hd1, hrun⟩ := rangeEnter_sound h ha hent
            refine wpIn_rangeFunc (fun fn _ => ?_)
            obtain ⟨hr2, hle2⟩ := hr1.new (.loop fr.tmps fr.n ps.toList assign body d none true) (c := .loop { state := .ready, pending := none, fn, tmps := a.tmps, params := ps, assign, body, defers := rb })
              ⟨hr1.base, (ha.frame.tmps.mono hle1).mono (Ghost.le_setBlk (hr1.fresh _ (Nat.le_refl _)).1), rfl, rfl, rfl, (Ghost.le_setBlk (hr1.fresh _ (Nat.le_refl _)).1).blk _ _ hd1, rfl, rfl⟩ (fun _ _ _ _ e => by cases e)
            have hle := hle1.le_trans hle2
            refine ⟨w1.heap.size, mark, w1.alloc (.loop { state := .ready, pending := none, fn, tmps := a.tmps, params := ps, assign, body, defers := rb }), { target := .fn (.func g) cs, args := fs ++ #[Value.func (.yield w1.heap.size) #[] #[]] }, w1.alloc (.loop { state := .ready, pending := none, fn, tmps := a.tmps, params := ps, assign, body, defers := rb }), g, fs ++ #[Value.func (.yield w1.heap.size) #[] #[]] ++ cs, w1.alloc (.loop { state := .ready, pending := none, fn, tmps := a.tmps, params := ps, assign, body, defers := rb }), hrun _ _ _ _ _, ?_, fun _ _ => trivial, ?_, FF_depth ro, ?_⟩
            · simp only [resolve, hgv]
              simp [go_sem, Deferred.ofValue]
            · simp [invoke, hasBody_run hb]
            · have hl2 := Ghost.setBlk_same G1 s1.next w1.heap.size
              have hargs : LRel (G1.setBlk s1.next w1.heap.size) (first ++ [.yieldf s1.next] ++ captured) (fs ++ #[Value.func (.yield w1.heap.size) #[] #[]] ++ cs).toList := by
                simp only [Array.toList_append]
                refine LRel.append (LRel.append (LRel.ofArr hfs (fun i x v a b => (h1 i x v a b).mono hle)) ?_) (LRel.ofArr hcs (fun i x v a b => (h2 i x v a b).mono hle))
                exact .cons (.yieldf _ _ hl2) (.nil _)
              refine CallsIn.mono (hk _ _ _ _ _ hcall _ W0 _ _ ro hr2 (hle.glob.trans hgl) hargs) ?_
              rintro e3 w3 ⟨G3, u, hle3, rfl, hr3, _⟩
              exact rangeLeave_sound hr3 (ha1.mono (hle2.le_trans hle3)) (hle3.blk _ _ hl2) he (fun w4 hr4 hfr => hq G3 _ w4 (hle.le_trans hle3) hr4 (by rw [hfr]; exact ha1.mono (hle2.le_trans hle3)))
          · cases he
  · cases he

def SoundDraw (P : Program) (r : Ev) : Prop := ∀ (id : Nat) (ops : Array Oper) (fr : Fr) (s : St) (fr' : Fr) (s' : St), evDraw P r ops fr s = some (fr', s') → ∀ (G : Ghost) (W0 : Old) (w : World) (ro : Option Nat) (a : Act), Rel G W0 s w → G.glob = r.globs → ARel G ro fr a →
  ∀ Q : Exit → Act → World → Prop, (∀ G' a' w', G.le G' → Rel G' W0 s' w' → ARel G' ro fr' a' → Q .normal a' w') → (Code.region id ops true).wpIn (FF ro) 0 P Q a w

theorem Exit.then_not {K : Act → World → Prop} {Q : Exit → Act → World → Prop} {e : AExit} (hn : e ≠ .normal) (a : Act) (w : World) : Exit.then K Q e.conc a w = Q e.conc a w := by
  cases e <;> first | exact absurd rfl hn | rfl

theorem codeStep_sound {r : Ev} {n : Nat} (hc : SoundCode P r) (hk : SoundCall P r) (hloop : SoundLoop P r n) (hd : SoundDraw P r) :
    (∀ (c : Code) (fr : Fr) (s : St) (e : AExit) (fr' : Fr) (s' : St), codeStep P r c fr s = some (e, fr', s') → ∀ (G : Ghost) (W0 : Old) (w : World) (ro : Option Nat) (a : Act), Rel G W0 s w → G.glob = r.globs → ARel G ro fr a →
      ∀ Q : Exit → Act → World → Prop, (∀ G' a' w', G.le G' → Rel G' W0 s' w' → ARel G' ro fr' a' → Q e.conc a' w') →
        c.wpIn (FF ro) 0 P Q a w ∧ (∀ c', c = .loop c' → Code.roundsIn (FF ro) 0 P c' Q (n + 1) a w)) := by
  intro c fr s e fr' s' he G W0 w ro a h hgl ha Q hq
  rw [codeStep_eq] at he
  unfold codeStepM at he
  split at he
  · cases he; exact ⟨wpIn_skip (hq G a w (Ghost.le_refl G) h ha), fun _ e => by cases e⟩
  · rename_i id ops
    obtain ⟨⟨fr1, s1⟩, h1, h2⟩ := Option.map_eq_some_iff.1 he
    cases h2
    rw [← runOps_all] at h1
    exact ⟨wpIn_region (runOps_sound hc hk _ h hgl ha h1 hq), fun _ e => by cases e⟩
  · rename_i id ops
    obtain ⟨⟨fr1, s1⟩, h1, h2⟩ := Option.map_eq_some_iff.1 he
    cases h2
    exact ⟨hd id ops _ _ _ _ h1 G W0 w ro a h hgl ha Q hq, fun _ e => by cases e⟩
  · rename_i x y
    refine ⟨wpIn_seq ?_, fun _ e => by cases e⟩
    split at he
    · rename_i fr1 s1 h1
      refine hc _ _ _ _ _ _ h1 G W0 w ro a h hgl ha _ (fun G1 a1 w1 hle1 hr1 ha1 => ?_)
      exact hc _ _ _ _ _ _ he G1 W0 w1 ro a1 hr1 (hle1.glob.trans hgl) ha1 Q (fun G' a' w' hle => hq G' a' w' (hle1.le_trans hle))
    · rename_i hn
      refine hc _ _ _ _ _ _ he G W0 w ro a h hgl ha _ (fun G1 a1 w1 hle1 hr1 ha1 => ?_)
      rw [Exit.then_not (by rintro rfl; exact hn _ _ he)]
      exact hq G1 a1 w1 hle1 hr1 ha1
  · rename_i x y z
    refine ⟨?_, fun _ e => by cases e⟩
    split at he
    · rename_i t ht
      have hv := ev_sound h ha.frame ht
      obtain ⟨gv, hgv⟩ : ∃ gv, a.eval x = gv := ⟨_, rfl⟩
      rw [hgv] at hv
      cases hv
      exact wpIn_cond hgv (hc _ _ _ _ _ _ he G W0 w ro a h hgl ha Q hq)
    · cases he
  · rename_i id c1
    refine ⟨wpIn_block ?_, fun _ e => by cases e⟩
    split at he
    · rename_i id' fr1 s1 h1
      refine hc _ _ _ _ _ _ h1 G W0 w ro a h hgl ha _ (fun G1 a1 w1 hle1 hr1 ha1 => ?_)
      show (if id' = id then Q .normal a1 w1 else Q (.exit id') a1 w1)
      split at he
      · rename_i hid; cases he; rw [if_pos hid]; exact hq G1 a1 w1 hle1 hr1 ha1
      · rename_i hid; cases he; rw [if_neg hid]; exact hq G1 a1 w1 hle1 hr1 ha1
    · rename_i hn
      refine hc _ _ _ _ _ _ he G W0 w ro a h hgl ha _ (fun G1 a1 w1 hle1 hr1 ha1 => ?_)
      have := hq G1 a1 w1 hle1 hr1 ha1
      cases e with
      | normal => exact this
      | ret => exact this
      | exit id' => exact absurd he (hn _ _ _)
  · rename_i c1
    have key : Code.roundsIn (FF ro) 0 P c1 Q (n + 1) a w := by
      rw [roundsIn_succ]
      split at he
      · rename_i fr1 s1 h1
        refine hc _ _ _ _ _ _ h1 G W0 w ro a h hgl ha _ (fun G1 a1 w1 hle1 hr1 ha1 => ?_)
        exact hloop _ _ _ _ _ _ he G1 W0 w1 ro a1 hr1 (hle1.glob.trans hgl) ha1 Q (fun G' a' w' hle => hq G' a' w' (hle1.le_trans hle))
      · rename_i hn
        refine hc _ _ _ _ _ _ he G W0 w ro a h hgl ha _ (fun G1 a1 w1 hle1 hr1 ha1 => ?_)
        rw [Exit.then_not (by rintro rfl; exact hn _ _ he)]
        exact hq G1 a1 w1 hle1 hr1 ha1
    exact ⟨wpIn_loop_rounds (n + 1) key, fun c' e => by cases e; exact key⟩
  · cases he; exact ⟨wpIn_exit (hq G a w (Ghost.le_refl G) h ha), fun _ e => by cases e⟩
  · cases he; exact ⟨wpIn_ret (hq G a w (Ghost.le_refl G) h ha), fun _ e => by cases e⟩
  · exact ⟨rangeF_sound hk h hgl ha he hq, fun _ e => by cases e⟩
  · cases he

def resSem (tmps : Array Value) : ResultVar → Sem Value
  | .tmp t => pure (tmps.getD t undef)
  | .cell a t => do loadVar t (← asAddr (tmps.getD a undef))
theorem results_eq (fn : Func) (tmps : Array Value) : results fn tmps = (do
    let vs ← fn.results.mapM (resSem tmps)
    pure (if h : vs.size = 1 then vs[0] else .tuple vs)) := rfl
theorem loadAt_var {t : TypeId} {pv u : Value} (h : (Instr.loadAt t pv).run P w = .ok u w) : (do loadVar t (← asAddr pv)).run P w = .ok u w := by
  cases pv with
  | pointer x =>
    cases x with
    | none => simp [Instr.loadAt, Instr.sureAddr] at h
    | some ad => simpa [Instr.loadAt, Instr.sureAddr, asAddr] using h
  | _ => simp [Instr.loadAt, Instr.sureAddr] at h

theorem aResult_sound (h : Rel G W0 s w) {fr : Fr} {tmps : Array Value} (ha : FRel G fr tmps) {x : ResultVar} {v : AVal} (he : aResult P fr s x = some v) :
    ∃ u, (resSem tmps x).run P w = .ok u w ∧ VRel G v u := by
  cases x with
  | tmp t => exact ⟨_, by simp only [resSem, Sem.run_pure], ha.tmps.rel t v he⟩
  | cell a t =>
    simp only [aResult] at he
    obtain ⟨p, hp, he⟩ := bind_some he
    obtain ⟨u, hu, hv⟩ := aLoad_sound h (ha.tmps.rel a p hp) he
    exact ⟨u, loadAt_var hu, hv⟩
theorem aResults_sound (h : Rel G W0 s w) {fr : Fr} {tmps : Array Value} (ha : FRel G fr tmps) : ∀ {xs : List ResultVar} {l : List AVal}, aResults P fr s xs = some l →
    ∃ vs, (xs.mapM (resSem tmps)).run P w = .ok vs w ∧ LRel G l vs
  | [], l, he => by
    simp only [aResults] at he; cases he
    exact ⟨[], by simp, .nil G⟩
  | x :: xs, l, he => by
    simp only [aResults] at he
    obtain ⟨v, hv, he⟩ := bind_some he
    obtain ⟨vs, hvs, he⟩ := bind_some he
    cases he
    obtain ⟨u, hu, hr⟩ := aResult_sound h ha hv
    obtain ⟨us, hus, hrs⟩ := aResults_sound h ha hvs
    exact ⟨u :: us, by simp [List.mapM_cons, Sem.run_bind, hu, hus, Result.andThen], .cons hr hrs⟩

theorem results_sound (h : Rel G W0 s w) {fr : Fr} {tmps : Array Value} (ha : FRel G fr tmps) {fn : Func} {l : List AVal} (he : aResults P fr s fn.results.toList = some l) :
    ∃ v, (results fn tmps).run P w = .ok v w ∧ VRel G (oneOf l) v := by
  obtain ⟨vs, hr, hl⟩ := aResults_sound h ha he
  rw [results_eq, Array.mapM_eq_mapM_toList]
  refine ⟨if h : vs.toArray.size = 1 then vs.toArray[0] else .tuple vs.toArray, by simp [Sem.run_bind, hr, Result.andThen], ?_⟩
  match l, vs, hl with
  | [], [], hl => exact .tuple _ _ rfl (fun i x v hx => by simp at hx)
  | [x], [v], hl => exact hl.rel 0 x v rfl rfl
  | x :: y :: l, v :: u :: vs, hl =>
    have hlen := hl.len
    simp only [List.length_cons] at hlen
    rw [dif_neg (by simp)]
    exact .tuple _ _ (by simp; omega) (fun i x v hx hv => hl.rel i x v hx (by simpa using hv))
  | [], _ :: _, hl => have := hl.len; simp at this
  | [_], [], hl => have := hl.len; simp at this
  | [_], _ :: _ :: _, hl => have := hl.len; simp at this
  | _ :: _ :: _, [], hl => have := hl.len; simp at this
  | _ :: _ :: _, [_], hl => have := hl.len; simp at this

theorem leaves_sound {fn : Func} {tmps : Array Value} {R : Ending → World → Prop} : ∀ {ns : List Nat} {ds : List Deferred} {s : St} {w : World} {s' : St}, Rel G W0 s w → DRel G ns ds → dropAll s ns = some s' →
    (∀ w', Rel G W0 s' w' → ∃ v, (results fn tmps).run P w' = .ok v w' ∧ R (.returned v) w') → LeavesInM (FF none) 0 P fn tmps R ds .returning w
  | [], [], s, w, s', h, _, he, hR => by
    simp only [dropAll] at he; cases he
    exact hR w h
  | n :: ns, d :: ds, s, w, s', h, hd, he, hR => by
    obtain ⟨⟨r, rfl, hn⟩, hds⟩ := hd
    simp only [dropAll] at he
    split at he
    · rename_i ho
      refine ⟨by simp, .inl ?_⟩
      obtain ⟨c, hc, hor⟩ := h.obj n r _ hn ho
      cases c <;> try exact hor.elim
      rename_i calls
      rcases calls with _ | _ | _
      · exact hor.elim
      · refine ⟨r, _, rfl, run_takeDeferred hc, ?_⟩
        exact leaves_sound (h.turn hn hor hc (by simp) (by simp) (fun x hx => by cases hx)) hds he hR
      · exact hor.elim
    · cases he
  | [], _ :: _, _, _, _, _, hd, _, _ => hd.elim
  | _ :: _, [], _, _, _, _, hd, _, _ => hd.elim

theorem callStep_sound {r : Ev} (hc : SoundCode P r) : ∀ (f : FuncId) (args : List AVal) (s : St) (v : AVal) (s' : St), callStep P r f args s = some (v, s') → ∀ (G : Ghost) (W0 : Old) (w : World) (us : Array Value) (ro : Option Nat), Rel G W0 s w → G.glob = r.globs → LRel G args us.toList →
    CallsIn (FF ro) 0 P f us w fun e w' => ∃ G' u, G.le G' ∧ e = .returned u ∧ Rel G' W0 s' w' ∧ VRel G' v u := by
  intro f args s v s' he G W0 w us ro h hgl hargs
  suffices hh : CallsIn (FF none) 0 P f us w fun e w' => ∃ G' u, G.le G' ∧ e = .returned u ∧ Rel G' W0 s' w' ∧ VRel G' v u from hh
  unfold callStep at he
  split at he
  · cases he
  · rename_i fn hf
    split at he
    · cases he
    · rename_i c hb
      refine callsIn_of_wp_marks hf hb (FF_fn none f) ?_
      split at he
      · rename_i e fr s1 h1
        have hsz : us.size = args.length := by simpa using hargs.len
        refine hc _ _ _ _ _ _ h1 G W0 w none _ h hgl ⟨⟨⟨by simp [hsz], ?_⟩, ?_⟩, (show DRel G [] [] from trivial), trivial⟩ _ (fun G1 a1 w1 hle1 hr1 ha1 => ?_)
        · intro i x hx
          simp only [Trie.get_ofList] at hx
          have hlt : i < us.size := by rw [hsz]; exact (List.getElem?_eq_some_iff.1 hx).1
          have : (us ++ Array.replicate (fn.ntmps - us.size) undef).getD i undef = us[i] := by simp [Array.getD_eq_getD_getElem?, Array.getElem?_append, hlt]
          rw [this]
          exact hargs.rel i x _ hx (by simp [hlt])
        · show r.globs ≤ G.glob; omega
        · have fin : ∀ s2 l, dropAll s1 fr.defers = some s2 → aResults P fr s2 fn.results.toList = some l → some (oneOf l, s2) = some (v, s') →
              LeavesInM (FF none) 0 P fn a1.tmps (fun e w' => ∃ G' u, G.le G' ∧ e = .returned u ∧ Rel G' W0 s' w' ∧ VRel G' v u) a1.defers .returning w1 := by
            intro s2 l hd hl hvs
            cases hvs
            refine leaves_sound hr1 ha1.defers hd (fun w' hr' => ?_)
            obtain ⟨u, hu, hv⟩ := results_sound hr' ha1.frame hl
            exact ⟨u, hu, G1, u, hle1, rfl, hr', hv⟩
          split at he
          · cases he
          · rename_i hn
            obtain ⟨s2, hs2, he⟩ := bind_some he
            obtain ⟨l, hl, he⟩ := bind_some he
            have := fin s2 l hs2 hl he
            cases e with
            | normal => exact this
            | ret => exact this
            | exit id => exact absurd rfl (hn id)
      · cases he

def Sound (P : Program) (gl n : Nat) : Prop := SoundCode P (evN P gl n) ∧ SoundCall P (evN P gl n) ∧ SoundLoop P (evN P gl n) n
theorem evN_globs (P : Program) (gl n : Nat) : (evN P gl n).globs = gl := by cases n <;> rfl
theorem sound_zero {gl : Nat} : Sound P gl 0 := by
  refine ⟨?_, ?_, ?_⟩
  · intro c fr s e fr' s' h; cases h
  · intro f args s v s' h; cases h
  · intro c fr s e fr' s' h; cases h
theorem sound_succ {gl n : Nat} (h : Sound P gl n) (hd : SoundDraw P (evN P gl n)) : Sound P gl (n + 1) := by
  have e : (evN P gl (n + 1)).globs = (evN P gl n).globs := by rw [evN_globs, evN_globs]
  refine ⟨?_, ?_, ?_⟩
  · intro c fr s e2 fr' s' he G W0 w ro a hr hgl ha Q hq
    exact (codeStep_sound h.1 h.2.1 h.2.2 hd c fr s e2 fr' s' he G W0 w ro a hr (hgl.trans e) ha Q hq).1
  · intro f args s v s' he G W0 w us ro hr hgl hl
    exact callStep_sound h.1 f args s v s' he G W0 w us ro hr (hgl.trans e) hl
  · intro c fr s e2 fr' s' he G W0 w ro a hr hgl ha Q hq
    exact (codeStep_sound h.1 h.2.1 h.2.2 hd (.loop c) fr s e2 fr' s' he G W0 w ro a hr (hgl.trans e) ha Q hq).2 c rfl

end Go.Ev

/- Equality of abstract values, as far as the evaluator tests it. -/
namespace Go.Ev
variable {G : Ghost}

theorem sameL_spec {eq : AVal → AVal → Bool} : ∀ {l m : List AVal}, sameL eq l m = true → m.length = l.length ∧ ∀ (i : Nat) (x y : AVal), l[i]? = some x → m[i]? = some y → eq x y = true
  | [], [], _ => ⟨rfl, fun i x y h => by simp at h⟩
  | x :: xs, y :: ys, h => by
    simp only [sameL, Bool.and_eq_true] at h
    have ih := sameL_spec h.2
    refine ⟨by simp [ih.1], fun i u v hu hv => ?_⟩
    cases i with
    | zero => simp at hu hv; subst hu; subst hv; exact h.1
    | succ i => simp at hu hv; exact ih.2 i u v hu hv
  | [], _ :: _, h => by simp [sameL] at h
  | _ :: _, [], h => by simp [sameL] at h

theorem sameT_spec {eq : AVal → AVal → Bool} : ∀ {a b : Trie (List AVal)}, sameT eq a b = true → ∀ i, sameO eq (a.get i) (b.get i) = true
  | .leaf, .leaf, _, i => by simp [Trie.get_leaf, sameO]
  | .node l v r, .node l' v' r', h, i => by
    simp only [sameT, Bool.and_eq_true] at h
    rw [Trie.get_node, Trie.get_node]
    split
    · exact h.1.1
    · split
      · exact sameT_spec h.1.2 _
      · exact sameT_spec h.2 _
  | .leaf, .node .., h, _ => by simp [sameT] at h
  | .node .., .leaf, h, _ => by simp [sameT] at h

theorem Tok.same_eq {a b : Tok} (h : a.same b = true) : a = b := by
  cases a <;> cases b <;> simp_all [Tok.same]

theorem same_sound : ∀ (n : Nat) (x y : AVal) (u : Value), same n x y = true → VRel G x u → VRel G y u := by
  intro n
  induction n with
  | zero => intro x y u h; simp [same] at h
  | succ n ih =>
    intro x y u h hv
    unfold same at h
    split at h
    · cases hv; simp at h; subst h; exact .bool _
    · cases hv; simp at h; obtain ⟨rfl, rfl⟩ := h; exact .int _ _
    · simp only [Bool.and_eq_true, Nat.beq_eq] at h; obtain ⟨rfl, rfl⟩ := h; exact hv
    · exact hv
    · exact hv
    · exact hv
    · exact hv
    · exact hv
    · simp only [Bool.and_eq_true, Nat.beq_eq] at h; obtain ⟨rfl, rfl⟩ := h; exact hv
    · simp only [Nat.beq_eq] at h; subst h; exact hv
    · rename_i l i m j
      simp only [Bool.and_eq_true, Nat.beq_eq] at h
      obtain ⟨hl, rfl⟩ := h
      have hs := sameL_spec hl
      cases hv with
      | eptr _ _ b o cv hi hvv =>
        refine .eptr m i b o cv (fun c hc => hi c (hs.1 ▸ hc)) (fun c y hy => ?_)
        have hlt : c < l.length := by rw [← hs.1]; exact (List.getElem?_eq_some_iff.1 hy).1
        exact ih _ _ _ (hs.2 c _ y (List.getElem?_eq_getElem hlt) hy) (hvv c _ (List.getElem?_eq_getElem hlt))
    · rename_i z a o l t z' a' o' l' t'
      simp only [Bool.and_eq_true, Nat.beq_eq] at h
      obtain ⟨⟨⟨⟨rfl, rfl⟩, rfl⟩, ht⟩, ha⟩ := h
      have := Tok.same_eq ht; subst this
      have hs := sameT_spec ha
      have get : ∀ i cells', a'.get i = some cells' → ∃ cells, a.get i = some cells ∧ sameL (same n) cells cells' = true := fun i cells' hc => by
        have := hs i
        rw [hc] at this
        cases hq : a.get i with
        | none => rw [hq] at this; simp [sameO] at this
        | some cells => rw [hq] at this; exact ⟨cells, rfl, this⟩
      have get' : ∀ i cells, a.get i = some cells → ∃ cells', a'.get i = some cells' ∧ sameL (same n) cells cells' = true := fun i cells hc => by
        have := hs i
        rw [hc] at this
        cases hq : a'.get i with
        | none => rw [hq] at this; simp [sameO] at this
        | some cells' => rw [hq] at this; exact ⟨cells', rfl, this⟩
      cases hv with
      | vec _ _ _ _ _ b o2 cap cv hc hel hi hvv ht2 =>
        refine .vec z a' o l t b o2 cap cv hc (fun i hi' => ?_) hi (fun i c cells' y hi' hc' hy => ?_) ht2
        · obtain ⟨cells, h1, h2⟩ := hel i hi'
          obtain ⟨cells', h3, h4⟩ := get' _ _ h1
          exact ⟨cells', h3, by rw [(sameL_spec h4).1, h2]⟩
        · obtain ⟨cells, h3, h4⟩ := get _ _ hc'
          have hs4 := sameL_spec h4
          have hlt : c < cells.length := by rw [← hs4.1]; exact (List.getElem?_eq_some_iff.1 hy).1
          exact ih _ _ _ (hs4.2 c _ y (List.getElem?_eq_getElem hlt) hy) (hvv i c cells _ hi' h3 (List.getElem?_eq_getElem hlt))
    · simp only [Nat.beq_eq] at h; subst h; exact hv
    · rename_i f a b g c d
      simp only [Bool.and_eq_true, Nat.beq_eq] at h
      obtain ⟨⟨rfl, hac⟩, hbd⟩ := h
      have hs1 := sameL_spec hac
      have hs2 := sameL_spec hbd
      cases hv with
      | func _ _ _ fs cs hf hc h1 h2 =>
        refine .func _ _ _ _ _ (hs1.1 ▸ hf) (hs2.1 ▸ hc) (fun i y v hy hv => ?_) (fun i y v hy hv => ?_)
        · have hlt : i < a.length := by rw [← hs1.1]; exact (List.getElem?_eq_some_iff.1 hy).1
          exact ih _ _ _ (hs1.2 i _ y (List.getElem?_eq_getElem hlt) hy) (h1 i _ v (List.getElem?_eq_getElem hlt) hv)
        · have hlt : i < b.length := by rw [← hs2.1]; exact (List.getElem?_eq_some_iff.1 hy).1
          exact ih _ _ _ (hs2.2 i _ y (List.getElem?_eq_getElem hlt) hy) (h2 i _ v (List.getElem?_eq_getElem hlt) hv)
    · simp only [Nat.beq_eq] at h; subst h; exact hv
    · simp only [Bool.and_eq_true, Nat.beq_eq] at h
      obtain ⟨rfl, hs⟩ := h
      cases hv with
      | iface _ _ u hu => exact .iface _ _ _ (ih _ _ _ hs hu)
    · rename_i l m
      have hs := sameL_spec h
      cases hv with
      | agg _ cs hl hh h1 =>
        refine .agg _ _ (hs.1 ▸ hl) (fun i y v hy hv => ?_) h1
        have hlt : i < l.length := by rw [← hs.1]; exact (List.getElem?_eq_some_iff.1 hy).1
        exact ih _ _ _ (hs.2 i _ y (List.getElem?_eq_getElem hlt) hy) (hh i _ v (List.getElem?_eq_getElem hlt) hv)
    · rename_i l m
      have hs := sameL_spec h
      cases hv with
      | tuple _ cs hl hh =>
        refine .tuple _ _ (hs.1 ▸ hl) (fun i y v hy hv => ?_)
        have hlt : i < l.length := by rw [← hs.1]; exact (List.getElem?_eq_some_iff.1 hy).1
        exact ih _ _ _ (hs.2 i _ y (List.getElem?_eq_getElem hlt) hy) (hh i _ v (List.getElem?_eq_getElem hlt) hv)
    · cases h

theorem sameObj_sound {o o' : AObj} {b : Nat} {c : Obj} (h : sameObj (some o) (some o') = true) (hc : ORel G b o c) : ORel G b o' c := by
  unfold sameObj at h
  split at h
  · rename_i l m h1 h2
    cases h1; cases h2
    have hs := sameL_spec h
    cases c <;> try exact hc.elim
    simp only [ORel] at hc ⊢
    refine ⟨hc.1, hs.1 ▸ hc.2.1, fun i y v hy hv => ?_⟩
    have hlt : i < l.length := by rw [← hs.1]; exact (List.getElem?_eq_some_iff.1 hy).1
    have := hc.2.2 i _ v (List.getElem?_eq_getElem hlt) hv
    exact ⟨same_sound _ _ _ _ (hs.2 i _ y (List.getElem?_eq_getElem hlt) hy) this.1, this.2⟩
  · rename_i h1 h2
    cases h1; cases h2; exact hc
  · cases h

/-! ### Sets of numbers -/
theorem addBit_test (m i j : Nat) : (addBit m i).testBit j = (m.testBit j || decide (i = j)) := by
  unfold addBit
  rw [Nat.testBit_or, Nat.one_shiftLeft, Nat.testBit_two_pow]
theorem subBits_test {m d : Nat} (h : subBits m d = true) {j : Nat} (hj : m.testBit j = true) : d.testBit j = true := by
  unfold subBits at h
  rw [Nat.beq_eq] at h
  rw [← h, Nat.testBit_and] at hj
  simp at hj; exact hj.2
theorem subBits_of {m d : Nat} (h : ∀ j, m.testBit j = true → d.testBit j = true) : subBits m d = true := by
  unfold subBits
  rw [Nat.beq_eq]
  apply Nat.eq_of_testBit_eq
  intro j
  rw [Nat.testBit_and]
  cases hm : m.testBit j with
  | false => simp
  | true => simp [h j hm]

/-! ### What stands ahead -/
theorem maskFold {acc : List Nat} {j : Nat} : ∀ (es : List Edge) (m : Nat), (es.foldl (maskStep acc) m).testBit j = true →
    m.testBit j = true ∨ ∃ e ∈ es, Region.binds .any e = true ∧ (j = e.on ∨ (acc.getD e.on 0).testBit j = true)
  | [], m, h => .inl h
  | e :: es, m, h => by
    rcases maskFold es _ h with h | ⟨e', he, h⟩
    · unfold maskStep at h
      split at h
      · rename_i hb
        rw [Nat.testBit_or, Nat.testBit_or, Nat.one_shiftLeft, Nat.testBit_two_pow] at h
        simp only [Bool.or_eq_true, decide_eq_true_eq] at h
        rcases h with h | h | h
        · exact .inl h
        · exact .inr ⟨e, by simp, hb, .inl h.symm⟩
        · exact .inr ⟨e, by simp, hb, .inr h⟩
      · exact .inl h
    · exact .inr ⟨e', by simp [he], h⟩
theorem maskFold_mono {acc : List Nat} {j : Nat} : ∀ (es : List Edge) (m : Nat), m.testBit j = true → (es.foldl (maskStep acc) m).testBit j = true
  | [], m, h => h
  | e :: es, m, h => by
    refine maskFold_mono es _ ?_
    unfold maskStep
    split
    · rw [Nat.testBit_or, h]; rfl
    · exact h
theorem masksFrom_get : ∀ (os : List Oper) (acc : List Nat) (i : Nat), i < acc.length → (masksFrom acc os).getD i 0 = acc.getD i 0
  | [], acc, i, _ => rfl
  | o :: os, acc, i, h => by
    rw [masksFrom, masksFrom_get os _ i (by simp; omega)]
    simp [List.getD_eq_getElem?_getD, List.getElem?_append, h]
theorem masksFrom_spec : ∀ (os : List Oper) (acc : List Nat) (k : Nat) (o : Oper), os[k]? = some o → (∀ e ∈ o.after, Region.binds .any e = true → e.on < acc.length + k) →
    ∀ j, ((masksFrom acc os).getD (acc.length + k) 0).testBit j = true → ∃ e ∈ o.after, Region.binds .any e = true ∧ (j = e.on ∨ ((masksFrom acc os).getD e.on 0).testBit j = true)
  | [], acc, k, o, h, _, _, _ => by simp at h
  | o' :: os, acc, 0, o, h, hlt, j, hj => by
    simp at h; subst h
    rw [masksFrom] at hj ⊢
    rw [masksFrom_get os _ _ (by simp)] at hj
    have : (acc ++ [maskOf acc o']).getD (acc.length + 0) 0 = maskOf acc o' := by simp [List.getD_eq_getElem?_getD]
    rw [this] at hj
    unfold maskOf at hj
    rcases maskFold _ _ hj with h0 | ⟨e, he, hb, h⟩
    · simp at h0
    · have he' : e ∈ o'.after := by simpa using he
      refine ⟨e, he', hb, ?_⟩
      have hl := hlt e he' hb
      rw [masksFrom_get os _ _ (by simp; omega)]
      have : (acc ++ [maskOf acc o']).getD e.on 0 = acc.getD e.on 0 := by simp [List.getD_eq_getElem?_getD, List.getElem?_append, (show e.on < acc.length by omega)]
      rw [this]; exact h
  | o' :: os, acc, k + 1, o, h, hlt, j, hj => by
    simp at h
    have := masksFrom_spec os (acc ++ [maskOf acc o']) k o h (fun e he hb => by have := hlt e he hb; simp; omega) j
    rw [masksFrom] at hj ⊢
    have e1 : (acc ++ [maskOf acc o']).length + k = acc.length + (k + 1) := by simp; omega
    rw [e1] at this
    exact this hj

end Go.Ev

/- A region whose order of evaluation is open: what the calm operations do. -/
namespace Go.Ev
open Go.RowKit

variable {G : Ghost} {W0 : Old} {s : St} {w : World} {P : Program}

theorem builtin_state {b : Builtin} (hb : b = .len ∨ b = .min) {ts : Array TypeId} {args : List AVal} {v : AVal} {s' : St} (he : aBuiltin P b ts s args = some (v, s')) : s' = s := by
  unfold aBuiltin at he
  split at he
  · rcases hb with h | h <;> cases h
  · refine (bind_some he).elim fun _ hh => ?_; replace he := hh.2; clear hh
    refine (bind_some he).elim fun _ hh => ?_; replace he := hh.2; clear hh
    cases he; rfl
  · cases he; rfl
  · cases he

theorem quiet_state {o : Oper} (hq : Oper.quiet o = true) {fr : Fr} {out : Out} {s' : St} (he : evOp P fr o s = some (out, s')) : s' = s := by
  unfold Oper.quiet at hq
  split at hq
  case h_11 fn first cap ho =>
    cases fn <;> simp only [evOp_eq, evOpM, ho] at he
    case func f =>
      refine (bind_some he).elim fun _ hh => ?_; replace he := hh.2; clear hh
      refine (bind_some he).elim fun _ hh => ?_; replace he := hh.2; clear hh
      cases he; rfl
    all_goals cases he
  case h_22 args ts ho =>
    simp only [evOp_eq, evOpM, ho] at he
    refine (bind_some he).elim fun _ hh => ?_; replace he := hh.2; clear hh
    obtain ⟨⟨v, s1⟩, h1, h2⟩ := bind_some he
    cases h2; exact builtin_state (.inl rfl) h1
  case h_23 args ts ho =>
    simp only [evOp_eq, evOpM, ho] at he
    refine (bind_some he).elim fun _ hh => ?_; replace he := hh.2; clear hh
    obtain ⟨⟨v, s1⟩, h1, h2⟩ := bind_some he
    cases h2; exact builtin_state (.inr rfl) h1
  all_goals first | (cases hq; done) | skip
  all_goals (rename_i ho; simp only [evOp_eq, evOpM, ho] at he)
  all_goals try (refine (bind_some he).elim fun _ hh => ?_; replace he := hh.2; clear hh)
  all_goals try (refine (bind_some he).elim fun _ hh => ?_; replace he := hh.2; clear hh)
  all_goals try (refine (bind_some he).elim fun _ hh => ?_; replace he := hh.2; clear hh)
  all_goals try (refine (bind_some he).elim fun _ hh => ?_; replace he := hh.2; clear hh)
  all_goals try exact (val_some he).elim fun _ h => h.2.2
  all_goals try (cases he; done)
  all_goals try (split at he <;> first | (cases he; done) | exact (val_some he).elim fun _ h => h.2.2 | (cases he; rfl))

theorem pure_quiet {o : Oper} (hp : Oper.pure o = true) : Oper.quiet o = true := by
  unfold Oper.pure at hp
  unfold Oper.quiet
  split at hp <;> first | (cases hp; done) | (rename_i h; rw [h])
theorem val_all {x : Option AVal} {out : Out} {s s' : St} (h : val s x = some (out, s')) (s2 : St) : val s2 x = some (out, s2) := by
  obtain ⟨v, rfl, rfl, rfl⟩ := val_some h; rfl
/-- What such an operation yields, it yields in every state. -/
theorem pure_state {o : Oper} (hq : Oper.pure o = true) {fr : Fr} {out : Out} {s' : St} (he : evOp P fr o s = some (out, s')) (s2 : St) : evOp P fr o s2 = some (out, s2) := by
  have bnd : ∀ {α : Type} {x : Option α} {f g : α → Option (Out × St)}, x.bind f = some (out, s') → (∀ a, f a = some (out, s') → g a = some (out, s2)) → x.bind g = some (out, s2) := fun {α x f g} h hg => by
    obtain ⟨a, rfl, h⟩ := bind_some h
    exact hg a h
  unfold Oper.pure at hq
  split at hq
  all_goals first | (cases hq; done) | skip
  case h_9 fn first cap ho =>
    cases fn <;> simp only [evOp_eq, evOpM, ho] at he ⊢
    case func f =>
      refine bnd he fun a he => ?_
      refine bnd he fun b he => ?_
      cases he; rfl
    all_goals cases he
  all_goals (rename_i ho; simp only [evOp_eq, evOpM, ho] at he ⊢)
  all_goals first
    | exact val_all he s2
    | (refine bnd he fun _ he => ?_; first
        | exact val_all he s2
        | (split at he <;> first | (cases he; done) | exact val_all he s2 | (cases he; rfl)))
    | (refine bnd he fun _ he => ?_; refine bnd he fun _ he => ?_; exact val_all he s2)
    | (refine bnd he fun _ he => ?_; refine bnd he fun _ he => ?_; refine bnd he fun _ he => ?_; refine bnd he fun _ he => ?_; exact val_all he s2)

/-- What an operation that lays a block does. -/
theorem lay_spec {o : Oper} (hq : Oper.lays o = true) {fr : Fr} {x : AVal} {s' : St} (he : evOp P fr o s = some (.val x, s')) :
    ∃ obj, s' = (s.alloc obj).2 ∧ ∃ name : Nat → AVal, x = name s.next ∧ (name = (fun n => .ptr n 0) ∨ name = .map) ∧
      ∀ (G : Ghost) (W0 : Old) (w : World) (s2 : St) (a : Act), Rel G W0 s2 w → OpsRel G fr a o → ∃ c u, (execOp a.eval o).run P w = .ok (.value u) (w.alloc c) ∧ (∀ G', G.le G' → ORel G' w.heap.size obj c) ∧
        (∀ cs e lo hi, c = .cells cs e (lo, hi) → lo = hi ∨ cs.size ≤ lo) ∧ (∀ G' n, G'.blk n = some w.heap.size → VRel G' (name n) u) := by
  unfold Oper.lays at hq
  split at hq
  · rename_i e ho
    simp only [evOp_eq, evOpM, ho] at he
    obtain ⟨z, hz, he⟩ := bind_some he
    split at he
    · rename_i hnt
      cases he
      refine ⟨_, rfl, fun n => .ptr n 0, rfl, .inl rfl, fun G W0 w s2 a h ha => ?_⟩
      obtain ⟨zv, hzr, hzrun⟩ := tZero_run hz G
      have hc := hzr.cellsRel hnt
      refine ⟨.cells zv.cells e, .pointer (some ⟨w.heap.size, 0, none⟩), by simp [execOp, ho, Instr.alloc, hzrun, newVar, newRow], fun G' hle => ⟨?_, hc.size, fun i x v hx hv => ⟨(hc.rel i x v hx hv).mono hle, hc.one i v hv⟩⟩, fun _ _ _ _ e => by cases e; exact .inl rfl,
        fun G' n hn => .ptr _ 0 _ hn⟩
      rw [hle.base]; exact h.base
    · cases he
  · rename_i e x ho
    simp only [evOp_eq, evOpM, ho] at he
    obtain ⟨z, hz, he⟩ := bind_some he
    split at he
    · rename_i hnt
      cases he
      refine ⟨_, rfl, fun n => .ptr n 0, rfl, .inl rfl, fun G W0 w s2 a h ha => ?_⟩
      unfold OpsRel at ha
      rw [ho] at ha
      have hzr := ha x (by simp [Op.operands]) z hz
      have hc := hzr.cellsRel hnt
      refine ⟨.cells (a.eval x).cells e, .pointer (some ⟨w.heap.size, 0, none⟩), by simp [execOp, ho, Instr.box, newVar, newRow], fun G' hle => ⟨?_, hc.size, fun i x v hx hv => ⟨(hc.rel i x v hx hv).mono hle, hc.one i v hv⟩⟩, fun _ _ _ _ e => by cases e; exact .inl rfl,
        fun G' n hn => .ptr _ 0 _ hn⟩
      rw [hle.base]; exact h.base
    · cases he
  · rename_i t n ho
    cases n with
    | some n => simp only [evOp_eq, evOpM, ho] at he; cases he
    | none =>
      simp only [evOp_eq, evOpM, ho] at he
      split at he
      · cases he
        refine ⟨_, rfl, .map, rfl, .inr rfl, fun G W0 w s2 a h ha => ?_⟩
        have hx : execOp a.eval o = (do pure (.value (← Instr.makeMap t none))) := by unfold execOp; rw [ho]; rfl
        rw [hx]
        refine ⟨.map #[] 0, .map (some w.heap.size), by simp [Instr.makeMap], fun G' hle => ⟨?_, rfl, rfl, fun i x e hx => by simp at hx⟩, (fun _ _ _ _ e => by cases e), fun G' n hn => .map _ _ hn⟩
        rw [hle.base]; exact h.base
      · cases he
  · cases hq

end Go.Ev

/- A region whose order of evaluation is open: what is kept from operation to operation. -/
namespace Go.Ev
open Go.RowKit

variable {G : Ghost} {W0 : Old} {s : St} {w : World} {P : Program}

theorem Rel.setRes {W : World} {R R' : Nat → Prop} {V : Nat → Option (Array Value)} (h : Rel G ⟨W, R, V⟩ s w) (hr : ∀ n, R' n → n < s.next ∧ G.blk n = none) : Rel G ⟨W, R', V⟩ s w :=
  ⟨h.obj, h.lt, h.inj, h.imm, h.apart, h.tok, h.tok2, h.fresh, h.frz, h.base, h.below, h.glob, h.opq, h.opqInj, hr, h.priv⟩

/-- What the check of a region says. -/
structure Fine (ops : Array Oper) (ms : List Nat) : Prop where
  back : ∀ i o, ops[i]? = some o → ∀ e ∈ o.after, Region.binds .any e = true → e.on < i
  pair : ∀ i o d, ops[i]? = some o → o.dst = some d → ∀ j o', ops[j]? = some o' → i ≠ j → o'.dst ≠ some d ∧ (d ∈ readsOf ops o' → (ms.getD j 0).testBit i = true ∨ (ms.getD i 0).testBit j = true)
  mask : ∀ i o, ops[i]? = some o → ∀ j, (ms.getD i 0).testBit j = true → ∃ e ∈ o.after, Region.binds .any e = true ∧ (j = e.on ∨ (ms.getD e.on 0).testBit j = true)

theorem fine_of {ops : Array Oper} (h : drawOk ops (masks ops) = true) : Fine ops (masks ops) := by
  unfold drawOk at h
  rw [List.all_eq_true] at h
  have mem : ∀ i o, ops[i]? = some o → (o, i) ∈ ops.toList.zipIdx := fun i o ho => List.mem_zipIdx_iff_getElem?.2 (by simpa using ho)
  have back : ∀ i o, ops[i]? = some o → ∀ e ∈ o.after, Region.binds .any e = true → e.on < i := fun i o ho e he hb => by
    have := h _ (mem i o ho)
    simp only [Bool.and_eq_true] at this
    have := List.all_eq_true.1 this.1 e (by simpa using he)
    rw [hb] at this
    simpa using this
  refine ⟨back, fun i o d ho hd j o' ho' hne => ?_, fun i o ho j hj => ?_⟩
  · have := h _ (mem i o ho)
    simp only [Bool.and_eq_true, hd] at this
    have := List.all_eq_true.1 this.2 _ (mem j o' ho')
    unfold pairOk at this
    simp only [Bool.or_eq_true, Bool.and_eq_true, Nat.beq_eq, hne, false_or] at this
    refine ⟨fun e => ?_, fun hr => ?_⟩
    · rw [e] at this; simp at this
    · have h2 := this.2
      rcases h2 with (h2 | h2) | h2
      · exfalso
        have : (readsOf ops o').any (Nat.beq d) = true := List.any_eq_true.2 ⟨d, hr, by simp⟩
        rw [this] at h2; cases h2
      · exact .inl h2
      · exact .inr h2
  · have hh := masksFrom_spec ops.toList [] i o (by simpa using ho) (fun e he hb => by simpa using back i o ho e he hb) j
    simp only [List.length_nil, Nat.zero_add] at hh
    exact hh hj

def Closed (ops : Array Oper) (L : Nat → Prop) : Prop := ∀ i o, L i → ops[i]? = some o → ∀ e ∈ o.after, Region.binds .any e = true → L e.on

theorem Fine.sub {ops : Array Oper} {ms : List Nat} (hf : Fine ops ms) {L : Nat → Prop} (hL : Closed ops L) : ∀ (i : Nat) (o : Oper), ops[i]? = some o → (∀ e ∈ o.after, Region.binds .any e = true → L e.on) →
    ∀ j, (ms.getD i 0).testBit j = true → L j := by
  intro i
  induction i using Nat.strongRecOn with
  | ind i ih =>
    intro o ho hpre j hj
    obtain ⟨e, he, hb, h⟩ := hf.mask i o ho j hj
    rcases h with rfl | h
    · exact hpre e he hb
    · have hlt := hf.back i o ho e he hb
      have hi := (Array.getElem?_eq_some_iff.1 ho).1
      have ho' : ops[e.on]? = some (ops[e.on]'(by omega)) := Array.getElem?_eq_getElem (by omega)
      exact ih e.on hlt _ ho' (hL e.on _ (hpre e he hb) ho') j h
theorem Fine.lt {ops : Array Oper} {ms : List Nat} (hf : Fine ops ms) {i : Nat} {o : Oper} (ho : ops[i]? = some o) {j : Nat} (hj : (ms.getD i 0).testBit j = true) : j < i :=
  hf.sub (L := fun k => k < i) (fun k o' hk ho' e he hb => Nat.lt_trans (hf.back k o' ho' e he hb) hk) i o ho (fun e he hb => hf.back i o ho e he hb) j hj

def nameOf : AVal → Option Nat
  | .ptr n _ => some n
  | .map n => some n
  | _ => none
def layName (p : Pend) : Option Nat := if Oper.quiet p.o then none else nameOf p.v

def ReadsFact (ops : Array Oper) (ms : List Nat) (fr0 fr f : Fr) (i : Nat) (o : Oper) : Prop :=
  ∀ t ∈ readsOf ops o, (∃ j o', ops[j]? = some o' ∧ o'.dst = some t ∧ (ms.getD i 0).testBit j = true ∧ f.tmps.get t = fr.tmps.get t) ∨
    ((∀ j o', ops[j]? = some o' → o'.dst = some t → j = i ∨ (ms.getD j 0).testBit i = true) ∧ f.tmps.get t = fr0.tmps.get t)

structure PendOk (P : Program) (ops : Array Oper) (ms : List Nat) (fr0 : Fr) (d : Dr) (p : Pend) : Prop where
  op : ops[p.i]? = some p.o
  done : d.done.testBit p.i = true
  calm : Oper.loud p.o = false
  globs : p.fr.globs = fr0.globs
  reads : ReadsFact ops ms fr0 d.fr p.fr p.i p.o
  dst : ∀ t, p.o.dst = some t → t < fr0.n ∧ d.fr.tmps.get t = some p.v
  skip : wantedA p.fr ops p.o = some false → p.v = .tuple []
  want : ∃ b, wantedA p.fr ops p.o = some b
  pure : Oper.pure p.o = true → wantedA p.fr ops p.o = some true → ∀ s2, evOp P p.fr p.o s2 = some (.val p.v, s2)

structure Inv (P : Program) (gl : Nat) (ops : Array Oper) (ms : List Nat) (fr0 : Fr) (W0 : Old) (ro : Option Nat) (G0 : Ghost) (d : Dr) (L : Nat → Prop) (G : Ghost) (a : Act) (w : World) : Prop where
  sub : ∀ j, L j → d.done.testBit j = true
  lt : ∀ j, d.done.testBit j = true → j < ops.size
  pendOf : ∀ j, d.done.testBit j = true → ¬ L j → ∃ p ∈ d.pend, p.i = j
  closed : Closed ops L
  doneMask : ∀ j, d.done.testBit j = true → ∀ k, (ms.getD j 0).testBit k = true → d.done.testBit k = true
  old : ∀ t, (∀ j o, ops[j]? = some o → o.dst = some t → d.done.testBit j = false) → d.fr.tmps.get t = fr0.tmps.get t
  same : d.fr.n = fr0.n ∧ d.fr.globs = fr0.globs ∧ d.fr.round = fr0.round ∧ d.fr.defers = fr0.defers
  pend : ∀ p ∈ d.pend, PendOk P ops ms fr0 d p
  names : ∀ p ∈ d.pend, ∀ q ∈ d.pend, ¬ L p.i → ¬ L q.i → p.i ≠ q.i → ∀ n, layName p = some n → layName q ≠ some n
  lays : ∀ p ∈ d.pend, ¬ L p.i → ∀ n, layName p = some n → ¬ W0.res n
  le : G0.le G
  glob : G.glob = gl
  rel : Rel G ⟨W0.world, fun n => W0.res n ∨ ∃ p ∈ d.pend, ¬ L p.i ∧ layName p = some n, W0.priv⟩ d.s w
  size : a.tmps.size = fr0.n
  mixNew : ∀ t v, (∃ j o, ops[j]? = some o ∧ o.dst = some t ∧ L j) → d.fr.tmps.get t = some v → VRel G v (a.tmps.getD t undef)
  mixOld : ∀ t v, (∀ j o, ops[j]? = some o → o.dst = some t → ¬ L j) → fr0.tmps.get t = some v → VRel G v (a.tmps.getD t undef)
  globs : fr0.globs ≤ G.glob
  defers : DRel G fr0.defers a.defers
  round : RoRel G fr0.round ro

section
variable {gl : Nat} {ops : Array Oper} {ms : List Nat} {fr0 : Fr} {ro : Option Nat} {G0 : Ghost} {d : Dr} {L : Nat → Prop} {a : Act}

theorem Inv.read (hf : Fine ops ms) (h : Inv P gl ops ms fr0 W0 ro G0 d L G a w) {i : Nat} {o : Oper} {f : Fr} (ho : ops[i]? = some o) (hpre : ∀ e ∈ o.after, Region.binds .any e = true → L e.on) (hnL : ¬ L i)
    (hr : ReadsFact ops ms fr0 d.fr f i o) : ∀ t ∈ readsOf ops o, ∀ v, f.tmps.get t = some v → VRel G v (a.tmps.getD t undef) := by
  intro t ht v hv
  rcases hr t ht with ⟨j, o', ho', hd, hm, he⟩ | ⟨hall, he⟩
  · exact h.mixNew t v ⟨j, o', ho', hd, hf.sub h.closed i o ho hpre j hm⟩ (he ▸ hv)
  · refine h.mixOld t v (fun j o' ho' hd hLj => ?_) (he ▸ hv)
    rcases hall j o' ho' hd with rfl | hm
    · exact hnL hLj
    · exact hnL (hf.sub h.closed j o' ho' (h.closed j o' hLj ho') i hm)

theorem opsRel_of {f : Fr} {o : Oper} (h : Rel G W0 s w) (hg : f.globs ≤ G.glob) (hr : ∀ t ∈ readsOf ops o, ∀ v, f.tmps.get t = some v → VRel G v (a.tmps.getD t undef)) : OpsRel G f a o := by
  intro x hx v hv
  cases x with
  | tmp t =>
    refine hr t ?_ v hv
    unfold readsOf
    rw [List.mem_append, List.mem_filterMap]
    exact .inl ⟨_, hx, rfl⟩
  | const c => exact ev_sound h (fr := { f with tmps := .leaf, n := a.tmps.size }) ⟨⟨rfl, fun i x hx => by simp [Trie.get_leaf] at hx⟩, hg⟩ hv
  | global g => exact ev_sound h (fr := { f with tmps := .leaf, n := a.tmps.size }) ⟨⟨rfl, fun i x hx => by simp [Trie.get_leaf] at hx⟩, hg⟩ hv
  | func g => exact ev_sound h (fr := { f with tmps := .leaf, n := a.tmps.size }) ⟨⟨rfl, fun i x hx => by simp [Trie.get_leaf] at hx⟩, hg⟩ hv

theorem yieldedR {fr : Fr} {o : Oper} {b : Bool} (hr : ∀ t ∈ readsOf ops o, ∀ v, fr.tmps.get t = some v → VRel G v (a.tmps.getD t undef)) (h : wantedA fr ops o = some b) : Region.wanted o (yielded ops a.tmps) = b := by
  unfold wantedA at h
  unfold Region.wanted
  split at h
  · rename_i hg; cases h; rw [hg]
  · rename_i j want hg
    rw [hg]
    obtain ⟨g, hg1, h⟩ := bind_some h
    obtain ⟨d, hd, h⟩ := bind_some h
    obtain ⟨v, hv, h⟩ := bind_some h
    have hr := hr d (by unfold readsOf; rw [hg]; simp [hg1, hd]) v hv
    have hy : yielded ops a.tmps j = match a.tmps[d]? with | some (.bool b) => some b | _ => none := by
      simp only [yielded, hg1, Option.bind_some, hd]
      rfl
    simp only
    rw [hy]
    cases hq : a.tmps[d]? with
    | none =>
      simp [Array.getD_eq_getD_getElem?, hq, undef] at hr
      cases hr
      simp only at h; cases h; rfl
    | some u =>
      simp [Array.getD_eq_getD_getElem?, hq] at hr
      cases hr <;> simp only at h <;> cases h <;> rfl

/-- What the abstract frame says of an operation that is not yet carried out. -/
theorem Inv.readsNow (hf : Fine ops ms) (h : Inv P gl ops ms fr0 W0 ro G0 d L G a w) {i : Nat} {o : Oper} (ho : ops[i]? = some o) (hnd : d.done.testBit i = false) : ReadsFact ops ms fr0 d.fr d.fr i o := by
  intro t ht
  by_cases hex : ∃ (j : Nat) (o' : Oper), ops[j]? = some o' ∧ o'.dst = some t
  · obtain ⟨j, o', ho', hd⟩ := hex
    have uniq : ∀ k o'', ops[k]? = some o'' → o''.dst = some t → k = j := fun k o'' hk hdk => by
      refine Classical.byContradiction fun hne => ?_
      exact (hf.pair j o' t ho' hd k o'' hk (fun e => hne e.symm)).1 hdk
    by_cases hji : j = i
    · refine .inr ⟨fun k o'' hk hdk => .inl ((uniq k o'' hk hdk).trans hji), h.old t (fun k o'' hk hdk => ?_)⟩
      rw [uniq k o'' hk hdk, hji]; exact hnd
    · rcases (hf.pair j o' t ho' hd i o ho hji).2 ht with hm | hm
      · exact .inl ⟨j, o', ho', hd, hm, rfl⟩
      · refine .inr ⟨fun k o'' hk hdk => .inr (by rw [uniq k o'' hk hdk]; exact hm), h.old t (fun k o'' hk hdk => ?_)⟩
        rw [uniq k o'' hk hdk]
        cases hdj : d.done.testBit j with
        | false => rfl
        | true => rw [h.doneMask j hdj i hm] at hnd; cases hnd
  · exact .inr ⟨fun k o'' hk hdk => absurd ⟨k, o'', hk, hdk⟩ hex, h.old t (fun k o'' hk hdk => absurd ⟨k, o'', hk, hdk⟩ hex)⟩

theorem Fr.put_spec {fr fr' : Fr} {dst : Option Nat} {v : AVal} (h : fr.put dst v = some fr') : fr'.n = fr.n ∧ fr'.globs = fr.globs ∧ fr'.round = fr.round ∧ fr'.defers = fr.defers ∧
    (∀ t, dst ≠ some t → fr'.tmps.get t = fr.tmps.get t) ∧ (∀ t, dst = some t → t < fr.n ∧ fr'.tmps.get t = some v) := by
  cases dst with
  | none => simp only [Fr.put] at h; cases h; exact ⟨rfl, rfl, rfl, rfl, fun _ _ => rfl, fun t h => by cases h⟩
  | some d =>
    rw [Fr.put_some] at h; simp only [cond_eq_ite, Nat.blt_eq] at h
    split at h
    · rename_i hd
      cases h
      refine ⟨rfl, rfl, rfl, rfl, fun t ht => Trie.get_set_ne _ _ (fun e => ht (by rw [e])), fun t ht => ?_⟩
      cases ht
      exact ⟨hd, Trie.get_set_same _ _ _⟩
    · cases h

/-- A calm operation is carried out, here. -/
theorem Inv.calmStep (hf : Fine ops ms) (h : Inv P gl ops ms fr0 W0 ro G0 d L G a w) {i : Nat} {o : Oper} (ho : ops[i]? = some o) (hnd : d.done.testBit i = false) (hcalm : Oper.loud o = false) (hm : ∀ k, (ms.getD i 0).testBit k = true → d.done.testBit k = true)
    {v : AVal} {fr' : Fr} {s' : St} (hput : d.fr.put o.dst v = some fr') (hskip : wantedA d.fr ops o = some false → v = .tuple []) (hwant : ∃ b, wantedA d.fr ops o = some b) (hpure : Oper.pure o = true → wantedA d.fr ops o = some true → ∀ s2, evOp P d.fr o s2 = some (.val v, s2))
    (hs : s' = d.s ∧ layName ⟨i, o, d.fr, v⟩ = none ∨ ∃ obj, s' = (d.s.alloc obj).2 ∧ layName ⟨i, o, d.fr, v⟩ = some d.s.next) :
    Inv P gl ops ms fr0 W0 ro G0 { done := addBit d.done i, pend := { i, o, fr := d.fr, v } :: d.pend, fr := fr', s := s' } L G a w := by
  obtain ⟨p1, p2, p3, p4, p5, p6⟩ := Fr.put_spec hput
  have hdone : ∀ j, (addBit d.done i).testBit j = true ↔ d.done.testBit j = true ∨ i = j := fun j => by rw [addBit_test]; simp
  have hnL : ¬ L i := fun e => by rw [h.sub i e] at hnd; cases hnd
  have keep : ∀ j o' t, ops[j]? = some o' → o'.dst = some t → d.done.testBit j = true → fr'.tmps.get t = d.fr.tmps.get t := fun j o' t ho' hd hj => by
    refine p5 t (fun e => ?_)
    have hne : i ≠ j := fun e2 => by rw [e2, hj] at hnd; cases hnd
    exact (hf.pair i o t ho e j o' ho' hne).1 hd
  have hnext : d.s.next ≤ s'.next := by
    rcases hs with ⟨rfl, _⟩ | ⟨obj, rfl, _⟩
    · exact Nat.le_refl _
    · simp [St.alloc]
  refine ⟨fun j hj => (hdone j).2 (.inl (h.sub j hj)), fun j hj => ?_, fun j hj hLj => ?_, h.closed, fun j hj k hk => ?_, fun t ht => ?_, ⟨p1.trans h.same.1, p2.trans h.same.2.1, p3.trans h.same.2.2.1, p4.trans h.same.2.2.2⟩, ?_, ?_, ?_, h.le, h.glob, ?_, h.size, ?_, h.mixOld, h.globs, h.defers, h.round⟩
  · rcases (hdone j).1 hj with hj | rfl
    · exact h.lt j hj
    · exact (Array.getElem?_eq_some_iff.1 ho).1
  · rcases (hdone j).1 hj with hj | rfl
    · obtain ⟨p, hp, e⟩ := h.pendOf j hj hLj
      exact ⟨p, by simp [hp], e⟩
    · exact ⟨_, List.mem_cons_self, rfl⟩
  · rcases (hdone j).1 hj with hj | rfl
    · exact (hdone k).2 (.inl (h.doneMask j hj k hk))
    · exact (hdone k).2 (.inl (hm k hk))
  · have h1 : o.dst ≠ some t := fun e => by
      have := ht i o ho e
      rw [(hdone i).2 (.inr rfl)] at this; cases this
    show fr'.tmps.get t = _
    rw [p5 t h1]
    refine h.old t (fun j o' ho' hd => ?_)
    have := ht j o' ho' hd
    cases hj : d.done.testBit j with
    | false => rfl
    | true => rw [(hdone j).2 (.inl hj)] at this; cases this
  · intro p hp
    rcases List.mem_cons.1 hp with rfl | hp
    · refine ⟨ho, (hdone i).2 (.inr rfl), hcalm, h.same.2.1, ?_, ?_, hskip, hwant, hpure⟩
      · intro t ht
        rcases h.readsNow hf ho hnd t ht with ⟨j, o', ho', hd, hmm, _⟩ | hb
        · exact .inl ⟨j, o', ho', hd, hmm, (keep j o' t ho' hd (hm j hmm)).symm⟩
        · exact .inr hb
      · intro t ht
        have := p6 t ht
        exact ⟨h.same.1 ▸ this.1, this.2⟩
    · have hpo := h.pend p hp
      refine ⟨hpo.op, (hdone _).2 (.inl hpo.done), hpo.calm, hpo.globs, ?_, ?_, hpo.skip, hpo.want, hpo.pure⟩
      · intro t ht
        rcases hpo.reads t ht with ⟨j, o', ho', hd, hmm, he⟩ | hb
        · exact .inl ⟨j, o', ho', hd, hmm, he.trans (keep j o' t ho' hd (h.doneMask _ hpo.done j hmm)).symm⟩
        · exact .inr hb
      · intro t ht
        have := hpo.dst t ht
        exact ⟨this.1, (keep p.i p.o t hpo.op ht hpo.done).trans this.2⟩
  · intro p hp q hq hLp hLq hne n hpn hqn
    rcases List.mem_cons.1 hp with rfl | hp <;> rcases List.mem_cons.1 hq with rfl | hq
    · exact hne rfl
    · rcases hs with ⟨_, e⟩ | ⟨obj, _, e⟩
      · rw [e] at hpn; cases hpn
      · rw [e] at hpn; cases hpn
        have := (h.rel.res _ (.inr ⟨q, hq, hLq, hqn⟩)).1
        omega
    · rcases hs with ⟨_, e⟩ | ⟨obj, _, e⟩
      · rw [e] at hqn; cases hqn
      · rw [e] at hqn; cases hqn
        have := (h.rel.res _ (.inr ⟨p, hp, hLp, hpn⟩)).1
        omega
    · exact h.names p hp q hq hLp hLq hne n hpn hqn
  · intro p hp hLp n hpn hr
    rcases List.mem_cons.1 hp with rfl | hp
    · rcases hs with ⟨_, e⟩ | ⟨obj, _, e⟩
      · rw [e] at hpn; cases hpn
      · rw [e] at hpn; cases hpn
        have := (h.rel.res _ (.inl hr)).1
        omega
    · exact h.lays p hp hLp n hpn hr
  · rcases hs with ⟨rfl, e⟩ | ⟨obj, rfl, e⟩
    · refine h.rel.setRes (fun n hn => ?_)
      rcases hn with hn | ⟨p, hp, hLp, hpn⟩
      · exact h.rel.res n (.inl hn)
      · rcases List.mem_cons.1 hp with rfl | hp
        · rw [e] at hpn; cases hpn
        · exact h.rel.res n (.inr ⟨p, hp, hLp, hpn⟩)
    · refine (h.rel.name obj).setRes (fun n hn => ?_)
      have old : ∀ m, m < d.s.next ∧ G.blk m = none → m < (d.s.alloc obj).2.next ∧ G.blk m = none := fun m hm => ⟨by simp only [St.alloc]; omega, hm.2⟩
      rcases hn with hn | ⟨p, hp, hLp, hpn⟩
      · exact old n (h.rel.res n (.inl hn))
      · rcases List.mem_cons.1 hp with rfl | hp
        · rw [e] at hpn; cases hpn
          exact ⟨by simp [St.alloc], (h.rel.fresh _ (Nat.le_refl _)).1⟩
        · exact old n (h.rel.res n (.inr ⟨p, hp, hLp, hpn⟩))
  · intro t v' ⟨j, o', ho', hd, hLj⟩ hv
    exact h.mixNew t v' ⟨j, o', ho', hd, hLj⟩ ((keep j o' t ho' hd (h.sub j hLj)).symm.trans hv)

end
end Go.Ev

/- A region whose order of evaluation is open: the whole of it. -/
namespace Go.Ev
open Go.RowKit

variable {G : Ghost} {W0 : Old} {s : St} {w : World} {P : Program}
section
variable {gl : Nat} {ops : Array Oper} {ms : List Nat} {fr0 : Fr} {ro : Option Nat} {G0 : Ghost} {d : Dr} {L : Nat → Prop} {a : Act}

theorem loud_false {o : Oper} (h : Oper.loud o = false) : Oper.quiet o = true ∨ Oper.quiet o = false ∧ Oper.lays o = true := by
  unfold Oper.loud at h
  cases hq : Oper.quiet o with
  | true => exact .inl rfl
  | false => rw [hq] at h; simp at h; exact .inr ⟨rfl, h⟩

theorem Inv.calmOne (hf : Fine ops ms) (h : Inv P gl ops ms fr0 W0 ro G0 d L G a w) {i : Nat} {o : Oper} (ho : ops[i]? = some o) (hnd : d.done.testBit i = false) (hcalm : Oper.loud o = false) (hm : subBits (ms.getD i 0) d.done = true)
    {d' : Dr} (he : calmOne P ops o i d = some d') : Inv P gl ops ms fr0 W0 ro G0 d' L G a w ∧ d'.done = addBit d.done i := by
  have hm' : ∀ k, (ms.getD i 0).testBit k = true → d.done.testBit k = true := fun k hk => subBits_test hm hk
  unfold Ev.calmOne at he
  split at he
  · rename_i hw
    split at he
    · rename_i v s' hev
      split at he
      · rename_i fr' hput
        cases he
        refine ⟨h.calmStep hf ho hnd hcalm hm' hput (fun e => by rw [hw] at e; cases e) ⟨_, hw⟩ (fun hpu _ => pure_state hpu hev) ?_, rfl⟩
        rcases loud_false hcalm with hq | ⟨hq, hl⟩
        · exact .inl ⟨quiet_state hq hev, by simp [layName, hq]⟩
        · obtain ⟨obj, hs', name, hv, hn, _⟩ := lay_spec hl hev
          refine .inr ⟨obj, hs', ?_⟩
          subst hv
          rcases hn with rfl | rfl <;> simp [layName, hq, nameOf]
      · cases he
    · cases he
  · rename_i hw
    split at he
    · rename_i fr' hput
      cases he
      refine ⟨h.calmStep hf ho hnd hcalm hm' hput (fun _ => rfl) ⟨_, hw⟩ (fun _ e => by rw [hw] at e; cases e) (.inl ⟨rfl, ?_⟩), rfl⟩
      simp [layName, nameOf]
    · cases he
  · cases he

theorem Inv.calmOnes (hf : Fine ops ms) : ∀ (l : List (Oper × Nat)) {d d' : Dr}, Inv P gl ops ms fr0 W0 ro G0 d L G a w → (∀ x ∈ l, ops[x.2]? = some x.1) → Ev.calmOnes P ops ms l d = some d' →
    Inv P gl ops ms fr0 W0 ro G0 d' L G a w ∧ (∀ j, d.done.testBit j = true → d'.done.testBit j = true) ∧ (∀ j, d'.done.testBit j = true → d.done.testBit j = true ∨ ∃ x ∈ l, x.2 = j ∧ Oper.loud x.1 = false) ∧
      (l.Pairwise (fun x y => x.2 < y.2) → ∀ x ∈ l, Oper.loud x.1 = false → (∀ k, (ms.getD x.2 0).testBit k = true → d'.done.testBit k = true) → d'.done.testBit x.2 = true)
  | [], d, d', h, _, he => by
    simp only [Ev.calmOnes] at he; cases he
    exact ⟨h, fun _ hj => hj, fun _ hj => .inl hj, fun _ x hx => by cases hx⟩
  | (o, i) :: l, d, d', h, hl, he => by
    have ho : ops[i]? = some o := hl _ List.mem_cons_self
    have hl' : ∀ x ∈ l, ops[x.2]? = some x.1 := fun x hx => hl x (List.mem_cons_of_mem _ hx)
    simp only [Ev.calmOnes] at he
    split at he
    · rename_i hc
      obtain ⟨h1, h2, h3, h4⟩ := Inv.calmOnes hf l h hl' he
      refine ⟨h1, h2, fun j hj => ?_, fun hp x hx hcx hmx => ?_⟩
      · rcases h3 j hj with h3 | ⟨x, hx, e⟩
        · exact .inl h3
        · exact .inr ⟨x, List.mem_cons_of_mem _ hx, e⟩
      · rw [List.pairwise_cons] at hp
        rcases List.mem_cons.1 hx with rfl | hx
        · simp only [Bool.or_eq_true, Bool.not_eq_true'] at hc
          rcases hc with (hc | hc) | hc
          · exact h2 _ hc
          · rw [hcx] at hc; cases hc
          · exfalso
            have : subBits (ms.getD i 0) d.done = true := subBits_of (fun k hk => by
              rcases h3 k (hmx k hk) with h3 | ⟨y, hy, e, _⟩
              · exact h3
              · have h5 := hp.1 y hy
                have h6 := hf.lt ho hk
                simp only at h5
                omega)
            rw [this] at hc; cases hc
        · exact h4 hp.2 x hx hcx hmx
    · rename_i hc
      simp only [Bool.or_eq_true, Bool.not_eq_true', not_or, Bool.not_eq_true, Bool.not_eq_false] at hc
      split at he
      · rename_i d1 hd1
        obtain ⟨hI, hdn⟩ := h.calmOne hf ho hc.1.1 hc.1.2 hc.2 hd1
        obtain ⟨h1, h2, h3, h4⟩ := Inv.calmOnes hf l hI hl' he
        refine ⟨h1, fun j hj => h2 j (by rw [hdn, addBit_test, hj]; rfl), fun j hj => ?_, fun hp x hx hcx hmx => ?_⟩
        · rcases h3 j hj with h3 | ⟨x, hx, e⟩
          · rw [hdn, addBit_test] at h3
            simp only [Bool.or_eq_true, decide_eq_true_eq] at h3
            rcases h3 with h3 | rfl
            · exact .inl h3
            · exact .inr ⟨_, List.mem_cons_self, rfl, hc.1.2⟩
          · exact .inr ⟨x, List.mem_cons_of_mem _ hx, e⟩
        · rw [List.pairwise_cons] at hp
          rcases List.mem_cons.1 hx with rfl | hx
          · exact h2 _ (by rw [hdn, addBit_test]; simp)
          · exact h4 hp.2 x hx hcx hmx
      · cases he

theorem stepOp_sound2 {r : Ev} (hc : SoundCode P r) (hk : SoundCall P r) (h : Rel G W0 s w) (hgl : G.glob = r.globs) {ro : Option Nat} {fr : Fr} {a : Act}
    {o : Oper} (hread : ∀ t ∈ readsOf ops o, ∀ v, fr.tmps.get t = some v → VRel G v (a.tmps.getD t undef)) (hgb : fr.globs ≤ G.glob) {v : AVal} {s' : St} (he : stepOp P r ops o fr s = some (v, s')) {next : Act → World → Prop} {Q : Exit → Act → World → Prop}
    (hnext : ∀ G' w' u, G.le G' → Rel G' W0 s' w' → VRel G' v u → next (a.put o.dst u) w') :
    if Region.wanted o (yielded ops a.tmps) = true then o.wpIn (FF ro) 0 P a w next Q else (∀ f, o.about P w a.eval = some f → (FF ro).fn f) ∧ next (a.put o.dst undef) w := by
  rw [stepOp_eq] at he
  unfold stepOpM at he
  obtain ⟨b, hb, he⟩ := bind_some he
  rw [yieldedR hread hb]
  cases b with
  | false =>
    simp at he; obtain ⟨rfl, rfl⟩ := he
    rw [if_neg (by simp)]
    exact ⟨about_any ro o a, hnext G w undef (Ghost.le_refl G) h (.undef G)⟩
  | true =>
    rw [if_pos rfl]
    rw [if_pos rfl] at he
    obtain ⟨⟨out, s1⟩, h1, he2⟩ := bind_some he
    clear he
    refine ⟨about_any ro o a, ?_⟩
    show o.uponIn (FF ro) 0 P a next Q ((o.semAt ro a.eval).run P w)
    rw [Oper.semAt_eq _ _ _ (evOp_noDefer h1)]
    have hs := evOp_sound h h1 (opsRel_of h hgb hread)
    cases out with
    | val x =>
      simp [runOut] at he2; obtain ⟨rfl, rfl⟩ := he2
      obtain ⟨G', w', nx, u, hle, hr, hnx, hrel, hv⟩ := hs
      rw [hr]
      rcases hnx with rfl | ⟨rfl, rfl⟩
      · exact hnext G' w' u hle hrel hv
      · exact hnext G' w' undef hle hrel hv
    | call f args =>
      obtain ⟨rfl, us, hr, hus⟩ := hs
      rw [hr]
      refine ⟨FF_depth ro, ?_⟩
      refine CallsIn.mono (hk f args _ _ _ he2 G W0 w us ro h hgl hus) ?_
      rintro e w' ⟨G', u, hle, rfl, hrel, hv⟩
      exact hnext G' w' u hle hrel hv
    | round l args =>
      obtain ⟨rfl, rb, us, hl, hr, hus⟩ := hs
      obtain ⟨f, tmps, assign, body, hy, hround⟩ := round_sound hc h hgl hl hus he2 ro
      rw [hr, hy]
      refine ⟨FF_depth ro, RoundIn.mono hround ?_⟩
      rintro e w' ⟨G', u, hle, rfl, hrel, hv⟩
      exact hnext G' w' u hle hrel hv

theorem Act.put_tmps (a : Act) (dst : Option Tmp) (u : Value) : (a.put dst u).tmps = (match dst with | some t => a.tmps.setIfInBounds t u | none => a.tmps) ∧ (a.put dst u).defers = a.defers := by
  cases dst <;> exact ⟨rfl, rfl⟩
theorem Act.put_size (a : Act) (dst : Option Tmp) (u : Value) : (a.put dst u).tmps.size = a.tmps.size := by
  rw [(Act.put_tmps a dst u).1]; cases dst <;> simp
theorem Act.put_ne (a : Act) (dst : Option Tmp) (u : Value) {t : Nat} (h : dst ≠ some t) : (a.put dst u).tmps.getD t undef = a.tmps.getD t undef := by
  rw [(Act.put_tmps a dst u).1]
  cases dst with
  | none => rfl
  | some d => 
    have : d ≠ t := fun e => h (by rw [e])
    simp only [Array.getD_eq_getD_getElem?]
    rw [Array.getElem?_setIfInBounds_ne this]
theorem Act.put_same (a : Act) {t : Nat} (u : Value) (h : t < a.tmps.size) : (a.put (some t) u).tmps.getD t undef = u := by
  rw [(Act.put_tmps a _ u).1]
  simp [Array.getD_eq_getD_getElem?, h]

/-- An operation that was carried out here is carried out there: what is left to say of it. -/
theorem Inv.mark (hf : Fine ops ms) (h : Inv P gl ops ms fr0 W0 ro G0 d L G a w) {i : Nat} {o : Oper} (ho : ops[i]? = some o) (hpre : ∀ e ∈ o.after, Region.binds .any e = true → L e.on) (hnL : ¬ L i) {p : Pend} (hp : p ∈ d.pend) (hpi : p.i = i)
    {G' : Ghost} {w' : World} {u : Value} (hle : ∀ {x : AVal} {v : Value}, VRel G x v → VRel G' x v) (hle0 : G0.le G') (hgl : G'.glob = G.glob) (hdr : DRel G' fr0.defers a.defers) (hro : RoRel G' fr0.round ro)
    (hrel : Rel G' ⟨W0.world, fun n => W0.res n ∨ ∃ q ∈ d.pend, ¬ (L q.i ∨ q.i = i) ∧ layName q = some n, W0.priv⟩ d.s w') (hv : VRel G' p.v u) :
    Inv P gl ops ms fr0 W0 ro G0 d (fun j => L j ∨ j = i) G' (a.put o.dst u) w' := by
  have hpo := h.pend p hp
  have hop : p.o = o := by have := hpo.op; rw [hpi, ho] at this; exact (Option.some.inj this).symm
  refine ⟨fun j hj => ?_, h.lt, fun j hj hLj => h.pendOf j hj (fun e => hLj (.inl e)), fun j o' hj ho' e he hb => ?_, h.doneMask, h.old, h.same, h.pend, fun p hp q hq hLp hLq => h.names p hp q hq (fun e => hLp (.inl e)) (fun e => hLq (.inl e)), fun p hp hLp => h.lays p hp (fun e => hLp (.inl e)), hle0, hgl.trans h.glob, hrel, by rw [Act.put_size]; exact h.size, ?_, ?_, by rw [hgl]; exact h.globs, ?_, hro⟩
  · rcases hj with hj | rfl
    · exact h.sub j hj
    · rw [← hpi]; exact hpo.done
  · rcases hj with hj | rfl
    · exact .inl (h.closed j o' hj ho' e he hb)
    · rw [ho] at ho'; cases ho'; exact .inl (hpre e he hb)
  · intro t v ⟨j, o', ho', hd, hLj⟩ hv'
    by_cases hdt : o.dst = some t
    · have := hpo.dst t (hop ▸ hdt)
      rw [this.2] at hv'; cases hv'
      rw [hdt, Act.put_same _ _ (by rw [h.size]; exact this.1)]
      exact hv
    · rw [Act.put_ne _ _ _ hdt]
      refine hle (h.mixNew t v ⟨j, o', ho', hd, ?_⟩ hv')
      rcases hLj with hLj | rfl
      · exact hLj
      · rw [ho] at ho'; cases ho'; exact absurd hd hdt
  · intro t v hall hv'
    by_cases hdt : o.dst = some t
    · exact absurd (.inr rfl) (hall i o ho hdt)
    · rw [Act.put_ne _ _ _ hdt]
      exact hle (h.mixOld t v (fun j o' ho' hd hLj => hall j o' ho' hd (.inl hLj)) hv')
  · rw [(Act.put_tmps a o.dst u).2]; exact hdr

/-- A calm operation is carried out, there. -/
theorem Inv.later (hf : Fine ops ms) (h : Inv P gl ops ms fr0 W0 ro G0 d L G a w) {i : Nat} {o : Oper} (ho : ops[i]? = some o) (hpre : ∀ e ∈ o.after, Region.binds .any e = true → L e.on) (hnL : ¬ L i) {p : Pend} (hp : p ∈ d.pend) (hpi : p.i = i)
    (hst : stillOk P ops d.s p = true) {next : Act → World → Prop} {Q : Exit → Act → World → Prop} (hnext : ∀ G' a' w', Inv P gl ops ms fr0 W0 ro G0 d (fun j => L j ∨ j = i) G' a' w' → next a' w') :
    if Region.wanted o (yielded ops a.tmps) = true then o.wpIn (FF ro) 0 P a w next Q else (∀ f, o.about P w a.eval = some f → (FF ro).fn f) ∧ next (a.put o.dst undef) w := by
  have hpo := h.pend p hp
  have hop : p.o = o := by have := hpo.op; rw [hpi, ho] at this; exact (Option.some.inj this).symm
  have hread := h.read hf ho hpre hnL (f := p.fr) (by have := hpo.reads; rw [hpi, hop] at this; exact this)
  have hgb : p.fr.globs ≤ G.glob := by rw [hpo.globs]; exact h.globs
  have weak : Rel G ⟨W0.world, fun n => W0.res n ∨ ∃ q ∈ d.pend, ¬ (L q.i ∨ q.i = i) ∧ layName q = some n, W0.priv⟩ d.s w := h.rel.setRes (fun n hn => by
    rcases hn with hn | ⟨q, hq, hLq, hqn⟩
    · exact h.rel.res n (.inl hn)
    · exact h.rel.res n (.inr ⟨q, hq, fun e => hLq (.inl e), hqn⟩))
  unfold stillOk at hst
  rw [hop] at hst
  have skipped : wantedA p.fr ops o = some false → if Region.wanted o (yielded ops a.tmps) = true then o.wpIn (FF ro) 0 P a w next Q else (∀ f, o.about P w a.eval = some f → (FF ro).fn f) ∧ next (a.put o.dst undef) w := fun hw => by
    rw [yieldedR hread hw, if_neg (by simp)]
    refine ⟨about_any ro o a, hnext G _ w (h.mark hf ho hpre hnL hp hpi (fun x => x) h.le rfl h.defers h.round weak ?_)⟩
    rw [hpo.skip (by rw [hop]; exact hw)]
    exact .undef G
  split at hst
  · rename_i hpu
    obtain ⟨b, hw⟩ := hpo.want
    rw [hop] at hw
    cases b with
    | false => exact skipped hw
    | true =>
      rw [yieldedR hread hw, if_pos rfl]
      have hev := hpo.pure (by rw [hop]; exact hpu) (by rw [hop]; exact hw) d.s
      rw [hop] at hev
      refine ⟨about_any ro o a, ?_⟩
      show o.uponIn (FF ro) 0 P a next Q ((o.semAt ro a.eval).run P w)
      rw [Oper.semAt_eq _ _ _ (evOp_noDefer hev)]
      obtain ⟨G', w', nx, u, hle, hr, hnx, hrel, hv⟩ := evOp_sound weak hev (opsRel_of weak hgb hread)
      rw [hr]
      have fin := hnext G' (a.put o.dst u) w' (h.mark hf ho hpre hnL hp hpi (fun x => x.mono hle) (h.le.le_trans hle) hle.glob (h.defers.mono hle) (h.round.mono hle) hrel hv)
      rcases hnx with rfl | ⟨rfl, rfl⟩
      · exact fin
      · exact fin
  rename_i hnpu
  split at hst
  · rename_i hw
    exact skipped hw
  · rename_i hw
    rw [yieldedR hread hw, if_pos rfl]
    split at hst
    · rename_i v s' hev
      refine ⟨about_any ro o a, ?_⟩
      show o.uponIn (FF ro) 0 P a next Q ((o.semAt ro a.eval).run P w)
      rw [Oper.semAt_eq _ _ _ (evOp_noDefer hev)]
      have hor := opsRel_of weak hgb hread
      split at hst
      · rename_i hq
        obtain ⟨G', w', nx, u, hle, hr, hnx, hrel, hv⟩ := evOp_sound weak hev hor
        rw [hr]
        rw [quiet_state hq hev] at hrel
        have fin := hnext G' (a.put o.dst u) w' (h.mark hf ho hpre hnL hp hpi (fun x => x.mono hle) (h.le.le_trans hle) hle.glob (h.defers.mono hle) (h.round.mono hle) hrel (same_sound _ _ _ _ hst hv))
        rcases hnx with rfl | ⟨rfl, rfl⟩
        · exact fin
        · exact fin
      · rename_i hq
        have hcalm := hpo.calm
        rw [hop] at hcalm
        have hl : Oper.lays o = true := by
          rcases loud_false hcalm with h1 | h1
          · exact absurd h1 hq
          · exact h1.2
        obtain ⟨obj, hs', name, hv, hn, hall⟩ := lay_spec hl hev
        obtain ⟨c, u, hrun, horel, hfrz, hval⟩ := hall G _ w d.s a weak hor
        rw [hrun]
        have hgo : ∀ n o', layName p = some n → p.v = name n → d.s.heap.get n = some o' → sameObj (some obj) (some o') = true → o.uponIn (FF ro) 0 P a next Q (.ok (.value u) (w.alloc c)) := by
          intro n o' hln hpv hg hsame
          have hnres : ¬ (W0.res n ∨ ∃ q ∈ d.pend, ¬ (L q.i ∨ q.i = i) ∧ layName q = some n) := by
            rintro (hr | ⟨q, hq, hLq, hqn⟩)
            · exact h.lays p hp (by rw [hpi]; exact hnL) n hln hr
            · exact h.names p hp q hq (by rw [hpi]; exact hnL) (fun e => hLq (.inl e)) (fun e => hLq (.inr (by rw [← e, hpi]))) n hln hqn
          have hun := h.rel.res n (.inr ⟨p, hp, by rw [hpi]; exact hnL, hln⟩)
          have hle : G.le (G.setBlk n w.heap.size) := Ghost.le_setBlk hun.2
          have hrel := weak.lay hun.1 hnres hun.2 hg (c := c) (sameObj_sound hsame (horel _ hle)) hfrz
          refine hnext _ _ _ (h.mark hf ho hpre hnL hp hpi (fun x => x.mono hle) (h.le.le_trans hle) hle.glob (h.defers.mono hle) (h.round.mono hle) hrel ?_)
          rw [hpv]
          exact hval _ n (Ghost.setBlk_same _ _ _)
        subst hs'
        rcases hn with rfl | rfl
        · subst hv
          split at hst
          · rename_i m n hm hpv
            cases hm
            simp only [St.alloc, Trie.get_set_same] at hst
            cases hg : d.s.heap.get n with
            | none => rw [hg] at hst; simp [sameObj] at hst
            | some o' => exact hgo n o' (by simp [layName, hop, hq, hpv, nameOf]) hpv hg (hg ▸ hst)
          · rename_i hm _; cases hm
          · cases hst
        · subst hv
          split at hst
          · rename_i hm _; cases hm
          · rename_i m n hm hpv
            cases hm
            simp only [St.alloc, Trie.get_set_same] at hst
            cases hg : d.s.heap.get n with
            | none => rw [hg] at hst; simp [sameObj] at hst
            | some o' => exact hgo n o' (by simp [layName, hop, hq, hpv, nameOf]) hpv hg (hg ▸ hst)
          · cases hst
    · cases hst
  · cases hst

end
end Go.Ev

/- A region whose order of evaluation is open: every order leads there. -/
namespace Go.Ev
open Go.RowKit

variable {G : Ghost} {W0 : Old} {s : St} {w : World} {P : Program}
section
variable {gl : Nat} {ops : Array Oper} {ms : List Nat} {fr0 : Fr} {ro : Option Nat} {G0 : Ghost} {d : Dr} {L : Nat → Prop} {a : Act}

theorem Inv.loud (hf : Fine ops ms) (h : Inv P gl ops ms fr0 W0 ro G0 d L G a w) {i : Nat} {o : Oper} (ho : ops[i]? = some o) (hpre : ∀ e ∈ o.after, Region.binds .any e = true → L e.on) (hnd : d.done.testBit i = false)
    {v : AVal} {fr1 : Fr} {s1 : St} (hput : d.fr.put o.dst v = some fr1) {G1 : Ghost} {w1 : World} {u : Value} (hle : G.le G1)
    (hrel : Rel G1 ⟨W0.world, fun n => W0.res n ∨ ∃ p ∈ d.pend, ¬ L p.i ∧ layName p = some n, W0.priv⟩ s1 w1) (hv : VRel G1 v u) :
    Inv P gl ops ms fr0 W0 ro G0 { done := addBit d.done i, pend := d.pend.filter (fun p => !(ms.getD i 0).testBit p.i), fr := fr1, s := s1 } (fun j => L j ∨ j = i) G1 (a.put o.dst u) w1 := by
  obtain ⟨p1, p2, p3, p4, p5, p6⟩ := Fr.put_spec hput
  have hdone : ∀ j, (addBit d.done i).testBit j = true ↔ d.done.testBit j = true ∨ i = j := fun j => by rw [addBit_test]; simp
  have hnL : ¬ L i := fun e => by rw [h.sub i e] at hnd; cases hnd
  have keep : ∀ j o' t, ops[j]? = some o' → o'.dst = some t → d.done.testBit j = true → fr1.tmps.get t = d.fr.tmps.get t := fun j o' t ho' hd hj => by
    refine p5 t (fun e => ?_)
    have hne : i ≠ j := fun e2 => by rw [e2, hj] at hnd; cases hnd
    exact (hf.pair i o t ho e j o' ho' hne).1 hd
  have fil : ∀ p, p ∈ d.pend.filter (fun p => !(ms.getD i 0).testBit p.i) → p ∈ d.pend := fun p hp => (List.mem_filter.1 hp).1
  refine ⟨fun j hj => ?_, fun j hj => ?_, fun j hj hLj => ?_, fun j o' hj ho' e he hb => ?_, fun j hj k hk => ?_, fun t ht => ?_, ⟨p1.trans h.same.1, p2.trans h.same.2.1, p3.trans h.same.2.2.1, p4.trans h.same.2.2.2⟩, ?_,
    fun p hp q hq hLp hLq => h.names p (fil p hp) q (fil q hq) (fun e => hLp (.inl e)) (fun e => hLq (.inl e)), fun p hp hLp => h.lays p (fil p hp) (fun e => hLp (.inl e)), h.le.le_trans hle, hle.glob.trans h.glob, ?_, by rw [Act.put_size]; exact h.size, ?_, ?_, by rw [hle.glob]; exact h.globs,
    by rw [(Act.put_tmps a o.dst u).2]; exact h.defers.mono hle, h.round.mono hle⟩
  · rcases hj with hj | rfl
    · exact (hdone j).2 (.inl (h.sub j hj))
    · exact (hdone j).2 (.inr rfl)
  · rcases (hdone j).1 hj with hj | rfl
    · exact h.lt j hj
    · exact (Array.getElem?_eq_some_iff.1 ho).1
  · rcases (hdone j).1 hj with hj | rfl
    · obtain ⟨p, hp, e⟩ := h.pendOf j hj (fun e => hLj (.inl e))
      refine ⟨p, List.mem_filter.2 ⟨hp, ?_⟩, e⟩
      simp only [Bool.not_eq_true']
      cases hm : (ms.getD i 0).testBit p.i with
      | false => rfl
      | true => exact absurd (hf.sub h.closed i o ho hpre _ hm) (fun e2 => hLj (.inl (e ▸ e2)))
    · exact absurd (.inr rfl) hLj
  · rcases hj with hj | rfl
    · exact .inl (h.closed j o' hj ho' e he hb)
    · rw [ho] at ho'; cases ho'; exact .inl (hpre e he hb)
  · rcases (hdone j).1 hj with hj | rfl
    · exact (hdone k).2 (.inl (h.doneMask j hj k hk))
    · exact (hdone k).2 (.inl (h.sub k (hf.sub h.closed _ o ho hpre k hk)))
  · have h1 : o.dst ≠ some t := fun e => by
      have := ht i o ho e
      rw [(hdone i).2 (.inr rfl)] at this; cases this
    show fr1.tmps.get t = _
    rw [p5 t h1]
    refine h.old t (fun j o' ho' hd => ?_)
    have := ht j o' ho' hd
    cases hj : d.done.testBit j with
    | false => rfl
    | true => rw [(hdone j).2 (.inl hj)] at this; cases this
  · intro p hp
    have hpo := h.pend p (fil p hp)
    refine ⟨hpo.op, (hdone _).2 (.inl hpo.done), hpo.calm, hpo.globs, ?_, ?_, hpo.skip, hpo.want, hpo.pure⟩
    · intro t ht
      rcases hpo.reads t ht with ⟨j, o', ho', hd, hmm, he⟩ | hb
      · exact .inl ⟨j, o', ho', hd, hmm, he.trans (keep j o' t ho' hd (h.doneMask _ hpo.done j hmm)).symm⟩
      · exact .inr hb
    · intro t ht
      have := hpo.dst t ht
      exact ⟨this.1, (keep p.i p.o t hpo.op ht hpo.done).trans this.2⟩
  · refine hrel.setRes (fun n hn => ?_)
    rcases hn with hn | ⟨p, hp, hLp, hpn⟩
    · exact hrel.res n (.inl hn)
    · exact hrel.res n (.inr ⟨p, fil p hp, fun e => hLp (.inl e), hpn⟩)
  · intro t v' ⟨j, o', ho', hd, hLj⟩ hv'
    by_cases hdt : o.dst = some t
    · have := p6 t hdt
      have e : fr1.tmps.get t = some v' := hv'
      rw [this.2] at e; cases e
      rw [hdt, Act.put_same _ _ (by rw [h.size, ← h.same.1]; exact this.1)]
      exact hv
    · rw [Act.put_ne _ _ _ hdt]
      have e : fr1.tmps.get t = some v' := hv'
      rw [p5 t hdt] at e
      refine (h.mixNew t v' ⟨j, o', ho', hd, ?_⟩ e).mono hle
      rcases hLj with hLj | rfl
      · exact hLj
      · rw [ho] at ho'; cases ho'; exact absurd hd hdt
  · intro t v' hall hv'
    by_cases hdt : o.dst = some t
    · exact absurd (.inr rfl) (hall i o ho hdt)
    · rw [Act.put_ne _ _ _ hdt]
      exact (h.mixOld t v' (fun j o' ho' hd hLj => hall j o' ho' hd (.inl hLj)) hv').mono hle

/-- The calm operations are all carried out, as far as can be. -/
structure Calm (P : Program) (ops : Array Oper) (ms : List Nat) (d : Dr) : Prop where
  still : ∀ p ∈ d.pend, stillOk P ops d.s p = true
  all : ∀ i o, ops[i]? = some o → Oper.loud o = false → (∀ k, (ms.getD i 0).testBit k = true → d.done.testBit k = true) → d.done.testBit i = true

theorem zip_mem {i : Nat} {o : Oper} : (o, i) ∈ ops.toList.zipIdx ↔ ops[i]? = some o := by rw [List.mem_zipIdx_iff_getElem?]; simp
theorem zip_sorted : ∀ (l : List Oper) (k : Nat), (l.zipIdx k).Pairwise (fun x y => x.2 < y.2)
  | [], k => by simp
  | o :: l, k => by
    rw [List.zipIdx_cons, List.pairwise_cons]
    refine ⟨fun y hy => ?_, zip_sorted l (k + 1)⟩
    have := List.le_snd_of_mem_zipIdx hy
    simp only; omega

theorem Inv.calmAll (hf : Fine ops ms) {d d' : Dr} (h : Inv P gl ops ms fr0 W0 ro G0 d L G a w) (he : Ev.calmAll P ops ms ops.toList.zipIdx d = some d') :
    Inv P gl ops ms fr0 W0 ro G0 d' L G a w ∧ Calm P ops ms d' ∧ (∀ j o, ops[j]? = some o → Oper.loud o = true → d'.done.testBit j = d.done.testBit j) := by
  unfold Ev.calmAll at he
  split at he
  · rename_i d1 h1
    split at he
    · rename_i hst
      cases he
      obtain ⟨hI, h2, h3, h4⟩ := h.calmOnes hf _ (fun x hx => zip_mem.1 hx) h1
      refine ⟨hI, ⟨fun p hp => List.all_eq_true.1 hst p hp, fun i o ho hcalm hm => h4 (zip_sorted _ _) (o, i) (zip_mem.2 ho) hcalm hm⟩, fun j o ho hl => ?_⟩
      cases hj : d.done.testBit j with
      | true => exact h2 j hj
      | false =>
        cases hj' : d'.done.testBit j with
        | false => rfl
        | true =>
          rcases h3 j hj' with h3 | ⟨x, hx, e, hlx⟩
          · rw [h3] at hj; cases hj
          · have := zip_mem.1 hx
            rw [e, ho] at this; cases this
            rw [hl] at hlx; cases hlx
    · cases he
  · cases he

theorem listed_set {listed : Array Bool} {i : Nat} (hi : i < listed.size) (j : Nat) : (listed.setIfInBounds i true).getD j false = true ↔ listed.getD j false = true ∨ j = i := by
  by_cases e : i = j
  · subst e; simp [hi]
  · rw [getD_set_ne false e]
    constructor
    · exact fun h => .inl h
    · rintro (h | rfl)
      · exact h
      · exact absurd rfl e

theorem Inv.congrL {L' : Nat → Prop} (h : Inv P gl ops ms fr0 W0 ro G0 d L G a w) (hL : ∀ j, L' j ↔ L j) : Inv P gl ops ms fr0 W0 ro G0 d L' G a w := by
  have : L' = L := funext fun j => propext (hL j)
  rw [this]; exact h

theorem draw_end {dEnd : Dr} {Q : Exit → Act → World → Prop} (hq : ∀ G' a' w', G0.le G' → Rel G' W0 dEnd.s w' → ARel G' ro dEnd.fr a' → Q .normal a' w') {r : Ev} {rest : List (Oper × Nat)}
    (h : Inv P gl ops ms fr0 W0 ro G0 d L G a w) (all : ∀ j, j < ops.size → L j) (hl : loudOnes P r ops ms ops.toList.zipIdx rest d = some dEnd) (hr2 : ∀ x ∈ rest, ops[x.2]? = some x.1 ∧ Oper.loud x.1 = true ∧ d.done.testBit x.2 = false) : Q .normal a w := by
  have hrest : rest = [] := by
    cases rest with
    | nil => rfl
    | cons x rest =>
      have := hr2 x List.mem_cons_self
      have hlt := (Array.getElem?_eq_some_iff.1 this.1).1
      have h2 := this.2.2
      rw [h.sub _ (all _ hlt)] at h2; cases h2
  subst hrest
  simp only [loudOnes] at hl; cases hl
  refine hq G a w h.le ?_ ⟨⟨⟨?_, fun t v hv => ?_⟩, ?_⟩, ?_, ?_⟩
  · have := h.rel.setRes (R' := W0.res) (fun n hn => h.rel.res n (.inl hn))
    exact this
  · rw [h.size]; exact h.same.1.symm
  · by_cases hex : ∃ (j : Nat) (o : Oper), ops[j]? = some o ∧ o.dst = some t
    · obtain ⟨j, o, ho, hd⟩ := hex
      exact h.mixNew t v ⟨j, o, ho, hd, all j (Array.getElem?_eq_some_iff.1 ho).1⟩ hv
    · rw [h.old t (fun j o ho hd => absurd ⟨j, o, ho, hd⟩ hex)] at hv
      exact h.mixOld t v (fun j o ho hd => absurd ⟨j, o, ho, hd⟩ hex) hv
  · rw [h.same.2.1]; exact h.globs
  · rw [h.same.2.2.2]; exact h.defers
  · rw [h.same.2.2.1]; exact h.round

theorem ready_all (hf : Fine ops ms) {listed : Array Bool} (hsz : listed.size = ops.size) (hr : Region.ready .any ops listed = []) : ∀ j, j < ops.size → listed.getD j false = true := by
  intro j
  induction j using Nat.strongRecOn with
  | ind j ih =>
    intro hj
    refine Classical.byContradiction fun hn => ?_
    have ho : ops[j]? = some (ops[j]'hj) := Array.getElem?_eq_getElem hj
    have : j ∈ Region.ready .any ops listed := by
      refine mem_ready.2 ⟨?_, _, ho, fun e he hb => ?_⟩
      · have hjl : j < listed.size := by omega
        simp [hjl] at hn ⊢; exact hn
      · have := hf.back j _ ho e he hb
        exact ih e.on this (by omega)
    rw [hr] at this; cases this

theorem draw_main {r : Ev} (hc : SoundCode P r) (hk : SoundCall P r) (hf : Fine ops ms) {dEnd : Dr} {Q : Exit → Act → World → Prop} (hq : ∀ G' a' w', G0.le G' → Rel G' W0 dEnd.s w' → ARel G' ro dEnd.fr a' → Q .normal a' w') :
    ∀ (fuel : Nat) (listed : Array Bool) (rest : List (Oper × Nat)) (d : Dr) (G : Ghost) (a : Act) (w : World), Inv P r.globs ops ms fr0 W0 ro G0 d (fun j => listed.getD j false = true) G a w → Calm P ops ms d → loudOnes P r ops ms ops.toList.zipIdx rest d = some dEnd →
      (∀ i o, ops[i]? = some o → Oper.loud o = true → listed.getD i false ≠ true → (o, i) ∈ rest) → (∀ x ∈ rest, ops[x.2]? = some x.1 ∧ Oper.loud x.1 = true ∧ d.done.testBit x.2 = false) → rest.Pairwise (fun x y => x.2 < y.2) →
      listed.size = ops.size → listed.toList.count false ≤ fuel → wpAnyIn (FF ro) 0 P .any ops Q fuel listed a w := by
  intro fuel
  induction fuel with
  | zero =>
    intro listed rest d G a w h hcalm hl hr1 hr2 hsort hsz hcount
    have all : ∀ j, j < ops.size → listed.getD j false = true := fun j hj => by
      have hjl : j < listed.size := by omega
      have : false ∉ listed.toList := List.count_eq_zero.1 (by omega)
      have hm : listed[j] ∈ listed.toList := by simp
      cases hb : listed[j] with
      | true => simp [hjl, hb]
      | false => rw [hb] at hm; exact absurd hm this
    have hready : Region.ready .any ops listed = [] := by
      rw [List.eq_nil_iff_forall_not_mem]
      intro j hj
      obtain ⟨hun, o, ho, _⟩ := mem_ready.1 hj
      have hjl := (Array.getElem?_eq_some_iff.1 ho).1
      have := all j hjl
      simp [show j < listed.size by omega] at this hun
      rw [this] at hun; cases hun
    exact ⟨hready, draw_end hq h all hl hr2⟩
  | succ fuel ih =>
    intro listed rest d G a w h hcalm hl hr1 hr2 hsort hsz hcount
    refine ⟨fun hr => draw_end hq h (ready_all hf hsz hr) hl hr2, fun i hi => ?_⟩
    obtain ⟨hun, o, ho, hpre⟩ := mem_ready.1 hi
    have hilt := (Array.getElem?_eq_some_iff.1 ho).1
    have hil : i < listed.size := by omega
    have hnL : ¬ listed.getD i false = true := by
      simp [hil] at hun ⊢; exact hun
    have hset : ∀ j, (listed.setIfInBounds i true).getD j false = true ↔ (listed.getD j false = true ∨ j = i) := listed_set hil
    have hcount' : (listed.setIfInBounds i true).toList.count false ≤ fuel := by
      have h1 : listed.toList[i]'(by simpa using hil) = false := by simp [hil] at hun; simpa using hun
      rw [Array.toList_setIfInBounds, List.count_set (by simpa using hil), h1]
      have : 0 < listed.toList.count false := List.count_pos_iff.2 (by rw [← h1]; exact List.getElem_mem _)
      have e1 : (false == false) = true := rfl
      have e2 : ¬ ((true == false) = true) := by decide
      rw [if_pos e1, if_neg e2]
      omega
    have hsz' : (listed.setIfInBounds i true).size = ops.size := by simpa using hsz
    unfold wpOpIn
    rw [ho]
    cases hloud : Oper.loud o with
    | false =>
      have hdone : d.done.testBit i = true := hcalm.all i o ho hloud (fun k hk => h.sub k (hf.sub h.closed i o ho hpre k hk))
      obtain ⟨p, hp, hpi⟩ := h.pendOf i hdone hnL
      refine h.later hf ho hpre hnL hp hpi (hcalm.still p hp) (fun G' a' w' h' => ?_)
      refine ih _ rest d G' a' w' (h'.congrL hset) hcalm hl (fun j o' ho' hlj hnj => hr1 j o' ho' hlj (fun e => hnj ((hset j).2 (.inl e)))) hr2 hsort hsz' hcount'
    | true =>
      have hmem := hr1 i o ho hloud hnL
      cases rest with
      | nil => cases hmem
      | cons x rest =>
        obtain ⟨o1, i1⟩ := x
        simp only [loudOnes] at hl
        split at hl
        · rename_i hcond
          simp only [Bool.and_eq_true] at hcond
          have hx := hr2 _ List.mem_cons_self
          have hii : i = i1 := by
            rcases List.mem_cons.1 hmem with e | hmem
            · cases e; rfl
            · exfalso
              have hm := List.all_eq_true.1 hcond.2 _ hmem
              have := hf.sub h.closed i o ho hpre i1 hm
              have h3 := h.sub i1 this
              have h4 := hx.2.2
              simp only at h4
              rw [h3] at h4; cases h4
          subst hii
          have hoo : o1 = o := by have := hx.1; simp only [ho] at this; exact (Option.some.inj this).symm
          subst hoo
          split at hl
          · rename_i v s1 hstep
            split at hl
            · rename_i fr1 hput
              split at hl
              · rename_i d2 hall
                have hnd : d.done.testBit i = false := hx.2.2
                refine stepOp_sound2 hc hk h.rel h.glob (h.read hf ho hpre hnL (h.readsNow hf ho hnd)) (by rw [h.same.2.1]; exact h.globs) hstep (fun G1 w1 u hle hrel hv => ?_)
                have h1 := h.loud hf ho hpre hnd hput hle hrel hv
                obtain ⟨h2, hcalm2, hkeep⟩ := h1.calmAll hf hall
                rw [List.pairwise_cons] at hsort
                refine ih _ rest d2 G1 _ w1 (h2.congrL hset) hcalm2 hl (fun j o' ho' hlj hnj => ?_) (fun y hy => ?_) hsort.2 hsz' hcount'
                · rcases List.mem_cons.1 (hr1 j o' ho' hlj (fun e => hnj ((hset j).2 (.inl e)))) with e | hm
                  · cases e; exact absurd ((hset i).2 (.inr rfl)) hnj
                  · exact hm
                · have := hr2 y (List.mem_cons_of_mem _ hy)
                  refine ⟨this.1, this.2.1, ?_⟩
                  rw [hkeep y.2 y.1 this.1 this.2.1]
                  show (addBit d.done i).testBit y.2 = false
                  have hlt := hsort.1 y hy
                  simp only at hlt
                  rw [addBit_test, this.2.2, decide_eq_false (by omega)]
                  rfl
              · cases hl
            · cases hl
          · cases hl
        · cases hl

end

theorem draw_sound {r : Ev} (hc : SoundCode P r) (hk : SoundCall P r) : SoundDraw P r := by
  intro id ops fr s fr' s' he G W0 w ro a h hgl ha Q hq
  unfold evDraw evDrawM at he
  split at he
  · rename_i hok
    rw [Bool.and_eq_true] at hok
    have hm := hok.2
    have hf := fine_of hok.1
    split at he
    · rename_i d1 h1
      split at he
      · rename_i d2 h2
        · cases he
          refine wpIn_region_any hm ?_
          have h0 : Inv P r.globs ops (masks ops) fr W0 ro G { done := 0, pend := [], fr, s } (fun j => (Array.replicate ops.size false).getD j false = true) G a { w with drawn := w.drawn + 1 } := by
            refine ⟨fun j hj => ?_, (fun j hj => by simp at hj), (fun j hj => by simp at hj), fun j o hj => ?_, (fun j hj => by simp at hj), fun t _ => rfl, ⟨rfl, rfl, rfl, rfl⟩, (fun p hp => by cases hp), (fun p hp => by cases hp), (fun p hp => by cases hp), Ghost.le_refl G, hgl, ?_, ha.frame.tmps.size, fun t v ⟨j, o, _, _, hj⟩ => ?_, fun t v _ hv => ha.frame.tmps.rel t v hv, ha.frame.globs, ha.defers, ha.round⟩
            · simp only [Array.getD_eq_getD_getElem?, Array.getElem?_replicate] at hj
              split at hj <;> simp at hj
            · simp only [Array.getD_eq_getD_getElem?, Array.getElem?_replicate] at hj
              split at hj <;> simp at hj
            · refine ((Rel.drew h (w.drawn + 1)).setRes (W := W0.world) (R := W0.res) (fun n hn => ?_))
              rcases hn with hn | ⟨p, hp, _⟩
              · exact h.res n hn
              · cases hp
            · simp only [Array.getD_eq_getD_getElem?, Array.getElem?_replicate] at hj
              split at hj <;> simp at hj
          obtain ⟨hI, hcalm, hkeep⟩ := h0.calmAll hf h1
          refine draw_main hc hk hf hq ops.size _ _ d1 G a _ hI hcalm h2 (fun i o ho hl _ => ?_) (fun x hx => ?_) ?_ (by simp) ?_
          · exact List.mem_filter.2 ⟨zip_mem.2 ho, hl⟩
          · obtain ⟨hx1, hx2⟩ := List.mem_filter.1 hx
            have := zip_mem.1 hx1
            refine ⟨this, hx2, ?_⟩
            rw [hkeep _ _ this hx2]; simp
          · exact (zip_sorted _ _).filter _
          · rw [Array.toList_replicate]; simp
      · cases he
    · cases he
  · cases he

theorem sound (P : Program) (gl : Nat) : ∀ n, Sound P gl n
  | 0 => sound_zero
  | n + 1 => sound_succ (sound P gl n) (draw_sound (sound P gl n).1 (sound P gl n).2.1)

end Go.Ev

/- A call from the start: package-level variables that hold errors; a function's body in two parts. -/
namespace Go.Ev
open Go.RowKit

variable {G : Ghost} {W0 : Old} {s : St} {w : World} {P : Program}

/-! ### A body in parts -/
noncomputable def prefixE (r : Ev) : List Code → Fr → St → Option (Fr × St)
  | [], fr, s => some (fr, s)
  | c :: cs, fr, s =>
    match r.code c fr s with
    | some (.normal, fr, s) => prefixE r cs fr s
    | _ => none

theorem prefix_sound {r : Ev} (hc : SoundCode P r) {rest : Code} {ro : Option Nat} {Q : Exit → Act → World → Prop} : ∀ (l : List Code) {G : Ghost} {fr : Fr} {s : St} {w : World} {a : Act} {fr' : Fr} {s' : St}, prefixE r l fr s = some (fr', s') →
    Rel G W0 s w → G.glob = r.globs → ARel G ro fr a → (∀ G' a' w', G.le G' → Rel G' W0 s' w' → ARel G' ro fr' a' → rest.wpIn (FF ro) 0 P Q a' w') → (l.foldr .seq rest).wpIn (FF ro) 0 P Q a w
  | [], G, fr, s, w, a, fr', s', he, h, hgl, ha, hq => by
    simp only [prefixE] at he; cases he
    exact hq G a w (Ghost.le_refl G) h ha
  | c :: cs, G, fr, s, w, a, fr', s', he, h, hgl, ha, hq => by
    simp only [prefixE] at he
    split at he
    · rename_i fr1 s1 h1
      refine wpIn_seq ?_
      refine hc _ _ _ _ _ _ h1 G W0 w ro a h hgl ha _ (fun G1 a1 w1 hle1 hr1 ha1 => ?_)
      exact prefix_sound hc cs he hr1 (hle1.glob.trans hgl) ha1 (fun G' a' w' hle => hq G' a' w' (hle1.le_trans hle))
    · cases he

/-- The last part of a body, and what the function hands back. -/
noncomputable def finish (P : Program) (r : Ev) (fn : Func) (rest : Code) (fr : Fr) (s : St) : Option (AVal × St) :=
  match r.code rest fr s with
  | some (e, fr, s) =>
    match e with
    | .exit _ => none
    | _ => do let s ← dropAll s fr.defers; let l ← aResults P fr s fn.results.toList; some (oneOf l, s)
  | none => none

noncomputable def frame0 (r : Ev) (fn : Func) (args : List AVal) : Fr := { tmps := Trie.ofList args, n := args.length + (fn.ntmps - args.length), round := none, defers := [], globs := r.globs }

theorem call_split {r : Ev} (hc : SoundCode P r) {f : FuncId} {fn : Func} {l : List Code} {rest : Code} (hf : P.funcs[f]? = some fn) (hb : fn.body = some (l.foldr .seq rest)) {args : List AVal} {us : Array Value} {fr1 fr2 : Fr} {s1 s' : St} {v : AVal}
    (h : Rel G W0 s w) (hgl : G.glob = r.globs) (hargs : LRel G args us.toList) (h1 : prefixE r l (frame0 r fn args) s = some (fr1, s1))
    (hmid : ∀ G' a, G.le G' → ARel G' none fr1 a → ARel G' none fr2 a) (h2 : finish P r fn rest fr2 s1 = some (v, s')) :
    CallsIn (FF none) 0 P f us w fun e w' => ∃ G' u, G.le G' ∧ e = .returned u ∧ Rel G' W0 s' w' ∧ VRel G' v u := by
  refine callsIn_of_wp_marks hf hb (FF_fn none f) ?_
  have hsz : us.size = args.length := by simpa using hargs.len
  refine prefix_sound hc l h1 h hgl ⟨⟨⟨by simp [hsz, frame0], ?_⟩, ?_⟩, (show DRel G [] [] from trivial), trivial⟩ (fun G1 a1 w1 hle1 hr1 ha1 => ?_)
  · intro i x hx
    simp only [frame0, Trie.get_ofList] at hx
    have hlt : i < us.size := by rw [hsz]; exact (List.getElem?_eq_some_iff.1 hx).1
    have : (us ++ Array.replicate (fn.ntmps - us.size) undef).getD i undef = us[i] := by simp [Array.getD_eq_getD_getElem?, Array.getElem?_append, hlt]
    rw [this]
    exact hargs.rel i x _ hx (by simp [hlt])
  · show r.globs ≤ G.glob; omega
  · have ha2 := hmid G1 a1 hle1 ha1
    unfold finish at h2
    split at h2
    · rename_i e fr s2 hrest
      refine hc _ _ _ _ _ _ hrest G1 W0 w1 none a1 hr1 (hle1.glob.trans hgl) ha2 _ (fun G2 a2 w2 hle2 hr2 ha2 => ?_)
      have hle := hle1.le_trans hle2
      have fin : ∀ s3 l, dropAll s2 fr.defers = some s3 → aResults P fr s3 fn.results.toList = some l → some (oneOf l, s3) = some (v, s') →
          LeavesInM (FF none) 0 P fn a2.tmps (fun e w' => ∃ G' u, G.le G' ∧ e = .returned u ∧ Rel G' W0 s' w' ∧ VRel G' v u) a2.defers .returning w2 := by
        intro s3 l hd hl hvs
        cases hvs
        refine leaves_sound hr2 ha2.defers hd (fun w' hr' => ?_)
        obtain ⟨u, hu, hv⟩ := results_sound hr' ha2.frame hl
        exact ⟨u, hu, G2, u, hle, rfl, hr', hv⟩
      split at h2
      · cases h2
      · rename_i hn
        obtain ⟨s3, hs3, h2⟩ := bind_some h2
        obtain ⟨l, hl, h2⟩ := bind_some h2
        have := fin s3 l hs3 hl h2
        cases e with
        | normal => exact this
        | ret => exact this
        | exit id => exact absurd rfl (hn id)
    · cases h2

/-! ### The start -/
/-- So many variables are known; the addresses of the errors are known by number. -/
def ghost0 (base gl : Nat) (addrs : List Addr) : Ghost :=
  { base, blk := fun n => if n < gl then some n else none, imm := fun _ _ => none, tok := fun _ => none, glob := gl, opq := fun k => addrs[k]? }

theorem start_rel {W : World} {gl : Nat} {addrs : List Addr} {s : St} (hgl : gl ≤ W.heap.size) (hnext : gl ≤ s.next) (hfree : ∀ n, s.next ≤ n → s.heap.get n = none)
    (hobj : ∀ n o, n < gl → s.heap.get n = some o → ∃ c, W.heap[n]? = some c ∧ ORel (ghost0 W.heap.size gl addrs) n o c) (haddr : ∀ a ∈ addrs, ∃ c t, W.heap[a.block]? = some (.cells c t (0, 0)))
    (hne : addrs.Pairwise (· ≠ ·)) : Rel (ghost0 W.heap.size gl addrs) ⟨W, fun _ => False, fun _ => none⟩ s W := by
  have blk : ∀ n b, (ghost0 W.heap.size gl addrs).blk n = some b → n = b ∧ n < gl := fun n b hb => by
    simp only [ghost0] at hb
    split at hb
    · cases hb; exact ⟨rfl, by assumption⟩
    · cases hb
  refine ⟨fun n b o hb ho => ?_, fun n b hb => ?_, fun n m b hn hm => ?_, (fun b off v hv => by cases hv), fun _ _ _ _ => rfl, (fun t b lo hi _ hg => by cases hg), (fun t t' b lo hi lo' hi' _ _ hg => by cases hg), fun n hn => ⟨?_, rfl, hfree n hn⟩, fun b c e lo hi hb hc => ?_, Nat.le_refl _, Below.refl _ _, fun g hg => ?_, fun n a ha => ?_, fun n m a hn hm => ?_, fun n hn => hn.elim, fun b c hb => by cases hb⟩
  · obtain ⟨rfl, hlt⟩ := blk n b hb
    exact hobj n o hlt ho
  · obtain ⟨rfl, hlt⟩ := blk n b hb; omega
  · rw [(blk n b hn).1, (blk m b hm).1]
  · simp only [ghost0]; rw [if_neg (by omega)]
  · have hb' : W.heap.size ≤ b := hb
    rw [Array.getElem?_eq_none hb'] at hc; cases hc
  · have hg' : g < gl := hg
    simp only [ghost0]; rw [if_pos hg']
  · have ha' : addrs[n]? = some a := ha
    obtain ⟨c, t, hc⟩ := haddr a (List.mem_of_getElem? ha')
    exact ⟨(Array.getElem?_eq_some_iff.1 hc).1, c, t, hc⟩
  · have hn' : addrs[n]? = some a := hn
    have hm' : addrs[m]? = some a := hm
    obtain ⟨h1, e1⟩ := List.getElem?_eq_some_iff.1 hn'
    obtain ⟨h2, e2⟩ := List.getElem?_eq_some_iff.1 hm'
    rcases Nat.lt_trichotomy n m with hlt | heq | hgt
    · exact absurd (e1.trans e2.symm) (List.pairwise_iff_getElem.1 hne n m h1 h2 hlt)
    · exact heq
    · exact absurd (e2.trans e1.symm) (List.pairwise_iff_getElem.1 hne m n h2 h1 hgt)

/-! ### Variables that hold errors -/
/-- The rows of the variables: the i-th listed one is the variable of the i-th number and holds the i-th error. -/
noncomputable def errHeap (tp : TypeId) : List Nat → Nat → Trie AObj → Trie AObj
  | [], _, t => t
  | g :: gs, i, t => errHeap tp gs (i + 1) (t.set g (some (.ro [.iface tp (.optr i)])))
theorem errHeap_get {tp : TypeId} : ∀ (gs : List Nat) (i : Nat) (t : Trie AObj) (g : Nat) (o : AObj), (errHeap tp gs i t).get g = some o → (∃ j, gs[j]? = some g ∧ o = .ro [.iface tp (.optr (i + j))]) ∨ t.get g = some o
  | [], _, _, _, _, h => .inr h
  | g0 :: gs, i, t, g, o, h => by
    rcases errHeap_get gs (i + 1) _ g o h with ⟨j, h1, h2⟩ | h'
    · exact .inl ⟨j + 1, by simpa using h1, by rw [h2, Nat.add_assoc, Nat.add_comm 1 j]⟩
    · rw [Trie.get_set] at h'
      split at h'
      · rename_i e; exact .inl ⟨0, by simp [e], by simpa using (Option.some.inj h').symm⟩
      · exact .inr h'

def isErr (nm : String) : DataW Unit → Bool
  | .iface t (.ptr (.agg [.lit (.string _)])) => t == nm
  | _ => false

/-- What the condition 'laid' says of variables that hold errors made by errors.New. -/
theorem errs_of_laid {W : World} {ti tp te ts : TypeId} {ms : Array (String × TypeId)} {nm : String} {f : Field}
    (hi : P.underlying ti = some (.interface ms)) (hrow : ∀ u, P.typeName? 3 u = some nm → u = tp) (hp : P.underlying tp = some (.pointer te)) (he : P.underlying te = some (.struct #[f])) (hft : f.type = ts) (hfo : f.offset = 0)
    (hs : P.underlying ts = some .string) (hc : P.cellsOf te = 1) (hcs : P.cellsOf ts = 1) :
    ∀ (laid : List (String × DataW Unit)) (gs : List Nat) (ps : List MemPlace), DataW.LaidVars P W laid ps → (laid.all fun x => isErr nm x.2) = true → laid.map (fun x => P.globalNamed x.1) = gs.map some →
      (gs.all fun g => (P.globals[g]?).map (·.type) == some ti) = true →
      (∀ b off, MemPlace.cell b off ∈ ps → (∃ c t, W.heap[b]? = some (.cells c t (0, 0))) ∧ ∀ u v, W.cell? ⟨b, off, none⟩ = some (.iface u v) → Value.okWide P W .any 0 u v) →
      ∃ addrs : List Addr, addrs.length = gs.length ∧ (∀ (i g : Nat) (a : Addr), gs[i]? = some g → addrs[i]? = some a → ∃ t fz, W.heap[g]? = some (.cells #[.iface tp (.pointer (some a))] t fz)) ∧
        (∀ a ∈ addrs, ∃ c t, W.heap[a.block]? = some (.cells c t (0, 0))) ∧ (∀ a ∈ addrs, MemPlace.cell a.block a.off ∈ ps) ∧ (ps.Nodup → addrs.Pairwise (· ≠ ·))
  | [], gs, ps, _, _, hg, _, _ => by
    cases gs with
    | nil => exact ⟨[], rfl, (fun i g a h => by simp at h), (fun a h => by cases h), (fun a h => by cases h), fun _ => List.Pairwise.nil⟩
    | cons g gs => simp at hg
  | (n, d) :: laid, gs, ps, h, herr, hg, hty, hps => by
    cases gs with
    | nil => simp at hg
    | cons g gs =>
      obtain ⟨g', t, cs, fu, p, q, hg0, ht0, hv0, hd0, hrest, rfl⟩ := h
      simp only [List.map_cons, List.cons.injEq] at hg
      rw [hg.1] at hg0; cases hg0
      simp only [List.all_cons, Bool.and_eq_true] at herr hty
      have hti : t = ti := by
        have := hty.1
        rw [ht0] at this
        simpa using this
      subst hti
      have hd : ∃ text, d = .iface nm (.ptr (.agg [.lit (.string text)])) := by
        have := herr.1
        unfold isErr at this
        split at this
        · rename_i t' text
          simp only [beq_iff_eq] at this
          subst this
          exact ⟨text, rfl⟩
        · cases this
      obtain ⟨text, hd⟩ := hd
      subst hd
      obtain ⟨l0⟩ := cs
      have ok0 : ∀ u v, l0 = [.iface u v] → Value.okWide P W .any 0 u v := fun u v e => by
        subst e
        exact (hps g 0 (by simp [MemPlace.row])).2 u v (by simpa using World.var?_cell hg.1 hv0 0)
      obtain ⟨a0, s0, rfl, hc0, hs0, hz0, rfl⟩ := errorString_of_trod hi hrow hp he hft hfo hs hc hcs hd0 ok0
      obtain ⟨addrs, r1, r2, r3, r4, r5⟩ := errs_of_laid hi hrow hp he hft hfo hs hc hcs laid gs q hrest herr.2 hg.2 hty.2 (fun b off hb => hps b off (by simp [hb]))
      have hmem : MemPlace.cell a0.block a0.off ∈ MemPlace.row a0 1 := by simp [MemPlace.row]
      refine ⟨a0 :: addrs, by simp [r1], fun i g1 a h1 h2 => ?_, fun a ha => ?_, fun a ha => ?_, fun hnd => ?_⟩
      · cases i with
        | zero =>
          simp at h1 h2; subst h1; subst h2
          unfold World.var? at hv0
          rw [hg.1] at hv0
          simp only [Option.bind_some] at hv0
          split at hv0
          · rename_i cs t2 fz hh
            cases hv0
            exact ⟨_, _, hh⟩
          · cases hv0
        | succ i => simp at h1 h2; exact r2 i g1 a h1 h2
      · rcases List.mem_cons.1 ha with rfl | ha
        · exact (hps a.block a.off (by simp [hmem])).1
        · exact r3 a ha
      · rcases List.mem_cons.1 ha with rfl | ha
        · simp [hmem]
        · simp [r4 a ha]
      · have hnd2 : (MemPlace.row a0 1 ++ q).Nodup := (List.nodup_append.1 (by simpa [List.append_assoc] using hnd)).2.1
        obtain ⟨_, h2, h3⟩ := List.nodup_append.1 hnd2
        refine List.pairwise_cons.2 ⟨fun a ha e => ?_, r5 h2⟩
        subst e
        exact h3 _ hmem _ (r4 _ ha) rfl

theorem errHeap_rel {W : World} {tp : TypeId} {gs : List Nat} {addrs : List Addr} {gl : Nat} (h1 : addrs.length = gs.length) (h2 : ∀ (i g : Nat) (a : Addr), gs[i]? = some g → addrs[i]? = some a → ∃ t fz, W.heap[g]? = some (.cells #[.iface tp (.pointer (some a))] t fz)) :
    ∀ n o, (errHeap tp gs 0 .leaf).get n = some o → ∃ c, W.heap[n]? = some c ∧ ORel (ghost0 W.heap.size gl addrs) n o c := by
  intro n o ho
  rcases errHeap_get gs 0 .leaf n o ho with ⟨j, hj, rfl⟩ | h
  · have hlt : j < addrs.length := by rw [h1]; exact (List.getElem?_eq_some_iff.1 hj).1
    have ha : addrs[j]? = some addrs[j] := List.getElem?_eq_getElem hlt
    obtain ⟨t, fz, hh⟩ := h2 j n _ hj ha
    refine ⟨_, hh, rfl, fun i x v hx hv => ?_⟩
    cases i with
    | zero =>
      simp at hx hv; subst hx; subst hv
      exact ⟨.iface _ _ _ (.optr _ _ (show addrs[j]? = some addrs[j] from ha)), rfl⟩
    | succ i => simp at hx
  · rw [Trie.get_leaf] at h; cases h

end Go.Ev
