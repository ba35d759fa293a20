/- CheckErrors: the call answers true for every input, where the second part does for each remainder; the row. -/
import Derived.Test.YteoaecbflhnblaaGreatDoorCkA
import Derived.Test.YteoaecbflhnblaaGreatDoorRows
import Derived.ProofKit
import Derived.LaidMore
import Derived.OpenShut
import Derived.Stop.Joined
set_option linter.unusedVariables false
set_option linter.unusedSimpArgs false
namespace Go.Proofs.YteoaecbflhnblaaGreatDoor.Ck
open Go Go.Ev Go.ChangeShapes Go.WideShapes Go.ChangeAt Go.WideMaps Go.WideElems Go.RowKit

/-- What is said of the listed variables, it is said of the last ones. -/
theorem laidVars_drop {P : Program} {W : World} : ∀ (pre laid : List (String × DataW Unit)) (ps : List MemPlace), DataW.LaidVars P W (pre ++ laid) ps → ∃ q, DataW.LaidVars P W laid q ∧ (∀ m ∈ q, m ∈ ps) ∧ (ps.Nodup → q.Nodup)
  | [], laid, ps, h => ⟨ps, h, fun _ h => h, fun h => h⟩
  | (n, d) :: pre, laid, ps, h => by
    obtain ⟨g', t, cs, fu, p, q, hg0, ht0, hv0, hd0, hrest, rfl⟩ := h
    obtain ⟨r, h1, h2, h3⟩ := laidVars_drop pre laid q hrest
    refine ⟨r, h1, fun m hm => by simp [h2 m hm], fun hnd => h3 ?_⟩
    exact (List.nodup_append.1 hnd).2.1

theorem start_of_laid {W : World} {pre laid : List (String × DataW Unit)} (hplain : ((pre ++ laid).all fun x => x.2.handleName?.isNone) = true) (herr : (laid.all fun x => isErr "*errors.errorString" x.2) = true)
    (hnames : laid.map (fun x => Tryz.prog.globalNamed x.1) = errGs.map some) (h : laidMetH Tryz.prog (pre ++ laid) W) : ∃ addrs, Rel (ghost0 W.heap.size 15 addrs) ⟨W, fun _ => False, fun _ => none⟩ s0 W := by
  rw [MakeChecks.laidMetH_plain _ _ _ hplain] at h
  obtain ⟨ps0, hvars0, hnd0, hrows0⟩ := h
  obtain ⟨ps, hvars, hsub, hnd1⟩ := laidVars_drop pre laid ps0 hvars0
  have hnd := hnd1 hnd0
  obtain ⟨addrs, a1, a2, a3, a4, a5⟩ := errs_of_laid (P := Tryz.prog) (ti := 51) Tryz.underlying51 row333 Tryz.underlying333 Tryz.underlying349 rfl rfl Tryz.underlying9 cells349 cells9 laid errGs ps hvars herr hnames (by kernel_rfl) (fun b off hm => hrows0 b off (hsub _ hm))
  have hlen : addrs.length = 15 := a1
  have hsize : 15 ≤ W.heap.size := by
    have hl : 14 < addrs.length := by omega
    obtain ⟨t, fz, h14⟩ := a2 14 14 addrs[14] rfl (List.getElem?_eq_getElem hl)
    exact (Array.getElem?_eq_some_iff.1 h14).1
  refine ⟨addrs, start_rel hsize (Nat.le_refl _) (fun n hn => ?_) (fun n o _ ho => errHeap_rel a1 a2 n o ho) a3 (a5 hnd)⟩
  cases hg : s0.heap.get n with
  | none => rfl
  | some o =>
    rcases errHeap_get errGs 0 .leaf n o hg with ⟨j, hj, _⟩ | h
    · have hm : n ∈ errGs := List.mem_of_getElem? hj
      have hall : (errGs.all fun g => decide (g < 15)) = true := by decide
      have := List.all_eq_true.1 hall n hm
      simp only [decide_eq_true_eq] at this
      have hn' : 15 ≤ n := hn
      omega
    · rw [Trie.get_leaf] at h; cases h

theorem pick_bounds (n : Int) : 0 ≤ pick n ∧ pick n < 12 := by
  have h1 : n.tmod 12 < 12 := Int.tmod_lt_of_pos n (by decide)
  have h2 : -12 < n.tmod 12 := by
    have := Int.tmod_lt_of_pos (-n) (b := 12) (by decide)
    rw [Int.neg_tmod] at this
    omega
  unfold pick
  generalize n.tmod 12 = r at h1 h2
  have h3 : r = -11 ∨ r = -10 ∨ r = -9 ∨ r = -8 ∨ r = -7 ∨ r = -6 ∨ r = -5 ∨ r = -4 ∨ r = -3 ∨ r = -2 ∨ r = -1 ∨ r = 0 ∨ r = 1 ∨ r = 2 ∨ r = 3 ∨ r = 4 ∨ r = 5 ∨ r = 6 ∨ r = 7 ∨ r = 8 ∨ r = 9 ∨ r = 10 ∨ r = 11 := by omega
  rcases h3 with rfl | rfl | rfl | rfl | rfl | rfl | rfl | rfl | rfl | rfl | rfl | rfl | rfl | rfl | rfl | rfl | rfl | rfl | rfl | rfl | rfl | rfl | rfl <;> decide

theorem fr2_same (n k : Int) : (fr2 n k).tmps.get 14 = some (.int .i64 k) := by unfold fr2; exact setT_same _ _
theorem fr2_other (n k : Int) {t : Nat} (h : t ≠ 14) : (fr2 n k).tmps.get t = (got (st1 n)).1.tmps.get t := by unfold fr2; exact setT_other _ _ h
theorem fr2_rest (n k : Int) : (fr2 n k).n = (got (st1 n)).1.n ∧ (fr2 n k).globs = (got (st1 n)).1.globs ∧ (fr2 n k).defers = (got (st1 n)).1.defers ∧ (fr2 n k).round = (got (st1 n)).1.round := by
  unfold fr2; exact setT_rest _ _
theorem fr2_rel {G : Ghost} {n : Int} {a : Act} (ha : ARel G none (got (st1 n)).1 a) : ARel G none (fr2 n (pick n)) a := by
  obtain ⟨e1, e2, e3, e4⟩ := fr2_rest n (pick n)
  have hs := fr2_same n (pick n)
  have ho := fun t (h : t ≠ 14) => fr2_other n (pick n) h
  have h6 := st1_t14 n
  generalize fr2 n (pick n) = f2 at *
  generalize (got (st1 n)).1 = f1 at *
  generalize pick n = k at *
  refine ⟨⟨⟨by rw [e1]; exact ha.frame.tmps.size, fun t x hx => ?_⟩, by rw [e2]; exact ha.frame.globs⟩, by rw [e3]; exact ha.defers, by rw [e4]; exact ha.round⟩
  by_cases ht : t = 14
  · subst ht
    rw [hs] at hx; cases hx
    exact ha.frame.tmps.rel 14 _ h6
  · rw [ho t ht] at hx
    exact ha.frame.tmps.rel t x hx

theorem walk_of (hall : ∀ (n k : Int), 0 ≤ k → k < 12 → okTrue (run2 n k) = true) (n : Int) {W : World} {addrs : List Addr} (hW : Rel (ghost0 W.heap.size 15 addrs) ⟨W, fun _ => False, fun _ => none⟩ s0 W) :
    Calls Tryz.prog 9 #[.int .i64 n] W fun e W' => e = .returned (.bool true) ∧ Below W.heap.size W W' := by
  have hb : Tryz.f9.body = some (part1.foldr .seq part2) := by rw [body9_eq, part1, part2, split_foldr]
  obtain ⟨hp1, hp2⟩ := pick_bounds n
  obtain ⟨s', hs'⟩ := okTrue_of (hall n (pick n) hp1 hp2)
  have h1 : st1 n = some ((got (st1 n)).1, (got (st1 n)).2) := got_of' (st1_ok n)
  have hcall := call_split (r := ev0) (fr1 := (got (st1 n)).1) (s1 := (got (st1 n)).2) (sound Tryz.prog 15 100000).1 Tryz.func9 hb hW (show 15 = ev0.globs from (evN_globs Tryz.prog 15 100000).symm) (args := [.int .i64 n]) (us := #[.int .i64 n]) (.cons (.int _ _) (.nil _)) h1 (fr2 := fr2 n (pick n)) ?_ hs'
  · refine (callsIn_wide.1 hcall).mono ?_
    rintro e W' ⟨G', u, hle, rfl, hrel, hv⟩
    cases hv
    refine ⟨rfl, ?_⟩
    have := hrel.below
    rw [hle.base] at this
    exact this
  · intro G' a hle ha
    exact fr2_rel ha

noncomputable abbrev laid : List (String × DataW Unit) := Rows.checkErrorsRow.laid
noncomputable abbrev laidData : List (String × DataW Unit) := [("math/bits.deBruijn32tab", Rows.laid_math_bits_deBruijn32tab), ("math/bits.deBruijn64tab", Rows.laid_math_bits_deBruijn64tab), ("internal/strconv.uint64pow10", Rows.laid_internal_strconv_uint64pow10)]
noncomputable def laidErrs : List (String × DataW Unit) := laid.drop 3
theorem laid_eq : laid = laidData ++ laidErrs := rfl
theorem door_met (os : Os) (args : Array Value) : laidMetH Tryz.prog laid ((World.doorLaid Tryz.prog 309 os).forCall (fun _ _ => 0) ⟨#[], args, []⟩).memory :=
  laidMetH_of_parts3 (fuel := 8) (laidMet_of_run' 8 (by kernel_rfl) (by kernel_rfl)) (by kernel_rfl) (by kernel_rfl)

set_option maxRecDepth 100000 in
theorem lifted_of (hall : ∀ (n k : Int), 0 ≤ k → k < 12 → okTrue (run2 n k) = true) (os : Os) (started : os.Started) (H : Type) (enc : TypeId × Value → H) :
    ReturnsInHanded {} Tryz.checked os 9 .any (fun w args => (Rows.checkErrorsSpec.pre enc Tryz.prog Tryz.f9 [] false w args ∧ laidMetH Tryz.prog laid w) ∧ sizedMet enc Tryz.prog Tryz.f9 (OpenSpec.ofChange Rows.checkErrorsSpec) false w args)
      (Rows.checkErrorsSpec.post enc Tryz.prog Tryz.f9 false true false false) := by
  refine returnsInHanded_of_change_and (C := Tryz.checked) (X := fun w _ => laidMetH Tryz.prog laid w) (fun _ _ _ hh h => h.of_heap hh) own started (by kernel_rfl) Tryz.func9
    (ChangeSpec.witness_shaped (enc := enc) (C := Tryz.checked) (os := os) (X := fun w _ => laidMetH Tryz.prog laid w) false (World.doorLaid Tryz.prog 309 os) #[.int .i64 0] 8 rfl (World.shaped_of_RefB (by kernel_rfl) (by kernel_rfl)) (by kernel_rfl) (by kernel_rfl) (by kernel_rfl) (door_met os _)) ?_
  intro W base args ds gs before hval0 hW _ _ hL _
  have hval : ∀ (j : Nat) t v, Tryz.f9.params[j]? = some t → args[j]? = some v → Value.okWide Tryz.prog W .any base t v := hval0
  have hW' := hW
  obtain ⟨p, q, hA0, hV, rfl, hfz, hnd⟩ := hW
  have hA : DataW.TrodAll enc Tryz.prog W 0 (fun _ => true) true Tryz.f9.params.toList args.toList ds p := hA0
  rw [Tryz.params9] at hA hval
  obtain ⟨v0, d0, rfl, rfl, h0⟩ := trodAll_one hA
  obtain ⟨rfl, rfl⟩ := trodVars_none hV
  obtain ⟨n, rfl, rfl, rfl, hwn⟩ := open_int Tryz.underlying3 (hval 0 3 v0 rfl rfl) h0
  clear hA0 hval0
  simp only [List.append_nil] at hW'
  rw [laid_eq] at hL
  obtain ⟨addrs, hrel⟩ := start_of_laid (pre := laidData) (laid := laidErrs) (by kernel_rfl) (by kernel_rfl) (by kernel_rfl) hL
  have e1 : Rows.checkErrorsSpec.fn H ([.lit (.int .i64 n)] ++ []) = { results := [.lit (.bool true)], args := [.lit (.int .i64 n)] } := rfl
  refine (walk_of hall n hrel).mono fun e W' ⟨he, hb⟩ => ?_
  subst he
  refine ⟨_, rfl, _, _, _, [], [], [], hW', ?_, ?_, ?_, hb.frame _, fun h => by cases h⟩
  · rw [e1]; exact trodAll_mk1 (shut_bool Tryz.underlying4 true)
  · rw [e1]; exact trodAll_mk1 (shut_int Tryz.underlying3 hwn)
  · rw [e1]; rfl

theorem holds_of (hall : ∀ (n k : Int), 0 ≤ k → k < 12 → okTrue (run2 n k) = true) : Rows.CheckErrorsSaid :=
  OpenClaim.holds_of_wide 9 Tryz.f9 rfl rfl rfl rfl rfl rfl rfl ⟨rfl, rfl, rfl, rfl, rfl⟩ rfl rfl rfl rfl rfl (by kernel_rfl) Tryz.func9 (by kernel_rfl)
    (of_decide_eq_true (by kernel_rfl)) (by unfold Func.isWrapper; first | (rw [if_pos (by decide +kernel)]; kernel_rfl) | (rw [if_neg (by decide +kernel)]; exact ⟨rfl, rfl⟩))
    (fun os started H enc _ => lifted_of hall os started H enc)
end Go.Proofs.YteoaecbflhnblaaGreatDoor.Ck
