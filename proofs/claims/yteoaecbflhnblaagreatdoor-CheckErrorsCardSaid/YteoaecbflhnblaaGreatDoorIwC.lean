/- InstsWrong: the call answers true for every input, where the second part does for each remainder. -/
import Derived.Test.YteoaecbflhnblaaGreatDoorIwA
import Derived.Test.YteoaecbflhnblaaGreatDoorRows
import Derived.ProofKit
import Derived.LaidMore
import Derived.OpenShut
import Derived.Stop.Joined
set_option linter.unusedVariables false
set_option linter.unusedSimpArgs false
namespace Go.Proofs.YteoaecbflhnblaaGreatDoor
open Go Go.Ev Go.ChangeShapes Go.WideShapes Go.ChangeAt Go.WideMaps Go.WideElems Go.RowKit

theorem own : ownKnob Tryz.prog.godebug = none := by kernel_rfl
theorem starErr : "*" ++ "errors.errorString" = "*errors.errorString" := by decide
theorem row333 (u : TypeId) (h : Tryz.prog.typeName? 3 u = some "*errors.errorString") : u = 333 :=
  typeName_ptr_named (nm := "errors.errorString") (by rw [starErr]; kernel_rfl) (by kernel_rfl) (by decide) u (by rw [starErr]; exact h)
theorem cells349 : Tryz.prog.cellsOf 349 = 1 := by kernel_rfl
theorem cells9 : Tryz.prog.cellsOf 9 = 1 := by kernel_rfl

theorem got_of' {x : Option (Fr × St)} (h : okP x = true) : x = some ((got x).1, (got x).2) := by cases x <;> first | rfl | cases h
theorem pick_bounds (n : Int) : 0 ≤ pick n ∧ pick n < 10 := by
  have h1 : n.tmod 10 < 10 := Int.tmod_lt_of_pos n (by decide)
  have h2 : -10 < n.tmod 10 := by
    have := Int.tmod_lt_of_pos (-n) (b := 10) (by decide)
    rw [Int.neg_tmod] at this
    omega
  unfold pick
  generalize n.tmod 10 = r at h1 h2
  have h3 : r = -9 ∨ r = -8 ∨ r = -7 ∨ r = -6 ∨ r = -5 ∨ r = -4 ∨ r = -3 ∨ r = -2 ∨ r = -1 ∨ r = 0 ∨ r = 1 ∨ r = 2 ∨ r = 3 ∨ r = 4 ∨ r = 5 ∨ r = 6 ∨ r = 7 ∨ r = 8 ∨ r = 9 := by omega
  rcases h3 with rfl | rfl | rfl | rfl | rfl | rfl | rfl | rfl | rfl | rfl | rfl | rfl | rfl | rfl | rfl | rfl | rfl | rfl | rfl <;> decide

theorem start_of_laid {W : World} {laid : List (String × DataW Unit)} (hplain : (laid.all fun x => x.2.handleName?.isNone) = true) (herr : (laid.all fun x => isErr "*errors.errorString" x.2) = true)
    (hnames : laid.map (fun x => Tryz.prog.globalNamed x.1) = errGs.map some) (h : laidMetH Tryz.prog laid W) : ∃ addrs, Rel (ghost0 W.heap.size 15 addrs) ⟨W, fun _ => False, fun _ => none⟩ s0 W := by
  rw [MakeChecks.laidMetH_plain _ _ _ hplain] at h
  obtain ⟨ps, hvars, hnd, hrows⟩ := h
  obtain ⟨addrs, a1, a2, a3, a4, a5⟩ := errs_of_laid (P := Tryz.prog) (ti := 51) Tryz.underlying51 row333 Tryz.underlying333 Tryz.underlying349 rfl rfl Tryz.underlying9 cells349 cells9 laid errGs ps hvars herr hnames (by kernel_rfl) hrows
  have hlen : addrs.length = 15 := a1
  have hsize : 15 ≤ W.heap.size := by
    have hl : 14 < addrs.length := by omega
    obtain ⟨t, fz, h14⟩ := a2 14 14 addrs[14] rfl (List.getElem?_eq_getElem hl)
    exact (Array.getElem?_eq_some_iff.1 h14).1
  refine ⟨addrs, start_rel hsize (Nat.le_refl _) (fun n hn => ?_) (fun n o _ ho => errHeap_rel a1 a2 n o ho) a3 (a5 hnd)⟩
  cases hg : s0.heap.get n with
  | none => rfl
  | some o =>
    rcases errHeap_get errGs 0 .leaf n o hg with ⟨j, hj, _⟩ | h
    · have hm : n ∈ errGs := List.mem_of_getElem? hj
      have hall : (errGs.all fun g => decide (g < 15)) = true := by decide
      have := List.all_eq_true.1 hall n hm
      simp only [decide_eq_true_eq] at this
      have hn' : 15 ≤ n := hn
      omega
    · rw [Trie.get_leaf] at h; cases h

theorem fr2_same (n k : Int) : (fr2 n k).tmps.get 6 = some (.int .i64 k) := by unfold fr2; exact setSix_same _ _
theorem fr2_other (n k : Int) {t : Nat} (h : t ≠ 6) : (fr2 n k).tmps.get t = (got (st1 n)).1.tmps.get t := by unfold fr2; exact setSix_other _ _ h
theorem fr2_rest (n k : Int) : (fr2 n k).n = (got (st1 n)).1.n ∧ (fr2 n k).globs = (got (st1 n)).1.globs ∧ (fr2 n k).defers = (got (st1 n)).1.defers ∧ (fr2 n k).round = (got (st1 n)).1.round := by
  unfold fr2; exact setSix_rest _ _
theorem fr2_rel {G : Ghost} {n : Int} {a : Act} (ha : ARel G none (got (st1 n)).1 a) : ARel G none (fr2 n (pick n)) a := by
  obtain ⟨e1, e2, e3, e4⟩ := fr2_rest n (pick n)
  have hs := fr2_same n (pick n)
  have ho := fun t (h : t ≠ 6) => fr2_other n (pick n) h
  have h6 := st1_six n
  generalize fr2 n (pick n) = f2 at *
  generalize (got (st1 n)).1 = f1 at *
  generalize pick n = k at *
  refine ⟨⟨⟨by rw [e1]; exact ha.frame.tmps.size, fun t x hx => ?_⟩, by rw [e2]; exact ha.frame.globs⟩, by rw [e3]; exact ha.defers, by rw [e4]; exact ha.round⟩
  by_cases ht : t = 6
  · subst ht
    rw [hs] at hx; cases hx
    exact ha.frame.tmps.rel 6 _ h6
  · rw [ho t ht] at hx
    exact ha.frame.tmps.rel t x hx

theorem walk_of (hall : ∀ (n k : Int), 0 ≤ k → k < 10 → okTrue (run2 n k) = true) (n : Int) {W : World} {addrs : List Addr} (hW : Rel (ghost0 W.heap.size 15 addrs) ⟨W, fun _ => False, fun _ => none⟩ s0 W) :
    Calls Tryz.prog 6 #[.int .i64 n] W fun e W' => e = .returned (.bool true) ∧ Below W.heap.size W W' := by
  have hb : Tryz.f6.body = some (part1.foldr .seq part2) := by rw [body6_eq, part1, part2, split_foldr]
  obtain ⟨hp1, hp2⟩ := pick_bounds n
  obtain ⟨s', hs'⟩ := okTrue_of (hall n (pick n) hp1 hp2)
  have h1 : st1 n = some ((got (st1 n)).1, (got (st1 n)).2) := got_of' (st1_ok n)
  have hcall := call_split (r := ev0) (fr1 := (got (st1 n)).1) (s1 := (got (st1 n)).2) (sound Tryz.prog 15 100000).1 Tryz.func6 hb hW (show 15 = ev0.globs from (evN_globs Tryz.prog 15 100000).symm) (args := [.int .i64 n]) (us := #[.int .i64 n]) (.cons (.int _ _) (.nil _)) h1 (fr2 := fr2 n (pick n)) ?_ hs'
  · refine (callsIn_wide.1 hcall).mono ?_
    rintro e W' ⟨G', u, hle, rfl, hrel, hv⟩
    cases hv
    refine ⟨rfl, ?_⟩
    have := hrel.below
    rw [hle.base] at this
    exact this
  · intro G' a hle ha
    exact fr2_rel ha

end Go.Proofs.YteoaecbflhnblaaGreatDoor
