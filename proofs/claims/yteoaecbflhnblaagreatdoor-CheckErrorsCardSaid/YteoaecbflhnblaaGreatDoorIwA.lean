/- InstsWrong: the body of the law in two parts; the first part, for every input, by the kernel; what the second part is run on. -/
import Derived.Test.YteoaecbflhnblaaGreatDoorEvFour
import Derived.Test.YteoaecbflhnblaaGreatDoorProg
import Derived.KernelRfl
set_option linter.unusedVariables false
set_option linter.unusedSimpArgs false
namespace Go.Proofs.YteoaecbflhnblaaGreatDoor
open Go Go.Ev
/-- The variables that hold errors, in the order of the row's list. -/
def errGs : List Nat := [5, 6, 1, 0, 2, 4, 7, 3, 8, 9, 10, 11, 12, 13, 14]
noncomputable def s0 : St := { next := 15, heap := errHeap 333 errGs 0 .leaf }
noncomputable def ev0 : Ev := evN Tryz.prog 15 100000
def splitCode : Nat → Code → List Code × Code
  | n + 1, .seq a b => (a :: (splitCode n b).1, (splitCode n b).2)
  | _, c => ([], c)
theorem split_foldr : ∀ (n : Nat) (c : Code), (splitCode n c).1.foldr .seq (splitCode n c).2 = c
  | 0, c => by cases c <;> rfl
  | n + 1, c => by
    cases c
    case seq a b => simp only [splitCode, List.foldr_cons, split_foldr n b]
    all_goals rfl
noncomputable def body6 : Code := (Tryz.f6.body).getD .skip
theorem body6_eq : Tryz.f6.body = some body6 := by kernel_rfl
noncomputable def part1 : List Code := (splitCode 6 body6).1
noncomputable def part2 : Code := (splitCode 6 body6).2
theorem part_len : part1.length = 6 := by kernel_rfl
noncomputable def st1 (n : Int) : Option (Fr × St) := prefixE ev0 part1 (frame0 ev0 Tryz.f6 [.int .i64 n]) s0
def okP : Option (Fr × St) → Bool
  | some _ => true
  | none => false
def got (x : Option (Fr × St)) : Fr × St := match x with | some y => y | none => (⟨.leaf, 0, none, [], 0⟩, ⟨0, .leaf⟩)
theorem got_of {x : Option (Fr × St)} (h : okP x = true) : x = some (got x) := by cases x <;> first | rfl | cases h
def okTrue : Option (AVal × St) → Bool
  | some (.bool true, _) => true
  | _ => false
theorem okTrue_of {x : Option (AVal × St)} (h : okTrue x = true) : ∃ s, x = some (.bool true, s) := by
  unfold okTrue at h
  split at h
  · exact ⟨_, rfl⟩
  · cases h
def pick (n : Int) : Int := (IntKind.i64.wrap (n.tmod 10 + 10)).tmod 10
set_option maxRecDepth 1000000 in
theorem st1_ok (n : Int) : okP (st1 n) = true := by kernel_rfl
set_option maxRecDepth 1000000 in
theorem st1_six (n : Int) : (got (st1 n)).1.tmps.get 6 = some (.int .i64 (pick n)) := by kernel_rfl
/-- The sixth temporary set. -/
noncomputable def setSix (f : Fr) (k : Int) : Fr := { f with tmps := f.tmps.set 6 (some (.int .i64 k)) }
theorem setSix_same (f : Fr) (k : Int) : (setSix f k).tmps.get 6 = some (.int .i64 k) := Trie.get_set_same _ _ _
theorem setSix_other (f : Fr) (k : Int) {t : Nat} (h : t ≠ 6) : (setSix f k).tmps.get t = f.tmps.get t := Trie.get_set_ne _ _ h
theorem setSix_rest (f : Fr) (k : Int) : (setSix f k).n = f.n ∧ (setSix f k).globs = f.globs ∧ (setSix f k).defers = f.defers ∧ (setSix f k).round = f.round := ⟨rfl, rfl, rfl, rfl⟩
/-- The frame with the pick's number in it. -/
noncomputable def fr2 (n k : Int) : Fr := setSix (got (st1 n)).1 k
noncomputable def run2 (n k : Int) : Option (AVal × St) := finish Tryz.prog ev0 Tryz.f6 part2 (fr2 n k) (got (st1 n)).2
end Go.Proofs.YteoaecbflhnblaaGreatDoor
