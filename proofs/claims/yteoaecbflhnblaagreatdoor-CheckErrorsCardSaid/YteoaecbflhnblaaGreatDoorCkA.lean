/- CheckErrors: the body of the law in two parts; the first part, for every input, by the kernel; what the second part is run on. -/
import Derived.Test.YteoaecbflhnblaaGreatDoorIwC
set_option linter.unusedVariables false
set_option linter.unusedSimpArgs false
namespace Go.Proofs.YteoaecbflhnblaaGreatDoor.Ck
open Go Go.Ev
noncomputable def body9 : Code := (Tryz.f9.body).getD .skip
theorem body9_eq : Tryz.f9.body = some body9 := by kernel_rfl
noncomputable def part1 : List Code := (splitCode 13 body9).1
noncomputable def part2 : Code := (splitCode 13 body9).2
theorem part_len : part1.length = 13 := by kernel_rfl
noncomputable def st1 (n : Int) : Option (Fr × St) := prefixE ev0 part1 (frame0 ev0 Tryz.f9 [.int .i64 n]) s0
def pick (n : Int) : Int := (IntKind.i64.wrap (n.tmod 12 + 12)).tmod 12
set_option maxRecDepth 1000000 in
theorem st1_ok (n : Int) : okP (st1 n) = true := by kernel_rfl
set_option maxRecDepth 1000000 in
theorem st1_t14 (n : Int) : (got (st1 n)).1.tmps.get 14 = some (.int .i64 (pick n)) := by kernel_rfl
/-- One temporary set. -/
noncomputable def setT (f : Fr) (k : Int) : Fr := { f with tmps := f.tmps.set 14 (some (.int .i64 k)) }
theorem setT_same (f : Fr) (k : Int) : (setT f k).tmps.get 14 = some (.int .i64 k) := Trie.get_set_same _ _ _
theorem setT_other (f : Fr) (k : Int) {t : Nat} (h : t ≠ 14) : (setT f k).tmps.get t = f.tmps.get t := Trie.get_set_ne _ _ h
theorem setT_rest (f : Fr) (k : Int) : (setT f k).n = f.n ∧ (setT f k).globs = f.globs ∧ (setT f k).defers = f.defers ∧ (setT f k).round = f.round := ⟨rfl, rfl, rfl, rfl⟩
/-- The frame with the pick's number in it. -/
noncomputable def fr2 (n k : Int) : Fr := setT (got (st1 n)).1 k
noncomputable def run2 (n k : Int) : Option (AVal × St) := finish Tryz.prog ev0 Tryz.f9 part2 (fr2 n k) (got (st1 n)).2
end Go.Proofs.YteoaecbflhnblaaGreatDoor.Ck
