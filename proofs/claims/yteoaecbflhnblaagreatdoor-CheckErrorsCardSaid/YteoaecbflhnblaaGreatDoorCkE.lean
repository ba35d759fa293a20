/- The law CheckErrors returns true for every input, the listed variables holding what the program's text lays: the tied card. No condition beyond the statement's own. -/
import Derived.Test.YteoaecbflhnblaaGreatDoorCkC
import Derived.Test.YteoaecbflhnblaaGreatDoorCkB0
import Derived.Test.YteoaecbflhnblaaGreatDoorCkB1
import Derived.Test.YteoaecbflhnblaaGreatDoorCkB2
import Derived.Test.YteoaecbflhnblaaGreatDoorCkB3
import Derived.Test.YteoaecbflhnblaaGreatDoorCkB4
import Derived.Test.YteoaecbflhnblaaGreatDoorCkB5
import Derived.Test.YteoaecbflhnblaaGreatDoorCkB6
import Derived.Test.YteoaecbflhnblaaGreatDoorCkB7
import Derived.Test.YteoaecbflhnblaaGreatDoorCkB8
import Derived.Test.YteoaecbflhnblaaGreatDoorCkB9
import Derived.Test.YteoaecbflhnblaaGreatDoorCkB10
import Derived.Test.YteoaecbflhnblaaGreatDoorCkB11
import Derived.Test.YteoaecbflhnblaaGreatDoorCards
import Derived.Test.YteoaecbflhnblaaGreatDoorTie
import Derived.SevenTiedAt
namespace Go.Proofs.YteoaecbflhnblaaGreatDoor
open Go Go.Ev

theorem Ck.run2_all (n k : Int) (h0 : 0 ≤ k) (h1 : k < 12) : okTrue (Ck.run2 n k) = true := by
  have h : k = 0 ∨ k = 1 ∨ k = 2 ∨ k = 3 ∨ k = 4 ∨ k = 5 ∨ k = 6 ∨ k = 7 ∨ k = 8 ∨ k = 9 ∨ k = 10 ∨ k = 11 := by omega
  rcases h with rfl | rfl | rfl | rfl | rfl | rfl | rfl | rfl | rfl | rfl | rfl | rfl
  · exact run2_0 n
  · exact run2_1 n
  · exact run2_2 n
  · exact run2_3 n
  · exact run2_4 n
  · exact run2_5 n
  · exact run2_6 n
  · exact run2_7 n
  · exact run2_8 n
  · exact run2_9 n
  · exact run2_10 n
  · exact run2_11 n

theorem checkErrors_holds : Rows.CheckErrorsSaid := Ck.holds_of Ck.run2_all

theorem checkErrors_card_holds : Rows.CheckErrorsCardSaid :=
  Claim7.holds_tied_plain_at .later [] [.data, .data, .data, .sentinel, .sentinel, .sentinel, .sentinel, .sentinel, .sentinel, .sentinel, .sentinel, .sentinel, .sentinel, .sentinel, .sentinel, .sentinel, .sentinel, .sentinel] true (true, "2547433b23199f7ab1c2d86d1593aa5edd65bb909fd063c0863a6225e4a056c4") true
    checkErrors_holds (fun _ h => by cases h) (by kernel_rfl) (fun _ h => by cases h) checkErrors_row_tie rfl ⟨rfl, rfl⟩ (by kernel_rfl) rfl
    (fun f fn hf hfn => by
      obtain rfl : f = 9 := Option.some.inj ((show Tryz.prog.funcNamed "paideia/paideialaw18.CheckErrors" = some 9 by kernel_rfl).symm.trans hf) |>.symm
      obtain rfl : fn = Tryz.f9 := (Option.some.inj (Tryz.func9.symm.trans hfn)).symm
      exact ⟨by kernel_rfl, fun j t ht => by
        rw [Tryz.params9] at ht
        have h3 : t = 3 := by
          rcases j with _ | j
          · simpa using ht.symm
          · simp at ht
        subst h3
        exact (show Tryz.prog.wantsStandIn 3 = false by kernel_rfl)⟩)
    (by kernel_rfl)
end Go.Proofs.YteoaecbflhnblaaGreatDoor
