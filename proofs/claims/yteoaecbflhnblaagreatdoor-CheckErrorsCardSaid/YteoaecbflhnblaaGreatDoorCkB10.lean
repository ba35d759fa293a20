/- CheckErrors: the second part answers true where the remainder is 10: by the kernel. -/
import Derived.Test.YteoaecbflhnblaaGreatDoorCkA
namespace Go.Proofs.YteoaecbflhnblaaGreatDoor.Ck
open Go Go.Ev
set_option maxRecDepth 1000000 in
theorem run2_10 (n : Int) : okTrue (run2 n 10) = true := by kernel_rfl
end Go.Proofs.YteoaecbflhnblaaGreatDoor.Ck
