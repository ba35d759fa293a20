/- CheckErrors: the second part answers true where the remainder is 5: by the kernel. -/
import Derived.Test.YteoaecbflhnblaaGreatDoorCkA
namespace Go.Proofs.YteoaecbflhnblaaGreatDoor.Ck
open Go Go.Ev
set_option maxRecDepth 1000000 in
theorem run2_5 (n : Int) : okTrue (run2 n 5) = true := by kernel_rfl
end Go.Proofs.YteoaecbflhnblaaGreatDoor.Ck
