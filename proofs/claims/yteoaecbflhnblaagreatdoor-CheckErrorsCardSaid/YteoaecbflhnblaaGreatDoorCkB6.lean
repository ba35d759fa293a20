/- CheckErrors: the second part answers true where the remainder is 6: by the kernel. -/
import Derived.Test.YteoaecbflhnblaaGreatDoorCkA
namespace Go.Proofs.YteoaecbflhnblaaGreatDoor.Ck
open Go Go.Ev
set_option maxRecDepth 1000000 in
theorem run2_6 (n : Int) : okTrue (run2 n 6) = true := by kernel_rfl
end Go.Proofs.YteoaecbflhnblaaGreatDoor.Ck
