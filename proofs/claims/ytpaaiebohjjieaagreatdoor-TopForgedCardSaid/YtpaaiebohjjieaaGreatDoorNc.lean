/-
  The fixed fact of the top's laws: its run.
-/
import Derived.Test.YtpaaiebohjjieaaGreatDoorNa
namespace Go.Proofs.YtpaaiebohjjieaaGreatDoor
open Go Sx
set_option maxRecDepth 100000
theorem am3:(am2.prune .t []).holds=alT.p:=by kernel_rfl
end Go.Proofs.YtpaaiebohjjieaaGreatDoor
