/-
  The fixed fact of the top's laws: its run: what is left.
-/
import Derived.Test.YtpaaiebohjjieaaGreatDoorMx
namespace Go.Proofs.YtpaaiebohjjieaaGreatDoor
open Go Sx
set_option maxRecDepth 100000
theorem aoR:(alm.prune rvP []).holds=rvT.p:=by kernel_rfl
end Go.Proofs.YtpaaiebohjjieaaGreatDoor
