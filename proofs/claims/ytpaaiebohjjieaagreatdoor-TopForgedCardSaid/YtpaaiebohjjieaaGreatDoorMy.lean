/-
  The fixed fact of the top's laws: its run: what is true by itself.
-/
import Derived.Test.YtpaaiebohjjieaaGreatDoorMx
namespace Go.Proofs.YtpaaiebohjjieaaGreatDoor
open Go Sx
set_option maxRecDepth 100000
theorem aoS:alm.holds=(alm.self rvP []).holds:=by kernel_rfl
end Go.Proofs.YtpaaiebohjjieaaGreatDoor
