/-
  The fixed fact of the top's laws: what is true by itself in its run.
-/
import Derived.Test.YtpaaiebohjjieaaGreatDoorNa
namespace Go.Proofs.YtpaaiebohjjieaaGreatDoor
open Go Sx
set_option maxRecDepth 100000
theorem am4:am2.holds=(am2.self .t []).holds:=by kernel_rfl
end Go.Proofs.YtpaaiebohjjieaaGreatDoor
