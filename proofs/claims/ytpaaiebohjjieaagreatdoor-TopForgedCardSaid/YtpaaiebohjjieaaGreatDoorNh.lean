/-
  TopForged: the row's cells, together.
-/
import Derived.Test.YtpaaiebohjjieaaGreatDoorNg
import Derived.Test.YtpaaiebohjjieaaGreatDoorTie
import Derived.Test.YtpaaiebohjjieaaGreatDoorCards
import Derived.SevenTiedAt
import Derived.JoinedOf
namespace Go.Proofs.YtpaaiebohjjieaaGreatDoor
open Go
set_option maxRecDepth 100000
theorem alz:laidOutB Tryz.prog=true:=by kernel_rfl
theorem aiG:mapsRowed Tryz.prog=true:=by kernel_rfl
theorem aly:(Rows.topForgedRow.plainKeys==Tryz.prog.plainKeys)=true:=by kernel_rfl
theorem acV:joinedFacts Tryz.prog 3 Tryz.f3 Rows.topForgedSpec Rows.topForgedRow=true:=by unfold joinedFacts;rw[aiF,XX,ao2,aiE,alz,aiG,aly];kernel_rfl
end Go.Proofs.YtpaaiebohjjieaaGreatDoor
