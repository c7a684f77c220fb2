/-
  TopForged: nothing that the law reaches starts a goroutine.
-/
import Derived.Test.YtpaaiebohjjieaaGreatDoorNg
import Derived.Test.YtpaaiebohjjieaaGreatDoorTie
import Derived.Test.YtpaaiebohjjieaaGreatDoorCards
import Derived.SevenTiedAt
import Derived.JoinedOf
namespace Go.Proofs.YtpaaiebohjjieaaGreatDoor
open Go
set_option maxRecDepth 100000
theorem aiD:Tryz.prog.goes 3=false:=by unfold Program.goes;rw[HJ,XX];kernel_rfl
theorem alx:false=Rows.topForgedRow.goesBy Tryz.prog:=by
 have h: ∀ x:Bool,x=false->false=(x||match Rows.topForgedRow.start with
  | .entering=>false
  | _=>Tryz.prog.inits.toList.any Tryz.prog.goes):=fun x h=>by rw[h];rfl
 unfold OpenClaim.goesBy Program.goesAt;refine h _ ?_;unfold Program.goesFrom;rw[show Tryz.prog.funcNamed Rows.topForgedRow.func=some 3 by kernel_rfl,Option.any_some];exact aiD
end Go.Proofs.YtpaaiebohjjieaaGreatDoor
