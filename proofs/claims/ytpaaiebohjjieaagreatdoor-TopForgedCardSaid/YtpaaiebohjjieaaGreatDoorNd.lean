/-
  The fixed fact of the top's laws: the contract.
-/
import Derived.Test.YtpaaiebohjjieaaGreatDoorNb
import Derived.Test.YtpaaiebohjjieaaGreatDoorNc
import Derived.Test.YtpaaiebohjjieaaGreatDoorMv
import Derived.Test.YtpaaiebohjjieaaGreatDoorMi
namespace Go.Proofs.YtpaaiebohjjieaaGreatDoor
open Go Sx
set_option maxRecDepth 20000
theorem adx:OK:=by
 intro args m nx K hk;refine JG (args:=[]) (a:=.ret (.bool true true)) abE rfl (by exact rfl) (.closed alT ⟨am4,am3⟩) args m nx K ?_;cases args with
 | nil=>exact hk.2
 | cons x r=>exact hk.elim
end Go.Proofs.YtpaaiebohjjieaaGreatDoor
namespace Go.Proofs.YtpaaiebohjjieaaGreatDoor.Sx
open Go Go.RowKit Go.WideShapes Go.ChangeShapes
theorem Il {P:Program}{W:World}{H:Type}{enc:TypeId×Value->H}{e:TypeId}{fs:Array Field}{xs:List Value}{y:DataW H×List MemPlace}{m:Nat}(he:P.underlying e=some (.struct fs))
  (h:DataW.trod enc P W 0 (fun _=>true) true m e xs=some y) {i:Nat} {f:Field} (hf:fs[i]?=some f) (h1:P.cellsOf f.type=1) {x:Value} (hx:xs[f.offset]?=some x) :
  ∃ m' y',DataW.trod enc P W 0 (fun _=>true) true m' f.type [x]=some y':=by
 obtain⟨ys,m',rfl,_,_,hyl,hfield⟩:=DataW.trod_struct he h;have:=hfield i f hf;rw[h1] at this;have hd:(xs.drop f.offset).take 1=[x]:=by rw[List.take_one,List.head?_drop,hx];rfl
 rw[hd,List.getElem?_eq_getElem (by rw[hyl];exact(Array.getElem?_eq_some_iff.1 hf).1)] at this;exact⟨m',_,this⟩
def Stood (W:World)(b:Nat)(B:SB):Prop:=B.no=false->∃ ob,W.heap[b]?=some ob/\∀ E,bw E B ob
end Go.Proofs.YtpaaiebohjjieaaGreatDoor.Sx
