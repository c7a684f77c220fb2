/-
  The framework's part 24: from a call's run to a law's row whose listed variables are laid by the program's text.
-/
import Derived.Test.YtpaaiebohjjieaaGreatDoorMi
import Derived.ChangeVars
import Derived.JoinedOf
import Derived.LaidLaws
import Derived.LaidHandle
import Derived.RowKitTokens
import Derived.Handed
namespace Go.Proofs.YtpaaiebohjjieaaGreatDoor.Sx
open Go Go.RowKit Go.WideShapes Go.ChangeShapes
theorem afu {H:Type}{enc:TypeId×Value->H}{C:Checked}{os:Os}{f:FuncId}{fn:Func}{s:ChangeSpec}{apart fresh handsOn again:Bool}{boolT:TypeId}{X:World->Prop}
  (hX: ∀(w w':World),w.heap=w'.heap->X w->X w')
  (own:ownKnob C.prog.godebug=none) (started:os.Started) (noInit:C.prog.inits.idxOf? f=none) (hfn:C.prog.funcs[f]?=some fn)
  (witness: ∃(w:World) (tape:Tape) (i:Input),w.os=os/\(w.forCall tape i).Shaped C.prog/\i.vars=[]/\Input.okWide C.prog (w.forCall tape i) .any w.heap.size f i /\
    ((s.pre enc C.prog fn [] apart (w.forCall tape i).memory i.args/\X (w.forCall tape i).memory)/\sizedMet enc C.prog fn (OpenSpec.ofChange s) apart (w.forCall tape i).memory i.args)/\({}:Assume).holds C.prog (lone (Frame.enter C.prog f i.args .normal) [] (w.forCall tape i)))
  (hl:laidOutB C.prog=true) (hr:fn.resultTypes=#[boolT]) (hbt:C.prog.underlying boolT=some .bool) (_hformed:C.prog.cellsOf boolT=1)
  (hp: ∀ t∈ fn.params.toList,C.prog.readableRec t=true/\t<C.prog.types.size) (hvars:s.vars=[])
  (hspec: ∀ ds:List (DataW H),ds.length=fn.params.toList.length->s.fn H ds={results:=[.lit (.bool true)],args:=ds})
  (hcall: ∀(W:World) (args:Array Value) (ds:List (DataW H)) (ps:List MemPlace),
    (∀(j:Nat) t v,fn.params[j]?=some t->args[j]?=some v->∃ base,Value.okWide C.prog W .any base t v) ->
    DataW.TrodAll enc C.prog W 0 (fun _=>true) true fn.params.toList args.toList ds ps->X W ->
    Calls C.prog f args W fun e W'=>e=.returned (.bool true)/\Below W.heap.size W W') :
  ReturnsInHanded {} C os f .any (fun w args=>(s.pre enc C.prog fn [] apart w args/\X w)/\sizedMet enc C.prog fn (OpenSpec.ofChange s) apart w args) (s.post enc C.prog fn apart fresh handsOn again):=by
 refine returnsInHanded_of_change_and (C:=C) (X:=fun w _=>X w) (fun w w' _ hh h=>hX w w' hh h) own started noInit hfn witness ?_;intro W base args ds gs before hval hW _ _ hXW _;have hW':=hW;obtain⟨p,q,hA,hV,rfl,hfz,hnd⟩:=hW;rw[hvars] at hV;obtain⟨rfl,rfl⟩:=trodVars_none hV;have hlen:=(GR hA).1;refine(hcall W args ds p (fun j t v h1 h2=>⟨base,hval j t v h1 h2⟩) hA hXW).mono fun e W' ⟨he,hb⟩=> ?_;subst he;have hs:=hspec ds hlen;refine⟨_,rfl,LG (pa:=p) (pv:=[]) hW' ?_ ?_ ?_ rfl hb ?_⟩
 ·intro b sp hd;rw[List.append_nil,hs,hr];exact trodAll_mk1 (shut_bool hbt true)
 ·intro sp hsp;rw[List.append_nil,hs];exact AU hl hb hp hA (fun x hx=>by have:=hW'.lt x (by simpa using hx);exact this) (fun x hx=>hsp x (by simpa using hx))
 ·intro sp _;rw[hvars,List.append_nil,hs];rfl
 ·exact ok_one hr (by rfl) (okWide_bool_mk hbt _)
theorem cells_of_cell {W:World}{b:Nat}{v:Value}(h:W.cell? ⟨b,0,none⟩=some v): ∃ c ty fr,W.heap[b]?=some (.cells c ty fr)/\c[0]?=some v:=by
 unfold World.cell? at h;cases hb:W.heap[b]? with
 | none=>rw[hb] at h;cases h
 | some o =>rw[hb] at h;cases o<;>first | exact⟨_,_,_,rfl,h⟩ | cases h
end Go.Proofs.YtpaaiebohjjieaaGreatDoor.Sx
