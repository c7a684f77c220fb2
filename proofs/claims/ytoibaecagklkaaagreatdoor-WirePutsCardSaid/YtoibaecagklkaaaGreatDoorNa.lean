/-
  The framework's part 24: from a call's run to a law's row whose listed variables are laid by the program's text.
-/
import Derived.Test.YtoibaecagklkaaaGreatDoorMj
import Derived.ChangeVars
import Derived.JoinedOf
import Derived.LaidLaws
import Derived.LaidHandle
import Derived.RowKitTokens
import Derived.Handed
import Derived.Test.YtoibaecagklkaaaGreatDoorMn
import Derived.Test.YtoibaecagklkaaaGreatDoorMo
import Derived.Test.YtoibaecagklkaaaGreatDoorMz
import Derived.Test.YtoibaecagklkaaaGreatDoorRows
import Derived.Stop.Joined
import Derived.Lib.LaidTab
open Go.Proofs.Tryz renaming prog->d
open List renaming append_nil->y,getElem?_toArray->D,mem_singleton->A,range->F
open Option renaming none->n,some->g
namespace Go.Proofs.YtoibaecagklkaaaGreatDoor
namespace Sx
open Go Go.RowKit Go.WideShapes Go.ChangeShapes
theorem T9 {H:Type}{enc:TypeId×Value->H}{C:Checked}{os:Os}{f:FuncId}{fn:Func}{s:ChangeSpec}{apart fresh handsOn again:Bool}{boolT:TypeId}{X:World->Prop}
  (hX: ∀(w w':World),w.heap=w'.heap->X w->X w')
  (own:ownKnob C.prog.godebug=n) (started:os.Started) (noInit:C.prog.inits.idxOf? f=n) (hfn:C.prog.funcs[f]?=g fn)
  (witness: ∃(w:World) (tape:Tape) (i:Input),w.os=os/\(w.forCall tape i).Shaped C.prog/\i.vars=[]/\Input.okWide C.prog (w.forCall tape i) .any w.heap.size f i /\
    ((s.pre enc C.prog fn [] apart (w.forCall tape i).memory i.args/\X (w.forCall tape i).memory)/\sizedMet enc C.prog fn (OpenSpec.ofChange s) apart (w.forCall tape i).memory i.args)/\({}:Assume).holds C.prog (lone (Frame.enter C.prog f i.args .normal) [] (w.forCall tape i)))
  (hl:laidOutB C.prog=true) (hr:fn.resultTypes=#[boolT]) (hbt:C.prog.underlying boolT=g .bool) (_hformed:C.prog.cellsOf boolT=1)
  (hp: ∀ t∈ fn.params.toList,C.prog.readableRec t=true/\t<C.prog.types.size) (hvars:s.vars=[])
  (hspec: ∀ ds:List (DataW H),ds.length=fn.params.toList.length->s.fn H ds={results:=[.lit (.bool true)],args:=ds})
  (hcall: ∀(W:World) (args:Array Value) (ds:List (DataW H)) (ps:List MemPlace),
    (∀(j:Nat) t v,fn.params[j]?=g t->args[j]?=g v->∃ base,Value.okWide C.prog W .any base t v) ->
    DataW.TrodAll enc C.prog W 0 (λ_=>true) true fn.params.toList args.toList ds ps->X W ->
    Calls C.prog f args W λe W'=>e=.returned (.bool true)/\Below W.heap.size W W') :
  ReturnsInHanded {} C os f .any (λw args=>(s.pre enc C.prog fn [] apart w args/\X w)/\sizedMet enc C.prog fn (OpenSpec.ofChange s) apart w args) (s.post enc C.prog fn apart fresh handsOn again):=by
 refine returnsInHanded_of_change_and (C:=C) (X:=λw _=>X w) (λw w' _ hh h=>hX w w' hh h) own started noInit hfn witness ?_;intro W base args ds gs before hval hW _ _ hXW _;have hW':=hW;obtain⟨p,q,hA,hV,rfl,hfz,hnd⟩:=hW;rw[hvars] at hV;obtain⟨rfl,rfl⟩:=trodVars_none hV;have hlen:=(y6 hA).1;refine(hcall W args ds p (λj t v h1 h2=>⟨base,hval j t v h1 h2⟩) hA hXW).mono λe W' ⟨he,hb⟩=> ?_;subst he;have hs:=hspec ds hlen;refine⟨_,rfl,Cq (pa:=p) (pv:=[]) hW' ?_ ?_ ?_ rfl hb ?_⟩
 ·intro b sp hd;rw[y,hs,hr];exact trodAll_mk1 (shut_bool hbt true)
 ·intro sp hsp;rw[y,hs];exact s9 hl hb hp hA (λx hx=>by have:=hW'.lt x (by simpa using hx);exact this) (λx hx=>hsp x (by simpa using hx))
 ·intro sp _;rw[hvars,y,hs];rfl
 ·exact ok_one hr (by rfl) (okWide_bool_mk hbt _)
theorem cells_of_cell {W:World}{b:Nat}{v:Value}(h:W.cell? ⟨b,0,n⟩=g v): ∃ c ty fr,W.heap[b]?=g (.cells c ty fr)/\c[0]?=g v:=by
 unfold World.cell? at h;cases hb:W.heap[b]? with
 | none=>rw[hb] at h;cases h
 | some o =>rw[hb] at h;cases o<;>first | exact⟨_,_,_,rfl,h⟩ | cases h
end Sx
section
open Go Sx Go.RowKit Go.WideShapes Go.ChangeShapes
set_option maxRecDepth 100000
theorem Tryz.own:ownKnob d.godebug=none:=by kernel_rfl
theorem Tryz.laidOut:laidOutB d=true:=by kernel_rfl
theorem Tryz.et:d.globalNamed "errors.errorType" = g 0:=by kernel_rfl
theorem Tryz.cb:d.globalNamed "guilloche/sha.cubes" = g 1:=by kernel_rfl
theorem Tryz.cbt:(d.globals[1]?).map (·.type)=g 234:=by kernel_rfl
theorem Tryz.rt:(d.cutTypes.find? (·.1== "internal/reflectlite.rtype")).map (·.2)=g 212:=by kernel_rfl
theorem Tryz.abF:((F d.types.size).filter λt=>d.rowNamed t [101,114,114,111,114])=[84]:=by kernel_rfl
abbrev HW:List (String×DataW Unit):=[("errors.errorType",Rows.laid_errors_errorType),("guilloche/sha.cubes",Rows.laid_guilloche_sha_cubes)]
theorem Fm {W:World}(h:laidMetH d HW W):p4 W:=by
 have h':laidMet d [("guilloche/sha.cubes",Lib.tabData .u32 Hl)] W/\handlesMet d [("errors.errorType",Rows.laid_errors_errorType)] W:=h;obtain⟨name,u,ty,e1,e2,e3,e4,e5⟩:=h'.2 _ (A.2 rfl);have en:name=[101,114,114,111,114]:=(Option.some.inj e1).symm;subst en;obtain rfl:=Option.some.inj (Tryz.rt.symm.trans e2);have hm:ty∈ (F d.types.size).filter λt=>d.rowNamed t [101,114,114,111,114]:=List.mem_filter.2 ⟨List.mem_range.2 e3,e4⟩;rw[Tryz.abF] at hm;obtain rfl:=A.1 hm;have hh:typeHandle d 84=.pointer (g ⟨d.globals.size,84,n⟩):=by kernel_rfl
 rw[hh] at e5;have hc:W.cell? ⟨0,0,n⟩=g (.iface 212 (.agg #[.pointer (g ⟨d.globals.size,84,n⟩)])):=by simpa using World.var?_cell Tryz.et e5 0
 obtain⟨c,tyy,fr,g1,g2⟩:=Sx.cells_of_cell hc;have hT:=Lib.tabIs_of_head Tryz.cb Tryz.cbt Tryz.underlying234 Tryz.underlying167 (by kernel_rfl) (by kernel_rfl) h'.1;obtain⟨c2,ty2,fr2,k1,k2⟩:=Sx.cells_of_cell (hT.cell Tryz.cb 0 (by decide));intro p hp;have hp':p=(0,#[.iface 212 (.agg #[.pointer (g ⟨d.globals.size,84,n⟩)])])∨p=(1,(Hl.map λz=>Value.int .u32 z).toArray):=by
  rcases List.mem_cons.1 hp with e | hp
  ·exact .inl e
  ·exact .inr (A.1 hp)
 rcases hp' with rfl | rfl
 ·refine⟨c,tyy,fr,g1,λi v hv=> ?_⟩;cases i with
  | zero=>simp only[D,List.getElem?_cons_zero,Option.some.injEq] at hv;rw[← hv];exact g2
  | succ i=>simp at hv
 ·refine⟨c2,ty2,fr2,k1,λi v hv=> ?_⟩;rw[D,List.getElem?_map] at hv;cases hi:Hl[i]? with
  | none=>rw[hi] at hv;cases hv
  | some z =>rw[hi] at hv;cases hv;have hl:=(List.getElem?_eq_some_iff.1 hi).1;have:=hT.cell Tryz.cb i hl;rw[cell_of k1,List.getD_eq_getElem?_getD,hi] at this;exact this
noncomputable def Dh (os:Os):World :=
 let w0:=World.holding d os ⟨#[],#[],[]⟩
 {w0 with heap:=(w0.heap.modify 0 fun
   | .cells _ t frozen=>.cells #[.iface 212 (.agg #[.pointer (g ⟨d.globals.size,84,n⟩)])] t frozen
   | o=>o).modify 1 fun
   | .cells _ t frozen=>.cells #[.int .u32 1116352408,.int .u32 1899447441,.int .u32 3049323471,.int .u32 3921009573,.int .u32 961987163,.int .u32 1508970993,.int .u32 2453635748,.int .u32 2870763221,.int .u32 3624381080,.int .u32 310598401,.int .u32 607225278,.int .u32 1426881987,.int .u32 1925078388,.int .u32 2162078206,.int .u32 2614888103,.int .u32 3248222580,.int .u32 3835390401,.int .u32 4022224774,.int .u32 264347078,.int .u32 604807628,.int .u32 770255983,.int .u32 1249150122,.int .u32 1555081692,.int .u32 1996064986,.int .u32 2554220882,.int .u32 2821834349,.int .u32 2952996808,.int .u32 3210313671,.int .u32 3336571891,.int .u32 3584528711,.int .u32 113926993,.int .u32 338241895,.int .u32 666307205,.int .u32 773529912,.int .u32 1294757372,.int .u32 1396182291,.int .u32 1695183700,.int .u32 1986661051,.int .u32 2177026350,.int .u32 2456956037,.int .u32 2730485921,.int .u32 2820302411,.int .u32 3259730800,.int .u32 3345764771,.int .u32 3516065817,.int .u32 3600352804,.int .u32 4094571909,.int .u32 275423344,.int .u32 430227734,.int .u32 506948616,.int .u32 659060556,.int .u32 883997877,.int .u32 958139571,.int .u32 1322822218,.int .u32 1537002063,.int .u32 1747873779,.int .u32 1955562222,.int .u32 2024104815,.int .u32 2227730452,.int .u32 2361852424,.int .u32 2428436474,.int .u32 2756734187,.int .u32 3204031479,.int .u32 3329325298] t frozen
   | o=>o}
theorem Cm (os:Os)(args:Array Value):laidMetH d HW ((Dh os).forCall (λ_ _=>0) ⟨#[],args,[]⟩).memory :=laidMetH_of_parts (laidMet_of_run' 8 (by kernel_rfl) (by kernel_rfl)) (by kernel_rfl)
end
end Go.Proofs.YtoibaecagklkaaaGreatDoor
