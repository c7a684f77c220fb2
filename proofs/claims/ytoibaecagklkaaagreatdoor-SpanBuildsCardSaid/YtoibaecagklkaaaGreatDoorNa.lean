/- A part of the proof. -/
import Derived.ChangeVars
import Derived.JoinedOf
import Derived.LaidLaws
import Derived.LaidHandle
import Derived.RowKitTokens
import Derived.Handed
import Derived.Test.YtoibaecagklkaaaGreatDoorMz
import Derived.Test.YtoibaecagklkaaaGreatDoorRows
import Derived.Stop.Joined
import Derived.Lib.LaidTab
open Bool renaming false->K,true->G
open Go.Proofs.Tryz renaming prog->A,underlying50->O,underlying9->P
open List renaming append_nil->L,getElem?_eq_getElem->M,getElem?_eq_some_iff->Q,getElem?_toArray->R,mem_singleton->N,range->S
open Option renaming none->I,some->F
open Option.some renaming inj->J,injEq->T
namespace Go.Proofs.YtoibaecagklkaaaGreatDoor
open Go Sx
variable {W:World}
namespace Sx
open Go Go.RowKit Go.WideShapes Go.ChangeShapes
theorem aoR {H:Type}{enc:TypeId×Value->H}{C:Checked}{os:Os}{f:FuncId}{fn:Func}{s:ChangeSpec}{apart fresh handsOn again:Bool}{boolT:TypeId}{X:World->Prop}
  (hX: ∀(w w':World),w.heap=w'.heap->X w->X w')
  (own:ownKnob C.prog.godebug=I) (started:os.Started) (noInit:C.prog.inits.idxOf? f=I) (hfn:C.prog.funcs[f]?=F fn)
  (witness: ∃(w:World) (tape:Tape) (i:Input),w.os=os/\(w.forCall tape i).Shaped C.prog/\i.vars=[]/\Input.okWide C.prog (w.forCall tape i) .any w.heap.size f i/\
    ((s.pre enc C.prog fn [] apart (w.forCall tape i).memory i.args/\X (w.forCall tape i).memory)/\sizedMet enc C.prog fn (OpenSpec.ofChange s) apart (w.forCall tape i).memory i.args)/\({}:Assume).holds C.prog (lone (Frame.enter C.prog f i.args .normal) [] (w.forCall tape i)))
  (hl:laidOutB C.prog=G) (hr:fn.resultTypes=#[boolT]) (hbt:C.prog.underlying boolT=F .bool) (_hformed:C.prog.cellsOf boolT=1)
  (hp: ∀ t∈ fn.params.toList,C.prog.readableRec t=G/\t<C.prog.types.size) (hvars:s.vars=[])
  (hspec: ∀ ds:List (DataW H),ds.length=fn.params.toList.length->s.fn H ds={results:=[.lit (.bool G)],args:=ds})
  (hcall: ∀(W:World) (args:Array Value) (ds:List (DataW H)) (ps:List MemPlace),
    (∀(j:Nat) t v,fn.params[j]?=F t->args[j]?=F v->∃ base,Value.okWide C.prog W .any base t v)->
    DataW.TrodAll enc C.prog W 0 (λ_=>G) G fn.params.toList args.toList ds ps->X W->
    Calls C.prog f args W λe W'=>e=.returned (.bool G)/\Below W.heap.size W W') :
  ReturnsInHanded {} C os f .any (λw args=>(s.pre enc C.prog fn [] apart w args/\X w)/\sizedMet enc C.prog fn (OpenSpec.ofChange s) apart w args) (s.post enc C.prog fn apart fresh handsOn again):=by
 refine returnsInHanded_of_change_and (C:=C) (X:=λw _=>X w) (λw w' _ hh h=>hX w w' hh h) own started noInit hfn witness ?_;intro W base args ds gs before hval hW _ _ hXW _;have hW':=hW;obtain⟨p,q,hA,hV,rfl,hfz,hnd⟩:=hW;rw[hvars] at hV;obtain⟨rfl,rfl⟩:=trodVars_none hV;have hlen:=(MM hA).1;refine(hcall W args ds p (λj t v h1 h2=>⟨base,hval j t v h1 h2⟩) hA hXW).mono λe W' ⟨he,hb⟩=> ?_;subst he;have hs:=hspec ds hlen;refine⟨_,rfl,RD (pa:=p) (pv:=[]) hW' ?_ ?_ ?_ rfl hb ?_⟩
 ·intro b sp hd;rw[L,hs,hr];exact trodAll_mk1 (shut_bool hbt G)
 ·intro sp hsp;rw[L,hs];exact FZ hl hb hp hA (λx hx=>by have:=hW'.lt x (by simpa using hx);exact this) (λx hx=>hsp x (by simpa using hx))
 ·intro sp _;rw[hvars,L,hs];rfl
 ·exact ok_one hr (by rfl) (okWide_bool_mk hbt _)
theorem cells_of_cell {b:Nat}{v:Value}(h:W.cell? ⟨b,0,I⟩=F v): ∃ c ty fr,W.heap[b]?=F (.cells c ty fr)/\c[0]?=F v:=by
 unfold World.cell? at h;cases hb:W.heap[b]? with
 | none=>rw[hb] at h;cases h
 | some o =>rw[hb] at h;cases o<;>first | exact⟨_,_,_,rfl,h⟩ | cases h
end Sx
section
open Go Sx Go.RowKit Go.WideShapes Go.ChangeShapes
set_option maxRecDepth 100000
theorem Tryz.own:ownKnob A.godebug=none:=by kernel_rfl
theorem Tryz.laidOut:laidOutB A=true:=by kernel_rfl
theorem Tryz.et:A.globalNamed "errors.errorType" = F 0:=by kernel_rfl
theorem Tryz.cb:A.globalNamed "guilloche/sha.cubes" = F 1:=by kernel_rfl
theorem Tryz.cbt:(A.globals[1]?).map (·.type)=F 234:=by kernel_rfl
theorem Tryz.rt:(A.cutTypes.find? (·.1== "internal/reflectlite.rtype")).map (·.2)=F 212:=by kernel_rfl
theorem Tryz.azO:((S A.types.size).filter λt=>A.rowNamed t [101,114,114,111,114])=[84]:=by kernel_rfl
abbrev YS:List (String×DataW Unit):=[("errors.errorType",Rows.laid_errors_errorType),("guilloche/sha.cubes",Rows.laid_guilloche_sha_cubes)]
theorem VK (h:laidMetH A YS W):Cf W:=by
 have h':laidMet A [("guilloche/sha.cubes",Lib.tabData .u32 X9)] W/\handlesMet A [("errors.errorType",Rows.laid_errors_errorType)] W:=h;obtain⟨name,u,ty,e1,e2,e3,e4,e5⟩:=h'.2 _ (N.2 rfl);have en:name=[101,114,114,111,114]:=(J e1).symm;subst en;obtain rfl:=J (Tryz.rt.symm.trans e2);have hm:ty∈ (S A.types.size).filter λt=>A.rowNamed t [101,114,114,111,114]:=List.mem_filter.2 ⟨List.mem_range.2 e3,e4⟩;rw[Tryz.azO] at hm;obtain rfl:=N.1 hm;have hh:typeHandle A 84=.pointer (F ⟨A.globals.size,84,I⟩):=by kernel_rfl
 rw[hh] at e5;have hc:W.cell? ⟨0,0,I⟩=F (.iface 212 (.agg #[.pointer (F ⟨A.globals.size,84,I⟩)])):=by simpa using World.var?_cell Tryz.et e5 0
 obtain⟨c,tyy,fr,g1,g2⟩:=Sx.cells_of_cell hc;have hT:=Lib.tabIs_of_head Tryz.cb Tryz.cbt Tryz.underlying234 Tryz.underlying167 (by kernel_rfl) (by kernel_rfl) h'.1;obtain⟨c2,ty2,fr2,k1,k2⟩:=Sx.cells_of_cell (hT.cell Tryz.cb 0 (by decide));intro p hp;have hp':p=(0,#[.iface 212 (.agg #[.pointer (F ⟨A.globals.size,84,I⟩)])])∨p=(1,(X9.map λz=>Value.int .u32 z).toArray):=by
  rcases List.mem_cons.1 hp with e | hp
  ·exact .inl e
  ·exact .inr (N.1 hp)
 rcases hp' with rfl | rfl
 ·refine⟨c,tyy,fr,g1,λi v hv=> ?_⟩;cases i with
  | zero=>simp only[R,List.getElem?_cons_zero,T] at hv;rw[← hv];exact g2
  | succ i=>simp at hv
 ·refine⟨c2,ty2,fr2,k1,λi v hv=> ?_⟩;rw[R,List.getElem?_map] at hv;cases hi:X9[i]? with
  | none=>rw[hi] at hv;cases hv
  | some z =>rw[hi] at hv;cases hv;have hl:=(Q.1 hi).1;have:=hT.cell Tryz.cb i hl;rw[cell_of k1,List.getD_eq_getElem?_getD,hi] at this;exact this
noncomputable def SM (os:Os):World :=
 let w0:=World.holding A os ⟨#[],#[],[]⟩
 {w0 with heap:=(w0.heap.modify 0 fun
   | .cells _ t frozen=>.cells #[.iface 212 (.agg #[.pointer (F ⟨A.globals.size,84,I⟩)])] t frozen
   | o=>o).modify 1 fun
   | .cells _ t frozen=>.cells #[.int .u32 1116352408,.int .u32 1899447441,.int .u32 3049323471,.int .u32 3921009573,.int .u32 961987163,.int .u32 1508970993,.int .u32 2453635748,.int .u32 2870763221,.int .u32 3624381080,.int .u32 310598401,.int .u32 607225278,.int .u32 1426881987,.int .u32 1925078388,.int .u32 2162078206,.int .u32 2614888103,.int .u32 3248222580,.int .u32 3835390401,.int .u32 4022224774,.int .u32 264347078,.int .u32 604807628,.int .u32 770255983,.int .u32 1249150122,.int .u32 1555081692,.int .u32 1996064986,.int .u32 2554220882,.int .u32 2821834349,.int .u32 2952996808,.int .u32 3210313671,.int .u32 3336571891,.int .u32 3584528711,.int .u32 113926993,.int .u32 338241895,.int .u32 666307205,.int .u32 773529912,.int .u32 1294757372,.int .u32 1396182291,.int .u32 1695183700,.int .u32 1986661051,.int .u32 2177026350,.int .u32 2456956037,.int .u32 2730485921,.int .u32 2820302411,.int .u32 3259730800,.int .u32 3345764771,.int .u32 3516065817,.int .u32 3600352804,.int .u32 4094571909,.int .u32 275423344,.int .u32 430227734,.int .u32 506948616,.int .u32 659060556,.int .u32 883997877,.int .u32 958139571,.int .u32 1322822218,.int .u32 1537002063,.int .u32 1747873779,.int .u32 1955562222,.int .u32 2024104815,.int .u32 2227730452,.int .u32 2361852424,.int .u32 2428436474,.int .u32 2756734187,.int .u32 3204031479,.int .u32 3329325298] t frozen
   | o=>o}
theorem Rz (os:Os)(args:Array Value):laidMetH A YS ((SM os).forCall (λ_ _=>0) ⟨#[],args,[]⟩).memory :=laidMetH_of_parts (laidMet_of_run' 8 (by kernel_rfl) (by kernel_rfl)) (by kernel_rfl)
theorem abw:A.cellsOf 50=2:=by kernel_rfl
theorem UJ:A.cellsOf 9=1:=by kernel_rfl
theorem amB {base:Nat}{H:Type}{enc:TypeId×Value->H}{v:Value}{d:DataW H}{ps:List MemPlace}(h:Value.okWide A W .any base 22 v)
  (hd:DataW.Trod enc A W 0 (λ_=>G) G 22 v d ps) :
  ∃(z:Bool) (b o n c:Nat) (f g:Nat->h_),v=(SV.cT 0 2 z o 0 n c).val (λ_=>b)/\n<=maxLen/\Stood W b (.view z o n [.str f,.str g]):=by
 obtain⟨z,b,o,n,c,hv,hn,hc⟩:=aBu Tryz.underlying22 h hd;rw[abw] at hv hc;cases hz:z&&Nat.beq n 0 with
 | true=>exact⟨z,b,o,n,c,λ_=>[],λ_=>[],hv,hn,λhh=>by rw[show SB.no _=(z&&Nat.beq n 0)from rfl,hz] at hh;cases hh⟩
 | false =>
   obtain⟨cs,ty,fr,hblk,hel⟩:=hc hz;refine⟨z,b,o,n,c,λi=>abG cs (o+i*2),λi=>abG cs (o+i*2+1),hv,hn,λ_=>⟨_,hblk,Bj λi k col hi hk=> ?_⟩⟩;obtain⟨xs,y,m,hl,hget,ht⟩:=hel i hi;have x0:=hget 0 (by omega);have x1:=hget 1 (by omega);rw[M (by omega)] at x0 x1;obtain⟨m0,y0,f0⟩:=Ob O ht (i:=0) rfl UJ (M (by show 0<xs.length;omega));obtain⟨m1,y1,f1⟩:=Ob O ht (i:=1) rfl UJ (M (by show 1<xs.length;omega))
   match k,hk with
   | 0,hk=>obtain rfl:=J hk;exact(F0 P f0 x0).1
   | 1,hk=>obtain rfl:=J hk;exact(F0 P f1 x1).1
theorem afb (hW:Cf W){l:List Seen}{b:Nat->Nat}(h: ∀ i s,l[i]?=F s->Stood W (b i) s.B):bp (b5.at W (λ_=>False) hW (λ_ _ h=>h)) b (tN 0 l) l.length W:=by
 refine⟨λj B a hj hn=> ?_,λj j' B B' a hj hn hj' hn' hr=> ?_,λj B hj=> ?_,λj B a hj hn hro=> ?_,Ext.refl _ _,⟨Nat.zero_le _,λk hk=>absurd hk (Nat.not_lt_zero _)⟩,λD hD=>by cases hD⟩
 ·obtain⟨i,s,e1,e2,rfl⟩:=jx hj;rw[Nat.zero_add] at e1;subst e1;obtain⟨hn1,rfl⟩:=(SB.tL (B:=s.B) rfl).1 hn;obtain⟨ob,g4,g5⟩:=h _ s e2 hn1;exact⟨ob,g4,g5 _⟩
 ·obtain⟨i,s,e1,e2,rfl⟩:=jx hj;rcases hr with hr | hr
  ·cases hr
  ·obtain⟨i',s',e1',e2',rfl⟩:=jx hj';cases hr
 ·obtain⟨i,s,e1,e2,rfl⟩:=jx hj;have:=(Q.1 e2).1;omega
 ·obtain⟨i,s,e1,e2,rfl⟩:=jx hj;cases hro
theorem aAc {b0:Nat}{s0:Seen}(h0:Stood W b0 s0.B): ∀(i:Nat) (s:Seen),[s0][i]?=F s->Stood W b0 s.B
 | 0,s,h=>by obtain rfl:=J h;exact h0
 | i+1,s,h=>by simp at h
theorem azq {n:Nat}(h:n<=maxLen):n<9223372036854775808:=by have:n<=9223372036854775807:=h;omega
theorem aso {cfg:iG}(hg:Sx.Good A cfg){f:FuncId}{fn:Func}(hf:A.funcs[f]?=F fn) (hn:(fn.name== "runtime.NumGoroutine")=K) (hb:fn.body.isSome=G) {args:List SV} {l:List Seen}
  (h:au (je cfg f fn args l (.ret (.bool K G)))) (hm:Mem.wf l.length (tN 0 l)=G) (hw:SV.lY l.length args=G)  (hW:Cf W) {b:Nat->Nat} (hs: ∀ i s,l[i]?=F s->Stood W (b i) s.B) :
  Calls A f (SV.vals b args).toArray W λe W'=>e=.returned (.bool G)/\Below W.heap.size W W':=by
 have hc:=kC hg hf hn hb h hm hw (afb hW hs);refine hc.mono ?_;rintro e w' ⟨v,rfl,E',sv,m',nx',_,_,g3,g4,g5⟩;cases sv with
 | none=>exact g5.elim
 | some u =>have hu:ai u (.bool K G):=g5;exact⟨by rw[g3 u rfl,hu E'];rfl,g4.ext.below λ_ h=>h⟩
end
end Go.Proofs.YtoibaecagklkaaaGreatDoor
