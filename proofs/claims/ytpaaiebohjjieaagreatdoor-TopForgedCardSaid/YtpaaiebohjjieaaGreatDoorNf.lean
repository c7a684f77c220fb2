/-
  The rows' set-up: what is laid; a world where it is; calls.
-/
import Derived.Test.YtpaaiebohjjieaaGreatDoorMl
import Derived.Test.YtpaaiebohjjieaaGreatDoorMm
import Derived.Test.YtpaaiebohjjieaaGreatDoorNd
import Derived.Test.YtpaaiebohjjieaaGreatDoorNe
import Derived.Test.YtpaaiebohjjieaaGreatDoorRows
import Derived.Stop.Joined
import Derived.Lib.LaidTab
import Derived.Test.YtpaaiebohjjieaaGreatDoorMp
namespace Go.Proofs.YtpaaiebohjjieaaGreatDoor
open Go Sx Go.RowKit Go.WideShapes Go.ChangeShapes
set_option maxRecDepth 100000
theorem Tryz.own:ownKnob Tryz.prog.godebug=none:=by kernel_rfl
theorem Tryz.laidOut:laidOutB Tryz.prog=true:=by kernel_rfl
theorem Tryz.et:Tryz.prog.globalNamed "errors.errorType" = some 0:=by kernel_rfl
theorem Tryz.cb:Tryz.prog.globalNamed "guilloche/sha.cubes" = some 1:=by kernel_rfl
theorem Tryz.cbt:(Tryz.prog.globals[1]?).map (·.type)=some 367:=by kernel_rfl
theorem Tryz.rt:(Tryz.prog.cutTypes.find? (·.1== "internal/reflectlite.rtype")).map (·.2)=some 262:=by kernel_rfl
theorem Tryz.aoy:((List.range Tryz.prog.types.size).filter fun t=>Tryz.prog.rowNamed t [101,114,114,111,114])=[73]:=by kernel_rfl
abbrev Sz:List (String×DataW Unit):=[("errors.errorType",Rows.laid_errors_errorType),("guilloche/sha.cubes",Rows.laid_guilloche_sha_cubes)]
theorem PJ {W:World}(h:laidMetH Tryz.prog Sz W):w6 W:=by
 have h':laidMet Tryz.prog [("guilloche/sha.cubes",Lib.tabData .u32 RH)] W/\handlesMet Tryz.prog [("errors.errorType",Rows.laid_errors_errorType)] W:=h;obtain⟨name,u,ty,e1,e2,e3,e4,e5⟩:=h'.2 _ (List.mem_singleton.2 rfl);have en:name=[101,114,114,111,114]:=(Option.some.inj e1).symm;subst en;obtain rfl:=Option.some.inj (Tryz.rt.symm.trans e2);have hm:ty∈ (List.range Tryz.prog.types.size).filter fun t=>Tryz.prog.rowNamed t [101,114,114,111,114]:=List.mem_filter.2 ⟨List.mem_range.2 e3,e4⟩;rw[Tryz.aoy] at hm;obtain rfl:=List.mem_singleton.1 hm;have hh:typeHandle Tryz.prog 73=.pointer (some ⟨Tryz.prog.globals.size,73,none⟩):=by kernel_rfl
 rw[hh] at e5;have hc:W.cell? ⟨0,0,none⟩=some (.iface 262 (.agg #[.pointer (some ⟨Tryz.prog.globals.size,73,none⟩)])):=by simpa using World.var?_cell Tryz.et e5 0
 obtain⟨c,tyy,fr,g1,g2⟩:=Sx.cells_of_cell hc;have hT:=Lib.tabIs_of_head Tryz.cb Tryz.cbt Tryz.underlying367 Tryz.underlying255 (by kernel_rfl) (by kernel_rfl) h'.1;obtain⟨c2,ty2,fr2,k1,k2⟩:=Sx.cells_of_cell (hT.cell Tryz.cb 0 (by decide));intro p hp;have hp':p=(0,#[.iface 262 (.agg #[.pointer (some ⟨Tryz.prog.globals.size,73,none⟩)])])∨p=(1,(RH.map fun z=>Value.int .u32 z).toArray):=by
  rcases List.mem_cons.1 hp with e | hp
  ·exact .inl e
  ·exact .inr (List.mem_singleton.1 hp)
 rcases hp' with rfl | rfl
 ·refine⟨c,tyy,fr,g1,fun i v hv=> ?_⟩;cases i with
  | zero=>simp only[List.getElem?_toArray,List.getElem?_cons_zero,Option.some.injEq] at hv;rw[← hv];exact g2
  | succ i=>simp at hv
 ·refine⟨c2,ty2,fr2,k1,fun i v hv=> ?_⟩;rw[List.getElem?_toArray,List.getElem?_map] at hv;cases hi:RH[i]? with
  | none=>rw[hi] at hv;cases hv
  | some z =>rw[hi] at hv;injection hv with hv;subst hv;have hl:=(List.getElem?_eq_some_iff.1 hi).1;have:=hT.cell Tryz.cb i hl;rw[cell_of k1,List.getD_eq_getElem?_getD,hi] at this;exact this
noncomputable def MK (os:Os):World :=
 let w0:=World.holding Tryz.prog os ⟨#[],#[],[]⟩
 {w0 with heap:=(w0.heap.modify 0 fun
   | .cells _ t frozen=>.cells #[.iface 262 (.agg #[.pointer (some ⟨Tryz.prog.globals.size,73,none⟩)])] t frozen
   | o=>o).modify 1 fun
   | .cells _ t frozen=>.cells #[.int .u32 1116352408,.int .u32 1899447441,.int .u32 3049323471,.int .u32 3921009573,.int .u32 961987163,.int .u32 1508970993,.int .u32 2453635748,.int .u32 2870763221,.int .u32 3624381080,.int .u32 310598401,.int .u32 607225278,.int .u32 1426881987,.int .u32 1925078388,.int .u32 2162078206,.int .u32 2614888103,.int .u32 3248222580,.int .u32 3835390401,.int .u32 4022224774,.int .u32 264347078,.int .u32 604807628,.int .u32 770255983,.int .u32 1249150122,.int .u32 1555081692,.int .u32 1996064986,.int .u32 2554220882,.int .u32 2821834349,.int .u32 2952996808,.int .u32 3210313671,.int .u32 3336571891,.int .u32 3584528711,.int .u32 113926993,.int .u32 338241895,.int .u32 666307205,.int .u32 773529912,.int .u32 1294757372,.int .u32 1396182291,.int .u32 1695183700,.int .u32 1986661051,.int .u32 2177026350,.int .u32 2456956037,.int .u32 2730485921,.int .u32 2820302411,.int .u32 3259730800,.int .u32 3345764771,.int .u32 3516065817,.int .u32 3600352804,.int .u32 4094571909,.int .u32 275423344,.int .u32 430227734,.int .u32 506948616,.int .u32 659060556,.int .u32 883997877,.int .u32 958139571,.int .u32 1322822218,.int .u32 1537002063,.int .u32 1747873779,.int .u32 1955562222,.int .u32 2024104815,.int .u32 2227730452,.int .u32 2361852424,.int .u32 2428436474,.int .u32 2756734187,.int .u32 3204031479,.int .u32 3329325298] t frozen
   | o=>o}
theorem LA (os:Os)(args:Array Value):laidMetH Tryz.prog Sz ((MK os).forCall (fun _ _=>0) ⟨#[],args,[]⟩).memory :=laidMetH_of_parts (laidMet_of_run' 8 (by kernel_rfl) (by kernel_rfl)) (by kernel_rfl)
theorem U0:Tryz.prog.cellsOf 38=2:=by kernel_rfl
theorem Ou:Tryz.prog.cellsOf 9=1:=by kernel_rfl
theorem adI {W:World}{base:Nat}{H:Type}{enc:TypeId×Value->H}{v:Value}{d:DataW H}{ps:List MemPlace}(h:Value.okWide Tryz.prog W .any base 22 v)
  (hd:DataW.Trod enc Tryz.prog W 0 (fun _=>true) true 22 v d ps) :
  ∃(z:Bool) (b o n c:Nat) (f g:Nat->List UInt8),v=(SV.cC 0 2 z o 0 n c).val (fun _=>b)/\n<=maxLen/\Stood W b (.view z o n [.str f,.str g]):=by
 obtain⟨z,b,o,n,c,hv,hn,hc⟩:=aqb Tryz.underlying22 h hd;rw[U0] at hv hc;cases hz:z&&Nat.beq n 0 with
 | true=>exact⟨z,b,o,n,c,fun _=>[],fun _=>[],hv,hn,fun hh=>by rw[show SB.no _=(z&&Nat.beq n 0)from rfl,hz] at hh;cases hh⟩
 | false =>
   obtain⟨cs,ty,fr,hblk,hel⟩:=hc hz;refine⟨z,b,o,n,c,fun i=>U7 cs (o+i*2),fun i=>U7 cs (o+i*2+1),hv,hn,fun _=>⟨_,hblk,wg fun i k col hi hk=> ?_⟩⟩;obtain⟨xs,y,m,hl,hget,ht⟩:=hel i hi;have x0:=hget 0 (by omega);have x1:=hget 1 (by omega);rw[List.getElem?_eq_getElem (by omega)] at x0 x1;obtain⟨m0,y0,f0⟩:=Il Tryz.underlying38 ht (i:=0) rfl Ou (List.getElem?_eq_getElem (by show 0<xs.length;omega));obtain⟨m1,y1,f1⟩:=Il Tryz.underlying38 ht (i:=1) rfl Ou (List.getElem?_eq_getElem (by show 1<xs.length;omega))
   match k,hk with
   | 0,hk=>obtain rfl:=Option.some.inj hk;exact(AV Tryz.underlying9 f0 x0).1
   | 1,hk=>obtain rfl:=Option.some.inj hk;exact(AV Tryz.underlying9 f1 x1).1
theorem XI {W:World}(hW:w6 W){l:List Seen}{b:Nat->Nat}(h: ∀ i s,l[i]?=some s->Stood W (b i) s.B):aG (aQ.at W (fun _=>False) hW (fun _ _ h=>h)) b (nU 0 l) l.length W:=by
 refine⟨fun j B a hj hn=> ?_,fun j j' B B' a hj hn hj' hn' hr=> ?_,fun j B hj=> ?_,fun j B a hj hn hro=> ?_,Ext.refl _ _,⟨Nat.zero_le _,fun k hk=>absurd hk (Nat.not_lt_zero _)⟩,fun D hD=>by cases hD⟩
 ·obtain⟨i,s,e1,e2,rfl⟩:=fP hj;rw[Nat.zero_add] at e1;subst e1;obtain⟨hn1,rfl⟩:=(SB.oV (B:=s.B) rfl).1 hn;obtain⟨ob,g4,g5⟩:=h _ s e2 hn1;exact⟨ob,g4,g5 _⟩
 ·obtain⟨i,s,e1,e2,rfl⟩:=fP hj;rcases hr with hr | hr
  ·cases hr
  ·obtain⟨i',s',e1',e2',rfl⟩:=fP hj';cases hr
 ·obtain⟨i,s,e1,e2,rfl⟩:=fP hj;have:=(List.getElem?_eq_some_iff.1 e2).1;omega
 ·obtain⟨i,s,e1,e2,rfl⟩:=fP hj;cases hro
theorem ao0 {W:World}{b0:Nat}{s0:Seen}(h0:Stood W b0 s0.B): ∀(i:Nat) (s:Seen),[s0][i]?=some s->Stood W b0 s.B
 | 0,s,h=>by obtain rfl:=Option.some.inj h;exact h0
 | i+1,s,h=>by simp at h
theorem aof {n:Nat}(h:n<=maxLen):n<9223372036854775808:=by have:n<=9223372036854775807:=h;omega
theorem aij {cfg:gF}(hg:Sx.Good Tryz.prog cfg){f:FuncId}{fn:Func}(hf:Tryz.prog.funcs[f]?=some fn) (hn:(fn.name== "runtime.NumGoroutine")=false) (hb:fn.body.isSome=true) {args:List SV} {l:List Seen}
  (h:aq (i7 cfg f fn args l (.ret (.bool false true)))) (hm:Mem.wf l.length (nU 0 l)=true) (hw:SV.gM l.length args=true) {W:World} (hW:w6 W) {b:Nat->Nat} (hs: ∀ i s,l[i]?=some s->Stood W (b i) s.B) :
  Calls Tryz.prog f (SV.vals b args).toArray W fun e W'=>e=.returned (.bool true)/\Below W.heap.size W W':=by
 have hc:=gG hg hf hn hb h hm hw (XI hW hs);refine hc.mono ?_;rintro e w' ⟨v,rfl,E',sv,m',nx',_,_,g3,g4,g5⟩;cases sv with
 | none=>exact g5.elim
 | some u =>have hu:ah u (.bool false true):=g5;exact⟨by rw[g3 u rfl,hu E'];rfl,g4.ext.below fun _ h=>h⟩
end Go.Proofs.YtpaaiebohjjieaaGreatDoor
