/-
  Wire: the rows' set-up: what is laid; a world where it is; calls; papers among a law's arguments.
-/
import Derived.Test.YtoalfimkkibpdaaGreatDoorMx
import Derived.Test.YtoalfimkkibpdaaGreatDoorMo
import Derived.Test.YtoalfimkkibpdaaGreatDoorRows
import Derived.Stop.Joined
import Derived.Lib.LaidTab
namespace Go.Proofs.YtoalfimkkibpdaaGreatDoor
open Go Sx Go.RowKit Go.WideShapes Go.ChangeShapes
set_option maxRecDepth 100000
theorem Tryz.own:ownKnob Tryz.prog.godebug=none:=by kernel_rfl
theorem Tryz.laidOut:laidOutB Tryz.prog=true:=by kernel_rfl
theorem Tryz.et:Tryz.prog.globalNamed "errors.errorType" = some 0:=by kernel_rfl
theorem Tryz.cb:Tryz.prog.globalNamed "guilloche/sha.cubes" = some 1:=by kernel_rfl
theorem Tryz.cbt:(Tryz.prog.globals[1]?).map (·.type)=some 265:=by kernel_rfl
theorem Tryz.rt:(Tryz.prog.cutTypes.find? (·.1== "internal/reflectlite.rtype")).map (·.2)=some 201:=by kernel_rfl
theorem Tryz.oneRow:((List.range Tryz.prog.types.size).filter fun t=>Tryz.prog.rowNamed t [101,114,114,111,114])=[80]:=by kernel_rfl
abbrev laidL:List (String×DataW Unit):=[("errors.errorType",Rows.laid_errors_errorType),("guilloche/sha.cubes",Rows.laid_guilloche_sha_cubes)]
theorem glob_of_laid {W:World} (h:laidMetH Tryz.prog laidL W):GlobOk W:=by
 have h':laidMet Tryz.prog [("guilloche/sha.cubes",Lib.tabData .u32 cubeL)] W∧handlesMet Tryz.prog [("errors.errorType",Rows.laid_errors_errorType)] W:=h
 obtain⟨name,u,ty,e1,e2,e3,e4,e5⟩:=h'.2 _ (List.mem_singleton.2 rfl)
 have en:name=[101,114,114,111,114]:=(Option.some.inj e1).symm
 subst en
 obtain rfl:=Option.some.inj (Tryz.rt.symm.trans e2)
 have hm:ty∈ (List.range Tryz.prog.types.size).filter fun t=>Tryz.prog.rowNamed t [101,114,114,111,114]:=List.mem_filter.2 ⟨List.mem_range.2 e3,e4⟩
 rw[Tryz.oneRow] at hm
 obtain rfl:=List.mem_singleton.1 hm
 have hh:typeHandle Tryz.prog 80=.pointer (some ⟨Tryz.prog.globals.size,80,none⟩):=by kernel_rfl
 rw[hh] at e5
 have hc:W.cell? ⟨0,0,none⟩=some (.iface 201 (.agg #[.pointer (some ⟨Tryz.prog.globals.size,80,none⟩)])):=by
  simpa using World.var?_cell Tryz.et e5 0
 obtain⟨c,tyy,fr,g1,g2⟩:=Sx.cells_of_cell hc
 have hT:=Lib.tabIs_of_head Tryz.cb Tryz.cbt Tryz.underlying265 Tryz.underlying191 (by kernel_rfl) (by kernel_rfl) h'.1
 obtain⟨c2,ty2,fr2,k1,k2⟩:=Sx.cells_of_cell (hT.cell Tryz.cb 0 (by decide))
 intro p hp
 have hp':p=(0,#[.iface 201 (.agg #[.pointer (some ⟨Tryz.prog.globals.size,80,none⟩)])])∨p=(1,(cubeL.map fun z=>Value.int .u32 z).toArray):=by
  rcases List.mem_cons.1 hp with e | hp
  ·exact .inl e
  ·exact .inr (List.mem_singleton.1 hp)
 rcases hp' with rfl | rfl
 ·refine⟨c,tyy,fr,g1,fun i v hv=> ?_⟩
  cases i with
  | zero=>simp only[List.getElem?_toArray,List.getElem?_cons_zero,Option.some.injEq] at hv;rw[← hv];exact g2
  | succ i=>simp at hv
 ·refine⟨c2,ty2,fr2,k1,fun i v hv=> ?_⟩
  rw[List.getElem?_toArray,List.getElem?_map] at hv
  cases hi:cubeL[i]? with
  | none=>rw[hi] at hv;cases hv
  | some z =>
    rw[hi] at hv
    injection hv with hv;subst hv
    have hl:=(List.getElem?_eq_some_iff.1 hi).1
    have:=hT.cell Tryz.cb i hl
    rw[cell_of k1,List.getD_eq_getElem?_getD,hi] at this
    exact this
noncomputable def laidWorld (os:Os):World :=
 let w0:=World.holding Tryz.prog os ⟨#[],#[],[]⟩
 {w0 with heap:=(w0.heap.modify 0 fun
   | .cells _ t frozen=>.cells #[.iface 201 (.agg #[.pointer (some ⟨Tryz.prog.globals.size,80,none⟩)])] t frozen
   | o=>o).modify 1 fun
   | .cells _ t frozen=>.cells #[.int .u32 1116352408,.int .u32 1899447441,.int .u32 3049323471,.int .u32 3921009573,.int .u32 961987163,.int .u32 1508970993,.int .u32 2453635748,.int .u32 2870763221,.int .u32 3624381080,.int .u32 310598401,.int .u32 607225278,.int .u32 1426881987,.int .u32 1925078388,.int .u32 2162078206,.int .u32 2614888103,.int .u32 3248222580,.int .u32 3835390401,.int .u32 4022224774,.int .u32 264347078,.int .u32 604807628,.int .u32 770255983,.int .u32 1249150122,.int .u32 1555081692,.int .u32 1996064986,.int .u32 2554220882,.int .u32 2821834349,.int .u32 2952996808,.int .u32 3210313671,.int .u32 3336571891,.int .u32 3584528711,.int .u32 113926993,.int .u32 338241895,.int .u32 666307205,.int .u32 773529912,.int .u32 1294757372,.int .u32 1396182291,.int .u32 1695183700,.int .u32 1986661051,.int .u32 2177026350,.int .u32 2456956037,.int .u32 2730485921,.int .u32 2820302411,.int .u32 3259730800,.int .u32 3345764771,.int .u32 3516065817,.int .u32 3600352804,.int .u32 4094571909,.int .u32 275423344,.int .u32 430227734,.int .u32 506948616,.int .u32 659060556,.int .u32 883997877,.int .u32 958139571,.int .u32 1322822218,.int .u32 1537002063,.int .u32 1747873779,.int .u32 1955562222,.int .u32 2024104815,.int .u32 2227730452,.int .u32 2361852424,.int .u32 2428436474,.int .u32 2756734187,.int .u32 3204031479,.int .u32 3329325298] t frozen
   | o=>o}
theorem laidWorld_met (os:Os)(args:Array Value):laidMetH Tryz.prog laidL ((laidWorld os).forCall (fun _ _=>0) ⟨#[],args,[]⟩).memory :=
 laidMetH_of_parts (laidMet_of_run' 8 (by kernel_rfl) (by kernel_rfl)) (by kernel_rfl)
theorem size_str:Tryz.prog.cellsOf 9=1:=by kernel_rfl
theorem size_strs:Tryz.prog.cellsOf 22=1:=by kernel_rfl
theorem open_strs {W:World} {base:Nat} {H:Type} {enc:TypeId×Value→H} {x:Value} {m:Nat} {y:DataW H×List MemPlace} (h:Cell.okWide Tryz.prog W .any base 22 x)
  (hd:DataW.trod enc Tryz.prog W 0 (fun _=>true) true m 22 [x]=some y) :
  ∃(z:Bool) (b o n c:Nat) (f:Nat→List UInt8),x=(SV.vslc 0 1 z o 0 n c).val (fun _=>b)∧n≤maxLen∧Stood W b (.view z o n [.str f]):=by
 obtain⟨z,b,o,n,c,hv,hn,hc⟩:=slice_cell Tryz.underlying22 h hd
 rw[size_str] at hv hc
 cases hz:z&&Nat.beq n 0 with
 | true=>exact⟨z,b,o,n,c,fun _=>[],hv,hn,fun hh=>by rw[show SB.no _=(z&&Nat.beq n 0)from rfl,hz] at hh;cases hh⟩
 | false =>
   obtain⟨cs,ty,fr,hblk,hel⟩:=hc hz
   refine⟨z,b,o,n,c,fun i=>strAt cs (o+i*1),hv,hn,fun _=>⟨_,hblk,view_ok_of fun i k col hi hk=> ?_⟩⟩
   obtain⟨xs,y,m,hl,hget,ht⟩:=hel i hi
   have x0:=hget 0 (by omega)
   have hx:xs=[xs[0]'(by omega)]:=by
    match xs,hl with
    | [a],_=>rfl
   rw[List.getElem?_eq_getElem (by omega)] at x0
   rw[hx] at ht
   match k,hk with
   | 0,hk=>obtain rfl:=Option.some.inj hk;exact(trod_str_cell Tryz.underlying9 ht x0).1
theorem cells_paper:Tryz.prog.cellTypes Tryz.prog.depth 24=some [3,9,9,9,22]:=by kernel_rfl
theorem open_paper {W:World} {base:Nat} {v:Value} {H:Type} {enc:TypeId×Value→H} {d:DataW H} {ps:List MemPlace} (h:Value.okWide Tryz.prog W .any base 24 v)(hd:DataW.Trod enc Tryz.prog W 0 (fun _=>true) true 24 v d ps) :
  ∃(x:Pp) (z:Bool) (b o c:Nat),(∀(k:Nat) (E:Nat→Nat),E k=b→v=(x.sv (.vslc k 1 z o 0 x.n c)).val E)∧Stood W b (.view z o x.n [.str x.f])∧x.n≤maxLen:=by
 obtain⟨cs,rfl,hs,hc⟩:=arg_row Tryz.underlying24 cells_paper (by kernel_rfl) h
 obtain⟨x0,g0,o0⟩:=hc 0 _ rfl
 obtain⟨x1,g1,o1⟩:=hc 1 _ rfl
 obtain⟨x2,g2,o2⟩:=hc 2 _ rfl
 obtain⟨x3,g3,o3⟩:=hc 3 _ rfl
 obtain⟨x4,g4,o4⟩:=hc 4 _ rfl
 obtain⟨fuel,hd⟩:=hd
 obtain⟨m,y,ht⟩:=elem_field Tryz.underlying24 hd (i:=4) (x:=x4) rfl size_strs (by rw[← g4,Array.getElem?_toList];rfl)
 obtain⟨s,rfl,_⟩:=cell_int Tryz.underlying3 o0
 obtain⟨root,rfl⟩:=cell_str Tryz.underlying9 o1
 obtain⟨key,rfl⟩:=cell_str Tryz.underlying9 o2
 obtain⟨to,rfl⟩:=cell_str Tryz.underlying9 o3
 obtain⟨z,b,o,n,c,f,hv,hn,hst⟩:=open_strs o4 ht
 refine⟨⟨s,root,key,to,n,f⟩,z,b,o,c,fun k E hk=> ?_,hst,hn⟩
 have hv':x4=(SV.vslc k 1 z o 0 n c).val E:=by rw[hv];simp only[SV.val,hk]
 have e:=agg_of (cs:=cs) (l:=[.int .i64 s,.string ⟨root.toArray⟩,.string ⟨key.toArray⟩,.string ⟨to.toArray⟩,x4]) hs (fun j v hj=>by
  match j,hj with
  | 0,hj=>injection hj with hj;subst hj;exact g0
  | 1,hj=>injection hj with hj;subst hj;exact g1
  | 2,hj=>injection hj with hj;subst hj;exact g2
  | 3,hj=>injection hj with hj;subst hj;exact g3
  | 4,hj=>injection hj with hj;subst hj;exact g4)
 rw[e,hv'];rfl
theorem one_view {W:World} (hg:GlobOk W) {b1:Nat} {s1:Seen} (h1:Stood W b1 s1.B) :
  SatM (Base.at W (fun _=>False) hg (fun _ _ h=>h)) (fun _=>b1) (seenMem 0 [s1]) 1 W:=by
 refine⟨fun j B hj hn=> ?_,fun j j' B B' hj hn hj' hn' hr he=> ?_,fun j B hj=> ?_,fun j B hj hn hro=> ?_,Ext.refl _ _,⟨Nat.zero_le _,fun k hk=>absurd hk (Nat.not_lt_zero _)⟩,fun D hD=>by cases hD⟩
 ·rcases Mem.get_cons hj with ⟨rfl,rfl⟩ | ⟨_,hj⟩
  ·obtain⟨ob,a,b⟩:=h1 hn;exact⟨ob,a,b _⟩
  ·cases hj
 ·exfalso
  obtain⟨i,s,e1,e2,rfl⟩:=seenMem_get hj
  obtain⟨i',s',e1',e2',rfl⟩:=seenMem_get hj'
  rcases hr with hr | hr<;>cases hr
 ·obtain⟨i,s,e1,e2,rfl⟩:=seenMem_get hj
  have:=(List.getElem?_eq_some_iff.1 e2).1
  simp at this;omega
 ·obtain⟨i,s,e1,e2,rfl⟩:=seenMem_get hj
  cases hro
theorem run_view {cfg:Cfg} (hg:Sx.Good Tryz.prog cfg) {f:FuncId} {fn:Func} (hf:Tryz.prog.funcs[f]?=some fn)(hn:(fn.name== "runtime.NumGoroutine")=false)(hb:fn.body.isSome=true) {args:List SV} {s1:Seen}
  (h:Holds (runS cfg f fn args [s1] (.ret (.bool false true)))) (hw:SV.wfs 1 args=true) {W:World} (hW:GlobOk W) {b1:Nat} (h1:Stood W b1 s1.B) :
  Calls Tryz.prog f (SV.vals (fun _=>b1) args).toArray W fun e W'=>e=.returned (.bool true)∧Below W.heap.size W W':=by
 have hc:=calls_of_holds hg hf hn hb h (by rfl) hw (one_view hW h1)
 refine hc.mono ?_
 rintro e w' ⟨v,rfl,E',sv,m',nx',_,_,g3,g4,g5⟩
 cases sv with
 | none=>exact g5.elim
 | some u =>
   have hu:sameVal u (.bool false true):=g5
   exact⟨by rw[g3 u rfl,hu E'];rfl,g4.ext.below fun _ h=>h⟩
end Go.Proofs.YtoalfimkkibpdaaGreatDoor
