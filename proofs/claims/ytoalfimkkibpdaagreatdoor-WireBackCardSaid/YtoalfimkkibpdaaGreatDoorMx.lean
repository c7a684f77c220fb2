/-
  Wire: read: the contract.
-/
import Derived.Test.YtoalfimkkibpdaaGreatDoorMw
import Derived.Test.YtoalfimkkibpdaaGreatDoorMv
import Derived.Test.YtoalfimkkibpdaaGreatDoorMq
import Derived.Test.YtoalfimkkibpdaaGreatDoorMr
import Derived.Test.YtoalfimkkibpdaaGreatDoorMo
import Derived.Test.YtoalfimkkibpdaaGreatDoorMk
import Derived.ChangeVars
import Derived.JoinedOf
import Derived.LaidLaws
import Derived.LaidHandle
import Derived.RowKitTokens
import Derived.Handed
namespace Go.Proofs.YtoalfimkkibpdaaGreatDoor
open Go Sx
set_option maxRecDepth 20000
attribute [local irreducible] itemAt itemsN itemsB cutIn cutB cutRest cutL pitemsB insideB getB num numI getPB Pp.put Pp.ok itOf
theorem wp_last_row {s:List UInt8} {x:Nat×Nat} {k:Nat} (hg:Grow (itemsN (cutIn (itOf s 4))) x)(hi:decide ((x.1:Int)<(itemsN (cutIn (itemAt (cutIn s) 4)):Int))=false) :
  ∃ c,itemsN (cutIn (itOf s 4))≤c∧SBle (SB.rows true x.1 [Col.str fun i=>cutIn (itemAt (cutIn (itOf s 4)) i)] false x.2 9) (SB.rows true (itemsN (cutIn (itOf s 4))) [Col.str fun i=>cutIn (itemAt (cutIn (itOf s 4)) i)] false c 9) ∧
    sameVal (SV.agg [SV.int IntKind.i64 false (numI (itOf s (0:Nat))),SV.str false (cutIn (itOf s (1:Nat))),SV.str false (cutIn (itOf s (2:Nat))),SV.str false (cutIn (itOf s (3:Nat))),SV.rslc k (1:Nat) true (0:Nat) x.1 x.2]) ((paperD s).sv (SV.rslc k (1:Nat) true (0:Nat) (itemsN (cutIn (itOf s 4))) c)):=by
 have e:=wp_dOf_eq hg hi
 have hc:=hg.cap
 rw[e] at hc ⊢
 exact⟨x.2,hc,SBle.refl _,by simp only[paperD,Pp.sv];exact fun _=>rfl⟩
set_option maxHeartbeats 4000000 in
theorem pread_holds (s:List UInt8):Holds (runPan callP4 (annsRead s) Tryz.f43 [.str false s] (getPB s) (preadA s) brokenA):=by
 refine Holds.of_eq (vcPRead s) ?_
 simp only[Int.toNat_natCast,Nat.zero_add]
 repeat' first
  | exact trivial
  | exact SBle.refl _
  | exact wp_broken_lit
  | exact wp_no_len (by assumption)
  | exact wp_no_whole (by assumption)
  | exact wp_no_five (by assumption)
  | exact wp_no_g0 (by assumption)
  | exact wp_no_k0 (by assumption)
  | exact wp_no_i1 (by assumption)
  | exact wp_no_i2 (by assumption)
  | exact wp_no_i3 (by assumption)
  | exact wp_no_w4 (by assumption)
  | refine And.intro ?_ ?_
  | (have:=wp_row_lt (x:=y) (by assumption);have:=wp_n_fits (by assumption) (by assumption);omega)
  | intro (c:Nat) (hc:y.1+1≤c)
  | refine⟨(y.1+1,c),wp_row_step hy (by assumption) hc,by simp,trivial,trivial,trivial,trivial,trivial,⟨trivial,rfl,rfl⟩,trivial,wp_row_sble,SBle.refl _,SBle.refl _,SBle.refl _,trivial⟩
  | exact wp_last_row hy (by assumption)
  | intro (_:_=true)
  | intro (_:_=false)
  | intro (_:Int)
  | intro (_:Nat)
  | intro (_:_≤_)
  | (have:=wp_s_fits (by assumption);omega)
  | exact Nat.lt_of_le_of_lt (wp_item_fits (by assumption) _) (by omega)
  | (have:=wp_five_of (by assumption);omega)
  | exact Int.le_trans (by omega) (wp_k_fits (by assumption)).1
  | exact Int.le_trans (wp_k_fits (by assumption)).2 (by omega)
  | refine⟨(),trivial,trivial,wp_join_sble,SBle.refl _,SBle.refl _,trivial⟩
  | intro (_:Unit)
  | intro (_:True)
  | refine⟨(0,0),⟨Nat.zero_le _,Nat.zero_le _⟩,rfl,trivial,trivial,trivial,trivial,trivial,rfl,rfl,SBle.refl _,SBle.refl _,SBle.refl _,trivial⟩
  | exact wp_no_row (by assumption) (by assumption)
  | exact wp_no_ok (wp_dOf_eq hy (by assumption)) (by assumption)
  | exact wp_no_large (wp_dOf_eq hy (by assumption)) (by assumption)
  | exact wp_no_same (wp_dOf_eq hy (by assumption)) (by assumption)
  | exact wp_yes_paper (wp_dOf_eq hy (by assumption)) (by assumption) (by assumption) (by assumption)
  | exact Nat.lt_of_le_of_lt (wp_sub_fits (by assumption) _ _) (by omega)
  | intro (y:Nat×Nat) (hy:Grow _ _)
  | fail
def preadSpec:List SV→Option (Prop×Bool×Ans×Ans)
 | [.str false s]=>some (True,getPB s,preadA s,brokenA)
 | _=>none
theorem pread_ok:PanOk Tryz.prog 43 (panPT preadSpec):=by
 refine pan_ok (fn:=Tryz.f43) Tryz.func43 (by kernel_rfl) (by kernel_rfl) ?_
 intro args p b a q h hp
 unfold preadSpec at h
 split at h
 ·rename_i s
  injection h with h;injection h with h1 h;injection h with h2 h;injection h with h3 h4
  subst h1;subst h2;subst h3;subst h4
  refine⟨callP4,annsRead s,100,callP4_ok,mixes,rfl,(fun c=>⟨rfl,rfl,fun k=>by simp[Pp.sv,SV.wf,SV.wfs,Nat.blt_eq],fun E E' k k' h=> ?_⟩),brokenA_ok,pread_holds s⟩
  simp only[Pp.sv,SV.val,SV.vals,SB.no] at h ⊢
  cases hz:Nat.beq (itemsN (cutIn (itOf s 4))) 0 with
  | true=>simp
  | false=>rw[hz] at h;rw[h rfl]
 ·cases h
noncomputable def exP3:List (FuncId×(PK→PT)):=(43,panPT preadSpec)::exP2
theorem exP3_ok: ∀ e∈ exP3,PanOk Tryz.prog e.1 e.2:=fun e he=>by
 rcases List.mem_cons.1 he with rfl | he
 ·exact pread_ok
 ·exact exP2_ok e he
noncomputable def callP5:Calling:=withP callP2 exP3
theorem callP5_ok:CallingOk Tryz.prog callP5:=withP_ok (callOf_ok goodP2 20) exP3_ok
noncomputable def runDA (cfg:Cfg)(C:Calling)(f:Nat)(fn:Func)(args:List SV)(a:Ans):VC:=runD Tryz.prog cfg C [] (cfg.anns f) cfg.rounds fn args [] 0 (fun v m _=>a.fit v m)
end Go.Proofs.YtoalfimkkibpdaaGreatDoor
namespace Go.Proofs.YtoalfimkkibpdaaGreatDoor
open Go Sx
set_option maxRecDepth 20000
theorem vcPGet (s:List UInt8):VC.holds (runDA cfgP2 callP5 21 Tryz.f21 [.str false s] (getPA s))=((fun P0:Nat→SV=>((True∧(getPB s=true→∀(u5:Nat),itemsN (cutIn (itOf s 4))≤u5→(getPB s=true→∃(u4:Nat),itemsN (cutIn (itOf s 4))≤u4∧SBle (SB.rows true (itemsN (cutIn (itOf s 4))) [Col.str fun(u3:Nat)=>cutIn (itemAt (cutIn (itOf s 4)) u3)] false u5 9) (SB.rows true (itemsN (cutIn (itOf s 4))) [Col.str fun(u2:Nat)=>cutIn (itemAt (cutIn (itOf s 4)) u2)] false u4 9)∧sameVal (P0 u5) (SV.tup [(paperD s).sv (SV.rslc ((0:Nat)+(1:Nat)+(1:Nat)) 1 true 0 (itemsN (cutIn (itOf s 4))) u4),SV.int .i64 true 0]))∧(getPB s=false→sameVal (P0 u5) (SV.tup [noPaper,SV.int .i64 true 2])))∧(getPB s=false→∀(_u1:Int),(getPB s=true→∃(u0:Nat),itemsN (cutIn (itOf s 4))≤u0∧False)∧(getPB s=false→sameVal (SV.tup [SV.agg [SV.int .i64 true 0,SV.str true [],SV.str true [],SV.str true [],SV.nilslc],SV.int .i64 true 2]) (SV.tup [noPaper,SV.int .i64 true 2])))))) (fun(u5:Nat)=>(SV.tup [SV.agg [SV.int .i64 false (numI (itOf s 0)),SV.str false (cutIn (itOf s 1)),SV.str false (cutIn (itOf s 2)),SV.str false (cutIn (itOf s 3)),SV.rslc ((0:Nat)+(1:Nat)+(1:Nat)) 1 true 0 (itemsN (cutIn (itOf s 4))) u5],SV.int .i64 true 0]))):=by kernel_rfl
end Go.Proofs.YtoalfimkkibpdaaGreatDoor
namespace Go.Proofs.YtoalfimkkibpdaaGreatDoor
open Go Sx
set_option maxRecDepth 20000
theorem getPA_ok (s:List UInt8):(getPA s).Ok:=fun b=>by
 cases b with
 | false=>exact rfl
 | true =>
   refine fun c=>⟨rfl,rfl,fun k=>by simp[Pp.sv,SV.wf,SV.wfs,Nat.blt_eq],fun E E' k k' h=> ?_⟩
   simp only[Pp.sv,SV.val,SV.vals,SB.no] at h ⊢
   cases hz:Nat.beq (itemsN (cutIn (itOf s 4))) 0 with
   | true=>simp
   | false=>rw[hz] at h;rw[h rfl]
attribute [local irreducible] itemAt itemsN itemsB cutIn cutB cutRest cutL numI getPB itOf
theorem pget_holds (s:List UInt8):Holds (runDA cfgP2 callP5 21 Tryz.f21 [.str false s] (getPA s)):=by
 refine Holds.of_eq (vcPGet s) ?_
 cases h:getPB s with
 | true=>exact⟨trivial,fun _ x hx=>⟨fun _=>⟨x,hx,by first | exact SBle.refl _ | (simp only[paperD];exact SBle.refl _),by simp only[paperD,Pp.sv];exact fun _=>rfl⟩,(fun h=>by cases h)⟩,(fun h=>by cases h)⟩
 | false=>exact⟨trivial,(fun h=>by cases h),fun _ _=>⟨(fun h=>by cases h),fun _ _=>rfl⟩⟩
def pgetSpec:List SV→Option (Prop×Ans)
 | [.str false s]=>some (True,getPA s)
 | _=>none
theorem pget_ok:CallOk Tryz.prog 21 (ansPT pgetSpec):=by
 refine ansD_ok (fn:=Tryz.f21) Tryz.func21 (by kernel_rfl) (by kernel_rfl) ?_
 intro args p a h hp
 unfold pgetSpec at h
 split at h
 ·rename_i s
  injection h with h;injection h with h1 h2;subst h1;subst h2
  exact⟨cfgP2,callP5,goodP2,callP5_ok,rfl,getPA_ok s,pget_holds s⟩
 ·cases h
noncomputable def listP3:List (FuncId×PT):=(21,ansPT pgetSpec)::listP2
theorem listP3_ok:SummOk Tryz.prog (fun f=>lookPT f listP3):=.cons pget_ok (ansPT_mono _) listP2_ok
end Go.Proofs.YtoalfimkkibpdaaGreatDoor
namespace Go.Proofs.YtoalfimkkibpdaaGreatDoor
open Go Sx
set_option maxRecDepth 20000
def node7 (f:Nat→List UInt8)(i:Nat):Bool:=!decide ((700:Int)<((f i).length:Int))
def fewN (n:Nat)(f:Nat→List UInt8):Bool:=decide ((n:Int)≤45)&&(List.range n).all (node7 f)
def Pp.few (x:Pp):Bool:=fewN x.n x.f&&decide ((x.root.length:Int)≤50)&&decide ((x.key.length:Int)≤50)&&decide ((x.to.length:Int)≤50)
structure Upto45 (n:Nat)(t:Nat→Bool)(i:Nat):Prop where
 up:Upto n t i
 le:i≤46
noncomputable def ann45 (tmp:Nat)(n:Nat)(t:Nat→Bool):LoopAnn :=
 {α:=Nat,pre:=fun _ i=>Upto45 n t i,mea:=fun _ i=>n - i,fresh:=0,slots:=fun _ i=>[(tmp,.int .i64 false i)],mem:=fun _ _=>[]}
def seenT (z:Bool)(o c n:Nat)(f:Nat→List UInt8)(key:Option Nat):Seen:=⟨key,z,o,n,c,[.str f]⟩
def shT:List Sh2:=[.of (.slice dP)]
noncomputable def cfgFewN (n:Nat)(f:Nat→List UInt8):Cfg:={cfg0 with summ:=fun f=>lookPT f listP3,anns:=fun g=>if g=28 then [(2,always (ann45 3 n (node7 f)))] else []}
theorem goodFewN (n:Nat)(f:Nat→List UInt8):Sx.Good Tryz.prog (cfgFewN n f):=⟨mixes,listP3_ok,fns_ok⟩
end Go.Proofs.YtoalfimkkibpdaaGreatDoor
namespace Go.Proofs.YtoalfimkkibpdaaGreatDoor
open Go Sx
set_option maxRecDepth 20000
theorem vcFewN (n:Nat)(f:Nat→List UInt8)(z:Bool)(o c:Nat)(key:Option Nat):VC.holds (runS (cfgFewN n f) 28 Tryz.f28 [.vslc 0 1 z o 0 n c] [seenT z o c n f key] (.ret (.bool false (fewN n f))))=(((∃(u2:Nat),Upto45 n (node7 f) u2∧0=(u2:Int)∧SBle (seenT z o c n f key).B (seenT z o c n f key).B∧True)∧∀(u1:Nat),Upto45 n (node7 f) u1→(decide ((u1:Int)<(n:Int))=true→(decide ((u1:Int)≤45)=true→(0≤(u1:Int)∧(u1:Int)<(n:Int))∧(o=o∧0+(u1:Int).toNat<n)∧(decide (700<(↑(f (0+(u1:Int).toNat)).length:Int))=true→sameVal (SV.bool true false) (SV.bool false (fewN n f)))∧(decide (700<(↑(f (0+(u1:Int).toNat)).length:Int))=false→((-9223372036854775808:Int)≤(u1:Int)+1∧(u1:Int)+1≤(9223372036854775807:Int))∧∃(u0:Nat),(Upto45 n (node7 f) u0∧n - u0<n - u1)∧(u1:Int)+1=(u0:Int)∧SBle (seenT z o c n f key).B (seenT z o c n f key).B∧True))∧(decide ((u1:Int)≤45)=false→sameVal (SV.bool (false&&true) (decide ((n:Int)≤45))) (SV.bool false (fewN n f))))∧(decide ((u1:Int)<(n:Int))=false→sameVal (SV.bool (false&&true) (decide ((n:Int)≤45))) (SV.bool false (fewN n f))))):=by kernel_rfl
end Go.Proofs.YtoalfimkkibpdaaGreatDoor
namespace Go.Proofs.YtoalfimkkibpdaaGreatDoor
open Go Sx
set_option maxRecDepth 20000
theorem node7_true {f:Nat→List UInt8} {i:Nat} (h: ¬ (700:Int)<((f i).length:Int)):node7 f i=true:=by
 rw[node7,decide_eq_false h];rfl
theorem node7_f {f:Nat→List UInt8} {i:Nat} (h:(700:Int)<((f i).length:Int)):node7 f i=false:=by
 rw[node7,decide_eq_true h];rfl
theorem fewN_holds (n:Nat)(f:Nat→List UInt8)(z:Bool)(o c:Nat)(key:Option Nat):Holds (runS (cfgFewN n f) 28 Tryz.f28 [.vslc 0 1 z o 0 n c] [seenT z o c n f key] (.ret (.bool false (fewN n f)))):=by
 refine Holds.of_eq (vcFewN n f z o c key) ?_
 simp only[Int.toNat_natCast,Nat.zero_add,decide_eq_true_eq,decide_eq_false_iff_not]
 refine⟨⟨0,⟨⟨Nat.zero_le _,fun j hj=>absurd hj (Nat.not_lt_zero _)⟩,Nat.zero_le _⟩,rfl,SBle.refl _,trivial⟩,fun i hi=>⟨fun h1=>⟨fun h2=>⟨by omega,⟨trivial,by omega⟩,fun h3=> ?_,fun h3=>⟨by omega,i+1,⟨⟨upto_next hi.up h1 (node7_true h3),by omega⟩,by omega⟩,by omega,SBle.refl _,trivial⟩⟩,fun h2=> ?_⟩,fun h1=> ?_⟩⟩
 ·exact bool_same (by rw[fewN,upto_none h1 (node7_f h3),Bool.and_false])
 ·refine bool_same ?_
  have: ¬ (n:Int)≤45:=by omega
  rw[fewN,decide_eq_false this];rfl
 ·exact bool_same (by rw[fewN,upto_all hi.up h1,Bool.and_true])
def fewNSpec (vs:List SV)(l:List Seen):Option (Prop×Ans):=match vs,l with
 | [_],[⟨_,_,_,n,_,[.str f]⟩]=>some (True,.ret (.bool false (fewN n f)))
 | _,_=>none
theorem fewN_ok:CallOk Tryz.prog 28 (ansVPT shT fewNSpec):=by
 refine ansV_ok (n:=20) (fn:=Tryz.f28) Tryz.func28 (by kernel_rfl) (by kernel_rfl) ?_
 intro vs l q a h hq
 unfold fewNSpec at h
 split at h
 ·rename_i v key z o n c f
  injection h with h;injection h with h1 h2;subst h1;subst h2
  exact⟨_,goodFewN n f,rfl,rfl,fewN_holds n f z o c key⟩
 ·cases h
noncomputable def listW1:List (FuncId×PT):=(28,ansVPT shT fewNSpec)::listP3
theorem listW1_ok:SummOk Tryz.prog (fun f=>lookPT f listW1):=.cons fewN_ok (ansVPT_mono _ _) listP3_ok
noncomputable def cfgW1:Cfg:={cfg0 with summ:=fun f=>lookPT f listW1}
theorem goodW1:Sx.Good Tryz.prog cfgW1:=⟨mixes,listW1_ok,fns_ok⟩
end Go.Proofs.YtoalfimkkibpdaaGreatDoor
namespace Go.Proofs.YtoalfimkkibpdaaGreatDoor
open Go Sx
set_option maxRecDepth 20000
theorem vcPFew (x:Pp)(z:Bool)(o c:Nat)(key:Option Nat):VC.holds (runS cfgW1 10 Tryz.f10 [x.sv (.vslc 0 1 z o 0 x.n c)] [seenP z o c x key] (.ret (.bool false x.few)))=(((((z=z∧o=o∧0+x.n≤x.n)∧True)∧True)∧(fewN x.n x.f=true→(decide ((x.root.length:Int)≤50)=true→(decide ((x.key.length:Int)≤50)=true→sameVal (SV.bool (false&&true) (decide ((x.to.length:Int)≤50))) (SV.bool false x.few))∧(decide ((x.key.length:Int)≤50)=false→sameVal (SV.bool true false) (SV.bool false x.few)))∧(decide ((x.root.length:Int)≤50)=false→sameVal (SV.bool true false) (SV.bool false x.few)))∧(fewN x.n x.f=false→sameVal (SV.bool true false) (SV.bool false x.few)))):=by kernel_rfl
end Go.Proofs.YtoalfimkkibpdaaGreatDoor
namespace Go.Proofs.YtoalfimkkibpdaaGreatDoor
open Go Sx
set_option maxRecDepth 20000
theorem pfew_holds (x:Pp)(z:Bool)(o c:Nat)(key:Option Nat):Holds (runS cfgW1 10 Tryz.f10 [x.sv (.vslc 0 1 z o 0 x.n c)] [seenP z o c x key] (.ret (.bool false x.few))):=by
 refine Holds.of_eq (vcPFew x z o c key) ?_
 unfold Pp.few
 generalize fewN x.n x.f=b1
 generalize decide ((x.root.length:Int)≤50)=b2
 generalize decide ((x.key.length:Int)≤50)=b3
 generalize decide ((x.to.length:Int)≤50)=b4
 refine⟨⟨⟨⟨rfl,rfl,by omega⟩,trivial⟩,trivial⟩,fun h1=>⟨fun h2=>⟨fun h3=> ?_,fun h3=> ?_⟩,fun h2=> ?_⟩,fun h1=> ?_⟩
 all_goals (apply bool_same;simp_all)
def pfewSpec (vs:List SV)(l:List Seen):Option (Prop×Ans):=match paperOf vs l with
 | some (x,_)=>some (True,.ret (.bool false x.few))
 | none=>none
theorem pfew_ok:CallOk Tryz.prog 10 (ansVPT shP pfewSpec):=by
 refine ansV_ok (n:=20) (fn:=Tryz.f10) Tryz.func10 (by kernel_rfl) (by kernel_rfl) ?_
 intro vs l q a h hq
 unfold pfewSpec at h
 split at h
 ·rename_i x r hx
  obtain⟨z,o,c,key⟩:=r
  injection h with h;injection h with h1 h2;subst h1;subst h2
  obtain⟨e1,e2⟩:=paperOf_eq hx
  rw[e1,e2]
  exact⟨_,goodW1,rfl,rfl,pfew_holds x z o c key⟩
 ·cases h
def wworksSpec:List SV→Option (Prop×Ans)
 | []=>some (True,.ret (.bool true true))
 | _=>none
abbrev WorksOk:Prop:=CallOk Tryz.prog 9 (ansPT wworksSpec)
end Go.Proofs.YtoalfimkkibpdaaGreatDoor
namespace Go.Proofs.YtoalfimkkibpdaaGreatDoor
open Go Sx
set_option maxRecDepth 20000
def Pp.wy (x:Pp)(z:Bool)(o c:Nat):Wy:=⟨x.root,x.n,x.f,z,o,c,0⟩
def Pp.sp (x:Pp)(z:Bool)(o c:Nat):Sp:=⟨x.key,x.to,x.n,x.f,z,o,c,fun _=>false,fun _=>0⟩
def Pp.jerr (x:Pp)(w:Sp)(y:Wy):Int:=bif x.ok then(bif(bif decide (x.k=1)then(snRes x.root w).isSome else(pvRes y (pathL x.key)).isSome)then 0 else 10)else 1
def Pp.jnew (x:Pp)(w:Sp)(y:Wy):Bool:=x.ok&&(bif decide (x.k=1)then(snRes x.root w).isSome else((pvRes y (pathL x.key)).isSome&&pvB (pvRes y (pathL x.key))))
def Pp.jl (x:Pp)(w:Sp)(y:Wy):List (List UInt8×List UInt8):=bif decide (x.k=1)then snL x.root w else [(x.key,pvV (pvRes y (pathL x.key)))]
def judgeA (x:Pp)(w:Sp)(y:Wy):Ans:=.fork (x.jnew w y) fun b=>match b with
 | true=>.all Nat fun c=>.req ((x.jl w y).length≤c) (.new (fun k=>.tup [.rslc k 2 true 0 (x.jl w y).length c,.int .i64 true 0]) (.rows true (x.jl w y).length [fkCol (x.jl w y),fvCol (x.jl w y)] false (c*2) 60))
 | false=>.ret (.tup [.nilslc,.int .i64 false (x.jerr w y)])
theorem SBle.entry {a b:List UInt8} {ty:TypeId} {tot:Nat} (ht:tot=2):SBle (.cells [.str false a,.str false b] 2 ty) (.rows true [(a,b)].length [fkCol [(a,b)],fvCol [(a,b)]] false tot ty):=by
 subst ht
 refine fun _=>⟨rfl,fun E o ⟨c,fr,h1,h2,h3,h4⟩=>⟨c,fr,h1,fun _=>h2,by rw[h4];exact Nat.le_refl _,h4,fun i k col hi hk=> ?_⟩,id⟩
 have hi:i<1:=hi
 obtain rfl:i=0:=by omega
 match k,hk with
 | 0,hk=>injection hk with hk;subst hk;exact h3 0 _ rfl
 | 1,hk=>injection hk with hk;subst hk;exact h3 1 _ rfl
noncomputable def listJu:List (FuncId×PT):=(19,ansVPT shP pvalidSpec)::(35,ansVPT shSn snverSpec)::(36,ansVPT shW pverSpec)::listW1
theorem listJu_ok:SummOk Tryz.prog (fun f=>lookPT f listJu):=.cons pvalid_ok (ansVPT_mono _ _) (.cons snver_ok (ansVPT_mono _ _) (.cons pver_ok (ansVPT_mono _ _) listW1_ok))
noncomputable def cfgJu:Cfg:={cfg0 with summ:=fun f=>lookPT f listJu}
theorem goodJu:Sx.Good Tryz.prog cfgJu:=⟨mixes,listJu_ok,fns_ok⟩
end Go.Proofs.YtoalfimkkibpdaaGreatDoor
namespace Go.Proofs.YtoalfimkkibpdaaGreatDoor
open Go Sx
set_option maxRecDepth 20000
theorem vcJudge (x:Pp)(z:Bool)(o c:Nat)(key:Option Nat):VC.holds (runS cfgJu 14 Tryz.f14 [x.sv (.vslc 0 1 z o 0 x.n c)] [seenP z o c x key] (judgeA x (x.sp z o c) (x.wy z o c)))=((fun Q0:SV=>((((True ∧True ∧True ∧True ∧(z=z ∧o=o ∧(0:Nat)+x.n≤x.n) ∧True) ∧True) ∧True) ∧((!x.ok)=true →(x.jnew (x.sp z o c) (x.wy z o c)=true →∃(x_3:Nat),(x.jl (x.sp z o c) (x.wy z o c)).length≤x_3 ∧False) ∧(x.jnew (x.sp z o c) (x.wy z o c)=false →sameVal (SV.tup [SV.nilslc,SV.int .i64 true 1]) Q0)) ∧((!x.ok)=false →(decide (x.k=(1:Int))=true →((True ∧(True ∧True ∧True) ∧(z=z ∧o=o ∧(0:Nat)+x.n≤x.n) ∧True) ∧{fr:=x.key,to:=x.to,n:=x.n,f:=x.f,z:=z,o:=o+(0:Nat),c:=c,ad:=fun(_x:List UInt8)=>false,ag:=fun(_x:List UInt8)=>(0:Int):Sp}.Few) ∧((snRes x.root {fr:=x.key,to:=x.to,n:=x.n,f:=x.f,z:=z,o:=o+(0:Nat),c:=c,ad:=fun(_x:List UInt8)=>false,ag:=fun(_x:List UInt8)=>(0:Int):Sp}).isSome=true →∀(x_4:Nat),(snL x.root {fr:=x.key,to:=x.to,n:=x.n,f:=x.f,z:=z,o:=o+(0:Nat),c:=c,ad:=fun(_x:List UInt8)=>false,ag:=fun(_x:List UInt8)=>(0:Int):Sp}).length≤x_4 →(x.jnew (x.sp z o c) (x.wy z o c)=true →∃(x_7:Nat),(x.jl (x.sp z o c) (x.wy z o c)).length≤x_7 ∧SBle (SB.rows true (snL x.root {fr:=x.key,to:=x.to,n:=x.n,f:=x.f,z:=z,o:=o+(0:Nat),c:=c,ad:=fun(_x:List UInt8)=>false,ag:=fun(_x:List UInt8)=>(0:Int):Sp}).length [fkCol (snL x.root {fr:=x.key,to:=x.to,n:=x.n,f:=x.f,z:=z,o:=o+(0:Nat),c:=c,ad:=fun(_x:List UInt8)=>false,ag:=fun(_x:List UInt8)=>(0:Int):Sp}),fvCol (snL x.root {fr:=x.key,to:=x.to,n:=x.n,f:=x.f,z:=z,o:=o+(0:Nat),c:=c,ad:=fun(_x:List UInt8)=>false,ag:=fun(_x:List UInt8)=>(0:Int):Sp})] false (x_4*(2:Nat)) 60) (SB.rows true (x.jl (x.sp z o c) (x.wy z o c)).length [fkCol (x.jl (x.sp z o c) (x.wy z o c)),fvCol (x.jl (x.sp z o c) (x.wy z o c))] false (x_7*(2:Nat)) 60) ∧sameVal (SV.tup [SV.rslc 2 2 true 0 (snL x.root {fr:=x.key,to:=x.to,n:=x.n,f:=x.f,z:=z,o:=o+(0:Nat),c:=c,ad:=fun(_x:List UInt8)=>false,ag:=fun(_x:List UInt8)=>(0:Int):Sp}).length x_4,SV.int .i64 true 0]) (SV.tup [SV.rslc 2 2 true 0 (x.jl (x.sp z o c) (x.wy z o c)).length x_7,SV.int .i64 true 0])) ∧(x.jnew (x.sp z o c) (x.wy z o c)=false →sameVal (SV.tup [SV.rslc 2 2 true 0 (snL x.root {fr:=x.key,to:=x.to,n:=x.n,f:=x.f,z:=z,o:=o+(0:Nat),c:=c,ad:=fun(_x:List UInt8)=>false,ag:=fun(_x:List UInt8)=>(0:Int):Sp}).length x_4,SV.int .i64 true 0]) Q0)) ∧((snRes x.root {fr:=x.key,to:=x.to,n:=x.n,f:=x.f,z:=z,o:=o+(0:Nat),c:=c,ad:=fun(_x:List UInt8)=>false,ag:=fun(_x:List UInt8)=>(0:Int):Sp}).isSome=false →(x.jnew (x.sp z o c) (x.wy z o c)=true →∃(x_5:Nat),(x.jl (x.sp z o c) (x.wy z o c)).length≤x_5 ∧False) ∧(x.jnew (x.sp z o c) (x.wy z o c)=false →sameVal (SV.tup [SV.nilslc,SV.int .i64 true 10]) Q0))) ∧(decide (x.k=(1:Int))=false →((True ∧True ∧(z=z ∧o=o ∧(0:Nat)+x.n≤x.n) ∧True) ∧{root:=x.root,n:=x.n,f:=x.f,z:=z,o:=o+(0:Nat),c:=c,u:=(0:Nat):Wy}.Few ∧x.key.length<(1099511627776:Nat)) ∧((pvRes {root:=x.root,n:=x.n,f:=x.f,z:=z,o:=o+(0:Nat),c:=c,u:=(0:Nat):Wy} (pathL x.key)).isSome=true →((!pvB (pvRes {root:=x.root,n:=x.n,f:=x.f,z:=z,o:=o+(0:Nat),c:=c,u:=(0:Nat):Wy} (pathL x.key)))=true →(x.jnew (x.sp z o c) (x.wy z o c)=true →∃(x_6:Nat),(x.jl (x.sp z o c) (x.wy z o c)).length≤x_6 ∧False) ∧(x.jnew (x.sp z o c) (x.wy z o c)=false →sameVal (SV.tup [SV.nilslc,SV.int .i64 true 0]) Q0)) ∧((!pvB (pvRes {root:=x.root,n:=x.n,f:=x.f,z:=z,o:=o+(0:Nat),c:=c,u:=(0:Nat):Wy} (pathL x.key)))=false →(x.jnew (x.sp z o c) (x.wy z o c)=true →∃(x_6:Nat),(x.jl (x.sp z o c) (x.wy z o c)).length≤x_6 ∧SBle (SB.cells [SV.str false x.key,SV.str false (pvV (pvRes {root:=x.root,n:=x.n,f:=x.f,z:=z,o:=o+(0:Nat),c:=c,u:=(0:Nat):Wy} (pathL x.key)))] 2 60) (SB.rows true (x.jl (x.sp z o c) (x.wy z o c)).length [fkCol (x.jl (x.sp z o c) (x.wy z o c)),fvCol (x.jl (x.sp z o c) (x.wy z o c))] false (x_6*(2:Nat)) 60) ∧sameVal (SV.tup [SV.slc 3 0 1 true 1,SV.int .i64 true 0]) (SV.tup [SV.rslc 3 2 true 0 (x.jl (x.sp z o c) (x.wy z o c)).length x_6,SV.int .i64 true 0])) ∧(x.jnew (x.sp z o c) (x.wy z o c)=false →sameVal (SV.tup [SV.slc 3 0 1 true 1,SV.int .i64 true 0]) Q0))) ∧((pvRes {root:=x.root,n:=x.n,f:=x.f,z:=z,o:=o+(0:Nat),c:=c,u:=(0:Nat):Wy} (pathL x.key)).isSome=false →(x.jnew (x.sp z o c) (x.wy z o c)=true →∃(x_5:Nat),(x.jl (x.sp z o c) (x.wy z o c)).length≤x_5 ∧False) ∧(x.jnew (x.sp z o c) (x.wy z o c)=false →sameVal (SV.tup [SV.nilslc,SV.int .i64 true 10]) Q0)))))) (SV.tup [SV.nilslc,SV.int .i64 false (x.jerr (x.sp z o c) (x.wy z o c))])):=by kernel_rfl
end Go.Proofs.YtoalfimkkibpdaaGreatDoor
namespace Go.Proofs.YtoalfimkkibpdaaGreatDoor
open Go Sx
set_option maxRecDepth 20000
section
attribute [local irreducible] snRes snL pvRes pvB pvV Pp.ok pathL
theorem judge_holds (x:Pp)(z:Bool)(o c:Nat)(key:Option Nat):Holds (runS cfgJu 14 Tryz.f14 [x.sv (.vslc 0 1 z o 0 x.n c)] [seenP z o c x key] (judgeA x (x.sp z o c) (x.wy z o c))):=by
 refine Holds.of_eq (vcJudge x z o c key) ?_
 dsimp only
 have S: ∀ v:SV,sameVal v v:=fun _ _=>rfl
 have V:(((True∧True∧True∧True∧(z=z∧o=o∧(0:Nat)+x.n≤x.n)∧True)∧True)∧True):=⟨⟨⟨trivial,trivial,trivial,trivial,⟨rfl,rfl,by omega⟩,trivial⟩,trivial⟩,trivial⟩
 have e1:(⟨x.key,x.to,x.n,x.f,z,o+0,c,fun _=>false,fun _=>0⟩:Sp)=x.sp z o c:=rfl
 have e2:(⟨x.root,x.n,x.f,z,o+0,c,0⟩:Wy)=x.wy z o c:=rfl
 rw[e1,e2]
 unfold Pp.jnew Pp.jl Pp.jerr
 cases hok:x.ok with
 | false=>exact⟨V,fun _=>⟨(fun h=>by cases h),fun _ _=>rfl⟩,(fun h=>by cases h)⟩
 | true =>
   have hs:=Pp.ok_small hok
   have hkey:=hs.key
   have f1:(x.sp z o c).Few:=⟨hs.row,by show x.key.length≤1000;omega,by have:=hs.to;show x.to.length≤1000;omega⟩
   have f2:(x.wy z o c).Few:=⟨hs.row⟩
   generalize x.sp z o c=w at f1 ⊢
   generalize x.wy z o c=y at f2 ⊢
   refine⟨V,(fun h=>by cases h),fun _=> ?_⟩
   cases hk:decide (x.k=1)with
   | true =>
     refine⟨fun _=>⟨⟨⟨trivial,⟨trivial,trivial,trivial⟩,⟨rfl,rfl,by omega⟩,trivial⟩,f1⟩,?_⟩,(fun h=>by cases h)⟩
     cases hr:(snRes x.root w).isSome with
     | true=>exact⟨fun _ c' hc=>⟨fun _=>⟨c',hc,SBle.refl _,S _⟩,(fun h=>by cases h)⟩,(fun h=>by cases h)⟩
     | false=>exact⟨(fun h=>by cases h),fun _=>⟨(fun h=>by cases h),fun _ _=>rfl⟩⟩
   | false =>
     refine⟨(fun h=>by cases h),fun _=>⟨⟨⟨trivial,trivial,⟨rfl,rfl,by omega⟩,trivial⟩,f2,by omega⟩,?_⟩⟩
     cases hr:(pvRes y (pathL x.key)).isSome with
     | true =>
       cases hb:pvB (pvRes y (pathL x.key))with
       | true=>exact⟨fun _=>⟨(fun h=>by cases h),fun _=>⟨fun _=>⟨1,Nat.le_refl _,SBle.entry rfl,fun _=>rfl⟩,(fun h=>by cases h)⟩⟩,(fun h=>by cases h)⟩
       | false=>exact⟨fun _=>⟨fun _=>⟨(fun h=>by cases h),fun _ _=>rfl⟩,(fun h=>by cases h)⟩,(fun h=>by cases h)⟩
     | false=>exact⟨(fun h=>by cases h),fun _=>⟨(fun h=>by cases h),fun _ _=>rfl⟩⟩
end
theorem jsame {l b:Bool} (h:b=true):sameVal (.bool l b) (.bool false true):=fun E=>by subst h;rfl
theorem goW_place (x:Pp)(z:Bool)(o c:Nat): ∀(m:Nat)(y:Nd)(p:List UInt8)(u:Nat),goW (x.wy z o c) m y p u=goW (x.wy false 0 0) m y p u
 | 0,_,_,_=>rfl
 | m+1,y,p,u=>by
   unfold goW
   rw[show wfol ((x.wy z o c).on u) (stepRef y p)=wfol ((x.wy false 0 0).on u) (stepRef y p)from rfl]
   simp only[goW_place x z o c m]
theorem pvRes_place (x:Pp)(z:Bool)(o c:Nat)(p:List UInt8):pvRes (x.wy z o c) p=pvRes (x.wy false 0 0) p:=by
 unfold pvRes
 rw[show startW (x.wy z o c) p=startW (x.wy false 0 0) p by unfold startW;rw[goW_place];rfl]
 rfl
def Sp.put (w:Sp)(z:Bool)(o c:Nat):Sp:={w with z:=z,o:=o,c:=c}
theorem refsTo_place (w:Sp)(z:Bool)(o c:Nat)(T:Wk→Nd→List UInt8→Option Wk)(x:Nd)(p:List UInt8): ∀(i:Nat)(s:Wk),refsTo (w.put z o c) T x p i s=refsTo w T x p i s
 | 0,_=>rfl
 | i+1,s=>by
   unfold refsTo
   rw[refsTo_place w z o c T x p i s]
   rfl
theorem thr_place (w:Sp)(z:Bool)(o c:Nat): ∀(m:Nat),thr (w.put z o c) m=thr w m
 | 0=>rfl
 | m+1=>by
   funext s x p
   unfold thr
   rw[thr_place w z o c m,refsTo_place]
   rfl
theorem snRes_place (root:List UInt8)(w:Sp)(z:Bool)(o c:Nat):snRes root (w.put z o c)=snRes root w:=by
 have:snWalk root (w.put z o c).full=snWalk root w.full:=by
  unfold snWalk
  rw[show(w.put z o c).full=w.full.put z o c from rfl,thr_place]
  rfl
 unfold snRes
 rw[this]
 rfl
def Pp.jN (x:Pp):Bool:=x.jnew (x.sp false 0 0) (x.wy false 0 0)
def Pp.jE (x:Pp):Int:=x.jerr (x.sp false 0 0) (x.wy false 0 0)
def Pp.jL (x:Pp):List (List UInt8×List UInt8):=x.jl (x.sp false 0 0) (x.wy false 0 0)
def judgeB (x:Pp):Ans:=.fork x.jN fun b=>match b with
 | true=>.all Nat fun c=>.req (x.jL.length≤c) (.new (fun k=>.tup [.rslc k 2 true 0 x.jL.length c,.int .i64 true 0]) (.rows true x.jL.length [fkCol x.jL,fvCol x.jL] false (c*2) 60))
 | false=>.ret (.tup [.nilslc,.int .i64 false x.jE])
theorem judge_place (x:Pp)(z:Bool)(o c:Nat):judgeA x (x.sp z o c) (x.wy z o c)=judgeB x:=by
 have e:snRes x.root (x.sp z o c)=snRes x.root (x.sp false 0 0):=snRes_place x.root (x.sp false 0 0) z o c
 have e':judgeA x (x.sp z o c) (x.wy z o c)=judgeA x (x.sp false 0 0) (x.wy false 0 0):=by
  unfold judgeA Pp.jl Pp.jnew Pp.jerr snL
  rw[pvRes_place x z o c,e]
 rw[e']
 unfold judgeA judgeB
 refine congrArg (Ans.fork _) ?_
 funext b
 cases b<;>rfl
def judgeSpec (vs:List SV)(l:List Seen):Option (Prop×Ans):=match paperOf vs l with
 | some (x,_)=>some (True,judgeB x)
 | none=>none
theorem judgeA_ok (x:Pp)(w:Sp)(y:Wy):(judgeA x w y).Ok:=by
 intro b
 cases b with
 | false=>rfl
 | true=>intro c;exact rows_ok (x.jl w y) c
theorem judge_ok:CallOk Tryz.prog 14 (ansVPT shP judgeSpec):=by
 refine ansV_ok (n:=20) (fn:=Tryz.f14) Tryz.func14 (by kernel_rfl) (by kernel_rfl) ?_
 intro vs l q a h hq
 unfold judgeSpec at h
 split at h
 ·rename_i x r hx
  obtain⟨z,o,c,key⟩:=r
  injection h with h;injection h with h1 h2;subst h1;subst h2
  obtain⟨e1,e2⟩:=paperOf_eq hx
  rw[e1,e2,← judge_place x z o c]
  exact⟨_,goodJu,rfl,judgeA_ok x _ _,judge_holds x z o c key⟩
 ·cases h
noncomputable def listJr:List (FuncId×PT):=(14,ansVPT shP judgeSpec)::(9,ansPT wworksSpec)::(10,ansVPT shP pfewSpec)::listW1
theorem listJr_ok (hw:WorksOk):SummOk Tryz.prog (fun f=>lookPT f listJr):=.cons judge_ok (ansVPT_mono _ _) (.cons hw (ansPT_mono _) (.cons pfew_ok (ansVPT_mono _ _) listW1_ok))
end Go.Proofs.YtoalfimkkibpdaaGreatDoor
namespace Go.Proofs.YtoalfimkkibpdaaGreatDoor.Sx
open Go
end Go.Proofs.YtoalfimkkibpdaaGreatDoor.Sx
namespace Go.Proofs.YtoalfimkkibpdaaGreatDoor
open Go Sx
set_option maxRecDepth 20000
def shortArg (args:List SV)(_:Mem):Bool:=match args with
 | [.str true s]=>decide (s.length<32)
 | _=>false
noncomputable def listL0:List (FuncId×PT):=(64,strsPT ofQ ofG)::(159,litIf shortArg (purePT refSpec))::(135,ansLPT hashSpec)::(136,ansLPT (inlSpec 9223372036854775808))::(130,ansLPT (getSpec' 9223372036854775808)) ::
 (127,ansLPT (ndSpecA fun x=>some (Fits x,putA x)))::(160,pureLPT (ndSpec fun x=>some (RelR 9223372036854775808 x.r,.bool false (validB x))))::(131,ansLPT (ndSpecA fun x=>some (Fits x,hashesA x)))::listN5
theorem listL0_ok:SummOk Tryz.prog (fun f=>lookPT f listL0):=.cons of_ok (strsPT_mono _ _) (.cons (litIf_ok nodeRef_ok) (litIf_mono (purePT_mono _)) (.cons (ansL_ok hash_ok) (ansLPT_mono _) (.cons (ansL_ok (inline_all _)) (ansLPT_mono _) (.cons (ansL_ok (nodeGet_ok (inline_all _))) (ansLPT_mono _)
 (.cons (ansL_ok nodePut_ok) (ansLPT_mono _) (.cons (pureL_ok (ndvalid_ok (inline_all _))) (pureLPT_mono _) (.cons (ansL_ok hashes_ok) (ansLPT_mono _) listN5_ok)))))))
noncomputable def cfgL0:Cfg:={cfg0 with summ:=fun f=>lookPT f listL0}
theorem goodL0:Sx.Good Tryz.prog cfgL0:=⟨mixes,listL0_ok,fns_ok⟩
def yes:Ans:=.ret (.bool false true)
end Go.Proofs.YtoalfimkkibpdaaGreatDoor
namespace Go.Proofs.YtoalfimkkibpdaaGreatDoor.Sx
open Go
noncomputable section
def exNewPT (ca:List SV→Option Nat)(cb:SB→Bool)(B:SB)(p:Nat→Prop)(r:Nat→Nat→SV)(B2:Nat→SB):PT:=fun args m nx K=>match ca args with
 | some key=>(match m.get key with
   | some X=>(match cb X with
     | true=>.all Nat fun c=>.imp (p c) (K (r c nx) ((nx,B2 c)::m.put key B) (nx+1))
     | false=>.fail "another example")
   | none=>.fail "another example")
 | none=>.fail "another example"
theorem exNewPT_mono {ca cb B p r B2}:MonoPT (exNewPT ca cb B p r B2):=by
 intro args m nx K K' hK h
 unfold exNewPT at h ⊢
 split at h
 ·split at h
  ·split at h
   ·exact fun c hc=>hK _ _ _ (h c hc)
   ·exact h
  ·exact h
 ·exact h
def exNewK (B:SB)(p:Nat→Prop)(r:Nat→Nat→SV)(B2:Nat→SB):SV→Mem→Nat→VC:=fun v m _=>match m.get 0,v.key with
 | some X,some k=>(match m.get k,Nat.beq k 0 with
   | some Y,false=>.and (.atom (SBle X B)) (.ex Nat fun c=>.and (.atom (p c)) (.and (.atom (SBle Y (B2 c))) (.atom (sameVal v (r c k)))))
   | _,_=>.fail "no block")
 | _,_=>.fail "no block"
structure ExB (B:SB):Prop where
 wf:B.wf 0=true
 ro:B.ro=false
 no:B.no=false
theorem exNew_ok {P:Program} {cfg:Cfg} (hg:Good P cfg) {f:FuncId} {fn:Func} (hf:P.funcs[f]?=some fn)(hn:(fn.name== "runtime.NumGoroutine")=false)(hb:fn.body.isSome=true) {n:Nat} {ca:List SV→Option Nat} {cb:SB→Bool} {B:SB} {p:Nat→Prop} {r:Nat→Nat→SV} {B2:Nat→SB} {args0:List SV}
  (hB:ExB B) (hB2: ∀ c,ExB (B2 c)) (hr: ∀ c (E E':Nat→Nat) k k',E k=E' k'→(r c k).val E=(r c k').val E') (hw0:SV.wfs 1 args0=true) (hca: ∀ args key,ca args=some key→∀ E,SV.vals E args=SV.vals (fun _=>E key) args0) (hcb: ∀ X,cb X=true→SBle X B)
  (h:Holds (runFn P (calling P cfg n) [] noP (cfg.anns f) cfg.rounds fn args0 [(0,B)] 1 (exNewK B p r B2))):CallOk P f (exNewPT ca cb B p r B2):=by
 intro args m nx K hk hwf hargs Γ E w hs
 unfold exNewPT at hk
 split at hk
 ·rename_i key hkey
  split at hk
  ·rename_i X hX
   split at hk
   ·rename_i hb2
    have hle:=hcb X hb2
    have hone:=hs.one hX hle hB.no hB.ro hB.wf
    have hc:=calls_of_holds hg hf hn hb h (by simp only[Mem.wf,Bool.and_true];exact SB.wf_mono (Nat.zero_le _) hB.wf) hw0 hone
    rw[← hca _ _ hkey E] at hc
    refine out_of_calls hf hn hb (hc.mono ?_)
    rintro e w' ⟨v,rfl,E1,u,m1,nx1,g1,g2,g3,g4,g5⟩
    refine⟨v,rfl,?_⟩
    cases u with
    | none=>exact g5.elim
    | some u =>
      simp only[lift,exNewK] at g5
      split at g5
      ·rename_i Y k hY hkk
       split at g5
       ·rename_i Z hZ hk0
        obtain⟨y1,c,y2,y3,y4⟩:=g5
        have y1:SBle Y B:=y1
        have y2:p c:=y2
        have y3:SBle Z (B2 c):=y3
        have y4:sameVal u (r c k):=y4
        have hne:k≠0:=fun e=>by subst e;cases hk0
        have hE0:E1 0=E key:=g1 0 (by omega)
        have hs1:=(g4.swap hY y1).swap (j:=k) (X:=Z) (by rw[Mem.get_putNe hne];exact hZ) y3
        have e1:((m1.put 0 B).put k (B2 c)).get 0=some B:=by rw[Mem.get_putNe (fun e=>hne e.symm)];exact Mem.get_putEq hY
        have e2:((m1.put 0 B).put k (B2 c)).get k=some (B2 c):=Mem.get_putEq (X:=Z) (by rw[Mem.get_putNe hne];exact hZ)
        obtain⟨E',q1,q2,q3⟩:=hs.frame2 hwf hX (hle hB.no).1 ((hle hB.no).2.2 hB.ro) hs1 hE0 e1 hB.no hB.ro hB.wf hne e2 (hB2 c).wf (hB2 c).ro
        exact⟨E',some (r c nx),_,nx+1,q1,Nat.le_succ _,fun z hz=>by injection hz with hz;subst hz;rw[g3 u rfl,y4 E1];exact hr c _ _ _ _ (q2 (hB2 c).no).symm,q3,hk c y2⟩
       ·exact g5.elim
      ·exact g5.elim
   ·exact hk.elim
  ·exact hk.elim
 ·exact hk.elim
end
end Go.Proofs.YtoalfimkkibpdaaGreatDoor.Sx
namespace Go.Proofs.YtoalfimkkibpdaaGreatDoor
open Go Sx
set_option maxRecDepth 20000
def exEnts:SB:=.cells [.str true [97],.str true [49],.str true [98],.str true [50]] 4 60
def exText:List UInt8:=[215,22,213,128,194,32,49,194,32,50,128,128,128,128,128,128,128,128,128,128,128,128,128,128]
def exTexts (c:Nat):SB:=.cells [.str true exText] c 9
def exSlc (n:Nat):List SV→Option Nat
 | [.slc key 0 k true k']=>(match Nat.beq k n&&Nat.beq k' n with
   | true=>some key
   | false=>none)
 | _=>none
def isEnts:SB→Bool
 | .cells [.str _ a,.str _ b,.str _ c,.str _ d] tot ty=>decide (a=[97])&&decide (b=[49])&&decide (c=[98])&&decide (d=[50])&&Nat.beq tot 4&&Nat.beq ty 60
 | _=>false
theorem isEnts_le {X:SB} (h:isEnts X=true):SBle X exEnts:=by
 unfold isEnts at h
 split at h
 ·rename_i la a lb b lc c ld d tot ty
  simp only[Bool.and_eq_true,decide_eq_true_eq] at h
  obtain⟨⟨⟨⟨⟨rfl,rfl⟩,rfl⟩,rfl⟩,ht⟩,hy⟩:=h
  obtain rfl:=Nat.eq_of_beq_eq_true ht
  obtain rfl:=Nat.eq_of_beq_eq_true hy
  exact SBle.cells (fun E=>rfl) rfl
 ·cases h
theorem exSlc_vals {n:Nat} {args:List SV} {key:Nat} (h:exSlc n args=some key)(E:Nat→Nat):SV.vals E args=SV.vals (fun _=>E key) [.slc 0 0 n true n]:=by
 unfold exSlc at h
 split at h
 ·rename_i key' k k'
  split at h
  ·rename_i hk
   injection h with h;subst h
   simp only[Bool.and_eq_true] at hk
   obtain rfl:=Nat.eq_of_beq_eq_true hk.1
   obtain rfl:=Nat.eq_of_beq_eq_true hk.2
   rfl
  ·cases h
 ·cases h
theorem exEnts_ok:ExB exEnts:=⟨rfl,rfl,rfl⟩
theorem exTexts_ok (c:Nat):ExB (exTexts c):=⟨rfl,rfl,rfl⟩
def exNodesR (c k:Nat):SV:=.tup [.slc k 0 1 false c,.int .i64 true 0]
noncomputable def exNodesPT:PT:=exNewPT (exSlc 2) isEnts exEnts (fun c=>1≤c) exNodesR exTexts
noncomputable def runExN (cfg:Cfg)(f:Nat)(fn:Func)(args0:List SV)(B:SB)(p:Nat→Prop)(r:Nat→Nat→SV)(B2:Nat→SB):VC:=runFn Tryz.prog (calling Tryz.prog cfg 30) [] noP (cfg.anns f) cfg.rounds fn args0 [(0,B)] 1 (exNewK B p r B2)
end Go.Proofs.YtoalfimkkibpdaaGreatDoor
namespace Go.Proofs.YtoalfimkkibpdaaGreatDoor
open Go Sx
set_option maxRecDepth 20000
theorem vcExNodes:VC.holds (runExN cfgL0 49 Tryz.f49 [.slc 0 0 2 true 2] exEnts (fun c=>1≤c) exNodesR exTexts)=((fun P0:SB=>((fun P1:SB=>((fun P2:SB=>((fun P3:SB=>((fun P4:SB=>((fun P5:SB=>((fun P6:SB=>((fun P7:SB=>((fun P8:SB=>((fun P9:SB=>((fun P10:SB=>((fun P11:SB=>((fun P12:SB=>((fun P13:SB=>((fun P14:SB=>((fun P15:SB=>((some (SB.cells (setRange (SV.agg [SV.str true [],SV.str true []]).cells 0 (SV.agg [SV.str true [(97:UInt8)],SV.str true [(49:UInt8)]]).cells) 2 60)=some (SB.cells (setRange (SV.agg [SV.str true [],SV.str true []]).cells 0 (SV.agg [SV.str true [(97:UInt8)],SV.str true [(49:UInt8)]]).cells) 2 60)∧some (SB.cells (setRange (SV.agg [SV.str true [],SV.str true []]).cells 0 (SV.agg [SV.str true [(98:UInt8)],SV.str true [(50:UInt8)]]).cells) 2 60)=some (SB.cells (setRange (SV.agg [SV.str true [],SV.str true []]).cells 0 (SV.agg [SV.str true [(98:UInt8)],SV.str true [(50:UInt8)]]).cells) 2 60)∧some P6=some P6∧some P6=some P6∧some P6=some P6∧∀(u17:Nat),1≤u17→some P7=some P7∧some P7=some P7∧Fits {k:=(1:Int),p:=subStr (subStr [UInt8.ofNat 6,UInt8.ofNat 1] (some (Operand.tmp 20)) none 1 2) (some (Operand.tmp 20)) none 1 1,v:=[(49:UInt8)],r:=fun(u16:Nat)=>[[],[],[],[],[],[],[],[],[],[],[],[],[],[],[],[]].getD u16 []:Nd}∧(3:Nat)<(1152921504606846976:Nat)∧(3:Nat)<(9223372036854775808:Nat)∧some P7=some P7∧∀(u15:Nat),1≤u15→some P8=some P8∧some P8=some P8 ∧Fits {k:=(1:Int),p:=subStr (subStr [UInt8.ofNat 6,UInt8.ofNat 2] (some (Operand.tmp 20)) none 1 2) (some (Operand.tmp 20)) none 1 1,v:=[(50:UInt8)],r:=fun(u14:Nat)=>[[],[],[],[],[],[],[],[],[],[],[],[],[],[],[],[]].getD u14 []:Nd}∧(3:Nat)<(1152921504606846976:Nat)∧(3:Nat)<(9223372036854775808:Nat)∧some P8=some P8∧some P9=some P9∧some P9=some P9∧some P9=some P9∧some P10=some P10∧some P10=some P10∧some P10=some P10∧some P11=some P11∧some P11=some P11∧some P11=some P11∧some P12=some P12∧some P12=some P12∧some P12=some P12∧some P13=some P13∧some P13=some P13∧some P13=some P13∧some P14=some P14∧some P14=some P14∧some P14=some P14∧some P15=some P15∧some P15=some P15∧some P15=some P15∧some P0=some P0∧some P0=some P0∧some P0=some P0∧some P1=some P1∧some P1=some P1∧some P1=some P1∧some P2=some P2∧some P2=some P2∧some P2=some P2∧some P3=some P3∧some P3=some P3∧some P3=some P3∧some P4=some P4∧some P4=some P4∧some P4=some P4∧some P5=some P5∧some P5=some P5∧some P5=some P5 ∧Fits {k:=(3:Int),p:=[],v:=[],r:=fun(u13:Nat)=>[[],refL (putT {k:=(1:Int),p:=subStr (subStr [UInt8.ofNat 6,UInt8.ofNat 1] (some (Operand.tmp 20)) none 1 2) (some (Operand.tmp 20)) none 1 1,v:=[(49:UInt8)],r:=fun(u12:Nat)=>[[],[],[],[],[],[],[],[],[],[],[],[],[],[],[],[]].getD u12 []:Nd}),refL (putT {k:=(1:Int),p:=subStr (subStr [UInt8.ofNat 6,UInt8.ofNat 2] (some (Operand.tmp 20)) none 1 2) (some (Operand.tmp 20)) none 1 1,v:=[(50:UInt8)],r:=fun(u11:Nat)=>[[],[],[],[],[],[],[],[],[],[],[],[],[],[],[],[]].getD u11 []:Nd}),[],[],[],[],[],[],[],[],[],[],[],[],[]].getD u13 []:Nd}∧(22:Nat)<(1152921504606846976:Nat)∧(22:Nat)<(9223372036854775808:Nat) ∧Fits {k:=(2:Int),p:=subStr [UInt8.ofNat 6,UInt8.ofNat 1] none (some (Operand.tmp 81)) 0 1,v:=[],r:=fun(u10:Nat)=>[refL (putT {k:=(3:Int),p:=[],v:=[],r:=fun(u9:Nat)=>[[],refL (putT {k:=(1:Int),p:=subStr (subStr [UInt8.ofNat 6,UInt8.ofNat 1] (some (Operand.tmp 20)) none 1 2) (some (Operand.tmp 20)) none 1 1,v:=[(49:UInt8)],r:=fun(u8:Nat)=>[[],[],[],[],[],[],[],[],[],[],[],[],[],[],[],[]].getD u8 []:Nd}),refL (putT {k:=(1:Int),p:=subStr (subStr [UInt8.ofNat 6,UInt8.ofNat 2] (some (Operand.tmp 20)) none 1 2) (some (Operand.tmp 20)) none 1 1,v:=[(50:UInt8)],r:=fun(u7:Nat)=>[[],[],[],[],[],[],[],[],[],[],[],[],[],[],[],[]].getD u7 []:Nd}),[],[],[],[],[],[],[],[],[],[],[],[],[]].getD u9 []:Nd}),[],[],[],[],[],[],[],[],[],[],[],[],[],[],[]].getD u10 []:Nd}∧∀(u6:Loop),u6=u6∧∀(u5:Nat),1≤u5→SBle exEnts exEnts∧∃(u4:Nat),1≤u4 ∧SBle (SB.cells [SV.str true (putT {k:=(2:Int),p:=subStr [UInt8.ofNat 6,UInt8.ofNat 1] none (some (Operand.tmp 81)) 0 1,v:=[],r:=fun(u3:Nat)=>[refL (putT {k:=(3:Int),p:=[],v:=[],r:=fun(u2:Nat)=>[[],refL (putT {k:=(1:Int),p:=subStr (subStr [UInt8.ofNat 6,UInt8.ofNat 1] (some (Operand.tmp 20)) none 1 2) (some (Operand.tmp 20)) none 1 1,v:=[(49:UInt8)],r:=fun(u1:Nat)=>[[],[],[],[],[],[],[],[],[],[],[],[],[],[],[],[]].getD u1 []:Nd}),refL (putT {k:=(1:Int),p:=subStr (subStr [UInt8.ofNat 6,UInt8.ofNat 2] (some (Operand.tmp 20)) none 1 2) (some (Operand.tmp 20)) none 1 1,v:=[(50:UInt8)],r:=fun(u0:Nat)=>[[],[],[],[],[],[],[],[],[],[],[],[],[],[],[],[]].getD u0 []:Nd}),[],[],[],[],[],[],[],[],[],[],[],[],[]].getD u2 []:Nd}),[],[],[],[],[],[],[],[],[],[],[],[],[],[],[]].getD u3 []:Nd})] (u5*1) 9) (exTexts u4)∧sameVal (SV.tup [SV.slc ((16:Nat)+(1:Nat)+(1:Nat)+(1:Nat)) 0 1 false u5,SV.int .i64 true 0]) (exNodesR u4 ((16:Nat)+(1:Nat)+(1:Nat)+(1:Nat)))))) (SB.cells (setRange (SV.int .i64 true 0).cells 0 (SV.int .i64 true 9).cells) 1 3))) (SB.cells (setRange (SV.int .i64 true 0).cells 0 (SV.int .i64 true 8).cells) 1 3))) (SB.cells (setRange (SV.int .i64 true 0).cells 0 (SV.int .i64 true 7).cells) 1 3))) (SB.cells (setRange (SV.int .i64 true 0).cells 0 (SV.int .i64 true 6).cells) 1 3))) (SB.cells (setRange (SV.int .i64 true 0).cells 0 (SV.int .i64 true 5).cells) 1 3))) (SB.cells (setRange (SV.int .i64 true 0).cells 0 (SV.int .i64 true 4).cells) 1 3))) (SB.cells (setRange (SV.int .i64 true 0).cells 0 (SV.int .i64 true 3).cells) 1 3))) (SB.cells (setRange (SV.int .i64 true 0).cells 0 (SV.int .i64 true 2).cells) 1 3))) (SB.cells (setRange (SV.int .i64 true 0).cells 0 (SV.int .i64 true 1).cells) 1 3))) (SB.cells (setRange (SV.int .i64 true 0).cells 0 (SV.int .i64 true 0).cells) 1 3))) (SB.cells (setRange (SV.int .i64 true 0).cells 0 (SV.int .i64 true 15).cells) 1 3))) (SB.cells (setRange (SV.int .i64 true 0).cells 0 (SV.int .i64 true 14).cells) 1 3))) (SB.cells (setRange (SV.int .i64 true 0).cells 0 (SV.int .i64 true 13).cells) 1 3))) (SB.cells (setRange (SV.int .i64 true 0).cells 0 (SV.int .i64 true 12).cells) 1 3))) (SB.cells (setRange (SV.int .i64 true 0).cells 0 (SV.int .i64 true 11).cells) 1 3))) (SB.cells (setRange (SV.int .i64 true 0).cells 0 (SV.int .i64 true 10).cells) 1 3)):=by kernel_rfl
end Go.Proofs.YtoalfimkkibpdaaGreatDoor
namespace Go.Proofs.YtoalfimkkibpdaaGreatDoor
open Go Sx
set_option maxRecDepth 20000
theorem fits_of {x:Nd} (h:(List.range 16).all (fun j=>decide ((x.r j).length<9223372036854775808))=true):Fits x:=fun j hj=>by
 have:=List.all_eq_true.1 h j (List.mem_range.2 hj)
 simpa using this
theorem exTexts_le {t:List UInt8} {c:Nat} (h:t=exText):SBle (SB.cells [SV.str true t] (c*1) 9) (exTexts c):=by
 subst h
 exact SBle.cells (fun E=>rfl) (by omega)
theorem exNodes_ok:CallOk Tryz.prog 49 exNodesPT:=by
 refine exNew_ok goodL0 (n:=30) (fn:=Tryz.f49) Tryz.func49 (by kernel_rfl) (by kernel_rfl) exEnts_ok exTexts_ok (fun c E E' k k' h=>by simp only[exNodesR,SV.val,SV.vals,h]) rfl (fun _ _ h E=>exSlc_vals h E) (fun _ h=>isEnts_le h) (Holds.of_eq vcExNodes ?_)
 repeat' first
  | exact trivial
  | exact SBle.refl _
  | exact fits_of (by decide +kernel)
  | exact rfl
  | refine And.intro ?_ ?_
  | omega
  | intro (_:Loop)
  | intro (_:Nat)
  | intro (_:_≤_)
  | refine⟨_,?_,exTexts_le (by decide +kernel),fun _=>rfl⟩
  | fail
def litOne (args:List SV)(m:Mem):Bool:=match args with
 | [x]=>litCells m x
 | _=>false
noncomputable def listQ0:List (FuncId×PT):=(49,exNodesPT)::(21,ansLPT pgetSpec)::(64,litIf litOne (strsPT ofQ ofG))::listL0
theorem listQ0_ok:SummOk Tryz.prog (fun f=>lookPT f listQ0):=.cons exNodes_ok exNewPT_mono (.cons (ansL_ok pget_ok) (ansLPT_mono _) (.cons (litIf_ok of_ok) (litIf_mono (strsPT_mono _ _)) listL0_ok))
noncomputable def cfgQ0:Cfg:={cfg0 with summ:=fun f=>lookPT f listQ0}
theorem goodQ0:Sx.Good Tryz.prog cfgQ0:=⟨mixes,listQ0_ok,fns_ok⟩
noncomputable def runA4 (cfg:Cfg)(f:Nat)(fn:Func)(args:List SV)(a:Ans):VC:=runFn Tryz.prog (calling Tryz.prog cfg 40) [] noP (cfg.anns f) cfg.rounds fn args [] 0 (fun v m _=>a.fit v m)
end Go.Proofs.YtoalfimkkibpdaaGreatDoor
namespace Go.Proofs.YtoalfimkkibpdaaGreatDoor
open Go Sx
set_option maxRecDepth 20000
theorem vcWWorks:VC.holds (runA4 cfgQ0 9 Tryz.f9 [] (.ret (.bool true true)))=((fun P0:Nat→List SV=>((fun P1:SB=>((fun P2:Nat→SB=>((fun P3:List UInt8=>((fun P4:Nat→SB=>((fun P5:List UInt8=>((fun P6:Nat→SB=>((fun P7:List UInt8=>((∀(u15:Nat),1≤u15→(True∧ofQ [exText])∧∀(u14:Nat),1≤u14→((24:Nat)≤(9223372036854775808:Nat)∧(24:Nat)<(1099511627776:Nat))∧(True∧ofQ [exText])∧Fits {k:=(2:Int),p:=ngetP (cutIn (itemAt (cutIn exText) 0)),v:=[],r:=fun(u13:Nat)=>[oneRef P5 0,oneRef P5 1,oneRef P5 2,oneRef P5 3,oneRef P5 4,oneRef P5 5,oneRef P5 6,oneRef P5 7,oneRef P5 8,oneRef P5 9,oneRef P5 10,oneRef P5 11,oneRef P5 12,oneRef P5 13,oneRef P5 14,oneRef P5 15].getD u13 []:Nd}∧∀(u12:Nat),0≤u12→(True∧ofQ [exText])∧∀(u11:Nat),1≤u11→∀(u10:Nat),1≤u10→((24:Nat)≤(9223372036854775808:Nat)∧(24:Nat)<(1099511627776:Nat))∧(22:Nat)<(9223372036854775808:Nat)∧Rel 9223372036854775808 (oneRef P5 0)∧(3:Nat)<(9223372036854775808:Nat)∧Rel 9223372036854775808 ((getD (oneRef P5 0)).r 2)∧(24:Nat)<(1152921504606846976:Nat)∧((0:Int)≤(0:Int)∧(0:Int)<(18446744073709551616:Int))∧some (P2 u10)=some (P2 u10)∧some (P2 u10)=some (P2 u10)∧some (P2 u10)=some (P2 u10)∧(32:Nat)<(1152921504606846976:Nat)∧some (P2 u10)=some (P2 u10)∧some (P2 u10)=some (P2 u10) ∧(1:Nat)<(1152921504606846976:Nat)∧some (P2 u10)=some (P2 u10)∧(0:Nat)<(1152921504606846976:Nat)∧(((1:Nat)=(1:Nat)∧(1:Nat)≤(1:Nat))∧(1:Nat)≤(140737488355328:Nat)∧(25:Nat)≤(140737488355328:Nat))∧(((0:Int)≤(192:Int)∧(192:Int)≤(192:Int))∧(0:Int)≤(25:Int)∧(25:Int)<(1152921504606846976:Int))∧(((5:Nat)=(5:Nat)∧(5:Nat)≤(5:Nat))∧(5:Nat)≤(140737488355328:Nat)∧(62:Nat)≤(140737488355328:Nat))∧(((0:Int)≤(192:Int)∧(192:Int)≤(192:Int))∧(0:Int)≤(62:Int)∧(62:Int)<(1152921504606846976:Int))∧True∧∀(u9:Nat),1≤u9→∀(u8:Loop),((True∧ofQ [cutIn (itemAt P3 0)])∧(((24:Nat)≤(9223372036854775808:Nat)∧(24:Nat)<(1099511627776:Nat))∧some (fixB (SB.rows true 1 [Col.str fun(u7:Nat)=>cutIn (itemAt P3 u7)] false u9 9))=some (fixB (SB.rows true 1 [Col.str fun(u6:Nat)=>cutIn (itemAt P3 u6)] false u9 9))∧some (P6 u9)=some (P6 u9)∧some (P6 u9)=some (P6 u9)∧some (P4 u9)=some (P4 u9)∧some P1=some P1∧some P1=some P1∧u8=u8∧Rel 9223372036854775808 (oneRef P7 0)∧u8=u8 ∧Rel 9223372036854775808 ((getD (oneRef P7 0)).r 2)∧u8=u8∧some (P4 u9)=some (P4 u9)∧True∧sameVal (SV.bool true true) (SV.bool true true))∧some (fixB (SB.rows true 1 [Col.str fun(u5:Nat)=>cutIn (itemAt P3 u5)] false u9 9))=some (fixB (SB.rows true 1 [Col.str fun(u4:Nat)=>cutIn (itemAt P3 u4)] false u9 9))∧some (P6 u9)=some (P6 u9)∧some (P6 u9)=some (P6 u9)∧((24:Nat)≤(9223372036854775808:Nat)∧(24:Nat)<(1099511627776:Nat))∧some (P4 u9)=some (P4 u9)∧some P1=some P1∧some P1=some P1∧u8=u8∧Rel 9223372036854775808 (oneRef P7 0)∧u8=u8∧Rel 9223372036854775808 ((getD (oneRef P7 0)).r 2)∧u8=u8∧some (P4 u9)=some (P4 u9)∧True∧sameVal (SV.bool true true) (SV.bool true true))∧some (P6 u9)=some (P6 u9)∧some P1=some P1∧some P1=some P1∧(True∧ofQ [cutIn (itemAt P3 0)])∧(((24:Nat)≤(9223372036854775808:Nat)∧(24:Nat)<(1099511627776:Nat))∧some (fixB (SB.rows true 1 [Col.str fun(u3:Nat)=>cutIn (itemAt P3 u3)] false u9 9))=some (fixB (SB.rows true 1 [Col.str fun(u2:Nat)=>cutIn (itemAt P3 u2)] false u9 9))∧some (P6 u9)=some (P6 u9)∧some (P6 u9)=some (P6 u9)∧u8=u8 ∧Rel 9223372036854775808 (oneRef P7 0)∧u8=u8∧Rel 9223372036854775808 ((getD (oneRef P7 0)).r 2)∧u8=u8∧some (P4 u9)=some (P4 u9)∧True∧sameVal (SV.bool true true) (SV.bool true true))∧some (fixB (SB.rows true 1 [Col.str fun(u1:Nat)=>cutIn (itemAt P3 u1)] false u9 9))=some (fixB (SB.rows true 1 [Col.str fun(u0:Nat)=>cutIn (itemAt P3 u0)] false u9 9))∧some (P6 u9)=some (P6 u9)∧some (P6 u9)=some (P6 u9)∧((24:Nat)≤(9223372036854775808:Nat)∧(24:Nat)<(1099511627776:Nat))∧u8=u8∧Rel 9223372036854775808 (oneRef P7 0)∧u8=u8∧Rel 9223372036854775808 ((getD (oneRef P7 0)).r 2)∧u8=u8∧some (P4 u9)=some (P4 u9)∧True∧sameVal (SV.bool true true) (SV.bool true true)))) (itemAt (cutIn (cutIn (itemAt P3 0))) 1))) (fun(u9:Nat)=>(SB.cells (P0 u9) 4 180)))) (itemAt (cutIn exText) 1))) (fun(u9:Nat)=>(SB.cells (setRange (P0 u9) 2 (SV.int .i64 true 1).cells) 4 180)))) (cutIn (itOf (headOf 192 62++flat [textOf (digits 0),textOf (shaL (flat [exText])),textOf [(98:UInt8)],textOf [],headOf 192 25++flat [textOf exText]]) 4)))) (fun(u10:Nat)=>(SB.cells (SV.agg [SV.int .i64 true 0,lit (ofG [exText]),SV.str true [(98:UInt8)],SV.str true [],SV.slc ((2:Nat)+(1:Nat)+(1:Nat)+(1:Nat)+(1:Nat)+(1:Nat)+(1:Nat)+(1:Nat)+(1:Nat)+(1:Nat)+(1:Nat)+(1:Nat)+(1:Nat)+(1:Nat)+(1:Nat)+(1:Nat)+(1:Nat)+(1:Nat)+(1:Nat)) 0 1 false u10]).cells 5 24)))) (SB.cells (SV.ptr ((2:Nat)+(1:Nat)+(1:Nat)+(1:Nat)+(1:Nat)+(1:Nat)+(1:Nat)+(1:Nat)+(1:Nat)+(1:Nat)+(1:Nat)+(1:Nat)+(1:Nat)+(1:Nat)+(1:Nat)+(1:Nat)+(1:Nat)+(1:Nat)+(1:Nat)+(1:Nat)+(1:Nat)+(1:Nat)+(1:Nat)+(1:Nat)+(1:Nat)+(1:Nat)+(1:Nat)+(1:Nat)) true 0).cells 1 240))) (fun(u9:Nat)=>(setRange (SV.agg [SV.str true [],SV.nilslc,SV.int .i64 true 0,SV.niliface]).cells 0 (SV.agg (setRange (setRange [SV.str true [],SV.nilslc,SV.int .i64 true 0,SV.niliface] 0 (lit1 (fixV1 (SV.str false (cutIn (itOf (headOf 192 62++flat [textOf (digits 0),textOf (shaL (flat [exText])),textOf [(98:UInt8)],textOf [],headOf 192 25++flat [textOf exText]]) 1))))).cells) 1 (lit1 (fixV1 (SV.rslc ((2:Nat)+(1:Nat)+(1:Nat)+(1:Nat)+(1:Nat)+(1:Nat)+(1:Nat)+(1:Nat)+(1:Nat)+(1:Nat)+(1:Nat)+(1:Nat)+(1:Nat)+(1:Nat)+(1:Nat)+(1:Nat)+(1:Nat)+(1:Nat)+(1:Nat)+(1:Nat)+(1:Nat)+(1:Nat)+(1:Nat)) 1 true 0 1 u9))).cells)).cells))):=by kernel_rfl
end Go.Proofs.YtoalfimkkibpdaaGreatDoor
namespace Go.Proofs.YtoalfimkkibpdaaGreatDoor
open Go Sx
set_option maxRecDepth 20000
theorem wworks_holds:Holds (runA4 cfgQ0 9 Tryz.f9 [] (.ret (.bool true true))):=by
 refine Holds.of_eq vcWWorks ?_
 repeat' first
  | exact trivial
  | exact SBle.refl _
  | exact fits_of (by decide +kernel)
  | exact rfl
  | refine And.intro ?_ ?_
  | omega
  | intro (_:Loop)
  | intro (_:Nat)
  | intro (_:_≤_)
  | decide +kernel
  | exact fun _=>rfl
  | exact⟨rfl,rfl⟩
  | fail
theorem wworks_ok:WorksOk:=by
 refine ans_ok (n:=40) (fn:=Tryz.f9) Tryz.func9 (by kernel_rfl) (by kernel_rfl) ?_
 intro vs q a h hq
 match vs,h with
 | [],h =>
   injection h with h;injection h with h1 h2;subst h1;subst h2
   exact⟨_,goodQ0,rfl,rfl,wworks_holds⟩
end Go.Proofs.YtoalfimkkibpdaaGreatDoor
namespace Go.Proofs.YtoalfimkkibpdaaGreatDoor.Sx
open Go Go.RowKit Go.WideShapes Go.ChangeShapes
theorem cell_int {P:Program} {w:World} {base:Nat} {u:TypeId} {k:IntKind} {x:Value} (hu:P.underlying u=some (.int k))(h:Cell.okWide P w .any base u x): ∃ n,x=.int k n∧k.has n:=by
 unfold Cell.okWide Cell.ok at h
 rw[hu] at h
 cases x<;>simp only at h
 all_goals first
  | exact h.elim
  | (obtain⟨rfl,h⟩:=h;exact⟨_,rfl,h⟩)
theorem cell_str {P:Program} {w:World} {base:Nat} {u:TypeId} {x:Value} (hu:P.underlying u=some .string)(h:Cell.okWide P w .any base u x): ∃ s:List UInt8,x=.string ⟨s.toArray⟩:=by
 unfold Cell.okWide Cell.ok at h
 rw[hu] at h
 cases x<;>simp only at h
 all_goals first
  | exact h.elim
  | (rename_i s;exact⟨s.data.toList,by simp⟩)
theorem arg_row {P:Program} {w:World} {base:Nat} {t:TypeId} {fs:Array Field} {ts:List TypeId} {v:Value} (ht:P.underlying t=some (.struct fs))(hts:P.cellTypes P.depth t=some ts)(hl:P.cellsOf t=ts.length)
  (h:Value.okWide P w .any base t v): ∃ cs,v=.agg cs∧cs.size=ts.length∧∀(j:Nat) (u:TypeId),ts[j]?=some u→∃ x,cs[j]?=some x∧Cell.okWide P w .any base u x:=by
 unfold Value.okWide at h
 rw[ht] at h
 obtain⟨cs,rfl,hs,ts',hts',_,hc⟩:=h
 rw[hts] at hts';injection hts' with hts';subst hts'
 refine⟨cs,rfl,hs.trans hl,fun j u hu=> ?_⟩
 have hj:=(List.getElem?_eq_some_iff.1 hu).1
 have hj2:j<cs.size:=by omega
 obtain⟨u',hu',hok⟩:=hc j cs[j] (Array.getElem?_eq_getElem hj2)
 rw[Nat.mod_eq_of_lt hj,hu] at hu'
 injection hu' with hu';subst hu'
 exact⟨_,Array.getElem?_eq_getElem hj2,hok⟩
theorem agg_of {cs:Array Value} {l:List Value} (hs:cs.size=l.length)(h: ∀(j:Nat)(v:Value),l[j]?=some v→cs[j]?=some v):cs=l.toArray:=by
 refine Array.ext hs fun i h1 h2=> ?_
 have:=h i l[i] (List.getElem?_eq_getElem (by omega))
 rw[Array.getElem?_eq_getElem h1] at this
 injection this with this
theorem elem_field {P:Program} {W:World} {H:Type} {enc:TypeId×Value→H} {e:TypeId} {fs:Array Field} {xs:List Value} {y:DataW H×List MemPlace} {m:Nat} (he:P.underlying e=some (.struct fs))
  (h:DataW.trod enc P W 0 (fun _=>true) true m e xs=some y) {i:Nat} {f:Field} (hf:fs[i]?=some f) (h1:P.cellsOf f.type=1) {x:Value} (hx:xs[f.offset]?=some x) :
  ∃ m' y',DataW.trod enc P W 0 (fun _=>true) true m' f.type [x]=some y':=by
 obtain⟨ys,m',rfl,_,_,hyl,hfield⟩:=DataW.trod_struct he h
 have:=hfield i f hf
 rw[h1] at this
 have hd:(xs.drop f.offset).take 1=[x]:=by
  rw[List.take_one,List.head?_drop,hx];rfl
 rw[hd,List.getElem?_eq_getElem (by rw[hyl];exact(Array.getElem?_eq_some_iff.1 hf).1)] at this
 exact⟨m',_,this⟩
theorem okWide_cell {P:Program} {W:World} {base:Nat} {t e:TypeId} {v:Value} (ht:P.underlying t=some (.slice e))(h:Cell.okWide P W .any base t v):Value.okWide P W .any base t v:=by
 unfold Value.okWide
 rw[ht];exact h
theorem cells_slice (a:Option Addr)(n c:Nat):(Value.slice a n c).cells.toList=[.slice a n c]:=rfl
def Stood (W:World)(b:Nat)(B:SB):Prop:=B.no=false→∃ ob,W.heap[b]?=some ob∧∀ E,BlkOk E B ob
theorem slice_cell {P:Program} {W:World} {base:Nat} {H:Type} {enc:TypeId×Value→H} {t e:TypeId} {x:Value} {m:Nat} {y:DataW H×List MemPlace} (ht:P.underlying t=some (.slice e))(h:Cell.okWide P W .any base t x)
  (hd:DataW.trod enc P W 0 (fun _=>true) true m t [x]=some y) :
  ∃(z:Bool) (b o n c:Nat),x=(SV.vslc 0 (P.cellsOf e) z o 0 n c).val (fun _=>b)∧n≤maxLen∧((z&&Nat.beq n 0)=false→∃ cs ty fr,W.heap[b]?=some (.cells cs ty fr) ∧
   ∀ i,i<n→∃(xs:List Value) (y:DataW H×List MemPlace) (m:Nat),xs.length=P.cellsOf e∧(∀ k,k<P.cellsOf e→cs[o+i*P.cellsOf e+k]?=xs[k]?)∧DataW.trod enc P W 0 (fun _=>true) true m e xs=some y):=by
 have hw:=okWide_cell ht h
 obtain⟨a,n,c,rfl⟩:=okWide_slice ht hw
 exact mapOk (ps:=y.2) (d:=y.1) ht hw ⟨m,by rw[cells_slice];exact hd⟩
end Go.Proofs.YtoalfimkkibpdaaGreatDoor.Sx
namespace Go.Proofs.YtoalfimkkibpdaaGreatDoor.Sx
open Go Go.RowKit Go.WideShapes Go.ChangeShapes
theorem law_laid {H:Type} {enc:TypeId×Value→H} {C:Checked} {os:Os} {f:FuncId} {fn:Func} {s:ChangeSpec} {apart fresh handsOn again:Bool} {boolT:TypeId} {X:World→Prop}
  (hX: ∀(w w':World),w.heap=w'.heap→X w→X w')
  (own:ownKnob C.prog.godebug=none) (started:os.Started) (noInit:C.prog.inits.idxOf? f=none) (hfn:C.prog.funcs[f]?=some fn)
  (witness: ∃(w:World) (tape:Tape) (i:Input),w.os=os∧(w.forCall tape i).Shaped C.prog∧i.vars=[]∧Input.okWide C.prog (w.forCall tape i) .any w.heap.size f i ∧
    ((s.pre enc C.prog fn [] apart (w.forCall tape i).memory i.args∧X (w.forCall tape i).memory)∧sizedMet enc C.prog fn (OpenSpec.ofChange s) apart (w.forCall tape i).memory i.args)∧({}:Assume).holds C.prog (lone (Frame.enter C.prog f i.args .normal) [] (w.forCall tape i)))
  (hl:laidOutB C.prog=true) (hr:fn.resultTypes=#[boolT]) (hbt:C.prog.underlying boolT=some .bool) (_hformed:C.prog.cellsOf boolT=1)
  (hp: ∀ t∈ fn.params.toList,C.prog.readableRec t=true∧t<C.prog.types.size) (hvars:s.vars=[])
  (hspec: ∀ ds:List (DataW H),ds.length=fn.params.toList.length→s.fn H ds={results:=[.lit (.bool true)],args:=ds})
  (hcall: ∀(W:World) (args:Array Value) (ds:List (DataW H)) (ps:List MemPlace),
    (∀(j:Nat) t v,fn.params[j]?=some t→args[j]?=some v→∃ base,Value.okWide C.prog W .any base t v) →
    DataW.TrodAll enc C.prog W 0 (fun _=>true) true fn.params.toList args.toList ds ps→X W →
    Calls C.prog f args W fun e W'=>e=.returned (.bool true)∧Below W.heap.size W W') :
  ReturnsInHanded {} C os f .any (fun w args=>(s.pre enc C.prog fn [] apart w args∧X w)∧sizedMet enc C.prog fn (OpenSpec.ofChange s) apart w args) (s.post enc C.prog fn apart fresh handsOn again):=by
 refine returnsInHanded_of_change_and (C:=C) (X:=fun w _=>X w) (fun w w' _ hh h=>hX w w' hh h) own started noInit hfn witness ?_
 intro W base args ds gs before hval hW _ _ hXW _
 have hW':=hW
 obtain⟨p,q,hA,hV,rfl,hfz,hnd⟩:=hW
 rw[hvars] at hV
 obtain⟨rfl,rfl⟩:=trodVars_none hV
 have hlen:=(trodAll_len hA).1
 refine(hcall W args ds p (fun j t v h1 h2=>⟨base,hval j t v h1 h2⟩) hA hXW).mono fun e W' ⟨he,hb⟩=> ?_
 subst he
 have hs:=hspec ds hlen
 refine⟨_,rfl,post_of_below (pa:=p) (pv:=[]) hW' ?_ ?_ ?_ rfl hb ?_⟩
 ·intro b sp hd
  rw[List.append_nil,hs,hr]
  exact trodAll_mk1 (shut_bool hbt true)
 ·intro sp hsp
  rw[List.append_nil,hs]
  exact trodAll_stays hl hb hp hA (fun x hx=>by have:=hW'.lt x (by simpa using hx);exact this) (fun x hx=>hsp x (by simpa using hx))
 ·intro sp _
  rw[hvars,List.append_nil,hs]
  rfl
 ·exact ok_one hr (by rfl) (okWide_bool_mk hbt _)
theorem cells_of_cell {W:World} {b:Nat} {v:Value} (h:W.cell? ⟨b,0,none⟩=some v): ∃ c ty fr,W.heap[b]?=some (.cells c ty fr)∧c[0]?=some v:=by
 unfold World.cell? at h
 cases hb:W.heap[b]? with
 | none=>rw[hb] at h;cases h
 | some o =>
   rw[hb] at h
   cases o<;>first | exact⟨_,_,_,rfl,h⟩ | cases h
end Go.Proofs.YtoalfimkkibpdaaGreatDoor.Sx
