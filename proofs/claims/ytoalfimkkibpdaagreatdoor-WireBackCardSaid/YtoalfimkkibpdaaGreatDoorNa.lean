/-
  Whether two rows of entries are alike, and whether two papers are: the set-up.
-/
import Derived.Test.YtoalfimkkibpdaaGreatDoorMu
import Derived.Test.YtoalfimkkibpdaaGreatDoorMx
namespace Go.Proofs.YtoalfimkkibpdaaGreatDoor
open Go Sx
set_option maxRecDepth 20000
def entEq (f g f' g':Nat→List UInt8)(i:Nat):Bool:=decide (f i=f' i)&&decide (g i=g' i)
def sameEn (n:Nat)(f g:Nat→List UInt8)(n':Nat)(f' g':Nat→List UInt8):Bool:=decide ((n:Int)=(n':Int))&&(List.range n).all (entEq f g f' g')
def dEn:List Col:=[.str fun _=>[],.str fun _=>[]]
def shEE:List Sh2:=[.of (.slice dEn),.of (.slice dEn)]
def seenE (z:Bool)(o c n:Nat)(f g:Nat→List UInt8)(key:Option Nat):Seen:=⟨key,z,o,n,c,[.str f,.str g]⟩
noncomputable def cfgSEn (n:Nat)(f g f' g':Nat→List UInt8):Cfg:={cfg0 with summ:=fun f=>lookPT f reflList,anns:=fun h=>if h=18 then [(4,always (annUpto 5 n (entEq f g f' g')))] else []}
theorem goodSEn (n:Nat)(f g f' g':Nat→List UInt8):Sx.Good Tryz.prog (cfgSEn n f g f' g'):=⟨mixes,reflList_ok,fns_ok⟩
def Pp.alike (x y:Pp):Bool:=decide (x.k=y.k)&&decide (x.root=y.root)&&decide (x.key=y.key)&&decide (x.to=y.to)&&sameT x.n x.f y.n y.f
noncomputable def listJs:List (FuncId×PT):=(40,ansVPT shTT sameTSpec)::reflList
theorem listJs_ok:SummOk Tryz.prog (fun f=>lookPT f listJs):=.cons equalT_ok (ansVPT_mono _ _) reflList_ok
noncomputable def cfgJs:Cfg:={cfg0 with summ:=fun f=>lookPT f listJs}
theorem goodJs:Sx.Good Tryz.prog cfgJs:=⟨mixes,listJs_ok,fns_ok⟩
end Go.Proofs.YtoalfimkkibpdaaGreatDoor
namespace Go.Proofs.YtoalfimkkibpdaaGreatDoor
open Go Sx
set_option maxRecDepth 20000
theorem vcSameEn (n n':Nat)(f g f' g':Nat→List UInt8)(z z':Bool)(o c o' c':Nat)(key key':Option Nat):VC.holds (runS (cfgSEn n f g f' g') 18 Tryz.f18 [.vslc 0 2 z o 0 n c,.vslc 1 2 z' o' 0 n' c'] [seenE z o c n f g key,seenE z' o' c' n' f' g' key'] (.ret (.bool false (sameEn n f g n' f' g'))))=(((!decide ((↑n:Int)=(↑n':Int)))=true →sameVal (SV.bool true false) (SV.bool false (sameEn n f g n' f' g'))) ∧((!decide ((↑n:Int)=(↑n':Int)))=false →(∃(y:Nat),Upto n (entEq f g f' g') y ∧(0:Int)=(↑y:Int) ∧SBle (seenE z o c n f g key).B (seenE z o c n f g key).B ∧SBle (seenE z' o' c' n' f' g' key').B (seenE z' o' c' n' f' g' key').B ∧True) ∧∀(x:Nat),Upto n (entEq f g f' g') x →(decide ((↑x:Int)<(↑n:Int))=true →((0:Int)≤(↑x:Int) ∧(↑x:Int)<(↑n:Int)) ∧(o=o ∧(0:Nat)+(↑x:Int).toNat<n) ∧((0:Int)≤(↑x:Int) ∧(↑x:Int)<(↑n':Int)) ∧(o'=o' ∧(0:Nat)+(↑x:Int).toNat<n') ∧((!(decide (f ((0:Nat)+(↑x:Int).toNat)=f' ((0:Nat)+(↑x:Int).toNat))&&(decide (g ((0:Nat)+(↑x:Int).toNat)=g' ((0:Nat)+(↑x:Int).toNat))&&true)))=true →sameVal (SV.bool true false) (SV.bool false (sameEn n f g n' f' g'))) ∧((!(decide (f ((0:Nat)+(↑x:Int).toNat)=f' ((0:Nat)+(↑x:Int).toNat))&&(decide (g ((0:Nat)+(↑x:Int).toNat)=g' ((0:Nat)+(↑x:Int).toNat))&&true)))=false →((-9223372036854775808:Int)≤(↑x:Int)+(1:Int) ∧(↑x:Int)+(1:Int)≤(9223372036854775807:Int)) ∧∃(y:Nat),(Upto n (entEq f g f' g') y ∧n - y<n - x) ∧(↑x:Int)+(1:Int)=(↑y:Int) ∧SBle (seenE z o c n f g key).B (seenE z o c n f g key).B ∧SBle (seenE z' o' c' n' f' g' key').B (seenE z' o' c' n' f' g' key').B ∧True)) ∧(decide ((↑x:Int)<(↑n:Int))=false →sameVal (SV.bool true true) (SV.bool false (sameEn n f g n' f' g'))))):=by kernel_rfl
theorem vcAlike (x y:Pp)(z z':Bool)(o o' c c':Nat)(key key':Option Nat):VC.holds (runS cfgJs 20 Tryz.f20 [x.sv (.vslc 0 1 z o 0 x.n c),y.sv (.vslc 1 1 z' o' 0 y.n c')] [seenP z o c x key,seenP z' o' c' y key'] (.ret (.bool false (x.alike y))))=((decide (x.k=y.k)=true →(decide (x.root=y.root)=true →(decide (x.key=y.key)=true →(decide (x.to=y.to)=true →(((z=z ∧o=o ∧(0:Nat)+x.n≤x.n) ∧(z'=z' ∧o'=o' ∧(0:Nat)+y.n≤y.n) ∧True) ∧x.n<(9223372036854775808:Nat)) ∧sameVal (SV.bool false (sameT x.n x.f y.n y.f)) (SV.bool false (x.alike y))) ∧(decide (x.to=y.to)=false →sameVal (SV.bool true false) (SV.bool false (x.alike y)))) ∧(decide (x.key=y.key)=false →sameVal (SV.bool true false) (SV.bool false (x.alike y)))) ∧(decide (x.root=y.root)=false →sameVal (SV.bool true false) (SV.bool false (x.alike y)))) ∧(decide (x.k=y.k)=false →sameVal (SV.bool true false) (SV.bool false (x.alike y)))):=by kernel_rfl
end Go.Proofs.YtoalfimkkibpdaaGreatDoor
namespace Go.Proofs.YtoalfimkkibpdaaGreatDoor
open Go Sx
set_option maxRecDepth 20000
theorem jb2t {a b:Bool} (h:(!(a&&(b&&true)))=false):(a&&b)=true:=by revert h;cases a<;>cases b<;>decide
theorem jb2f {a b:Bool} (h:(!(a&&(b&&true)))=true):(a&&b)=false:=by revert h;cases a<;>cases b<;>decide
theorem sameEn_holds {n n':Nat} {f g f' g':Nat→List UInt8} (hn:n<9223372036854775808)(z z':Bool)(o c o' c':Nat)(key key':Option Nat):Holds (runS (cfgSEn n f g f' g') 18 Tryz.f18 [.vslc 0 2 z o 0 n c,.vslc 1 2 z' o' 0 n' c'] [seenE z o c n f g key,seenE z' o' c' n' f' g' key'] (.ret (.bool false (sameEn n f g n' f' g')))):=by
 refine Holds.of_eq (vcSameEn n n' f g f' g' z z' o c o' c' key key') ?_
 simp only[Int.toNat_natCast,Nat.zero_add]
 refine⟨fun h=>bool_same (by rw[sameEn,wnot h];rfl),fun h=>⟨⟨0,⟨Nat.zero_le _,fun j hj=>absurd hj (Nat.not_lt_zero _)⟩,rfl,SBle.refl _,SBle.refl _,trivial⟩,fun i hi=>⟨fun a=> ?_,fun a=> ?_⟩⟩⟩
 ·have a:(i:Int)<(n:Int):=of_decide_eq_true a
  have e:(n:Int)=(n':Int):=wdec h
  refine⟨by omega,⟨trivial,by omega⟩,by omega,⟨trivial,by omega⟩,fun b=> ?_,fun b=>⟨by omega,i+1,⟨upto_next hi a (jb2t b),by omega⟩,by omega,SBle.refl _,SBle.refl _,trivial⟩⟩
  exact bool_same (by rw[sameEn,upto_none a (jb2f b),Bool.and_false])
 ·have a: ¬ (i:Int)<(n:Int):=of_decide_eq_false a
  exact bool_same (by rw[sameEn,upto_all hi a,wyes h];rfl)
def sameEnSpec (vs:List SV)(l:List Seen):Option (Prop×Ans):=match vs,l with
 | [_,_],[⟨_,_,_,n,_,[.str f,.str g]⟩,⟨_,_,_,n',_,[.str f',.str g']⟩]=>some (n<9223372036854775808,.ret (.bool false (sameEn n f g n' f' g')))
 | _,_=>none
theorem sameEn_ok:CallOk Tryz.prog 18 (ansVPT shEE sameEnSpec):=by
 refine ansV_ok (n:=20) (fn:=Tryz.f18) Tryz.func18 (by kernel_rfl) (by kernel_rfl) ?_
 intro vs l q a h hq
 unfold sameEnSpec at h
 split at h
 ·rename_i v v' key z o n c f g key' z' o' n' c' f' g'
  injection h with h;injection h with h1 h2;subst h1;subst h2
  exact⟨_,goodSEn n f g f' g',rfl,rfl,sameEn_holds hq z z' o c o' c' key key'⟩
 ·cases h
def ppsOf (vs:List SV)(l:List Seen):Option ((Pp×Bool×Nat×Nat×Option Nat)×(Pp×Bool×Nat×Nat×Option Nat)):=match vs,l with
 | [.agg [.int .i64 false k,.str false root,.str false key,.str false to,_],.agg [.int .i64 false k',.str false root',.str false key',.str false to',_]],[⟨kk,z,o,n,c,[.str f]⟩,⟨kk',z',o',n',c',[.str f']⟩] =>
   some ((⟨k,root,key,to,n,f⟩,z,o,c,kk),(⟨k',root',key',to',n',f'⟩,z',o',c',kk'))
 | _,_=>none
def shPa:List Sh2:=[.agg [.one,.one,.one,.one,.slice dP],.agg [.one,.one,.one,.one,.slice dP]]
theorem ppsOf_eq {vs:List SV} {l:List Seen} {x y:Pp} {z z':Bool} {o o' c c':Nat} {key key':Option Nat} (h:ppsOf vs l=some ((x,z,o,c,key),(y,z',o',c',key'))) :
  filled shPa vs l=[x.sv (.vslc 0 1 z o 0 x.n c),y.sv (.vslc 1 1 z' o' 0 y.n c')]∧l=[seenP z o c x key,seenP z' o' c' y key']:=by
 unfold ppsOf at h
 split at h
 ·injection h with h
  injection h with h1 h2
  injection h1 with h1 g;injection g with g1 g;injection g with g2 g;injection g with g3 g4
  injection h2 with h2 k;injection k with k1 k;injection k with k2 k;injection k with k3 k4
  subst h1;subst g1;subst g2;subst g3;subst g4
  subst h2;subst k1;subst k2;subst k3;subst k4
  exact⟨rfl,rfl⟩
 ·cases h
def alikeSpec (vs:List SV)(l:List Seen):Option (Prop×Ans):=match ppsOf vs l with
 | some ((x,_),(y,_))=>some (x.n<9223372036854775808,.ret (.bool false (x.alike y)))
 | none=>none
theorem alike_ok:CallOk Tryz.prog 20 (ansVPT shPa alikeSpec):=by
 refine ansV_ok (n:=20) (fn:=Tryz.f20) Tryz.func20 (by kernel_rfl) (by kernel_rfl) ?_
 intro vs l q a h hq
 unfold alikeSpec at h
 split at h
 ·rename_i x r y r' hx
  obtain⟨z,o,c,key⟩:=r
  obtain⟨z',o',c',key'⟩:=r'
  injection h with h;injection h with h1 h2;subst h1;subst h2
  obtain⟨e1,e2⟩:=ppsOf_eq hx
  rw[e1,e2]
  refine⟨_,goodJs,rfl,rfl,Holds.of_eq (vcAlike x y z z' o o' c c' key key') ?_⟩
  unfold Pp.alike
  generalize decide (x.k=y.k)=b1
  generalize decide (x.root=y.root)=b2
  generalize decide (x.key=y.key)=b3
  generalize decide (x.to=y.to)=b4
  generalize sameT x.n x.f y.n y.f=b5
  refine⟨fun h1=>⟨fun h2=>⟨fun h3=>⟨fun h4=>⟨⟨⟨⟨rfl,rfl,by omega⟩,⟨rfl,rfl,by omega⟩,trivial⟩,hq⟩,?_⟩,fun h4=> ?_⟩,fun h3=> ?_⟩,fun h2=> ?_⟩,fun h1=> ?_⟩
  all_goals (apply bool_same;simp_all)
 ·cases h
theorem weak_V {f:FuncId} {sh:List Sh2} {spec spec':List SV→List Seen→Option (Prop×Ans)} (h:CallOk Tryz.prog f (ansVPT sh spec))(hi: ∀ vs l q a',spec' vs l=some (q,a')→∃ a,spec vs l=some (q,a)∧∀ m nx K,(a'.vc m nx K).holds→(a.vc m nx K).holds):CallOk Tryz.prog f (ansVPT sh spec'):=by
 intro args m nx K hk
 refine h args m nx K ?_
 unfold ansVPT at hk ⊢
 split at hk
 ·rename_i vs p l hp
  split at hk
  ·rename_i q a' hs
   obtain⟨a,e,g⟩:=hi vs l q a' hs
   simp only[e]
   exact⟨hk.1,g m nx K hk.2⟩
  ·exact hk.elim
 ·exact hk.elim
def judgeV (x:Pp):Ans:=.fork x.jN fun b=>match b with
 | true=>.all (List (List UInt8×List UInt8)) fun l=>.req (l=x.jL) (.all Nat fun c=>.req (l.length≤c) (.new (fun k=>.tup [.rslc k 2 true 0 l.length c,.int .i64 true 0]) (.rows true l.length [fkCol l,fvCol l] false (c*2) 60)))
 | false=>.all Int fun e=>.req (e=x.jE) (.ret (.tup [.nilslc,.int .i64 false e]))
theorem judgeV_vc (x:Pp)(m:Mem)(nx:Nat)(K:SV→Mem→Nat→VC)(h:((judgeV x).vc m nx K).holds):((judgeB x).vc m nx K).holds:=by
 unfold judgeV at h
 unfold judgeB
 simp only[Ans.vc] at h ⊢
 rw[fork_iff] at h ⊢
 cases hb:x.jN with
 | true=>rw[hb] at h;exact h x.jL rfl
 | false=>rw[hb] at h;exact h x.jE rfl
def judgeVSpec (vs:List SV)(l:List Seen):Option (Prop×Ans):=match paperOf vs l with
 | some (x,_)=>some (True,judgeV x)
 | none=>none
theorem judgeV_ok:CallOk Tryz.prog 14 (ansVPT shP judgeVSpec):=weak_V judge_ok fun vs l q a' h=>by
 unfold judgeVSpec at h
 split at h
 ·rename_i x r hx
  injection h with h;injection h with h1 h2;subst h1;subst h2
  exact⟨judgeB x,by unfold judgeSpec;rw[hx],judgeV_vc x⟩
 ·cases h
def getVA (s:List UInt8):Ans:=.fork (getPB s) fun b=>match b with
 | true=>.all Pp fun q=>.req (q=paperD s) (.all Nat fun c=>.req (q.n≤c) (.new (fun k=>.tup [q.sv (.rslc k 1 true 0 q.n c),.int .i64 true 0]) (.rows true q.n [.str q.f] false c 9)))
 | false=>.ret (.tup [noPaper,.int .i64 true 2])
theorem getVA_vc (s:List UInt8)(m:Mem)(nx:Nat)(K:SV→Mem→Nat→VC)(h:((getVA s).vc m nx K).holds):((getPA s).vc m nx K).holds:=by
 have e:itemsN (cutIn (itOf s 4))=(paperD s).n:=by simp only[paperD]
 unfold getVA at h
 unfold getPA
 rw[e]
 generalize paperD s=q at h ⊢
 simp only[Ans.vc] at h ⊢
 rw[fork_iff] at h ⊢
 cases hb:getPB s with
 | true=>rw[hb] at h;exact h q rfl
 | false=>rw[hb] at h;exact h
def getVSpec:List SV→Option (Prop×Ans)
 | [.str false s]=>some (True,getVA s)
 | _=>none
theorem getV_ok:CallOk Tryz.prog 21 (ansPT getVSpec):=by
 intro args m nx K hk
 refine pget_ok args m nx K ?_
 unfold ansPT at hk ⊢
 split at hk
 ·rename_i p a hs
  unfold getVSpec at hs
  split at hs
  ·rename_i s he
   injection hs with hs;injection hs with h1 h2;subst h1;subst h2
   rw[he]
   exact⟨trivial,getVA_vc s m nx K hk.2⟩
  ·cases hs
 ·exact hk.elim
noncomputable def listJb:List (FuncId×PT):=(18,ansVPT shEE sameEnSpec)::(20,ansVPT shPa alikeSpec)::(14,ansVPT shP judgeVSpec)::(21,ansPT getVSpec)::listJr
theorem listJb_ok (hw:WorksOk):SummOk Tryz.prog (fun f=>lookPT f listJb):=.cons sameEn_ok (ansVPT_mono _ _) (.cons alike_ok (ansVPT_mono _ _) (.cons judgeV_ok (ansVPT_mono _ _) (.cons getV_ok (ansPT_mono _) (listJr_ok hw))))
def joinBack:LoopAnn :=
 {α:=Unit,pre:=fun _ _=>True,mea:=fun _ _=>0,fresh:=0,slots:=fun _ _=>[],mem:=fun _ _=>[]}
def joinPut (p:Prop):LoopAnn :=
 {α:=Unit,pre:=fun _ _=>p,mea:=fun _ _=>0,fresh:=0,slots:=fun _ _=>[],mem:=fun _ _=>[]}
def joinPutAt (x:Pp)(st:Sx.St):Option Multi:=match slot st.tmps 8 with
 | some (.int _ true 0)=>some (one (joinPut (x.fits=true)))
 | _=>some (one (joinPut True))
noncomputable def cfgJb (x:Pp):Cfg:={cfg0 with summ:=fun f=>lookPT f listJb,anns:=fun f=>if f=5 then [(109011,joinPutAt x),(111016,always joinBack)] else []}
theorem goodJb (hw:WorksOk)(x:Pp):Sx.Good Tryz.prog (cfgJb x):=⟨mixes,listJb_ok hw,fns_ok⟩
end Go.Proofs.YtoalfimkkibpdaaGreatDoor
namespace Go.Proofs.YtoalfimkkibpdaaGreatDoor
open Go Sx
set_option maxRecDepth 20000
theorem vcWBack (x:Pp)(s:List UInt8)(z:Bool)(o c:Nat)(key:Option Nat):VC.holds (runS (cfgJb x) 5 Tryz.f5 [x.sv (.vslc 0 1 z o 0 x.n c),.str false s] [seenP z o c x key] (.ret (.bool false true)))=((fun Q0:SV=>((fun Q1:SB=>((fun Q2:SB=>(True ∧(((True ∧True ∧True ∧True ∧(z=z ∧o=o ∧(0:Nat)+x.n≤x.n) ∧True) ∧True) ∧True) ∧((!x.few)=true →sameVal (SV.bool true true) (SV.bool false true)) ∧((!x.few)=false →(decide ((5000:Int)<(↑s.length:Int))=true →sameVal (SV.bool true true) (SV.bool false true)) ∧(decide ((5000:Int)<(↑s.length:Int))=false →(((True ∧True ∧True ∧True ∧(z=z ∧o=o ∧(0:Nat)+x.n≤x.n) ∧True) ∧True) ∧True) ∧(x.ok=true →(decide ((65536:Int)<(↑x.put.length:Int))=true →True ∧(getPB []=true →∀(x_6:Pp),x_6=paperD [] →∀(x_8:Nat),x_6.n≤x_8 →((((True ∧True ∧True ∧True ∧(z=z ∧o=o ∧(0:Nat)+x.n≤x.n) ∧True) ∧True) ∧True) ∧((!x.ok==decide ((8:Int)=(8:Int)))=true →sameVal (SV.bool true false) (SV.bool false true)) ∧((!x.ok==decide ((8:Int)=(8:Int)))=false →∃(_y:Unit),True ∧SBle (SB.cells (setRange Q0.cells 0 (x_6.sv (SV.rslc 2 1 true 0 x_6.n x_8)).cells) 5 24) (SB.cells (setRange Q0.cells 0 (x_6.sv (SV.rslc 2 1 true 0 x_6.n x_8)).cells) 5 24) ∧SBle (SB.rows true x_6.n [Col.str x_6.f] false x_8 9) (SB.rows true x_6.n [Col.str x_6.f] false x_8 9) ∧SBle Q1 Q1 ∧SBle (seenP z o c x key).B (seenP z o c x key).B ∧True)) ∧∀(_x_10:Unit),True →(∃(_y:Unit),True ∧SBle (SB.cells (setRange Q0.cells 0 (x_6.sv (SV.rslc 2 1 true 0 x_6.n x_8)).cells) 5 24) (SB.cells (setRange Q0.cells 0 (x_6.sv (SV.rslc 2 1 true 0 x_6.n x_8)).cells) 5 24) ∧SBle (SB.rows true x_6.n [Col.str x_6.f] false x_8 9) (SB.rows true x_6.n [Col.str x_6.f] false x_8 9) ∧SBle Q1 Q1 ∧SBle (seenP z o c x key).B (seenP z o c x key).B ∧True) ∧∀(_x:Unit),True →True ∧(getPB s=true →∀(x:Pp),x=paperD s →∀(x_13:Nat),x.n≤x_13 →(((True ∧True ∧True ∧True ∧(true=true ∧(0:Nat)+x.n≤x.n) ∧True) ∧True) ∧True) ∧(x.ok=true →(decide ((65536:Int)<(↑x.put.length:Int))=true →sameVal (SV.bool true false) (SV.bool false true)) ∧(decide ((65536:Int)<(↑x.put.length:Int))=false →(decide (x.put=s)=true →(((True ∧True ∧True ∧True ∧(true=true ∧(0:Nat)+x.n≤x.n) ∧True) ∧True) ∧True) ∧sameVal (SV.bool false x.ok) (SV.bool false true)) ∧(decide (x.put=s)=false →sameVal (SV.bool true false) (SV.bool false true)))) ∧(x.ok=false →sameVal (SV.bool true false) (SV.bool false true))) ∧(getPB s=false →(((True ∧True ∧True ∧True ∧True ∧True) ∧(True ∧True ∧True ∧True ∧True ∧True) ∧True) ∧(0:Nat)<(9223372036854775808:Nat)) ∧sameVal (SV.bool false ({k:=(0:Int),root:=[],key:=[],to:=[],n:=(0:Nat),f:=fun(_x:Nat)=>[]:Pp}.alike {k:=(0:Int),root:=[],key:=[],to:=[],n:=(0:Nat),f:=fun(_x:Nat)=>[]:Pp})) (SV.bool false true))) ∧(getPB []=false →((((True ∧True ∧True ∧True ∧(z=z ∧o=o ∧(0:Nat)+x.n≤x.n) ∧True) ∧True) ∧True) ∧((!x.ok==decide ((8:Int)=(8:Int)))=true →sameVal (SV.bool true false) (SV.bool false true)) ∧((!x.ok==decide ((8:Int)=(8:Int)))=false →∃(_y:Unit),True ∧SBle Q2 Q2 ∧SBle Q1 Q1 ∧SBle (seenP z o c x key).B (seenP z o c x key).B ∧True)) ∧∀(_x_6:Unit),True →(∃(_y:Unit),True ∧SBle Q2 Q2 ∧SBle Q1 Q1 ∧SBle (seenP z o c x key).B (seenP z o c x key).B ∧True) ∧∀(_x:Unit),True →True ∧(getPB s=true →∀(x:Pp),x=paperD s →∀(x_9:Nat),x.n≤x_9 →(((True ∧True ∧True ∧True ∧(true=true ∧(0:Nat)+x.n≤x.n) ∧True) ∧True) ∧True) ∧(x.ok=true →(decide ((65536:Int)<(↑x.put.length:Int))=true →sameVal (SV.bool true false) (SV.bool false true)) ∧(decide ((65536:Int)<(↑x.put.length:Int))=false →(decide (x.put=s)=true →(((True ∧True ∧True ∧True ∧(true=true ∧(0:Nat)+x.n≤x.n) ∧True) ∧True) ∧True) ∧sameVal (SV.bool false x.ok) (SV.bool false true)) ∧(decide (x.put=s)=false →sameVal (SV.bool true false) (SV.bool false true)))) ∧(x.ok=false →sameVal (SV.bool true false) (SV.bool false true))) ∧(getPB s=false →(((True ∧True ∧True ∧True ∧True ∧True) ∧(True ∧True ∧True ∧True ∧True ∧True) ∧True) ∧(0:Nat)<(9223372036854775808:Nat)) ∧sameVal (SV.bool false ({k:=(0:Int),root:=[],key:=[],to:=[],n:=(0:Nat),f:=fun(_x:Nat)=>[]:Pp}.alike {k:=(0:Int),root:=[],key:=[],to:=[],n:=(0:Nat),f:=fun(_x:Nat)=>[]:Pp})) (SV.bool false true)))) ∧(decide ((65536:Int)<(↑x.put.length:Int))=false →True ∧(getPB x.put=true →∀(x_6:Pp),x_6=paperD x.put →∀(x_8:Nat),x_6.n≤x_8 →((((True ∧True ∧True ∧True ∧(z=z ∧o=o ∧(0:Nat)+x.n≤x.n) ∧True) ∧(True ∧True ∧True ∧True ∧(true=true ∧(0:Nat)+x_6.n≤x_6.n) ∧True) ∧True) ∧x.n<(9223372036854775808:Nat)) ∧((!x.alike x_6)=true →sameVal (SV.bool true false) (SV.bool false true)) ∧((!x.alike x_6)=false →(((True ∧True ∧True ∧True ∧(z=z ∧o=o ∧(0:Nat)+x.n≤x.n) ∧True) ∧True) ∧True) ∧((!x.ok==true)=true →sameVal (SV.bool true false) (SV.bool false true)) ∧((!x.ok==true)=false →∃(_y:Unit),x.fits=true ∧SBle (SB.cells (setRange Q0.cells 0 (x_6.sv (SV.rslc 2 1 true 0 x_6.n x_8)).cells) 5 24) (SB.cells (setRange Q0.cells 0 (x_6.sv (SV.rslc 2 1 true 0 x_6.n x_8)).cells) 5 24) ∧SBle (SB.rows true x_6.n [Col.str x_6.f] false x_8 9) (SB.rows true x_6.n [Col.str x_6.f] false x_8 9) ∧SBle Q1 Q1 ∧SBle (seenP z o c x key).B (seenP z o c x key).B ∧True))) ∧∀(_x_10:Unit),x.fits=true →((((True ∧True ∧True ∧True ∧(z=z ∧o=o ∧(0:Nat)+x.n≤x.n) ∧True) ∧True) ∧True) ∧(x.jN=true →∀(x_13:List (List UInt8×List UInt8)),x_13=x.jL →∀(x_15:Nat),x_13.length≤x_15 →(((True ∧True ∧True ∧True ∧(true=true ∧(0:Nat)+x_6.n≤x_6.n) ∧True) ∧True) ∧True) ∧(x_6.jN=true →∀(x_18:List (List UInt8×List UInt8)),x_18=x_6.jL →∀(x_20:Nat),x_18.length≤x_20 →(((true=true ∧(0:Nat)+x_13.length≤x_13.length) ∧(true=true ∧(0:Nat)+x_18.length≤x_18.length) ∧True) ∧x_13.length<(9223372036854775808:Nat)) ∧((!sameEn x_13.length (fun(i:Nat)=>(x_13.getD i ([],[])).fst) (fun(i:Nat)=>(x_13.getD i ([],[])).snd) x_18.length (fun(i:Nat)=>(x_18.getD i ([],[])).fst) fun(i:Nat)=>(x_18.getD i ([],[])).snd)=true →sameVal (SV.bool true false) (SV.bool false true)) ∧((!sameEn x_13.length (fun(i:Nat)=>(x_13.getD i ([],[])).fst) (fun(i:Nat)=>(x_13.getD i ([],[])).snd) x_18.length (fun(i:Nat)=>(x_18.getD i ([],[])).fst) fun(i:Nat)=>(x_18.getD i ([],[])).snd)=false →∃(_y:Unit),True ∧SBle (SB.cells (setRange Q0.cells 0 (x_6.sv (SV.rslc 2 1 true 0 x_6.n x_8)).cells) 5 24) (SB.cells (setRange Q0.cells 0 (x_6.sv (SV.rslc 2 1 true 0 x_6.n x_8)).cells) 5 24) ∧SBle (SB.rows true x_6.n [Col.str x_6.f] false x_8 9) (SB.rows true x_6.n [Col.str x_6.f] false x_8 9) ∧SBle Q1 Q1 ∧SBle (seenP z o c x key).B (seenP z o c x key).B ∧True)) ∧(x_6.jN=false →∀(x_18:Int),x_18=x_6.jE →(((true=true ∧(0:Nat)+x_13.length≤x_13.length) ∧True ∧True) ∧x_13.length<(9223372036854775808:Nat)) ∧((!sameEn x_13.length (fun(i:Nat)=>(x_13.getD i ([],[])).fst) (fun(i:Nat)=>(x_13.getD i ([],[])).snd) 0 (fun(_x:Nat)=>[]) fun(_x:Nat)=>[])=true →sameVal (SV.bool true false) (SV.bool false true)) ∧((!sameEn x_13.length (fun(i:Nat)=>(x_13.getD i ([],[])).fst) (fun(i:Nat)=>(x_13.getD i ([],[])).snd) 0 (fun(_x:Nat)=>[]) fun(_x:Nat)=>[])=false →((!decide ((0:Int)=x_18))=true →sameVal (SV.bool true false) (SV.bool false true)) ∧((!decide ((0:Int)=x_18))=false →∃(_y:Unit),True ∧SBle (SB.cells (setRange Q0.cells 0 (x_6.sv (SV.rslc 2 1 true 0 x_6.n x_8)).cells) 5 24) (SB.cells (setRange Q0.cells 0 (x_6.sv (SV.rslc 2 1 true 0 x_6.n x_8)).cells) 5 24) ∧SBle (SB.rows true x_6.n [Col.str x_6.f] false x_8 9) (SB.rows true x_6.n [Col.str x_6.f] false x_8 9) ∧SBle Q1 Q1 ∧SBle (seenP z o c x key).B (seenP z o c x key).B ∧True)))) ∧(x.jN=false →∀(x_13:Int),x_13=x.jE →(((True ∧True ∧True ∧True ∧(true=true ∧(0:Nat)+x_6.n≤x_6.n) ∧True) ∧True) ∧True) ∧(x_6.jN=true →∀(x_16:List (List UInt8×List UInt8)),x_16=x_6.jL →∀(x_18:Nat),x_16.length≤x_18 →((True ∧(true=true ∧(0:Nat)+x_16.length≤x_16.length) ∧True) ∧(0:Nat)<(9223372036854775808:Nat)) ∧((!sameEn 0 (fun(_x:Nat)=>[]) (fun(_x:Nat)=>[]) x_16.length (fun(i:Nat)=>(x_16.getD i ([],[])).fst) fun(i:Nat)=>(x_16.getD i ([],[])).snd)=true →sameVal (SV.bool true false) (SV.bool false true)) ∧((!sameEn 0 (fun(_x:Nat)=>[]) (fun(_x:Nat)=>[]) x_16.length (fun(i:Nat)=>(x_16.getD i ([],[])).fst) fun(i:Nat)=>(x_16.getD i ([],[])).snd)=false →((!decide (x_13=(0:Int)))=true →sameVal (SV.bool true false) (SV.bool false true)) ∧((!decide (x_13=(0:Int)))=false →∃(_y:Unit),True ∧SBle (SB.cells (setRange Q0.cells 0 (x_6.sv (SV.rslc 2 1 true 0 x_6.n x_8)).cells) 5 24) (SB.cells (setRange Q0.cells 0 (x_6.sv (SV.rslc 2 1 true 0 x_6.n x_8)).cells) 5 24) ∧SBle (SB.rows true x_6.n [Col.str x_6.f] false x_8 9) (SB.rows true x_6.n [Col.str x_6.f] false x_8 9) ∧SBle Q1 Q1 ∧SBle (seenP z o c x key).B (seenP z o c x key).B ∧True))) ∧(x_6.jN=false →∀(x_16:Int),x_16=x_6.jE →((True ∧True ∧True) ∧(0:Nat)<(9223372036854775808:Nat)) ∧((!sameEn 0 (fun(_x:Nat)=>[]) (fun(_x:Nat)=>[]) 0 (fun(_x:Nat)=>[]) fun(_x:Nat)=>[])=true →sameVal (SV.bool true false) (SV.bool false true)) ∧((!sameEn 0 (fun(_x:Nat)=>[]) (fun(_x:Nat)=>[]) 0 (fun(_x:Nat)=>[]) fun(_x:Nat)=>[])=false →((!decide (x_13=x_16))=true →sameVal (SV.bool true false) (SV.bool false true)) ∧((!decide (x_13=x_16))=false →∃(_y:Unit),True ∧SBle (SB.cells (setRange Q0.cells 0 (x_6.sv (SV.rslc 2 1 true 0 x_6.n x_8)).cells) 5 24) (SB.cells (setRange Q0.cells 0 (x_6.sv (SV.rslc 2 1 true 0 x_6.n x_8)).cells) 5 24) ∧SBle (SB.rows true x_6.n [Col.str x_6.f] false x_8 9) (SB.rows true x_6.n [Col.str x_6.f] false x_8 9) ∧SBle Q1 Q1 ∧SBle (seenP z o c x key).B (seenP z o c x key).B ∧True))))) ∧∀(_x:Unit),True →True ∧(getPB s=true →∀(x:Pp),x=paperD s →∀(x_13:Nat),x.n≤x_13 →(((True ∧True ∧True ∧True ∧(true=true ∧(0:Nat)+x.n≤x.n) ∧True) ∧True) ∧True) ∧(x.ok=true →(decide ((65536:Int)<(↑x.put.length:Int))=true →sameVal (SV.bool true false) (SV.bool false true)) ∧(decide ((65536:Int)<(↑x.put.length:Int))=false →(decide (x.put=s)=true →(((True ∧True ∧True ∧True ∧(true=true ∧(0:Nat)+x.n≤x.n) ∧True) ∧True) ∧True) ∧sameVal (SV.bool false x.ok) (SV.bool false true)) ∧(decide (x.put=s)=false →sameVal (SV.bool true false) (SV.bool false true)))) ∧(x.ok=false →sameVal (SV.bool true false) (SV.bool false true))) ∧(getPB s=false →(((True ∧True ∧True ∧True ∧True ∧True) ∧(True ∧True ∧True ∧True ∧True ∧True) ∧True) ∧(0:Nat)<(9223372036854775808:Nat)) ∧sameVal (SV.bool false ({k:=(0:Int),root:=[],key:=[],to:=[],n:=(0:Nat),f:=fun(_x:Nat)=>[]:Pp}.alike {k:=(0:Int),root:=[],key:=[],to:=[],n:=(0:Nat),f:=fun(_x:Nat)=>[]:Pp})) (SV.bool false true))) ∧(getPB x.put=false →sameVal (SV.bool true false) (SV.bool false true) ∧∀(_x_6:Unit),x.fits=true →((((True ∧True ∧True ∧True ∧(z=z ∧o=o ∧(0:Nat)+x.n≤x.n) ∧True) ∧True) ∧True) ∧(x.jN=true →∀(x_9:List (List UInt8×List UInt8)),x_9=x.jL →∀(x_11:Nat),x_9.length≤x_11 →(((True ∧True ∧True ∧True ∧True ∧True) ∧True) ∧True) ∧({k:=(0:Int),root:=[],key:=[],to:=[],n:=(0:Nat),f:=fun(_x:Nat)=>[]:Pp}.jN=true →∀(x_14:List (List UInt8×List UInt8)),x_14={k:=(0:Int),root:=[],key:=[],to:=[],n:=(0:Nat),f:=fun(_x:Nat)=>[]:Pp}.jL →∀(x_16:Nat),x_14.length≤x_16 →(((true=true ∧(0:Nat)+x_9.length≤x_9.length) ∧(true=true ∧(0:Nat)+x_14.length≤x_14.length) ∧True) ∧x_9.length<(9223372036854775808:Nat)) ∧((!sameEn x_9.length (fun(i:Nat)=>(x_9.getD i ([],[])).fst) (fun(i:Nat)=>(x_9.getD i ([],[])).snd) x_14.length (fun(i:Nat)=>(x_14.getD i ([],[])).fst) fun(i:Nat)=>(x_14.getD i ([],[])).snd)=true →sameVal (SV.bool true false) (SV.bool false true)) ∧((!sameEn x_9.length (fun(i:Nat)=>(x_9.getD i ([],[])).fst) (fun(i:Nat)=>(x_9.getD i ([],[])).snd) x_14.length (fun(i:Nat)=>(x_14.getD i ([],[])).fst) fun(i:Nat)=>(x_14.getD i ([],[])).snd)=false →∃(_y:Unit),True ∧SBle Q2 Q2 ∧SBle Q1 Q1 ∧SBle (seenP z o c x key).B (seenP z o c x key).B ∧True)) ∧({k:=(0:Int),root:=[],key:=[],to:=[],n:=(0:Nat),f:=fun(_x:Nat)=>[]:Pp}.jN=false →∀(x_14:Int),x_14=(1:Int) →(((true=true ∧(0:Nat)+x_9.length≤x_9.length) ∧True ∧True) ∧x_9.length<(9223372036854775808:Nat)) ∧((!sameEn x_9.length (fun(i:Nat)=>(x_9.getD i ([],[])).fst) (fun(i:Nat)=>(x_9.getD i ([],[])).snd) 0 (fun(_x:Nat)=>[]) fun(_x:Nat)=>[])=true →sameVal (SV.bool true false) (SV.bool false true)) ∧((!sameEn x_9.length (fun(i:Nat)=>(x_9.getD i ([],[])).fst) (fun(i:Nat)=>(x_9.getD i ([],[])).snd) 0 (fun(_x:Nat)=>[]) fun(_x:Nat)=>[])=false →((!decide ((0:Int)=x_14))=true →sameVal (SV.bool true false) (SV.bool false true)) ∧((!decide ((0:Int)=x_14))=false →∃(_y:Unit),True ∧SBle Q2 Q2 ∧SBle Q1 Q1 ∧SBle (seenP z o c x key).B (seenP z o c x key).B ∧True)))) ∧(x.jN=false →∀(x_9:Int),x_9=x.jE →(((True ∧True ∧True ∧True ∧True ∧True) ∧True) ∧True) ∧({k:=(0:Int),root:=[],key:=[],to:=[],n:=(0:Nat),f:=fun(_x:Nat)=>[]:Pp}.jN=true →∀(x_12:List (List UInt8×List UInt8)),x_12={k:=(0:Int),root:=[],key:=[],to:=[],n:=(0:Nat),f:=fun(_x:Nat)=>[]:Pp}.jL →∀(x_14:Nat),x_12.length≤x_14 →((True ∧(true=true ∧(0:Nat)+x_12.length≤x_12.length) ∧True) ∧(0:Nat)<(9223372036854775808:Nat)) ∧((!sameEn 0 (fun(_x:Nat)=>[]) (fun(_x:Nat)=>[]) x_12.length (fun(i:Nat)=>(x_12.getD i ([],[])).fst) fun(i:Nat)=>(x_12.getD i ([],[])).snd)=true →sameVal (SV.bool true false) (SV.bool false true)) ∧((!sameEn 0 (fun(_x:Nat)=>[]) (fun(_x:Nat)=>[]) x_12.length (fun(i:Nat)=>(x_12.getD i ([],[])).fst) fun(i:Nat)=>(x_12.getD i ([],[])).snd)=false →((!decide (x_9=(0:Int)))=true →sameVal (SV.bool true false) (SV.bool false true)) ∧((!decide (x_9=(0:Int)))=false →∃(_y:Unit),True ∧SBle Q2 Q2 ∧SBle Q1 Q1 ∧SBle (seenP z o c x key).B (seenP z o c x key).B ∧True))) ∧({k:=(0:Int),root:=[],key:=[],to:=[],n:=(0:Nat),f:=fun(_x:Nat)=>[]:Pp}.jN=false →∀(x_12:Int),x_12=(1:Int) →((True ∧True ∧True) ∧(0:Nat)<(9223372036854775808:Nat)) ∧((!sameEn 0 (fun(_x:Nat)=>[]) (fun(_x:Nat)=>[]) 0 (fun(_x:Nat)=>[]) fun(_x:Nat)=>[])=true →sameVal (SV.bool true false) (SV.bool false true)) ∧((!sameEn 0 (fun(_x:Nat)=>[]) (fun(_x:Nat)=>[]) 0 (fun(_x:Nat)=>[]) fun(_x:Nat)=>[])=false →((!decide (x_9=x_12))=true →sameVal (SV.bool true false) (SV.bool false true)) ∧((!decide (x_9=x_12))=false →∃(_y:Unit),True ∧SBle Q2 Q2 ∧SBle Q1 Q1 ∧SBle (seenP z o c x key).B (seenP z o c x key).B ∧True))))) ∧∀(_x:Unit),True →True ∧(getPB s=true →∀(x:Pp),x=paperD s →∀(x_9:Nat),x.n≤x_9 →(((True ∧True ∧True ∧True ∧(true=true ∧(0:Nat)+x.n≤x.n) ∧True) ∧True) ∧True) ∧(x.ok=true →(decide ((65536:Int)<(↑x.put.length:Int))=true →sameVal (SV.bool true false) (SV.bool false true)) ∧(decide ((65536:Int)<(↑x.put.length:Int))=false →(decide (x.put=s)=true →(((True ∧True ∧True ∧True ∧(true=true ∧(0:Nat)+x.n≤x.n) ∧True) ∧True) ∧True) ∧sameVal (SV.bool false x.ok) (SV.bool false true)) ∧(decide (x.put=s)=false →sameVal (SV.bool true false) (SV.bool false true)))) ∧(x.ok=false →sameVal (SV.bool true false) (SV.bool false true))) ∧(getPB s=false →(((True ∧True ∧True ∧True ∧True ∧True) ∧(True ∧True ∧True ∧True ∧True ∧True) ∧True) ∧(0:Nat)<(9223372036854775808:Nat)) ∧sameVal (SV.bool false ({k:=(0:Int),root:=[],key:=[],to:=[],n:=(0:Nat),f:=fun(_x:Nat)=>[]:Pp}.alike {k:=(0:Int),root:=[],key:=[],to:=[],n:=(0:Nat),f:=fun(_x:Nat)=>[]:Pp})) (SV.bool false true))))) ∧(x.ok=false →True ∧(getPB []=true →∀(x_5:Pp),x_5=paperD [] →∀(x_7:Nat),x_5.n≤x_7 →((((True ∧True ∧True ∧True ∧(z=z ∧o=o ∧(0:Nat)+x.n≤x.n) ∧True) ∧True) ∧True) ∧((!x.ok==decide ((1:Int)=(8:Int)))=true →sameVal (SV.bool true false) (SV.bool false true)) ∧((!x.ok==decide ((1:Int)=(8:Int)))=false →∃(_y:Unit),True ∧SBle (SB.cells (setRange Q0.cells 0 (x_5.sv (SV.rslc 2 1 true 0 x_5.n x_7)).cells) 5 24) (SB.cells (setRange Q0.cells 0 (x_5.sv (SV.rslc 2 1 true 0 x_5.n x_7)).cells) 5 24) ∧SBle (SB.rows true x_5.n [Col.str x_5.f] false x_7 9) (SB.rows true x_5.n [Col.str x_5.f] false x_7 9) ∧SBle Q1 Q1 ∧SBle (seenP z o c x key).B (seenP z o c x key).B ∧True)) ∧∀(_x_9:Unit),True →(∃(_y:Unit),True ∧SBle (SB.cells (setRange Q0.cells 0 (x_5.sv (SV.rslc 2 1 true 0 x_5.n x_7)).cells) 5 24) (SB.cells (setRange Q0.cells 0 (x_5.sv (SV.rslc 2 1 true 0 x_5.n x_7)).cells) 5 24) ∧SBle (SB.rows true x_5.n [Col.str x_5.f] false x_7 9) (SB.rows true x_5.n [Col.str x_5.f] false x_7 9) ∧SBle Q1 Q1 ∧SBle (seenP z o c x key).B (seenP z o c x key).B ∧True) ∧∀(_x:Unit),True →True ∧(getPB s=true →∀(x:Pp),x=paperD s →∀(x_12:Nat),x.n≤x_12 →(((True ∧True ∧True ∧True ∧(true=true ∧(0:Nat)+x.n≤x.n) ∧True) ∧True) ∧True) ∧(x.ok=true →(decide ((65536:Int)<(↑x.put.length:Int))=true →sameVal (SV.bool true false) (SV.bool false true)) ∧(decide ((65536:Int)<(↑x.put.length:Int))=false →(decide (x.put=s)=true →(((True ∧True ∧True ∧True ∧(true=true ∧(0:Nat)+x.n≤x.n) ∧True) ∧True) ∧True) ∧sameVal (SV.bool false x.ok) (SV.bool false true)) ∧(decide (x.put=s)=false →sameVal (SV.bool true false) (SV.bool false true)))) ∧(x.ok=false →sameVal (SV.bool true false) (SV.bool false true))) ∧(getPB s=false →(((True ∧True ∧True ∧True ∧True ∧True) ∧(True ∧True ∧True ∧True ∧True ∧True) ∧True) ∧(0:Nat)<(9223372036854775808:Nat)) ∧sameVal (SV.bool false ({k:=(0:Int),root:=[],key:=[],to:=[],n:=(0:Nat),f:=fun(_x:Nat)=>[]:Pp}.alike {k:=(0:Int),root:=[],key:=[],to:=[],n:=(0:Nat),f:=fun(_x:Nat)=>[]:Pp})) (SV.bool false true))) ∧(getPB []=false →((((True ∧True ∧True ∧True ∧(z=z ∧o=o ∧(0:Nat)+x.n≤x.n) ∧True) ∧True) ∧True) ∧((!x.ok==decide ((1:Int)=(8:Int)))=true →sameVal (SV.bool true false) (SV.bool false true)) ∧((!x.ok==decide ((1:Int)=(8:Int)))=false →∃(_y:Unit),True ∧SBle Q2 Q2 ∧SBle Q1 Q1 ∧SBle (seenP z o c x key).B (seenP z o c x key).B ∧True)) ∧∀(_x_5:Unit),True →(∃(_y:Unit),True ∧SBle Q2 Q2 ∧SBle Q1 Q1 ∧SBle (seenP z o c x key).B (seenP z o c x key).B ∧True) ∧∀(_x:Unit),True →True ∧(getPB s=true →∀(x:Pp),x=paperD s →∀(x_8:Nat),x.n≤x_8 →(((True ∧True ∧True ∧True ∧(true=true ∧(0:Nat)+x.n≤x.n) ∧True) ∧True) ∧True) ∧(x.ok=true →(decide ((65536:Int)<(↑x.put.length:Int))=true →sameVal (SV.bool true false) (SV.bool false true)) ∧(decide ((65536:Int)<(↑x.put.length:Int))=false →(decide (x.put=s)=true →(((True ∧True ∧True ∧True ∧(true=true ∧(0:Nat)+x.n≤x.n) ∧True) ∧True) ∧True) ∧sameVal (SV.bool false x.ok) (SV.bool false true)) ∧(decide (x.put=s)=false →sameVal (SV.bool true false) (SV.bool false true)))) ∧(x.ok=false →sameVal (SV.bool true false) (SV.bool false true))) ∧(getPB s=false →(((True ∧True ∧True ∧True ∧True ∧True) ∧(True ∧True ∧True ∧True ∧True ∧True) ∧True) ∧(0:Nat)<(9223372036854775808:Nat)) ∧sameVal (SV.bool false ({k:=(0:Int),root:=[],key:=[],to:=[],n:=(0:Nat),f:=fun(_x:Nat)=>[]:Pp}.alike {k:=(0:Int),root:=[],key:=[],to:=[],n:=(0:Nat),f:=fun(_x:Nat)=>[]:Pp})) (SV.bool false true)))))))) (SB.cells (setRange Q0.cells 0 noPaper.cells) 5 24))) (SB.cells (x.sv (SV.vslc 0 1 z o 0 x.n c)).cells 5 24))) (SV.agg [SV.int .i64 true 0,SV.str true [],SV.str true [],SV.str true [],SV.nilslc])):=by kernel_rfl
end Go.Proofs.YtoalfimkkibpdaaGreatDoor
namespace Go.Proofs.YtoalfimkkibpdaaGreatDoor
open Go Sx
set_option maxRecDepth 20000
structure Pp.Twin (x y:Pp):Prop where
 k:x.k=y.k
 root:x.root=y.root
 key:x.key=y.key
 to:x.to=y.to
 n:x.n=y.n
 f: ∀ i,i<y.n→x.f i=y.f i
section
variable {x y : Pp} (h : x.Twin y)
include h
theorem Pp.Twin.put:x.put=y.put:=by
 have hr:x.rows=y.rows:=by
  unfold Pp.rows rowL
  rw[h.n]
  apply List.map_congr_left
  intro i hi
  have hi:i<y.n:=by simpa using hi
  show rowT x.f (0+i)=rowT y.f (0+i)
  unfold rowT
  rw[Nat.zero_add,h.f i hi]
 unfold Pp.put Pp.items
 rw[h.k,h.root,h.key,h.to,hr]
theorem Pp.Twin.ok:x.ok=y.ok:=by
 have hr:nodesOk x.n x.f=nodesOk y.n y.f:=by
  unfold nodesOk
  rw[h.n]
  have: ∀(l:List Nat),(∀ i∈ l,i<y.n)→l.all (nodeOk x.f)=l.all (nodeOk y.f):=by
   intro l
   induction l with
   | nil=>intro _;rfl
   | cons a r ih =>
     intro hl
     rw[List.all_cons,List.all_cons,ih fun i hi=>hl i (List.mem_cons_of_mem _ hi)]
     unfold nodeOk
     rw[h.f a (hl a (List.mem_cons_self ..))]
  exact this _ fun i hi=>List.mem_range.1 hi
 unfold Pp.ok
 rw[hr,h.k,h.root,h.key,h.to,h.n]
theorem takeOk_twin (u:Nat)(t:List UInt8):takeOk ((x.wy false 0 0).on u) t=takeOk ((y.wy false 0 0).on u) t:=by
 show(decide ((u:Int)<(x.n:Int))&&(decide (shaL (x.f u)=t)&&getB' (x.f u)))=(decide ((u:Int)<(y.n:Int))&&(decide (shaL (y.f u)=t)&&getB' (y.f u)))
 rw[h.n]
 by_cases hu:u<y.n
 ·rw[h.f u hu]
 ·rw[decide_eq_false (show ¬ (u:Int)<(y.n:Int)by omega),Bool.false_and,Bool.false_and]
theorem wfol_twin (u:Nat)(t:List UInt8):wfol ((x.wy false 0 0).on u) t=wfol ((y.wy false 0 0).on u) t:=by
 unfold wfol
 rw[takeOk_twin h]
 by_cases h1:inlB t=true
 ·rw[if_pos h1,if_pos h1];rfl
 ·rw[if_neg h1,if_neg h1]
  by_cases h2:(hashB t&&takeOk ((y.wy false 0 0).on u) (cutIn t))=true
  ·rw[if_pos h2,if_pos h2]
   have h2:=takeOk_get (Bool.and_eq_true _ _▸ h2:_∧_).2
   show some (getD (x.f u),u+1)=some (getD (y.f u),u+1)
   rw[h.f u h2.1]
  ·rw[if_neg h2,if_neg h2]
theorem goW_twin: ∀(m:Nat)(d:Nd)(p:List UInt8)(u:Nat),goW (x.wy false 0 0) m d p u=goW (y.wy false 0 0) m d p u
 | 0,_,_,_=>rfl
 | m+1,d,p,u=>by
   unfold goW
   rw[wfol_twin h]
   simp only[goW_twin m]
theorem pvRes_twin (p:List UInt8):pvRes (x.wy false 0 0) p=pvRes (y.wy false 0 0) p:=by
 have hs:startW (x.wy false 0 0) p=startW (y.wy false 0 0) p:=by
  have hr:(x.wy false 0 0).root=(y.wy false 0 0).root:=h.root
  unfold startW
  rw[hr,takeOk_twin h]
  cases ht:takeOk ((y.wy false 0 0).on 0) (y.wy false 0 0).root with
  | false=>rfl
  | true =>
    have hf:(x.wy false 0 0).f 0=(y.wy false 0 0).f 0:=h.f 0 (takeOk_get ht).1
    rw[hf,goW_twin h]
 have hn:(x.wy false 0 0).n=(y.wy false 0 0).n:=h.n
 unfold pvRes
 rw[hs,hn]
end
structure Sp.Tw (w v:Sp):Prop where
 fr:w.fr=v.fr
 to:w.to=v.to
 ad:w.ad=v.ad
 ag:w.ag=v.ag
 at': ∀ t,v.ad t=true→w.at t=v.at t
section
variable {w v : Sp} (h : w.Tw v)
include h
theorem lookT_tw (t:List UInt8):lookT w t=lookT v t:=by
 unfold lookT
 rw[h.ad]
 cases ha:v.ad t with
 | false=>rfl
 | true=>rw[h.at' t ha]
theorem take_tw {t:List UInt8} (ht:lookT v t=true)(s:Wk):s.take w t=s.take v t:=by
 unfold lookT at ht
 rw[Bool.and_eq_true] at ht
 unfold Wk.take
 rw[h.at' t ht.1]
theorem snfol_tw (s:Wk)(t:List UInt8):snfol w s t=snfol v s t:=by
 unfold snfol
 rw[lookT_tw h]
 by_cases h2:(hashB t&&lookT v (cutIn t))=true
 ·have h3:=(Bool.and_eq_true _ _▸ h2:_∧_).2
  have h4:=h3
  unfold lookT at h4
  rw[Bool.and_eq_true] at h4
  rw[take_tw h h3,h.at' _ h4.1]
 ·rw[if_neg h2,if_neg h2]
theorem see_tw (s:Wk)(x:Nd)(p:List UInt8):s.see w x p=s.see v x p:=by
 have:seeB w x p=seeB v x p:=by unfold seeB;rw[h.fr,h.to]
 unfold Wk.see
 rw[this]
theorem refsTo_tw (T:Wk→Nd→List UInt8→Option Wk)(x:Nd)(p:List UInt8): ∀(i:Nat)(s:Wk),refsTo w T x p i s=refsTo v T x p i s
 | 0,_=>rfl
 | i+1,s=>by
   unfold refsTo refStep
   rw[refsTo_tw T x p i s]
   simp only[h.fr,h.to,snfol_tw h]
theorem thr_tw: ∀(m:Nat),thr w m=thr v m
 | 0=>rfl
 | m+1=>by
   funext s x p
   unfold thr
   rw[thr_tw m,refsTo_tw h,see_tw h]
end
theorem firstD_tw {f g:Nat→List UInt8}: ∀ {n:Nat},(∀ i,i<n→f i=g i)→firstD f n=firstD g n
 | 0,_=>rfl
 | n+1,h=>by
   funext t
   show(firstD f n t||decide (t=shaL (f n)))=(firstD g n t||decide (t=shaL (g n)))
   rw[firstD_tw fun i hi=>h i (by omega),h n (by omega)]
theorem firstG_tw {f g:Nat→List UInt8}: ∀ {n:Nat},(∀ i,i<n→f i=g i)→firstG f n=firstG g n
 | 0,_=>rfl
 | n+1,h=>by
   funext t
   rw[firstG_succ,firstG_succ,firstD_tw fun i hi=>h i (by omega),firstG_tw fun i hi=>h i (by omega),h n (by omega)]
theorem sameT_tw {n n':Nat} {f f' g':Nat→List UInt8} (h: ∀ i,i<n'→f' i=g' i):sameT n f n' f'=sameT n f n' g':=by
 unfold sameT
 by_cases e:(n:Int)=(n':Int)
 ·have: ∀(l:List Nat),(∀ i∈ l,i<n')→(l.all fun i=>decide (f i=f' i))=l.all fun i=>decide (f i=g' i):=by
   intro l
   induction l with
   | nil=>intro _;rfl
   | cons a r ih =>
     intro hl
     rw[List.all_cons,List.all_cons,ih fun i hi=>hl i (List.mem_cons_of_mem _ hi),h a (hl a (List.mem_cons_self ..))]
  rw[this _ fun i hi=>by have:=List.mem_range.1 hi;omega]
 ·rw[decide_eq_false e,Bool.false_and,Bool.false_and]
theorem snRes_twin {x y:Pp} (h:x.Twin y)(root:List UInt8):snRes root (x.sp false 0 0)=snRes root (y.sp false 0 0):=by
 have hd:firstD x.f x.n=firstD y.f y.n:=by rw[h.n];exact firstD_tw h.f
 have hg:firstG x.f x.n=firstG y.f y.n:=by rw[h.n];exact firstG_tw h.f
 have tw:(x.sp false 0 0).full.Tw (y.sp false 0 0).full:=⟨h.key,h.to,hd,hg,fun t ht=>by
  obtain⟨g1,g2,_⟩:=first_ok y.f y.n t ht
  show x.f (firstG x.f x.n t).toNat=y.f (firstG y.f y.n t).toNat
  rw[hg,h.f _ (by omega)]⟩
 have hw:snWalk root (x.sp false 0 0).full=snWalk root (y.sp false 0 0).full:=by
  unfold snWalk
  rw[lookT_tw tw]
  cases hl:lookT (y.sp false 0 0).full root with
  | false=>rw[cond_false,cond_false]
  | true =>
    have h4:=hl
    unfold lookT at h4
    rw[Bool.and_eq_true] at h4
    rw[thr_tw tw,take_tw tw hl,tw.at' _ h4.1]
 unfold snRes
 rw[hw]
 show(bif leB x.key x.to&&(decide (0<x.n)&&(decide (x.n≤200)&&decide (shaL (x.f 0)=root)))then _ else none)=(bif leB y.key y.to&&(decide (0<y.n)&&(decide (y.n≤200)&&decide (shaL (y.f 0)=root)))then _ else none)
 have hs: ∀ s:Wk,sameT s.ns.length (fun i=>s.ns.getD i []) (x.sp false 0 0).n (x.sp false 0 0).f=sameT s.ns.length (fun i=>s.ns.getD i []) (y.sp false 0 0).n (y.sp false 0 0).f:=fun s=>by
  show sameT _ _ x.n x.f=sameT _ _ y.n y.f
  rw[h.n];exact sameT_tw h.f
 rw[h.key,h.to,h.n]
 by_cases h0:0<y.n
 ·rw[h.f 0 h0]
  simp only[hs]
 ·simp only[decide_eq_false h0,Bool.false_and,Bool.and_false,cond_false]
theorem judge_twin {x y:Pp} (h:x.Twin y):x.jN=y.jN∧x.jE=y.jE∧x.jL=y.jL:=by
 unfold Pp.jN Pp.jE Pp.jL Pp.jnew Pp.jerr Pp.jl snL
 rw[h.k,h.root,h.key,h.ok,snRes_twin h,pvRes_twin h]
 exact⟨rfl,rfl,rfl⟩
theorem paper_twin {x:Pp} (h:x.fits=true):(paperD x.put).Twin x:=by
 unfold Pp.fits at h
 simp only[Bool.and_eq_true,Bool.not_eq_true',decide_eq_false_iff_not] at h
 have hs:=Pp.ok_small h.1
 have hc:=Pp.put_cut hs
 have hr:=Pp.rows_cut hs
 obtain⟨h1,h2,h3,h4,h5,h6⟩:=hs
 have e0:=hc.at' 0 _ rfl
 have e1:=hc.at' 1 _ rfl
 have e2:=hc.at' 2 _ rfl
 have e3:=hc.at' 3 _ rfl
 have e4:=hc.at' 4 _ rfl
 have hn:=numOf_get (n:=x.k) (by omega) (by omega)
 have hrow:x.rows.length=x.n:=rowL_len _ _ _
 unfold paperD itOf
 constructor
 ·dsimp only
  rw[e0];exact hn.2.2.2.2
 ·dsimp only
  rw[e1];exact(textOf_get (b:=x.root) (by omega)).2.2.2
 ·dsimp only
  rw[e2];exact(textOf_get (b:=x.key) (by omega)).2.2.2
 ·dsimp only
  rw[e3];exact(textOf_get (b:=x.to) (by omega)).2.2.2
 ·dsimp only
  rw[e4,hr.n,hrow]
 ·intro i hi
  dsimp only
  rw[e4]
  obtain⟨y,hy⟩: ∃ y,x.rows[i]?=some y:=⟨_,List.getElem?_eq_getElem (by omega)⟩
  rw[hr.at' i y hy]
  obtain⟨_,h8⟩:=rowL_get (f:=rowT x.f) hy
  rw[← h8,Nat.zero_add]
  have:=h6 i hi
  exact(textOf_get (b:=x.f i) (by omega)).2.2.2
theorem getPB_put {x:Pp} (h:x.fits=true):getPB x.put=true:=by
 have ht:=paper_twin h
 unfold getPB
 rw[Bool.and_eq_true]
 refine⟨?_,decide_eq_true ht.put⟩
 unfold Pp.fits at h ⊢
 rw[ht.put,ht.ok];exact h
theorem getPB_nil:getPB []=false:=Bool.eq_false_iff.2 fun h=>by
 have:=(getPB_read h).1.n5
 revert this;decide
end Go.Proofs.YtoalfimkkibpdaaGreatDoor
namespace Go.Proofs.YtoalfimkkibpdaaGreatDoor
open Go Sx
set_option maxRecDepth 20000
theorem alike_twin {x q:Pp} (h:q.Twin x):x.alike q=true:=by
 have hs:sameT x.n x.f q.n q.f=true:=by
  unfold sameT
  rw[h.n,decide_eq_true rfl,Bool.true_and,List.all_eq_true]
  intro i hi
  exact decide_eq_true (h.f i (List.mem_range.1 hi)).symm
 unfold Pp.alike
 rw[hs,h.k,h.root,h.key,h.to]
 simp
theorem sameEn_same (n:Nat)(f g:Nat→List UInt8):sameEn n f g n f g=true:=by
 unfold sameEn
 rw[decide_eq_true rfl,Bool.true_and,List.all_eq_true]
 intro i _
 simp[entEq]
theorem jL_len (x:Pp):x.jL.length≤400:=by
 unfold Pp.jL Pp.jl
 cases decide (x.k=1)with
 | false=>rw[cond_false];simp
 | true =>
   rw[cond_true]
   unfold snL
   cases hr:snRes x.root (x.sp false 0 0)with
   | none=>simp
   | some l =>
     show l.length≤400
     unfold snRes at hr
     cases hb:(leB (x.sp false 0 0).fr (x.sp false 0 0).to&&(decide (0<(x.sp false 0 0).n)&&(decide ((x.sp false 0 0).n≤200)&&decide (shaL ((x.sp false 0 0).f 0)=x.root))))with
     | false=>rw[hb,cond_false] at hr;cases hr
     | true =>
       rw[hb,cond_true] at hr
       cases hw:snWalk x.root (x.sp false 0 0).full with
       | none=>rw[hw] at hr;cases hr
       | some s =>
         rw[hw] at hr
         simp only at hr
         cases hs:sameT s.ns.length (fun i=>s.ns.getD i []) (x.sp false 0 0).n (x.sp false 0 0).f with
         | false=>rw[hs,cond_false] at hr;cases hr
         | true =>
           rw[hs,cond_true] at hr
           injection hr with hr
           subst hr
           unfold snWalk at hw
           cases hl:lookT (x.sp false 0 0).full x.root with
           | false=>rw[hl,cond_false] at hw;cases hw
           | true =>
             rw[hl,cond_true] at hw
             have k:=(thr_fit _ 401 _ _ _ _ (start_fit _ _) hw).1
             have:=k.fs
             have:=k.lk
             omega
section
attribute [local irreducible] Pp.jN Pp.jE Pp.jL Pp.few Pp.ok Pp.put Pp.fits getPB paperD sameEn Pp.alike
theorem wback_holds (x:Pp)(s:List UInt8)(z:Bool)(o c:Nat)(key:Option Nat) :
  Holds (runS (cfgJb x) 5 Tryz.f5 [x.sv (.vslc 0 1 z o 0 x.n c),.str false s] [seenP z o c x key] (.ret (.bool false true))):=by
 refine Holds.of_eq (vcWBack x s z o c key) ?_
 have V:(((True∧True∧True∧True∧(z=z∧o=o∧(0:Nat)+x.n≤x.n)∧True)∧True)∧True):=⟨⟨⟨trivial,trivial,trivial,trivial,⟨rfl,rfl,by omega⟩,trivial⟩,trivial⟩,trivial⟩
 have W: ∀ n:Nat,(((True∧True∧True∧True∧(true=true∧(0:Nat)+n≤n)∧True)∧True)∧True):=fun n=>⟨⟨⟨trivial,trivial,trivial,trivial,⟨rfl,by omega⟩,trivial⟩,trivial⟩,trivial⟩
 have T:sameVal (SV.bool true true) (SV.bool false true):=jsame rfl
 have nil: ∀ {A:Prop},getPB []=true→A:=fun h=>by rw[getPB_nil] at h;cases h
 have eq10: ∀ {A:Prop} {b:Bool},b=true→(!b)=true→A:=fun h1 h2=>by rw[h1] at h2;cases h2
 have hE:Pp.alike ⟨0,[],[],[],0,fun _=>[]⟩ ⟨0,[],[],[],0,fun _=>[]⟩=true:=alike_twin ⟨rfl,rfl,rfl,rfl,rfl,fun _ _=>rfl⟩
 have tail:True∧(getPB s=true→∀(y:Pp),y=paperD s→∀(k:Nat),y.n≤k→(((True∧True∧True∧True∧(true=true∧(0:Nat)+y.n≤y.n)∧True)∧True)∧True) ∧
   (y.ok=true→(decide ((65536:Int)<(y.put.length:Int))=true→sameVal (SV.bool true false) (SV.bool false true))∧(decide ((65536:Int)<(y.put.length:Int))=false →
     (decide (y.put=s)=true→(((True∧True∧True∧True∧(true=true∧(0:Nat)+y.n≤y.n)∧True)∧True)∧True)∧sameVal (SV.bool false y.ok) (SV.bool false true))∧(decide (y.put=s)=false→sameVal (SV.bool true false) (SV.bool false true)))) ∧
   (y.ok=false→sameVal (SV.bool true false) (SV.bool false true))) ∧
   (getPB s=false→(((True∧True∧True∧True∧True∧True)∧(True∧True∧True∧True∧True∧True)∧True)∧(0:Nat)<(9223372036854775808:Nat)) ∧
     sameVal (SV.bool false (Pp.alike ⟨0,[],[],[],0,fun _=>[]⟩ ⟨0,[],[],[],0,fun _=>[]⟩)) (SV.bool false true)):=by
  refine⟨trivial,fun hg y hy k hk=> ?_,fun _=>⟨⟨⟨⟨trivial,trivial,trivial,trivial,trivial,trivial⟩,⟨trivial,trivial,trivial,trivial,trivial,trivial⟩,trivial⟩,by decide⟩,jsame hE⟩⟩
  have F:=getPB_iff.1 hg
  rw[← hy] at F
  exact⟨W y.n,fun _=>⟨fun hl=>absurd (of_decide_eq_true hl) F.2.1,fun _=>⟨fun _=>⟨W y.n,jsame F.1⟩,fun hp=>absurd F.2.2 (of_decide_eq_false hp)⟩⟩,fun hn=>by rw[F.1] at hn;cases hn⟩
 refine⟨trivial,V,fun _=>T,fun _=>⟨fun _=>T,fun _=>⟨V,fun hok=>⟨fun hl=> ?_,fun hl=> ?_⟩,fun hok=> ?_⟩⟩⟩
 ·refine⟨trivial,nil,fun _=>⟨⟨V,eq10 (by rw[hok];rfl),fun _=>⟨(),trivial,SBle.refl _,SBle.refl _,SBle.refl _,trivial⟩⟩,fun _ _=>⟨⟨(),trivial,SBle.refl _,SBle.refl _,SBle.refl _,trivial⟩,fun _ _=>tail⟩⟩⟩
 ·have hfit:x.fits=true:=by unfold Pp.fits;rw[hok,hl];rfl
  have hn:=(Pp.ok_small hok).n
  refine⟨trivial,fun hg q hq k hk=> ?_,fun hg=>by rw[getPB_put hfit] at hg;cases hg⟩
  have hT:q.Twin x:=by rw[hq];exact paper_twin hfit
  obtain⟨t1,t2,t3⟩:=judge_twin hT
  have hlen:=jL_len x
  refine⟨⟨⟨⟨⟨trivial,trivial,trivial,trivial,⟨rfl,rfl,by omega⟩,trivial⟩,⟨trivial,trivial,trivial,trivial,⟨rfl,by omega⟩,trivial⟩,trivial⟩,by omega⟩,eq10 (alike_twin hT),fun _=>⟨V,eq10 (by rw[hok];rfl),fun _=>⟨(),hfit,SBle.refl _,SBle.refl _,SBle.refl _,SBle.refl _,trivial⟩⟩⟩,fun _ _=>⟨?_,fun _ _=>tail⟩⟩
  rw[t1,t2,t3]
  refine⟨V,fun hj l hl k2 hk2=>⟨W q.n,fun _ l' hl' k3 hk3=> ?_,fun h=>by rw[hj] at h;cases h⟩,fun hj e he=>⟨W q.n,(fun h=>by rw[hj] at h;cases h),fun _ e' he'=> ?_⟩⟩
  ·subst hl;subst hl'
   exact⟨⟨⟨⟨rfl,by omega⟩,⟨rfl,by omega⟩,trivial⟩,by omega⟩,eq10 (sameEn_same _ _ _),fun _=>⟨(),trivial,SBle.refl _,SBle.refl _,SBle.refl _,SBle.refl _,trivial⟩⟩
  ·subst he;subst he'
   exact⟨⟨⟨trivial,trivial,trivial⟩,by decide⟩,eq10 (sameEn_same _ _ _),fun _=>⟨eq10 (decide_eq_true rfl),fun _=>⟨(),trivial,SBle.refl _,SBle.refl _,SBle.refl _,SBle.refl _,trivial⟩⟩⟩
 ·refine⟨trivial,nil,fun _=>⟨⟨V,eq10 (by rw[hok];rfl),fun _=>⟨(),trivial,SBle.refl _,SBle.refl _,SBle.refl _,trivial⟩⟩,fun _ _=>⟨⟨(),trivial,SBle.refl _,SBle.refl _,SBle.refl _,trivial⟩,fun _ _=>tail⟩⟩⟩
end
end Go.Proofs.YtoalfimkkibpdaaGreatDoor
