/-
  Conditions that the executor computes, written out by a program (vcgen.py).
-/
import Derived.Test.YtoibaecagklkaaaGreatDoorMy
import Derived.Test.YtoibaecagklkaaaGreatDoorMj
open Array renaming getElem?_eq_getElem->D
open Bool renaming false->d,true->p
open Go.Cell renaming ok->F,okWide->A
open Go.Value renaming okWide->C
open List renaming getElem?_eq_getElem->G
open Option renaming some->q
namespace Go.Proofs.YtoibaecagklkaaaGreatDoor
open Go Sx
variable {base:Nat}{P:Program}{x:Value}{w:World}
section
open Go Sx
set_option maxRecDepth 20000
theorem Zg (x y:Pp)(z z':Bool)(o o' c c':Nat)(key key':Option Nat):fR (.s 1 (.n (.s 2 (.n (.n (.s 0 (.c d 1 (.c d 0 (.s 0 (.n (.s 0 (.c d 0 .t)) (.s 0 (.c d 0 .t))))))) (.s 0 (.c d 1 (.c d 0 (.s 0 (.n (.s 0 (.c d 0 .t)) (.s 0 (.c d 0 .t)))))))) (.s 0 (.c d 0 (.s 0 (.n (.s 0 (.c d 0 .t)) (.s 0 (.c d 0 .t)))))))) .t)) (fN aan 9 Tryz.f9 [x.sv (.aS 0 1 z o 0 x.n c),y.sv (.aS 1 1 z' o' 0 y.n c')] [cE z o c x key,cE z' o' c' y key'] (.ret (.bool d p))) ((λa:SB=>((True/\(((True/\True/\True/\True/\(z=z/\o=o/\0+x.n<=x.n)/\True)/\True)/\True)/\Bk x.KS ((((True/\True/\True/\True/\(z'=z'/\o'=o'/\0+y.n<=y.n)/\True)/\True)/\True)/\Bk (!y.KS) (aa (SV.bool p p) (SV.bool d p)) ((((True/\True/\True/\True/\(z=z/\o=o/\0+x.n<=x.n)/\True)/\True)/\True)/\Bk x.ok (Fk (65536<(↑x.put.length:Int)) ((((True/\True/\True/\True/\(z=z/\o=o/\0+x.n<=x.n)/\True)/\True)/\True)/\(((True/\True/\True/\True/\(z=z/\o=o/\0+x.n<=x.n)/\True)/\True)/\True) /\Bk x.jN (∀(b:List (e_×e_)),b=x.jL->∀(w:Nat),b.length<=w->(((True/\True/\True/\True/\(z=z/\o=o/\0+x.n<=x.n)/\True)/\True)/\x.n<=c)/\∀(g:List (e_×e_)),g=x.jL->∀(A:Nat),g.length<=A->(((True/\True/\True/\True/\(z=z/\o=o/\0+x.n<=x.n)/\True)/\True)/\True)/\q a=q a/\(((True/\True/\True/\True/\(z=z/\o=o/\0+x.n<=x.n)/\True)/\(True/\True/\True/\True/\(z'=z'/\o'=o'/\0+y.n<=y.n)/\True)/\True)/\x.n<9223372036854775808)/\(((p=p/\0+b.length<=b.length)/\(p=p/\0+g.length<=g.length)/\True)/\b.length<9223372036854775808) /\((eG b.length (fun(B:Nat)=>(b.getD B ([],[])).1) (fun(C:Nat)=>(b.getD C ([],[])).2) g.length (fun(D:Nat)=>(g.getD D ([],[])).1) fun(E:Nat)=>(g.getD E ([],[])).2)=p->(((True/\True/\True/\True/\(z=z/\o=o/\0+x.n<=x.n)/\True)/\True)/\True)/\Bk (x.ok==x.ok) ((((True/\True/\True/\True/\(z=z/\o=o/\0+x.n<=x.n)/\True)/\(True/\True/\True/\True/\(z'=z'/\o'=o'/\0+y.n<=y.n)/\True)/\True)/\x.n<9223372036854775808) /\aa (SV.bool (d&&d) (x.alike y==x.alike y)) (SV.bool d p)) (aa (SV.bool p d) (SV.bool d p)))/\((eG b.length (fun(F:Nat)=>(b.getD F ([],[])).1) (fun(G:Nat)=>(b.getD G ([],[])).2) g.length (fun(H:Nat)=>(g.getD H ([],[])).1) fun(I:Nat)=>(g.getD I ([],[])).2)=d->aa (SV.bool p d) (SV.bool d p))) (∀(j:Int),j=x.jE->(((True/\True/\True/\True/\(z=z/\o=o/\0+x.n<=x.n)/\True)/\True)/\x.n<=c)/\∀(l:Int),l=x.jE->(((True/\True/\True/\True/\(z=z/\o=o/\0+x.n<=x.n)/\True)/\True)/\True)/\q a=q a/\(((True/\True/\True/\True/\(z=z/\o=o/\0+x.n<=x.n)/\True)/\(True/\True/\True/\True/\(z'=z'/\o'=o'/\0+y.n<=y.n)/\True)/\True)/\x.n<9223372036854775808)/\((True/\True/\True)/\(0:Nat)<(9223372036854775808:Nat))/\((eG 0 (fun(_:Nat)=>[]) (fun(_:Nat)=>[]) 0 (fun(_:Nat)=>[]) fun(_:Nat)=>[])=p->Fk (j=l) ((((True/\True/\True/\True/\(z=z/\o=o/\0+x.n<=x.n)/\True)/\True)/\True) /\Bk (x.ok==x.ok) ((((True/\True/\True/\True/\(z=z/\o=o/\0+x.n<=x.n)/\True)/\(True/\True/\True/\True/\(z'=z'/\o'=o'/\0+y.n<=y.n)/\True)/\True)/\x.n<9223372036854775808)/\aa (SV.bool (d&&d) (x.alike y==x.alike y)) (SV.bool d p)) (aa (SV.bool p d) (SV.bool d p))) (aa (SV.bool p d) (SV.bool d p)))/\((eG 0 (fun(_:Nat)=>[]) (fun(_:Nat)=>[]) 0 (fun(_:Nat)=>[]) fun(_:Nat)=>[])=d->aa (SV.bool p d) (SV.bool d p)))) ((((True/\True/\True/\True/\(z=z/\o=o/\0+x.n<=x.n)/\True)/\True)/\True)/\(((True/\True/\True/\True/\(z=z/\o=o/\0+x.n<=x.n)/\True)/\True)/\True)/\Bk x.jN (∀(e:List (e_×e_)),e=x.jL->∀(J:Nat),e.length<=J->(((True/\True/\True/\True/\(z=z/\o=o/\0+x.n<=x.n)/\True)/\True)/\x.n<=c)/\∀(h:List (e_×e_)),h=x.jL->∀(K:Nat),h.length<=K->(((True/\True /\True/\True/\(z=z/\o=o/\0+x.n<=x.n)/\True)/\True)/\True)/\q a=q a/\(((True/\True/\True/\True/\(z=z/\o=o/\0+x.n<=x.n)/\True)/\(True/\True/\True/\True/\(z'=z'/\o'=o'/\0+y.n<=y.n)/\True)/\True)/\x.n<9223372036854775808)/\Fk (x.put=x.put) ((((p=p/\0+e.length<=e.length)/\(p=p/\0+h.length<=h.length)/\True)/\e.length<9223372036854775808)/\((eG e.length (fun(L:Nat)=>(e.getD L ([],[])).1) (fun(M:Nat)=>(e.getD M ([],[])).2) h.length (fun(N:Nat)=>(h.getD N ([],[])).1) fun(O:Nat)=>(h.getD O ([],[])).2)=p->(((True/\True/\True/\True/\(z=z/\o=o/\0+x.n<=x.n)/\True)/\True)/\True) /\Bk (x.ok==x.ok) ((((True/\True/\True/\True/\(z=z/\o=o/\0+x.n<=x.n)/\True)/\(True/\True/\True/\True/\(z'=z'/\o'=o'/\0+y.n<=y.n)/\True)/\True)/\x.n<9223372036854775808)/\aa (SV.bool (d&&d) (x.alike y==x.alike y)) (SV.bool d p)) (aa (SV.bool p d) (SV.bool d p))) /\((eG e.length (fun(P:Nat)=>(e.getD P ([],[])).1) (fun(Q:Nat)=>(e.getD Q ([],[])).2) h.length (fun(R:Nat)=>(h.getD R ([],[])).1) fun(S:Nat)=>(h.getD S ([],[])).2)=d->aa (SV.bool p d) (SV.bool d p))) (aa (SV.bool p d) (SV.bool d p))) (∀(m:Int),m=x.jE->(((True/\True/\True/\True/\(z=z/\o=o/\0+x.n<=x.n)/\True)/\True)/\x.n<=c)/\∀(r:Int),r=x.jE->(((True/\True/\True/\True/\(z=z/\o=o/\0+x.n<=x.n)/\True)/\True)/\True)/\q a=q a/\(((True/\True/\True/\True/\(z=z /\o=o/\0+x.n<=x.n)/\True)/\(True/\True/\True/\True/\(z'=z'/\o'=o'/\0+y.n<=y.n)/\True)/\True)/\x.n<9223372036854775808)/\Fk (x.put=x.put) (((True/\True/\True)/\(0:Nat)<(9223372036854775808:Nat))/\((eG 0 (fun(_:Nat)=>[]) (fun(_:Nat)=>[]) 0 (fun(_:Nat)=>[]) fun(_:Nat)=>[])=p->Fk (m=r) ((((True/\True/\True/\True/\(z=z/\o=o/\0+x.n<=x.n)/\True)/\True)/\True)/\Bk (x.ok==x.ok) ((((True/\True/\True/\True/\(z=z/\o=o/\0+x.n<=x.n)/\True)/\(True/\True/\True/\True/\(z'=z'/\o'=o'/\0+y.n<=y.n)/\True)/\True)/\x.n<9223372036854775808) /\aa (SV.bool (d&&d) (x.alike y==x.alike y)) (SV.bool d p)) (aa (SV.bool p d) (SV.bool d p))) (aa (SV.bool p d) (SV.bool d p)))/\((eG 0 (fun(_:Nat)=>[]) (fun(_:Nat)=>[]) 0 (fun(_:Nat)=>[]) fun(_:Nat)=>[])=d->aa (SV.bool p d) (SV.bool d p))) (aa (SV.bool p d) (SV.bool d p))))) ((((True/\True/\True/\True/\(z=z/\o=o/\0+x.n<=x.n)/\True)/\True)/\True)/\(((True/\True/\True/\True/\(z=z/\o=o/\0+x.n<=x.n)/\True)/\True)/\True)/\Bk x.jN (∀(f:List (e_×e_)),f=x.jL->∀(T:Nat),f.length<=T->(((True/\True/\True/\True/\(z=z/\o=o/\0+x.n<=x.n)/\True)/\True)/\x.n<=c)/\∀(i:List (e_×e_)),i=x.jL->∀(U:Nat),i.length<=U->(((True/\True/\True /\True/\(z=z/\o=o/\0+x.n<=x.n)/\True)/\True)/\True)/\q a=q a/\(((True/\True/\True/\True/\(z=z/\o=o/\0+x.n<=x.n)/\True)/\(True/\True/\True/\True/\(z'=z'/\o'=o'/\0+y.n<=y.n)/\True)/\True)/\x.n<9223372036854775808)/\(((p=p/\0+f.length<=f.length)/\(p=p/\0+i.length<=i.length)/\True)/\f.length<9223372036854775808)/\((eG f.length (fun(V:Nat)=>(f.getD V ([],[])).1) (fun(W:Nat)=>(f.getD W ([],[])).2) i.length (fun(X:Nat)=>(i.getD X ([],[])).1) fun(Y:Nat)=>(i.getD Y ([],[])).2)=p->(((True/\True/\True/\True/\(z=z/\o=o/\0+x.n<=x.n)/\True)/\True)/\True)/\Bk (x.ok==x.ok) ((((True/\True/\True/\True/\(z=z/\o=o/\0+x.n<=x.n)/\True)/\(True/\True/\True/\True/\(z'=z'/\o'=o'/\0+y.n<=y.n)/\True)/\True)/\x.n<9223372036854775808) /\aa (SV.bool (d&&d) (x.alike y==x.alike y)) (SV.bool d p)) (aa (SV.bool p d) (SV.bool d p)))/\((eG f.length (fun(Z:Nat)=>(f.getD Z ([],[])).1) (fun(a0:Nat)=>(f.getD a0 ([],[])).2) i.length (fun(a1:Nat)=>(i.getD a1 ([],[])).1) fun(a2:Nat)=>(i.getD a2 ([],[])).2)=d->aa (SV.bool p d) (SV.bool d p))) (∀(u:Int),u=x.jE->(((True/\True/\True/\True/\(z=z/\o=o/\0+x.n<=x.n)/\True)/\True)/\x.n<=c)/\∀(v:Int),v=x.jE->(((True/\True/\True/\True/\(z=z/\o=o/\0+x.n<=x.n)/\True)/\True)/\True)/\q a=q a/\(((True/\True/\True/\True/\(z=z/\o=o/\0+x.n<=x.n)/\True)/\(True/\True/\True/\True/\(z'=z'/\o'=o'/\0+y.n<=y.n)/\True)/\True)/\x.n<9223372036854775808)/\((True/\True/\True)/\(0:Nat)<(9223372036854775808:Nat))/\((eG 0 (fun(_:Nat)=>[]) (fun(_:Nat)=>[]) 0 (fun(_:Nat)=>[]) fun(_:Nat)=>[])=p->Fk (u=v) ((((True/\True/\True/\True/\(z=z/\o=o/\0+x.n<=x.n)/\True)/\True)/\True)/\Bk (x.ok==x.ok) ((((True/\True/\True /\True/\(z=z/\o=o/\0+x.n<=x.n)/\True)/\(True/\True/\True/\True/\(z'=z'/\o'=o'/\0+y.n<=y.n)/\True)/\True)/\x.n<9223372036854775808)/\aa (SV.bool (d&&d) (x.alike y==x.alike y)) (SV.bool d p)) (aa (SV.bool p d) (SV.bool d p))) (aa (SV.bool p d) (SV.bool d p)))/\((eG 0 (fun(_:Nat)=>[]) (fun(_:Nat)=>[]) 0 (fun(_:Nat)=>[]) fun(_:Nat)=>[])=d->aa (SV.bool p d) (SV.bool d p)))))) (aa (SV.bool p p) (SV.bool d p))))) (SB.cells [SV.int .i64 d y.k,SV.str d y.root,SV.str d y.key,SV.str d y.to,SV.aS 1 1 z' o' 0 y.n c'] 5 63)):=⟨by kernel_rfl,by kernel_rfl⟩
theorem XW (x:Pp):x.jL.length<=400:=by
 unfold Pp.jL Pp.jl;cases decide (x.k=1)with
 | false=>rw[cond_false];simp
 | true =>
   rw[cond_true];unfold jy;cases hr:cU x.root (x.sp d 0 0)with
   | none=>simp
   | some l =>
     show l.length<=400;unfold cU mB at hr;have fit:=yb (x.sp d 0 0).full x.root;have k:=λs h=>(sB (x.sp d 0 0).full 401 _ (getD ((x.sp d 0 0).full.at x.root)) [] s fit h).1;generalize jA (x.sp d 0 0).full 401 (Wk.start.take (x.sp d 0 0).full x.root) (getD ((x.sp d 0 0).full.at x.root)) []=R at hr k;cases R with
     | none=>simp at hr
     | some s =>
       have k:=k s rfl;have:=k.fs;have:=k.lk;have e:l=s.fs:=by grind
       rw[e];omega
theorem ZM (n:Nat)(f g:Nat->e_):eG n f g n f g=true:=by unfold eG;rw[decide_eq_true rfl,Bool.true_and,List.all_eq_true];intro i _;simp[CS]
section
attribute [local irreducible] Pp.jN Pp.jE Pp.jL Pp.KS Pp.ok Pp.put Pp.fits eG Pp.alike
theorem Ka (x y:Pp)(z z':Bool)(o o' c c':Nat)(key key':Option Nat)(hc:x.n<=c)(hn:x.n<9223372036854775808):av (fN aan 9 Tryz.f9 [x.sv (.aS 0 1 z o 0 x.n c),y.sv (.aS 1 1 z' o' 0 y.n c')] [cE z o c x key,cE z' o' c' y key'] (.ret (.bool d p))):=by
 refine av.Mk (Zg x y z z' o o' c c' key key') (by delta Bk Fk;exact rfl) ?_;dsimp only;have hl:=XW x;have T: ∀ b:Bool,aa (SV.bool b p) (SV.bool d p):=λb E=>rfl;simp only[Nat.zero_add,true_and,and_true,Nat.le_refl,beq_self_eq_true,ZM,hc,hn,T]
 repeat' first
  | exact trivial
  | exact T _
  | omega
  | refine And.intro ?_ ?_
  | intro (_:_=p)
  | intro (_:_=d)
  | (intro (l:List (e_×e_)) (e:_=_);subst e)
  | (intro (l:Int) (e:_=_);subst e)
  | intro (_:Nat) (_:_<=_)
  | fail
 all_goals simp_all [ZM]
end
end
namespace Sx
open Go Go.RowKit Go.WideShapes Go.ChangeShapes
theorem Ss {u:TypeId}{k:IntKind}(hu:P.underlying u=q (.int k))(h:A P w .any base u x): ∃ n,x=.int k n/\k.has n:=by
 unfold A F at h;rw[hu] at h;cases x<;>simp only at h
 all_goals first
  | exact h.elim
  | (obtain⟨rfl,h⟩:=h;exact⟨_,rfl,h⟩)
theorem Ae {u:TypeId}(hu:P.underlying u=q .string)(h:A P w .any base u x): ∃ s:e_,x=.string ⟨s.toArray⟩:=by
 unfold A F at h;rw[hu] at h;cases x<;>simp only at h
 all_goals first
  | exact h.elim
  | (rename_i s;exact⟨s.data.toList,by simp⟩)
theorem Xq {t:TypeId}{fs:Array Field}{ts:List TypeId}{v:Value}(ht:P.underlying t=q (.struct fs))(hts:P.cellTypes P.depth t=q ts)(hl:P.cellsOf t=ts.length)
  (h:C P w .any base t v): ∃ cs,v=.agg cs/\cs.size=ts.length/\∀(j:Nat) (u:TypeId),ts[j]?=q u->∃ x,cs[j]?=q x/\A P w .any base u x:=by
 unfold C at h;rw[ht] at h;obtain⟨cs,rfl,hs,ts',hts',_,hc⟩:=h;rw[hts] at hts';injection hts' with hts';subst hts';refine⟨cs,rfl,hs.trans hl,λj u hu=> ?_⟩;have hj:=(List.getElem?_eq_some_iff.1 hu).1;have hj2:j<cs.size:=by omega
 obtain⟨u',hu',hok⟩:=hc j cs[j] (D hj2);rw[Nat.mod_eq_of_lt hj,hu] at hu';injection hu' with hu';subst hu';exact⟨_,D hj2,hok⟩
theorem Z7 {cs:Array Value}{l:List Value}(hs:cs.size=l.length)(h: ∀(j:Nat) (v:Value),l[j]?=q v->cs[j]?=q v):cs=l.toArray:=by refine Array.ext hs λi h1 h2=> ?_;have:=h i l[i] (G (by omega));rw[D h1] at this;injection this with this
theorem KG {W:World}{H:Type}{enc:TypeId×Value->H}{e:TypeId}{fs:Array Field}{xs:List Value}{y:DataW H×List MemPlace}{m:Nat}(he:P.underlying e=q (.struct fs))
  (h:DataW.trod enc P W 0 (λ_=>p) p m e xs=q y) {i:Nat} {f:Field} (hf:fs[i]?=q f) (h1:P.cellsOf f.type=1)  (hx:xs[f.offset]?=q x) :
  ∃ m' y',DataW.trod enc P W 0 (λ_=>p) p m' f.type [x]=q y':=by
 obtain⟨ys,m',rfl,_,_,hyl,hfield⟩:=DataW.trod_struct he h;have:=hfield i f hf;rw[h1] at this;have hd:(xs.drop f.offset).take 1=[x]:=by rw[List.take_one,List.head?_drop,hx];rfl
 rw[hd,G (by rw[hyl];exact(Array.getElem?_eq_some_iff.1 hf).1)] at this;exact⟨m',_,this⟩
theorem IS {W:World}{t e:TypeId}{v:Value}(ht:P.underlying t=q (.slice e))(h:A P W .any base t v):C P W .any base t v:=by unfold C;rw[ht];exact h
theorem G7 (a:Option Addr)(n c:Nat):(Value.slice a n c).cells.toList=[.slice a n c]:=rfl
def Stood (W:World)(b:Nat)(B:SB):Prop:=B.no=d->∃ ob,W.heap[b]?=q ob/\∀ E,bS E B ob
end Sx
end Go.Proofs.YtoibaecagklkaaaGreatDoor
