/-
  Conditions that the executor computes, written out by a program (vcgen.py).
-/
import Derived.Test.YtoibaecagklkaaaGreatDoorMr
import Derived.Test.YtoibaecagklkaaaGreatDoorMq
namespace Go.Proofs.YtoibaecagklkaaaGreatDoor
open Go Sx
set_option maxRecDepth 20000
theorem G8 (x:wz×List UInt8):VC.holds (runM J2 132 Tryz.f132 mM x)=((fun P0:SV=>((fun P1:SB=>((Rel 9223372036854775808 x.snd/\(bO x.snd=true->(bO x.snd=true->∃(u32:Nat×Nat),(x.fst.s.ns.length<=u32.fst/\x.fst.s.fs.length<=u32.snd)/\(∀(u31:Nat->Nat),SV.val u31 (SV.agg (fj (getD x.snd)))=SV.val u31 (getD x.snd).sv)/\(7:Nat)=(7:Nat)/\x.fst.w.fr=x.fst.w.fr/\x.fst.w.to=x.fst.w.to/\(0:Nat)=(0:Nat)/\(0:Nat)=(0:Nat)/\((0:Nat)=(0:Nat)/\x.fst.s.ns.length=x.fst.s.ns.length/\x.fst.c1=u32.fst)/\True/\(x.fst.s.lk:Int)=(x.fst.s.lk:Int)/\((0:Nat)=(0:Nat)/\x.fst.s.fs.length=x.fst.s.fs.length/\x.fst.c2=u32.snd)/\True/\ah (fV x.fst.s) (fV x.fst.s)/\ah (SB.rows true x.fst.s.ns.length [qU x.fst.s.ns] false (x.fst.c1*1) 9) (fy x.fst.s u32.fst)/\ah (SB.rows true x.fst.s.fs.length [b8 x.fst.s.fs,b6 x.fst.s.fs] false (x.fst.c2*2) 50) (fU x.fst.s u32.snd)/\ah (SB.cells [SV.map 5] 1 90) (SB.cells [SV.map 5] 1 90)/\ah (SB.fmap x.fst.w.ad (aV.int IntKind.i64 x.fst.w.ag) none) (SB.fmap x.fst.w.ad (aV.int IntKind.i64 x.fst.w.ag) none)/\ah P1 P1/\True)/\(bO x.snd=false->(bI x.snd=true->(cT x.fst.w (aa x.snd)=true ->∃(u30:Nat×Nat),((if x.fst.s.used (aa x.snd)=0 then x.fst.s.ns++[x.fst.w.at (aa x.snd)] else x.fst.s.ns).length<=u30.fst/\x.fst.s.fs.length<=u30.snd)/\(∀(u29:Nat->Nat),SV.val u29 (SV.agg (fj (getD x.snd)))=SV.val u29 (getD (x.fst.w.at (aa x.snd))).sv)/\(7:Nat)=(7:Nat)/\x.fst.w.fr=x.fst.w.fr/\x.fst.w.to=x.fst.w.to/\(0:Nat)=(0:Nat)/\(0:Nat)=(0:Nat)/\((0:Nat)=(0:Nat)/\x.fst.s.ns.length=(if x.fst.s.used (aa x.snd)=0 then x.fst.s.ns++[x.fst.w.at (aa x.snd)] else x.fst.s.ns).length/\x.fst.c1=u30.fst)/\True/\(x.fst.s.lk:Int)=(x.fst.s.lk:Int)/\((0:Nat)=(0:Nat)/\x.fst.s.fs.length=x.fst.s.fs.length/\x.fst.c2=u30.snd)/\True/\ah (SB.fmap x.fst.s.ud (aV.int IntKind.i64 x.fst.s.us) none) (fV (Wk.take x.fst.w x.fst.s (aa x.snd)))/\ah (SB.rows true x.fst.s.ns.length [qU x.fst.s.ns] false (x.fst.c1*1) 9) (fy (Wk.take x.fst.w x.fst.s (aa x.snd)) u30.fst)/\ah (SB.rows true x.fst.s.fs.length [b8 x.fst.s.fs,b6 x.fst.s.fs] false (x.fst.c2*2) 50) (fU (Wk.take x.fst.w x.fst.s (aa x.snd)) u30.snd)/\ah (SB.cells [SV.map 5] 1 90) (SB.cells [SV.map 5] 1 90) /\ah (SB.fmap x.fst.w.ad (aV.int IntKind.i64 x.fst.w.ag) none) (SB.fmap x.fst.w.ad (aV.int IntKind.i64 x.fst.w.ag) none)/\ah P1 P1/\True)/\(cT x.fst.w (aa x.snd)=false->∃(_:List UInt8×List UInt8),False))/\(bI x.snd=false->∃(_:List UInt8×List UInt8),False)))/\(bO x.snd=false->x.snd.length<9223372036854775808/\(bI x.snd=true->∃(u26:wz×List UInt8),(u26.fst.w.Ok/\u26.fst.s.Small/\(u26.fst.s.ns.length<=u26.fst.c1/\u26.fst.s.fs.length<=u26.fst.c2)/\True)/\(0:Nat)=(0:Nat)/\aa x.snd=u26.snd/\(7:Nat)=(7:Nat)/\x.fst.w.fr=u26.fst.w.fr/\x.fst.w.to=u26.fst.w.to/\(0:Nat)=(0:Nat)/\(0:Nat)=(0:Nat)/\((0:Nat)=(0:Nat)/\x.fst.s.ns.length=u26.fst.s.ns.length/\x.fst.c1=u26.fst.c1)/\True/\(x.fst.s.lk:Int)=(u26.fst.s.lk:Int)/\((0:Nat)=(0:Nat)/\x.fst.s.fs.length=u26.fst.s.fs.length/\x.fst.c2=u26.fst.c2)/\True/\ah (SB.fmap x.fst.s.ud (aV.int IntKind.i64 x.fst.s.us) none) (fV u26.fst.s)/\ah (SB.rows true x.fst.s.ns.length [qU x.fst.s.ns] false (x.fst.c1*1) 9) (fy u26.fst.s u26.fst.c1) /\ah (SB.rows true x.fst.s.fs.length [b8 x.fst.s.fs,b6 x.fst.s.fs] false (x.fst.c2*2) 50) (fU u26.fst.s u26.fst.c2)/\(1:Nat)=(1:Nat)/\ah (SB.fmap x.fst.w.ad (aV.int IntKind.i64 x.fst.w.ag) none) (SB.fmap u26.fst.w.ad (aV.int IntKind.i64 u26.fst.w.ag) none)/\(1:Nat)=(1:Nat)/\(x.fst.w.z=u26.fst.w.z/\x.fst.w.o=u26.fst.w.o/\(0:Nat)=(0:Nat)/\x.fst.w.n=u26.fst.w.n/\x.fst.w.c=u26.fst.w.c)/\ah (SB.view x.fst.w.z x.fst.w.o x.fst.w.n [au.str x.fst.w.f]) (SB.view u26.fst.w.z u26.fst.w.o u26.fst.w.n [au.str u26.fst.w.f])/\(cT u26.fst.w u26.snd=true->∀(u25:Nat×Nat),(if u26.fst.s.used u26.snd=0 then u26.fst.s.ns++[u26.fst.w.at u26.snd] else u26.fst.s.ns).length<=u25.fst/\u26.fst.s.fs.length<=u25.snd->(bO x.snd=true->∃(u24:Nat×Nat),(x.fst.s.ns.length<=u24.fst/\x.fst.s.fs.length<=u24.snd)/\(∀(u23:Nat->Nat),SV.val u23 (SV.agg (fj (getD (u26.fst.w.at u26.snd))))=SV.val u23 (getD x.snd).sv)/\(7:Nat)=(7:Nat)/\u26.fst.w.fr=x.fst.w.fr/\u26.fst.w.to=x.fst.w.to/\(0:Nat)=(0:Nat)/\(0:Nat)=(0:Nat)/\((0:Nat)=(0:Nat) /\(if u26.fst.s.used u26.snd=0 then u26.fst.s.ns++[u26.fst.w.at u26.snd] else u26.fst.s.ns).length=x.fst.s.ns.length/\u25.fst=u24.fst)/\True/\(u26.fst.s.lk:Int)=(x.fst.s.lk:Int)/\((0:Nat)=(0:Nat)/\u26.fst.s.fs.length=x.fst.s.fs.length/\u25.snd=u24.snd)/\True/\ah (SB.fmap (gd u26.fst.s.ud u26.snd) (aV.int IntKind.i64 (kK u26.fst.s.us u26.snd (u26.fst.s.used u26.snd+1))) none) (fV x.fst.s)/\ah (SB.rows true (if u26.fst.s.used u26.snd=0 then u26.fst.s.ns++[u26.fst.w.at u26.snd] else u26.fst.s.ns).length [au.str fun(u22:Nat)=>(if u26.fst.s.used u26.snd=0 then u26.fst.s.ns++[u26.fst.w.at u26.snd] else u26.fst.s.ns).getD u22 []] false (u25.fst*1) 9) (fy x.fst.s u24.fst)/\ah (SB.rows true u26.fst.s.fs.length [au.str fun(u21:Nat)=>(u26.fst.s.fs.getD u21 ([],[])).fst,au.str fun(u20:Nat)=>(u26.fst.s.fs.getD u20 ([],[])).snd] false (u25.snd*2) 50) (fU x.fst.s u24.snd)/\ah (SB.cells [SV.map 5] 1 90) (SB.cells [SV.map 5] 1 90)/\ah (SB.fmap u26.fst.w.ad (aV.int IntKind.i64 u26.fst.w.ag) none) (SB.fmap x.fst.w.ad (aV.int IntKind.i64 x.fst.w.ag) none) /\ah (SB.cells [SV.bP 7 1 u26.fst.w.z u26.fst.w.o 0 u26.fst.w.n u26.fst.w.c] 1 29) P1/\True)/\(bO x.snd=false->(bI x.snd=true->(cT x.fst.w (aa x.snd)=true->∃(u19:Nat×Nat),((if x.fst.s.used (aa x.snd)=0 then x.fst.s.ns++[x.fst.w.at (aa x.snd)] else x.fst.s.ns).length<=u19.fst/\x.fst.s.fs.length<=u19.snd)/\(∀(u18:Nat->Nat),SV.val u18 (SV.agg (fj (getD (u26.fst.w.at u26.snd))))=SV.val u18 (getD (x.fst.w.at (aa x.snd))).sv)/\(7:Nat)=(7:Nat)/\u26.fst.w.fr=x.fst.w.fr/\u26.fst.w.to=x.fst.w.to/\(0:Nat)=(0:Nat)/\(0:Nat)=(0:Nat)/\((0:Nat)=(0:Nat)/\(if u26.fst.s.used u26.snd=0 then u26.fst.s.ns++[u26.fst.w.at u26.snd] else u26.fst.s.ns).length=(if x.fst.s.used (aa x.snd)=0 then x.fst.s.ns++[x.fst.w.at (aa x.snd)] else x.fst.s.ns).length/\u25.fst=u19.fst)/\True/\(u26.fst.s.lk:Int)=(x.fst.s.lk:Int)/\((0:Nat)=(0:Nat)/\u26.fst.s.fs.length=x.fst.s.fs.length/\u25.snd=u19.snd)/\True/\ah (SB.fmap (gd u26.fst.s.ud u26.snd) (aV.int IntKind.i64 (kK u26.fst.s.us u26.snd (u26.fst.s.used u26.snd+1))) none) (fV (Wk.take x.fst.w x.fst.s (aa x.snd))) /\ah (SB.rows true (if u26.fst.s.used u26.snd=0 then u26.fst.s.ns++[u26.fst.w.at u26.snd] else u26.fst.s.ns).length [au.str fun(u17:Nat)=>(if u26.fst.s.used u26.snd=0 then u26.fst.s.ns++[u26.fst.w.at u26.snd] else u26.fst.s.ns).getD u17 []] false (u25.fst*1) 9) (fy (Wk.take x.fst.w x.fst.s (aa x.snd)) u19.fst)/\ah (SB.rows true u26.fst.s.fs.length [au.str fun(u16:Nat)=>(u26.fst.s.fs.getD u16 ([],[])).fst,au.str fun(u15:Nat)=>(u26.fst.s.fs.getD u15 ([],[])).snd] false (u25.snd*2) 50) (fU (Wk.take x.fst.w x.fst.s (aa x.snd)) u19.snd)/\ah (SB.cells [SV.map 5] 1 90) (SB.cells [SV.map 5] 1 90)/\ah (SB.fmap u26.fst.w.ad (aV.int IntKind.i64 u26.fst.w.ag) none) (SB.fmap x.fst.w.ad (aV.int IntKind.i64 x.fst.w.ag) none)/\ah (SB.cells [SV.bP 7 1 u26.fst.w.z u26.fst.w.o 0 u26.fst.w.n u26.fst.w.c] 1 29) P1/\True)/\(cT x.fst.w (aa x.snd)=false->∃(_:List UInt8×List UInt8),False))/\(bI x.snd=false->∃(_:List UInt8×List UInt8),False)))/\(cT u26.fst.w u26.snd=false->∀(u12:List UInt8×List UInt8),(bO x.snd=true->∃(u11:Nat×Nat),(x.fst.s.ns.length<=u11.fst /\x.fst.s.fs.length<=u11.snd)/\False)/\(bO x.snd=false->(bI x.snd=true->(cT x.fst.w (aa x.snd)=true->∃(u10:Nat×Nat),((if x.fst.s.used (aa x.snd)=0 then x.fst.s.ns++[x.fst.w.at (aa x.snd)] else x.fst.s.ns).length<=u10.fst/\x.fst.s.fs.length<=u10.snd)/\False)/\(cT x.fst.w (aa x.snd)=false->∃(u9:List UInt8×List UInt8),(∀(u8:Nat->Nat),SV.val u8 P0=SV.val u8 dg)/\(0:Nat)=(0:Nat)/\ah (SB.cells [SV.str false u12.fst,SV.str false u12.snd] 2 207) (SB.cells [SV.str false u9.fst,SV.str false u9.snd] 2 207)/\True))/\(bI x.snd=false->∃(u7:List UInt8×List UInt8),(∀(u6:Nat->Nat),SV.val u6 P0=SV.val u6 dg)/\(0:Nat)=(0:Nat)/\ah (SB.cells [SV.str false u12.fst,SV.str false u12.snd] 2 207) (SB.cells [SV.str false u7.fst,SV.str false u7.snd] 2 207)/\True))))/\(bI x.snd=false->(bO x.snd=true->∃(u5:Nat×Nat),(x.fst.s.ns.length<=u5.fst/\x.fst.s.fs.length<=u5.snd)/\False)/\(bO x.snd=false->(bI x.snd=true->(cT x.fst.w (aa x.snd)=true ->∃(u4:Nat×Nat),((if x.fst.s.used (aa x.snd)=0 then x.fst.s.ns++[x.fst.w.at (aa x.snd)] else x.fst.s.ns).length<=u4.fst/\x.fst.s.fs.length<=u4.snd)/\False)/\(cT x.fst.w (aa x.snd)=false->∃(u3:List UInt8×List UInt8),(∀(u2:Nat->Nat),SV.val u2 P0=SV.val u2 dg)/\(0:Nat)=(0:Nat)/\ah (SB.cells [SV.str true [(110:UInt8),(111:UInt8),(32:UInt8),(114:UInt8),(101:UInt8),(102:UInt8),(58:UInt8)],SV.str false x.snd] 2 207) (SB.cells [SV.str false u3.fst,SV.str false u3.snd] 2 207)/\True))/\(bI x.snd=false->∃(u1:List UInt8×List UInt8),(∀(u0:Nat->Nat),SV.val u0 P0=SV.val u0 dg)/\(0:Nat)=(0:Nat)/\ah (SB.cells [SV.str true [(110:UInt8),(111:UInt8),(32:UInt8),(114:UInt8),(101:UInt8),(102:UInt8),(58:UInt8)],SV.str false x.snd] 2 207) (SB.cells [SV.str false u1.fst,SV.str false u1.snd] 2 207)/\True))))))) (SB.cells [SV.bP 7 1 x.fst.w.z x.fst.w.o 0 x.fst.w.n x.fst.w.c] 1 29))) (SV.agg [SV.int .i64 true 0,SV.str true [],SV.str true [],SV.str true [],SV.str true [],SV.str true [],SV.str true [],SV.str true [],SV.str true [],SV.str true [],SV.str true [],SV.str true [],SV.str true [],SV.str true [],SV.str true [],SV.str true [],SV.str true [],SV.str true [],SV.str true []])):=by kernel_rfl
section
attribute [local irreducible] bG getD bO bI aa cT
theorem yg {x:wz×List UInt8}(hw:x.1.w.Ok)(hs:x.1.s.Small)(hc:x.1.s.ns.length<=x.1.c1/\x.1.s.fs.length<=x.1.c2)(ht:x.2.length<9223372036854775808) :
  aA (runM J2 132 Tryz.f132 mM x):=by
 refine aA.of_eq (G8 x) ?_
 obtain⟨⟨w,s,c1,c2⟩,t⟩:=x
 dsimp only at hw hs hc ht ⊢
 have hr:Rel 9223372036854775808 t:=⟨.inl ht,ht⟩
 have ez:=W5.zero
 have done: ∀ {p q:Nat},s.ns.length<=c1->s.fs.length<=c2->p=c1->q=c2->s.ns.length<=p/\s.fs.length<=q:=fun a b c d=>by subst c;subst d;exact⟨a,b⟩
 cases h1:bO t<;>cases h2:bI t<;>cases h3:cT w (aa t)
 all_goals simp only[hr,ht,Bool.false_eq_true,Bool.true_eq_false,false_imp_iff,forall_const,true_and,and_true]
 all_goals first
  | exact⟨(_,_),ez,tI⟩
  | refine⟨(⟨w,s,c1,c2⟩,aa t),?_⟩
  | refine⟨(c1,c2),?_⟩
 all_goals simp only[h3,hw,hs,hc,Bool.false_eq_true,Bool.true_eq_false,false_imp_iff,forall_const,true_and,and_true]
 all_goals
  repeat' first
   | exact ah.refl _
   | refine And.intro ?_ ?_
   | exact fun _=>rfl
   | (intro (y:List UInt8×List UInt8);exact⟨y,ez,ah.refl _⟩)
   | (intro (y:Nat×Nat) hy;refine⟨y,hy,?_⟩)
   | rfl
   | exact trivial
   | fail
end
end Go.Proofs.YtoibaecagklkaaaGreatDoor
namespace Go.Proofs.YtoibaecagklkaaaGreatDoor
open Go Sx
set_option maxRecDepth 20000
theorem Fi:aB Tryz.prog 132 (ig mM) :=
 n7 (n:=20) (fn:=Tryz.f132) Tryz.func132 (by kernel_rfl) (by kernel_rfl) mM fun x hx=>⟨J2,Vm,rfl,yg hx.1 hx.2.1 hx.2.2.1 hx.2.2.2⟩
def pF (x:Nd)(p:List UInt8)(i:Nat):List UInt8:=if x.k=3 then cat (cat p x.p) [UInt8.ofNat i] else cat p x.p
def jt (w:Sp)(x:Nd)(p:List UInt8):Bool:=!decide (x.v=[])&&(hasB w.fr w.to (cat p x.p)&&nU (cat p x.p))
def Wk.qE (w:Sp)(s:Wk)(x:Nd)(p:List UInt8):Wk:={s with lk:=s.lk+1,fs:=if jt w x p=true then s.fs++[(bF (cat p x.p),x.v)] else s.fs}
def gp (w:Sp)(s:Wk)(t:List UInt8):Option (Nd×Wk):=if bO t=true then some (getD t,s)else if(bI t&&cT w (aa t))=true then some (getD (w.at (aa t)),s.take w (aa t))else none
def fF (w:Sp)(T:Wk->Nd->List UInt8->Option Wk)(x:Nd)(p:List UInt8)(i:Nat)(s:Wk):Option Wk :=
 if x.r i=[] then some s else bif dS w.fr w.to (pF x p i)then(match gp w s (x.r i)with
  | none=>none
  | some (y,s')=>T s' y (pF x p i))else some s
def cU (w:Sp)(T:Wk->Nd->List UInt8->Option Wk)(x:Nd)(p:List UInt8):Nat->Wk->Option Wk
 | 0,s=>some s
 | i+1,s=>match cU w T x p i s with
   | none=>none
   | some s'=>fF w T x p i s'
def oO (w:Sp):Nat->Wk->Nd->List UInt8->Option Wk
 | 0,_,_,_=>none
 | m+1,s,x,p=>if 400<=s.lk then none else cU w (oO w m) x p 16 (s.qE w x p)
def fG (w:Sp)(m:Nat)(s:Wk)(x:Nd)(p:List UInt8):Bool:=(oO w m s x p).isSome
def cA (w:Sp)(m:Nat)(s:Wk)(x:Nd)(p:List UInt8):Wk:=match oO w m s x p with
 | some s'=>s'
 | none=>s
structure Wk.Fit (s:Wk)(k:Nat):Prop where
 u: ∀ h,0<=s.used h/\s.used h<=k
 ns:s.ns.length<=k
 fs:s.fs.length<=s.lk
 lk:s.lk<=400
def Fo (m:Nat):nV:=XG (Nd×List UInt8) (fun y=>[y.1.sv,.str false y.2]) (fun g y=>g.s.Fit (g.s.lk+1)/\401<=g.s.lk+m/\y.1.oC/\y.2.length<=13*g.s.lk) fun g y=>.fork (fG g.w m g.s y.1 y.2) fun b=>match b with
 | true=>Ul .aI g.w (cA g.w m g.s y.1 y.2)
 | false=>IE fun v=>v
def RI (st:Sx.St):List Nat:=match st.m.get 0 with
 | some (.cells [_,_,_,_,.bw kn _ _ _ _ _,_,.bw kf _ _ _ _ _] _ _)=>[kn,kf]
 | _=>[]
def Si (g:wz)(x:Nd)(p:List UInt8):bC :=
 {α:=Nat,pre:=fun _ c2=>(g.s.qE g.w x p).fs.length<=c2,nY:=fun _ _=>0,fresh:=1,slots:=fun _ _=>[],mem:=fun st c2=>[(0,GO g.w (g.s.qE g.w x p) 2 st.nx g.c1 c2),(st.nx,fU (g.s.qE g.w x p) c2)],drop:=fun _=>[3]}
def Rd (m:Nat)(g:wz)(x:Nd)(p:List UInt8):bC :=
 {α:=Nat×Wk×Nat×Nat,pre:=fun _ y=>y.1<=16/\cU g.w (oO g.w m) x p y.1 (g.s.qE g.w x p)=some y.2.1/\y.2.1.ns.length<=y.2.2.1/\y.2.1.fs.length<=y.2.2.2,nY:=fun _ y=>16 - y.1,fresh:=2,slots:=fun _ y=>[(10,.int .i64 false y.1)],
  mem:=fun st y=>[(0,GO g.w y.2.1 st.nx (st.nx+1) y.2.2.1 y.2.2.2),(1,fV y.2.1),(st.nx,fy y.2.1 y.2.2.1),(st.nx+1,fU y.2.1 y.2.2.2)],drop:=RI}
def VR (x:Nd)(p:List UInt8)(i:Nat):bC :=
 {α:=Unit,pre:=fun _ _=>True,nY:=fun _ _=>0,fresh:=0,slots:=fun _ _=>[(7,.str false (pF x p i))],mem:=fun _ _=>[]}
def NT (x:Nd)(p:List UInt8)(st:Sx.St):Option mL:=match slot st.tmps 10 with
 | some (.int _ _ i)=>some (one (VR x p i.toNat))
 | _=>none
noncomputable def Cz (m:Nat):List (FuncId×PT):=(84,ig (Fo m))::(132,ig mM)::Dm
noncomputable def PN (m:Nat)(g:wz)(x:Nd)(p:List UInt8):ff:={cg with cI:=fun f=>aG f (Cz m),br:=fun f=>if f=171 then [(1,always (Rd m g x p)),(105007,NT x p)] else if f=84 then [(104009,always (Si g x p))] else []}
abbrev Rw:=List UInt8×List UInt8
def bH:List UInt8->List UInt8->Nat
 | a::r,b::s=>if a=b then bH r s+1 else 0
 | _,_=>0
def bT (k:Nat)(l:List Rw):List Rw:=l.map fun r=>(r.1.drop k,r.2)
def jD (i:Nat)(p:List UInt8):Bool:=match p with
 | []=>false
 | b::_=>decide (b.toNat=i)
def bx (i:Nat)(l:List Rw):List Rw:=l.filter fun r=>jD i r.1
def bM (l:List Rw)(i:Nat):List Rw:=match l with
 | []=>[]
 | [_]=>[]
 | r::s::t=>if 0<bH r.1 ((s::t).getLastD r).1 then(if i=0 then bT (bH r.1 ((s::t).getLastD r).1) (r::s::t)else [])else bT 1 (bx i (r::s::t))
def fI (ref:List Rw->List UInt8)(l:List Rw):Nd:=match l with
 | []=>eN
 | [r]=>⟨1,r.1,r.2,ay⟩
 | r::s::t=>if 0<bH r.1 ((s::t).getLastD r).1 then⟨2,r.1.take (bH r.1 ((s::t).getLastD r).1),[],ak (ref (bM (r::s::t) 0))⟩
   else⟨3,[],if r.1=[] then r.2 else [],aP fun i=>ref (bM (r::s::t) i)⟩
def gV:Nat->List Rw->Nd
 | 0,_=>eN
 | m+1,l=>fI (fun l'=>if l'=[] then [] else dx (cu (gV m l'))) l
def ctext (m:Nat)(l:List Rw):List UInt8:=cu (gV m l)
def ey:Nat->List Rw->List (List UInt8)
 | 0,_=>[]
 | m+1,l=>(List.range 16).flatMap fun i=>if bM l i=[] then [] else(if(ctext m (bM l i)).length<32 then [] else [ctext m (bM l i)])++ey m (bM l i)
def dH (m:Nat)(l:List Rw):List (List UInt8):=ctext m l::ey m l
def rowsOf (l:List (List UInt8×List UInt8)):List Rw:=l.map fun e=>(az e.1,e.2)
def aW (fr to:List UInt8)(l:List (List UInt8×List UInt8)):List (List UInt8×List UInt8):=l.filter fun e=>hasB fr to (az e.1)
def ru (l:List Rw):Prop:=l.Pairwise fun a b=>Op.bytesLess a.1 b.1=true
def iU (fr to p:List UInt8)(l:List Rw):List (List UInt8×List UInt8):=(l.filter fun r=>hasB fr to (cat p r.1)).map fun r=>(bF (cat p r.1),r.2)
def Clear (w:Sp)(l:List (List UInt8)):Prop:=∀ t,t∈ l->cT w (cL t)=true->w.at (cL t)=t
def uR (k:List UInt8):Bool:=!decide (k=[])&&decide ((k.length:Int)<=6)
def qn (v:List UInt8):Bool:=!decide (v=[])&&decide ((v.length:Int)<=80)
def gP (f g:Nat->List UInt8)(i:Nat):Bool:=uR (f i)&&(qn (g i)&&(decide (i=0)||Op.bytesLess (f (i - 1)) (f i)))
def GV (n:Nat)(f g:Nat->List UInt8):Bool:=(List.range n).all (gP f g)
def bY (n:Nat)(f g:Nat->List UInt8):Int:=bif GV n f g then(if(40:Int)<(n:Int)then 12 else 0)else 1
def aX (n:Nat)(f g:Nat->List UInt8):List Rw:=(List.range n).map fun i=>(f i,g i)
def nq (z:Bool)(l:List Rw)(c:Nat)(ro:Bool):SB:=.rows z l.length [b8 l,b6 l] ro (c*2) 174
def dE:List au:=[.str fun _=>[],.str fun _=>[]]
def RA:List vv:=[.of (.slice dE)]
def gH (z:Bool)(o c n:Nat)(f g:Nat->List UInt8)(key:Option Nat):Seen:=⟨key,z,o,n,c,[.str f,.str g]⟩
noncomputable def QZ (n:Nat)(f g:Nat->List UInt8):ff:={cg with cI:=fun f=>aG f jA,br:=fun h=>if h=62 then [(2,always (zE 7 n (gP f g)))] else []}
theorem UE (n:Nat)(f g:Nat->List UInt8):Sx.Good Tryz.prog (QZ n f g):=.of bS eG bt
def qL (f g:Nat->List UInt8)(i:Nat):Bool:=!decide ((20:Int)<((f i).length:Int))&& !decide ((100:Int)<((g i).length:Int))
def vi (n:Nat)(f g:Nat->List UInt8):Bool:=decide ((n:Int)<=45)&&(List.range n).all (qL f g)
structure Dw (n:Nat)(t:Nat->Bool)(i:Nat):Prop where
 up:dw n t i
 le:i<=46
noncomputable def SX (n:Nat)(t:Nat->Bool):bC :=
 {α:=Nat,pre:=fun _ i=>Dw n t i,nY:=fun _ i=>n - i,fresh:=0,slots:=fun _ i=>[(3,.int .i64 false i)],mem:=fun _ _=>[]}
noncomputable def PL (n:Nat)(f g:Nat->List UInt8):ff:={cg with cI:=fun f=>aG f jA,br:=fun h=>if h=19 then [(2,always (SX n (qL f g)))] else []}
theorem VN (n:Nat)(f g:Nat->List UInt8):Sx.Good Tryz.prog (PL n f g):=.of bS eG bt
noncomputable def Kc (t1 t2 n:Nat)(f g:Nat->List UInt8):bC :=
 {α:=Nat×Nat,pre:=fun _ x=>x.1<=n/\x.1<=x.2,nY:=fun _ x=>n - x.1,fresh:=1,slots:=fun st x=>[(t1,.int .i64 false x.1),(t2,.bw st.nx 2 false 0 x.1 x.2)],
  mem:=fun st x=>[(st.nx,.rows false x.1 [.str f,.str g] false (x.2*2) 174)]}
noncomputable def OF (n:Nat)(f g:Nat->List UInt8):ff:={cg with cI:=fun f=>aG f jA,br:=fun h=>if h=64 then [(3,always (Kc 11 3 n (fun i=>az (f i)) g))] else []}
theorem Vw (n:Nat)(f g:Nat->List UInt8):Sx.Good Tryz.prog (OF n f g):=.of bS eG bt
noncomputable def QL (n k:Nat)(f g:Nat->List UInt8):ff:={cg with cI:=fun f=>aG f jA,br:=fun h=>if h=102 then [(3,always (Kc 13 5 n (fun i=>(f i).drop k) g))] else []}
theorem Wf (n k:Nat)(f g:Nat->List UInt8):Sx.Good Tryz.prog (QL n k f g):=.of bS eG bt
def x4 (l:List Rw):c6:=.all Nat fun c=>.req (l.length<=c) (.new (fun k=>.bw k 2 false 0 l.length c) (nq false l c false))
def Aa (a b:List UInt8)(i:Nat):Bool:=decide (ai a i=ai b i)
noncomputable def QC (a b:List UInt8):ff:={cg with cI:=fun f=>aG f jA,br:=fun h=>if h=100 then [(3,always (zE 13 (min a.length b.length) (Aa a b)))] else []}
theorem VK (a b:List UInt8):Sx.Good Tryz.prog (QC a b):=.of bS eG bt
noncomputable def U7 (i:Nat)(l:List Rw):bC :=
 {α:=Nat×Nat,pre:=fun _ x=>x.1<=l.length/\(bx i (l.take x.1)).length<=x.2,nY:=fun _ x=>l.length - x.1,fresh:=1,slots:=fun st x=>[(10,.int .i64 false x.1),(5,.bw st.nx 2 true 0 (bx i (l.take x.1)).length x.2)],
  mem:=fun st x=>[(st.nx,nq true (bx i (l.take x.1)) x.2 false)]}
noncomputable def Qt (i:Nat)(l:List Rw):ff:={cg with cI:=fun f=>aG f jA,br:=fun h=>if h=103 then [(3,always (U7 i l))] else []}
theorem V8 (i:Nat)(l:List Rw):Sx.Good Tryz.prog (Qt i l):=.of bS eG bt
def Qd:nV :=
 {G:=List Rw×Nat×Nat,n:=2,N:=3,pre:=fun x=>x.1.length<=1000,args:=fun x=>[.bw 0 2 false 0 x.1.length x.2.1,.func (.func 104) [] [.ptr 1 true 0]],
  mem:=fun x=>[(0,nq false x.1 x.2.1 true),(1,.cells [.int .i64 false x.2.2] 1 3)],
  Qx:=fun x=>.all Nat fun c=>.req ((bx x.2.2 x.1).length<=c) (.ret (.bw 2 2 true 0 (bx x.2.2 x.1).length c) [(1,.cells [.int .i64 false x.2.2] 1 3),(2,nq true (bx x.2.2 x.1) c false)])}
theorem Sf (n:Nat)(f g:Nat->List UInt8)(z:Bool)(o c:Nat)(key:Option Nat):eT (.n (.s 0 (.n .k .t)) (.n (.s 1 (.n (.s 0 (.n (.s 0 (.n (.s 5 (.n .k .t)) (.s 1 (.n .k .t)))) .t)) .t)) .t)) (gJ (QZ n f g) 62 Tryz.f62 [.bP 0 2 z o 0 n c] [gH z o c n f g key] (.ret (.int .i64 false (bY n f g)))) (((∃(u3:Nat),dw n (gP f g) u3/\0=(u3:Int))/\∀(u2:Nat),dw n (gP f g) u2->(decide ((u2:Int)<(n:Int))=true->(0<=(u2:Int)/\(u2:Int)<(n:Int))/\(o=o/\0+(u2:Int).toNat<n)/\((!decide (f (0+(u2:Int).toNat)=[]))=true->((!decide ((↑(f (0+(u2:Int).toNat)).length:Int)<=6))=true->af (SV.int .i64 true 1) (SV.int .i64 false (bY n f g)))/\((!decide ((↑(f (0+(u2:Int).toNat)).length:Int)<=6))=false->((!decide (g (0+(u2:Int).toNat)=[]))=true->((!decide ((↑(g (0+(u2:Int).toNat)).length:Int)<=80))=true->af (SV.int .i64 true 1) (SV.int .i64 false (bY n f g)))/\((!decide ((↑(g (0+(u2:Int).toNat)).length:Int)<=80))=false->(decide (0<(u2:Int))=true->((-9223372036854775808:Int)<=(u2:Int) - 1/\(u2:Int) - 1<=(9223372036854775807:Int))/\(0<=(u2:Int) - 1/\(u2:Int) - 1<(n:Int))/\(o=o/\0+((u2:Int) - 1).toNat<n)/\((!Op.bytesLess (f (0+((u2:Int) - 1).toNat)) (f (0+(u2:Int).toNat)))=true->af (SV.int .i64 true 1) (SV.int .i64 false (bY n f g)))/\((!Op.bytesLess (f (0+((u2:Int) - 1).toNat)) (f (0+(u2:Int).toNat)))=false ->((-9223372036854775808:Int)<=(u2:Int)+1/\(u2:Int)+1<=(9223372036854775807:Int))/\∃(u1:Nat),(dw n (gP f g) u1/\n - u1<n - u2)/\(u2:Int)+1=(u1:Int)))/\(decide (0<(u2:Int))=false->((-9223372036854775808:Int)<=(u2:Int)+1/\(u2:Int)+1<=(9223372036854775807:Int))/\∃(u0:Nat),(dw n (gP f g) u0/\n - u0<n - u2)/\(u2:Int)+1=(u0:Int))))/\((!decide (g (0+(u2:Int).toNat)=[]))=false->af (SV.int .i64 true 1) (SV.int .i64 false (bY n f g)))))/\((!decide (f (0+(u2:Int).toNat)=[]))=false->af (SV.int .i64 true 1) (SV.int .i64 false (bY n f g))))/\(decide ((u2:Int)<(n:Int))=false->(decide (40<(n:Int))=true->af (SV.int .i64 true 12) (SV.int .i64 false (bY n f g)))/\(decide (40<(n:Int))=false->af (SV.int .i64 true 0) (SV.int .i64 false (bY n f g)))))):=⟨by kernel_rfl,by kernel_rfl⟩
theorem Td (n:Nat)(f g:Nat->List UInt8)(z:Bool)(o c:Nat)(key:Option Nat):eT (.n (.s 0 (.n .k .t)) (.n (.n (.s 7 (.n .k .t)) .t) .t)) (gJ (PL n f g) 19 Tryz.f19 [.bP 0 2 z o 0 n c] [gH z o c n f g key] (.ret (.bool false (vi n f g)))) (((∃(u2:Nat),Dw n (qL f g) u2/\0=(u2:Int))/\∀(u1:Nat),Dw n (qL f g) u1->(decide ((u1:Int)<(n:Int))=true->(decide ((u1:Int)<=45)=true->(0<=(u1:Int)/\(u1:Int)<(n:Int))/\(o=o/\0+(u1:Int).toNat<n)/\(decide (20<(↑(f (0+(u1:Int).toNat)).length:Int))=true->af (SV.bool true false) (SV.bool false (vi n f g)))/\(decide (20<(↑(f (0+(u1:Int).toNat)).length:Int))=false->(0<=(u1:Int)/\(u1:Int)<(n:Int))/\(o=o/\0+(u1:Int).toNat<n)/\(decide (100<(↑(g (0+(u1:Int).toNat)).length:Int))=true->af (SV.bool true false) (SV.bool false (vi n f g)))/\(decide (100<(↑(g (0+(u1:Int).toNat)).length:Int))=false->((-9223372036854775808:Int)<=(u1:Int)+1/\(u1:Int)+1<=(9223372036854775807:Int))/\∃(u0:Nat),(Dw n (qL f g) u0/\n - u0<n - u1)/\(u1:Int)+1=(u0:Int))))/\(decide ((u1:Int)<=45)=false->af (SV.bool (false&&true) (decide ((n:Int)<=45))) (SV.bool false (vi n f g))))/\(decide ((u1:Int)<(n:Int))=false->af (SV.bool (false&&true) (decide ((n:Int)<=45))) (SV.bool false (vi n f g))))):=⟨by kernel_rfl,by kernel_rfl⟩
theorem Vg (n:Nat)(f g:Nat->List UInt8)(z:Bool)(o c:Nat)(key:Option Nat):eT (.s 0 (.n (.s 0 (.n .k (.n (.s 0 .k) (.s 0 (.n .k .t))))) (.n (.s 7 (.n .k (.n (.s 0 .k) (.s 0 (.n .k .t))))) .k))) (gJ (OF n f g) 64 Tryz.f64 [.bP 0 2 z o 0 n c] [gH z o c n f g key] (x4 (aX n (fun i=>az (f i)) g))) (((0<=(n:Int)/\32*(n:Int)<=140737488355328/\(n:Int)<=9223372036854775807)/\(∃(u14:Nat×Nat),(u14.fst<=n/\u14.fst<=u14.snd)/\0=(u14.fst:Int)/\(0=u14.fst/\(n:Int).toNat=u14.snd)/\ah (SB.cells [] ((n:Int).toNat*2) 174) (SB.rows false u14.fst [au.str fun(u13:Nat)=>az (f u13),au.str g] false (u14.snd*2) 174))/\∀(u12:Nat×Nat),u12.fst<=n/\u12.fst<=u12.snd->(decide ((u12.fst:Int)<(n:Int))=true->(0<=(u12.fst:Int)/\(u12.fst:Int)<(n:Int))/\(o=o/\0+(u12.fst:Int).toNat<n)/\(f (0+(u12.fst:Int).toNat)).length<1099511627776/\some (SB.cells (aZ (SV.agg [SV.str true [],SV.str true []]).cells 0 (SV.agg [au.at (0+(u12.fst:Int).toNat) (au.str f),au.at (0+(u12.fst:Int).toNat) (au.str g)]).cells) 2 50)=some (SB.cells (aZ (SV.agg [SV.str true [],SV.str true []]).cells 0 (SV.agg [au.at (0+(u12.fst:Int).toNat) (au.str f),au.at (0+(u12.fst:Int).toNat) (au.str g)]).cells) 2 50)/\(0+u12.fst<=u12.fst/\True/\2*(u12.fst+1)*32<=(281474976710656:Nat)/\u12.fst+1<(9223372036854775808:Nat))/\∀(u11:Nat),u12.fst+1<=u11 ->((-9223372036854775808:Int)<=(u12.fst:Int)+1/\(u12.fst:Int)+1<=(9223372036854775807:Int))/\∃(u10:Nat×Nat),((u10.fst<=n/\u10.fst<=u10.snd)/\n - u10.fst<n - u12.fst)/\(u12.fst:Int)+1=(u10.fst:Int)/\(u12.fst+1=u10.fst/\u11=u10.snd)/\ah (SB.rows false (u12.fst+1) [au.str fun(u9:Nat)=>if u9<u12.fst then az (f u9)else bq [az (f (0+(u12.fst:Int).toNat))] (u9 - u12.fst),au.str fun(u8:Nat)=>if u8<u12.fst then g u8 else bq [g (0+(u12.fst:Int).toNat)] (u8 - u12.fst)] false (u11*2) 174) (SB.rows false u10.fst [au.str fun(u7:Nat)=>az (f u7),au.str g] false (u10.snd*2) 174))/\(decide ((u12.fst:Int)<(n:Int))=false->∃(u6:Nat),(aX n (fun(u5:Nat)=>az (f u5)) g).length<=u6/\ah (SB.rows false u12.fst [au.str fun(u4:Nat)=>az (f u4),au.str g] false (u12.snd*2) 174) (SB.rows false (aX n (fun(u3:Nat)=>az (f u3)) g).length [b8 (aX n (fun(u2:Nat)=>az (f u2)) g),b6 (aX n (fun(u1:Nat)=>az (f u1)) g)] false (u6*2) 174) /\af (SV.bw ((1:Nat)+(1:Nat)) 2 false 0 u12.fst u12.snd) (SV.bw ((1:Nat)+(1:Nat)) 2 false 0 (aX n (fun(u0:Nat)=>az (f u0)) g).length u6)))):=⟨by kernel_rfl,by kernel_rfl⟩
theorem KU (n k:Nat)(f g:Nat->List UInt8)(z:Bool)(o c:Nat)(key:Option Nat):eT (.s 0 (.n (.s 0 (.n .k (.n (.s 0 .k) (.s 0 (.n .k .t))))) (.n (.s 6 (.n .k (.n (.s 0 .k) (.s 0 (.n .k .t))))) .k))) (gJ (QL n k f g) 102 Tryz.f102 [.bP 0 2 z o 0 n c,.int .i64 false k] [gH z o c n f g key] (x4 (bT k (aX n f g)))) (((0<=(n:Int)/\32*(n:Int)<=140737488355328/\(n:Int)<=9223372036854775807)/\(∃(u9:Nat×Nat),(u9.fst<=n/\u9.fst<=u9.snd)/\0=(u9.fst:Int)/\(0=u9.fst/\(n:Int).toNat=u9.snd)/\ah (SB.cells [] ((n:Int).toNat*2) 174) (SB.rows false u9.fst [au.str fun(u8:Nat)=>List.drop k (f u8),au.str g] false (u9.snd*2) 174))/\∀(u7:Nat×Nat),u7.fst<=n/\u7.fst<=u7.snd->(decide ((u7.fst:Int)<(n:Int))=true->(0<=(u7.fst:Int)/\(u7.fst:Int)<(n:Int))/\(o=o/\0+(u7.fst:Int).toNat<n)/\(0<=(k:Int)/\(k:Int)<=(↑(f (0+(u7.fst:Int).toNat)).length:Int)/\(↑(f (0+(u7.fst:Int).toNat)).length:Int)<=(↑(f (0+(u7.fst:Int).toNat)).length:Int))/\(0+u7.fst<=u7.fst/\True/\2*(u7.fst+1)*32<=(281474976710656:Nat)/\u7.fst+1<(9223372036854775808:Nat))/\∀(u6:Nat),u7.fst+1<=u6->((-9223372036854775808:Int)<=(u7.fst:Int)+1/\(u7.fst:Int)+1<=(9223372036854775807:Int))/\∃(u5:Nat×Nat),((u5.fst<=n/\u5.fst<=u5.snd)/\n - u5.fst<n - u7.fst)/\(u7.fst:Int)+1=(u5.fst:Int)/\(u7.fst+1=u5.fst/\u6=u5.snd) /\ah (SB.rows false (u7.fst+1) [au.str fun(u4:Nat)=>if u4<u7.fst then List.drop k (f u4)else bq [bz (f (0+(u7.fst:Int).toNat)) (some (Operand.tmp 20)) none (k:Int) (↑(f (0+(u7.fst:Int).toNat)).length:Int)] (u4 - u7.fst),au.str fun(u3:Nat)=>if u3<u7.fst then g u3 else bq [g (0+(u7.fst:Int).toNat)] (u3 - u7.fst)] false (u6*2) 174) (SB.rows false u5.fst [au.str fun(u2:Nat)=>List.drop k (f u2),au.str g] false (u5.snd*2) 174))/\(decide ((u7.fst:Int)<(n:Int))=false->∃(u1:Nat),(bT k (aX n f g)).length<=u1/\ah (SB.rows false u7.fst [au.str fun(u0:Nat)=>List.drop k (f u0),au.str g] false (u7.snd*2) 174) (SB.rows false (bT k (aX n f g)).length [b8 (bT k (aX n f g)),b6 (bT k (aX n f g))] false (u1*2) 174)/\af (SV.bw ((1:Nat)+(1:Nat)) 2 false 0 u7.fst u7.snd) (SV.bw ((1:Nat)+(1:Nat)) 2 false 0 (bT k (aX n f g)).length u1)))):=⟨by kernel_rfl,by kernel_rfl⟩
theorem Qn (a b:List UInt8):eT .k (fW (QC a b) 100 Tryz.f100 [.str false a,.str false b] (.ret (.int .i64 false (bH a b)))) (((∃(u2:Nat),dw (min a.length b.length) (Aa a b) u2/\0=(u2:Int))/\∀(u1:Nat),dw (min a.length b.length) (Aa a b) u1->(decide ((u1:Int)<min (a.length:Int) (b.length:Int))=true->(0<=(u1:Int)/\(u1:Int)<(a.length:Int))/\(0<=(u1:Int)/\(u1:Int)<(b.length:Int))/\((!decide (ai a (u1:Int)=ai b (u1:Int)))=true->af (SV.int .i64 false (u1:Int)) (SV.int .i64 false (↑(bH a b):Int)))/\((!decide (ai a (u1:Int)=ai b (u1:Int)))=false->((-9223372036854775808:Int)<=(u1:Int)+1/\(u1:Int)+1<=(9223372036854775807:Int))/\∃(u0:Nat),(dw (min a.length b.length) (Aa a b) u0/\min a.length b.length - u0<min a.length b.length - u1)/\(u1:Int)+1=(u0:Int)))/\(decide ((u1:Int)<min (a.length:Int) (b.length:Int))=false->af (SV.int .i64 (false&&false) (min (a.length:Int) (b.length:Int))) (SV.int .i64 false (↑(bH a b):Int))))):=⟨by kernel_rfl,by kernel_rfl⟩
theorem xo: ∀(a b:List UInt8),bH a b<=a.length/\bH a b<=b.length
 | [],_=>by simp[bH]
 | _::_,[]=>by simp[bH]
 | a::r,b::s=>by
   unfold bH
   split
   ·have:=xo r s
    simp only[List.length_cons];omega
   ·simp
theorem yH: ∀(k:Nat) (a b c:List UInt8),k<=bH a c->Op.bytesLess b a=false->Op.bytesLess c b=false->b.take k=a.take k
 | 0,_,_,_,_,_,_=>by simp
 | k+1,[],_,_,h,_,_=>by simp[bH] at h
 | k+1,_::_,_,[],h,_,_=>by simp[bH] at h
 | k+1,a::r,b,c::t,h,h1,h2=>by
   unfold bH at h
   split at h
   ·rename_i e
    subst e
    cases b with
    | nil=>simp[Op.bytesLess] at h1
    | cons b s =>
      simp only[Op.bytesLess] at h1 h2
      by_cases e1:b<a
      ·simp[e1] at h1
      ·by_cases e2:a<b
       ·simp[e2] at h2
       ·have e:b=a:=by
         apply UInt8.le_antisymm
         ·exact UInt8.not_lt.1 e2
         ·exact UInt8.not_lt.1 e1
        subst e
        simp at h1 h2
        rw[List.take_succ_cons,List.take_succ_cons,yH k r s t (by omega) h1 h2]
   ·omega
theorem iO: ∀(a b:List UInt8),Op.bytesLess a b=true->Op.bytesLess b a=false
 | _,[],h=>by simp[Op.bytesLess] at h
 | [],_::_,_=>by simp[Op.bytesLess]
 | a::r,b::s,h=>by
   simp only[Op.bytesLess,Bool.or_eq_true,decide_eq_true_eq,Bool.and_eq_true,beq_iff_eq] at h
   simp only[Op.bytesLess,Bool.or_eq_false_iff,decide_eq_false_iff_not]
   rcases h with h | ⟨h1,h2⟩
   ·refine⟨fun e=>absurd (UInt8.lt_trans h e) (UInt8.lt_irrefl _),?_⟩
    have:(b==a)=false:=by
     rw[beq_eq_false_iff_ne]
     intro e;subst e;exact absurd h (UInt8.lt_irrefl _)
    rw[this,Bool.false_and]
   ·subst h1
    refine⟨UInt8.lt_irrefl _,?_⟩
    rw[iO r s h2,Bool.and_false]
theorem og (a:List UInt8):Op.bytesLess a a=false:=by
 cases h:Op.bytesLess a a with
 | false=>rfl
 | true=>rw[iO a a h] at h;cases h
theorem pZ: ∀(r:Rw) (l:List Rw),l.getLastD r∈ r::l
 | r,[]=>by simp
 | r,s::l=>by
   rw[List.getLastD_cons]
   exact List.mem_cons_of_mem _ (pZ s l)
theorem AV: ∀(r:Rw) (l:List Rw),ru (r::l)->∀ x,x∈ r::l->x=l.getLastD r∨Op.bytesLess x.1 (l.getLastD r).1=true
 | r,[],_,x,hx=>by
   simp only[List.mem_cons,List.not_mem_nil,or_false] at hx
   exact .inl hx
 | r,s::l,h,x,hx=>by
   rw[List.getLastD_cons]
   have h':ru (r::s::l):=h
   unfold ru at h'
   rw[List.pairwise_cons] at h'
   rcases List.mem_cons.1 hx with e | e
   ·subst e
    exact .inr (h'.1 _ (pZ s l))
   ·exact AV s l h'.2 x e
theorem H8 {r:Rw}{l:List Rw}(h:ru (r::l)){x:Rw}(hx:x∈ r::l):Op.bytesLess x.1 r.1=false:=by
 unfold ru at h
 rw[List.pairwise_cons] at h
 rcases List.mem_cons.1 hx with e | e
 ·subst e;exact og _
 ·exact iO _ _ (h.1 x e)
theorem qo {r:Rw}{l:List Rw}(h:ru (r::l)){x:Rw}(hx:x∈ r::l):x.1.take (bH r.1 (l.getLastD r).1)=r.1.take (bH r.1 (l.getLastD r).1):=by
 refine yH _ r.1 x.1 (l.getLastD r).1 (Nat.le_refl _) (H8 h hx) ?_
 rcases AV r l h x hx with e | e
 ·subst e;exact og _
 ·exact iO _ _ e
theorem Bu: ∀(k:Nat) (a b:List UInt8),a.take k=b.take k->k<=a.length->k<=b.length->Op.bytesLess (a.drop k) (b.drop k)=Op.bytesLess a b
 | 0,_,_,_,_,_=>rfl
 | k+1,[],_,_,h,_=>by simp at h
 | k+1,_::_,[],_,_,h=>by simp at h
 | k+1,a::r,b::s,h,h1,h2=>by
   rw[List.take_succ_cons,List.take_succ_cons] at h
   injection h with e h
   subst e
   rw[List.drop_succ_cons,List.drop_succ_cons,Bu k r s h (by simpa using h1) (by simpa using h2)]
   have: ¬ a<a:=UInt8.lt_irrefl _
   simp[Op.bytesLess,this]
theorem xB {α:Type}(f:α->Nat)(n:Nat): ∀(l:List α),l.Pairwise (fun a b=>f a<=f b)->l.filter (fun x=>decide (f x<n))++l.filter (fun x=>!decide (f x<n))=l
 | [],_=>rfl
 | x::l,h=>by
   rw[List.pairwise_cons] at h
   by_cases hx:f x<n
   ·rw[List.filter_cons_of_pos (by simpa using hx),List.filter_cons_of_neg (by simpa using hx),List.cons_append,xB f n l h.2]
   ·have hl: ∀ y,y∈ l->¬ f y<n:=fun y hy=>by have:=h.1 y hy;omega
    rw[List.filter_cons_of_neg (by simpa using hx),List.filter_cons_of_pos (by simpa using hx)]
    rw[List.filter_eq_nil_iff.2 (fun y hy=>by simpa using hl y hy),List.nil_append]
    rw[List.filter_eq_self.2 (fun y hy=>by simpa using hl y hy)]
theorem hJ {α β:Type}{f g:α->List β}: ∀ {l:List α},(∀ i,i∈ l->f i=g i)->l.flatMap f=l.flatMap g
 | [],_=>rfl
 | a::l,h=>by rw[List.flatMap_cons,List.flatMap_cons,h a (List.mem_cons_self ..),hJ fun i hi=>h i (List.mem_cons_of_mem _ hi)]
theorem sY {α:Type}(f:α->Nat): ∀(n:Nat) (l:List α),l.Pairwise (fun a b=>f a<=f b)->(∀ x,x∈ l->f x<n)->(List.range n).flatMap (fun i=>l.filter fun x=>decide (f x=i))=l
 | 0,l,_,h=>by
   cases l with
   | nil=>rfl
   | cons x l=>exact absurd (h x (List.mem_cons_self ..)) (Nat.not_lt_zero _)
 | n+1,l,hp,h=>by
   have hs:=xB f n l hp
   rw[List.range_succ,List.flatMap_append]
   have e1:(List.range n).flatMap (fun i=>l.filter fun x=>decide (f x=i))=l.filter (fun x=>decide (f x<n)):=by
    have hA:=sY f n (l.filter fun x=>decide (f x<n)) (hp.filter _) (fun x hx=>by simpa using (List.mem_filter.1 hx).2)
    rw[← hA]
    have: ∀ i,i∈ List.range n->(l.filter fun x=>decide (f x=i))=(l.filter fun x=>decide (f x<n)).filter fun x=>decide (f x=i):=fun i hi=>by
     rw[List.filter_filter]
     refine List.filter_congr fun x _=> ?_
     have hi:=List.mem_range.1 hi
     by_cases e:f x=i
     ·have:f x<n:=by omega
      rw[decide_eq_true e,decide_eq_true this];rfl
     ·rw[decide_eq_false e];rfl
    rw[hJ this,hA]
   have e2:[n].flatMap (fun i=>l.filter fun x=>decide (f x=i))=l.filter (fun x=>!decide (f x<n)):=by
    simp only[List.flatMap_cons,List.flatMap_nil,List.append_nil]
    refine List.filter_congr fun x hx=> ?_
    have:=h x hx
    by_cases e:f x=n
    ·rw[decide_eq_true e,decide_eq_false (by omega)];rfl
    ·rw[decide_eq_false e,decide_eq_true (by omega)];rfl
   rw[e1,e2,hs]
def iK (p:List UInt8):Nat:=match p with
 | []=>0
 | b::_=>b.toNat+1
theorem OJ: ∀ {a b:List UInt8},Op.bytesLess a b=true->iK a<=iK b
 | [],_,_=>Nat.zero_le _
 | _::_,[],h=>by simp[Op.bytesLess] at h
 | a::r,b::s,h=>by
   simp only[Op.bytesLess,Bool.or_eq_true,decide_eq_true_eq,Bool.and_eq_true,beq_iff_eq] at h
   show a.toNat+1<=b.toNat+1
   rcases h with h | ⟨h,_⟩
   ·have:a.toNat<b.toNat:=UInt8.lt_iff_toNat_lt.1 h
    omega
   ·subst h;exact Nat.le_refl _
theorem mS (i:Nat)(p:List UInt8):jD i p=decide (iK p=i+1):=by
 cases p with
 | nil=>simp[jD,iK]
 | cons b r=>simp[jD,iK]
theorem Hj {l:List Rw}(h:ru l)(hn: ∀ x,x∈ l->iK x.1<17):l.filter (fun x=>decide (iK x.1=0))++(List.range 16).flatMap (fun i=>bx i l)=l:=by
 have hg:=sY (fun x:Rw=>iK x.1) 17 l (h.imp OJ) hn
 have e:(List.range 17).flatMap (fun i=>l.filter fun x=>decide (iK x.1=i))=l.filter (fun x=>decide (iK x.1=0))++(List.range 16).flatMap (fun i=>bx i l):=by
  rw[List.range_succ_eq_map,List.flatMap_cons,List.flatMap_map]
  congr 1
  refine hJ fun i _=> ?_
  unfold bx
  refine List.filter_congr fun x _=> ?_
  rw[mS]
 rw[← e];exact hg
theorem GC (fr to p:List UInt8)(a b:List Rw):iU fr to p (a++b)=iU fr to p a++iU fr to p b:=by
 simp[iU,List.filter_append,List.map_append]
theorem BQ (fr to p:List UInt8)(f:Nat->List Rw): ∀(l:List Nat),iU fr to p (l.flatMap f)=l.flatMap fun i=>iU fr to p (f i)
 | []=>rfl
 | i::l=>by rw[List.flatMap_cons,List.flatMap_cons,GC,BQ fr to p f l]
theorem uA (fr to p q:List UInt8)(k:Nat): ∀(l:List Rw),(∀ x,x∈ l->x.1=q++x.1.drop k)->iU fr to p l=iU fr to (cat p q) (bT k l)
 | [],_=>rfl
 | x::l,h=>by
   have ih:=uA fr to p q k l fun y hy=>h y (List.mem_cons_of_mem _ hy)
   have e:cat (cat p q) (x.1.drop k)=cat p x.1:=by
    show(p++q)++x.1.drop k=p++x.1
    rw[List.append_assoc,← h x (List.mem_cons_self ..)]
   unfold iU bT at ih ⊢
   rw[List.map_cons]
   cases hb:hasB fr to (cat p x.1)with
   | true=>rw[List.filter_cons_of_pos (p:=fun r:Rw=>hasB fr to (cat p r.1)) hb,List.filter_cons_of_pos (p:=fun r:Rw=>hasB fr to (cat (cat p q) r.1)) (show hasB fr to (cat (cat p q) (x.1.drop k))=true by rw[e];exact hb),List.map_cons,List.map_cons,ih,e]
   | false=>rw[List.filter_cons_of_neg (p:=fun r:Rw=>hasB fr to (cat p r.1)) (by simp[hb]),List.filter_cons_of_neg (p:=fun r:Rw=>hasB fr to (cat (cat p q) r.1)) (by simp[e,hb]),ih]
theorem FE (fr to p:List UInt8){l:List Rw}(h:ru l)(hn: ∀ x,x∈ l->iK x.1<17) :
  iU fr to p l=iU fr to p (l.filter fun x=>decide (iK x.1=0))++(List.range 16).flatMap fun i=>iU fr to (cat p [UInt8.ofNat i]) (bT 1 (bx i l)):=by
 conv=>lhs;rw[← Hj h hn]
 rw[GC,BQ]
 congr 1
 refine hJ fun i hi=> ?_
 have hi:=List.mem_range.1 hi
 refine uA fr to p [UInt8.ofNat i] 1 _ fun x hx=> ?_
 have hx:=(List.mem_filter.1 hx).2
 rw[mS,decide_eq_true_eq] at hx
 obtain⟨q,v⟩:=x
 cases q with
 | nil=>cases hx
 | cons b r =>
   have hb:b.toNat=i:=Nat.succ.inj hx
   show b::r=[UInt8.ofNat i]++r
   rw[← hb,UInt8.ofNat_toNat];rfl
theorem O8 (fr to p:List UInt8){r:Rw}{l:List Rw}(h:ru (r::l)) :
  iU fr to p (r::l)=iU fr to (cat p (r.1.take (bH r.1 (l.getLastD r).1))) (bT (bH r.1 (l.getLastD r).1) (r::l)) :=
 uA fr to p _ _ _ fun x hx=>by rw[← qo h hx,List.take_append_drop]
theorem sk {a b:UInt8}{r s:List UInt8}:Op.bytesLess (a::r) (b::s)=false↔b<=a/\(a=b->Op.bytesLess r s=false):=by
 simp only[Op.bytesLess,Bool.or_eq_false_iff,decide_eq_false_iff_not,UInt8.not_lt,Bool.and_eq_false_iff,beq_eq_false_iff_ne]
 constructor
 ·rintro⟨h1,h2⟩
  exact⟨h1,fun e=>h2.resolve_left (fun h=>h e)⟩
 ·rintro⟨h1,h2⟩
  refine⟨h1,?_⟩
  by_cases e:a=b
  ·exact .inr (h2 e)
  ·exact .inl e
theorem vR: ∀(a b c:List UInt8),Op.bytesLess b a=false->Op.bytesLess c b=false->Op.bytesLess c a=false
 | [],_,c,_,_=>by cases c<;>simp[Op.bytesLess]
 | _::_,[],_,h,_=>by simp[Op.bytesLess] at h
 | _::_,_::_,[],_,h=>by simp[Op.bytesLess] at h
 | x::a,y::b,z::c,h1,h2=>by
   rw[sk] at h1 h2 ⊢
   refine⟨UInt8.le_trans h1.1 h2.1,fun e=> ?_⟩
   subst e
   have e:z=y:=UInt8.le_antisymm h1.1 h2.1
   exact vR a b c (h1.2 e.symm) (h2.2 e)
theorem A2: ∀(q r:List UInt8),Op.bytesLess (q++r) q=false
 | [],r=>by cases r<;>simp[Op.bytesLess]
 | a::q,r=>by
   rw[List.cons_append,sk]
   exact⟨UInt8.le_refl _,fun _=>A2 q r⟩
theorem GG: ∀(q r:List UInt8),q.length<=bH q (q++r)
 | [],_=>Nat.zero_le _
 | a::q,r=>by
   rw[List.cons_append]
   unfold bH
   rw[if_pos rfl,List.length_cons]
   have:=GG q r
   omega
theorem FG {a b:List UInt8}(h:(Op.bytesLess a b||decide (a=b))=true):Op.bytesLess b a=false:=by
 rw[Bool.or_eq_true,decide_eq_true_eq] at h
 rcases h with h | h
 ·exact iO _ _ h
 ·subst h;exact og _
theorem Fx: ∀(a b:List UInt8),Op.bytesLess b a=false->(Op.bytesLess a b||decide (a=b))=true
 | [],[],_=>by simp
 | [],_::_,_=>by simp[Op.bytesLess]
 | _::_,[],h=>by simp[Op.bytesLess] at h
 | x::a,y::b,h=>by
   rw[sk] at h
   by_cases e:x=y
   ·subst e
    have:=Fx a b (h.2 rfl)
    rw[Bool.or_eq_true,decide_eq_true_eq] at this ⊢
    rcases this with h1 | h1
    ·left;simp[Op.bytesLess,h1]
    ·right;rw[h1]
   ·rw[Bool.or_eq_true]
    left
    have:x<y:=UInt8.lt_of_le_of_ne h.1 e
    simp[Op.bytesLess,this]
theorem Ma {fr to q r:List UInt8}(h:hasB fr to (q++r)=true):dS fr to q=true:=by
 unfold hasB at h
 rw[Bool.and_eq_true,Bool.not_eq_true'] at h
 obtain⟨h1,h2⟩:=h
 have h3:=FG h2
 have hq:=A2 q r
 unfold dS
 rw[Bool.and_eq_true]
 refine⟨Fx _ _ (vR _ _ _ hq h3),?_⟩
 cases hl:Op.bytesLess q (az fr)with
 | false=>rfl
 | true =>
   have ht:=yH q.length q (az fr) (q++r) (GG q r) (iO _ _ hl) h1
   rw[List.take_length] at ht
   show(false||preB q (az fr))=true
   rw[Bool.false_or]
   unfold preB
   have hl:=congrArg List.length ht
   rw[List.length_take] at hl
   rw[decide_eq_true ht,decide_eq_true (show q.length<=(az fr).length by omega)]
   rfl
theorem Lp {fr to p:List UInt8}(h:dS fr to p=false)(l:List Rw):iU fr to p l=[]:=by
 unfold iU
 rw[List.filter_eq_nil_iff.2]
 ·rfl
 ·intro x _ hx
  have:dS fr to p=true:=Ma (r:=x.1) hx
  rw[h] at this;cases this
structure cW (m:Nat)(l:List Rw):Prop where
 zU:ru l
 len: ∀ x,x∈ l->x.1.length<m
 V2: ∀ x,x∈ l->∀ b,b∈ x.1->b.toNat<16
 val: ∀ x,x∈ l->0<x.2.length/\x.2.length<=80
theorem Ee {m k:Nat}{q:List UInt8}{l:List Rw}(h:cW (m+1) l)(hk:0<k)(hq: ∀ x,x∈ l->k<=x.1.length/\x.1.take k=q):cW m (bT k l):=by
 refine⟨?_,fun x hx=> ?_,fun x hx b hb=> ?_,fun x hx=> ?_⟩
 ·have hr:=h.zU
  unfold ru bT at *
  rw[List.pairwise_map]
  refine List.Pairwise.imp_of_mem (fun {a b} ha hb hab=> ?_) hr
  have h1:=hq a ha
  have h2:=hq b hb
  show Op.bytesLess (a.1.drop k) (b.1.drop k)=true
  rw[Bu k a.1 b.1 (h1.2.trans h2.2.symm) h1.1 h2.1];exact hab
 all_goals
  obtain⟨y,hy,rfl⟩:=List.mem_map.1 hx
 ·have:=h.len y hy
  have:=(hq y hy).1
  show(y.1.drop k).length<m
  rw[List.length_drop];omega
 ·exact h.V2 y hy b (List.mem_of_mem_drop hb)
 ·exact h.val y hy
theorem TG {m:Nat}{l:List Rw}(h:cW m l)(i:Nat):cW m (bx i l):=by
 have hm: ∀ x,x∈ bx i l->x∈ l:=fun x hx=>(List.mem_filter.1 hx).1
 exact⟨h.zU.filter _,fun x hx=>h.len x (hm x hx),fun x hx=>h.V2 x (hm x hx),fun x hx=>h.val x (hm x hx)⟩
theorem cP (r s:Rw)(t:List Rw)(i:Nat):bM (r::s::t) i=if 0<bH r.1 ((s::t).getLastD r).1 then(if i=0 then bT (bH r.1 ((s::t).getLastD r).1) (r::s::t)else [])else bT 1 (bx i (r::s::t)):=rfl
theorem jJ {m:Nat}{l:List Rw}(h:cW (m+1) l)(i:Nat):cW m (bM l i):=by
 have nil:cW m []:=⟨List.Pairwise.nil,(fun x hx=>by cases hx),(fun x hx=>by cases hx),(fun x hx=>by cases hx)⟩
 match l,h with
 | [],_=>exact nil
 | [_],_=>exact nil
 | r::s::t,h =>
   rw[cP]
   split
   ·rename_i hk
    split
    ·refine Ee (q:=r.1.take (bH r.1 ((s::t).getLastD r).1)) h hk fun x hx=> ?_
     have ht:=qo h.zU hx
     refine⟨?_,ht⟩
     have hl:=congrArg List.length ht
     rw[List.length_take,List.length_take] at hl
     have:=(xo r.1 ((s::t).getLastD r).1).1
     omega
    ·exact nil
   ·refine Ee (q:=[UInt8.ofNat i]) (TG h i) (Nat.succ_pos _) fun x hx=> ?_
    have hx:=(List.mem_filter.1 hx).2
    rw[mS,decide_eq_true_eq] at hx
    obtain⟨q,v⟩:=x
    cases q with
    | nil=>cases hx
    | cons b r =>
      have hb:b.toNat=i:=Nat.succ.inj hx
      refine⟨by simp,?_⟩
      show [b]=[UInt8.ofNat i]
      rw[← hb,UInt8.ofNat_toNat]
theorem I9 {r:Rw}{l:List Rw}(h:ru (r::l)):(r::l).filter (fun x=>decide (iK x.1=0))=if r.1=[] then [r] else []:=by
 have hl:l.filter (fun x=>decide (iK x.1=0))=[]:=by
  rw[List.filter_eq_nil_iff]
  intro x hx
  unfold ru at h
  rw[List.pairwise_cons] at h
  have hx:=h.1 x hx
  obtain⟨q,v⟩:=x
  cases q with
  | nil=>simp[Op.bytesLess] at hx
  | cons b q=>simp[iK]
 obtain⟨q,v⟩:=r
 cases q with
 | nil=>rw[List.filter_cons_of_pos (by simp[iK]),hl];rfl
 | cons b q=>rw[List.filter_cons_of_neg (by simp[iK]),hl,if_neg (by simp)]
def TA (fr to p:List UInt8)(x:Nd):List (List UInt8×List UInt8):=if x.v=[] then [] else(if hasB fr to (cat p x.p)=true then [(bF (cat p x.p),x.v)] else [])
theorem GP (fr to p:List UInt8)(r:Rw):iU fr to p [r]=if hasB fr to (cat p r.1)=true then [(bF (cat p r.1),r.2)] else []:=by
 unfold iU
 by_cases h:hasB fr to (cat p r.1)=true
 ·rw[if_pos h,List.filter_cons_of_pos (p:=fun r:Rw=>hasB fr to (cat p r.1)) h];rfl
 ·rw[if_neg h,List.filter_cons_of_neg (p:=fun r:Rw=>hasB fr to (cat p r.1)) h];rfl
theorem zk {α:Type}{f:Nat->List α}: ∀ {l:List Nat},(∀ i,i∈ l->f i=[])->l.flatMap f=[]
 | [],_=>rfl
 | i::l,h=>by rw[List.flatMap_cons,h i (List.mem_cons_self ..),zk fun j hj=>h j (List.mem_cons_of_mem _ hj)];rfl
theorem HH {α:Type}{f:Nat->List α}(h: ∀ i,0<i->f i=[]):(List.range 16).flatMap f=f 0:=by
 rw[List.range_succ_eq_map,List.flatMap_cons,List.flatMap_map,zk fun i _=>h _ (Nat.succ_pos _),List.append_nil]
theorem Mv (fr to p:List UInt8){m:Nat}{l:List Rw}(hl:l≠[])(h:cW (m+1) l) :
  iU fr to p l=TA fr to p (gV (m+1) l)++(List.range 16).flatMap fun i=>iU fr to (pF (gV (m+1) l) p i) (bM l i):=by
 match l,hl,h with
 | [r],_,h =>
   have hv:r.2≠[]:=fun e=>by have:=(h.val r (List.mem_cons_self ..)).1;rw[e] at this;cases this
   rw[zk (f:=fun i=>iU fr to (pF (gV (m+1) [r]) p i) (bM [r] i)) fun i _=>rfl,List.append_nil,GP]
   show _=if r.2=[] then [] else _
   rw[if_neg hv];rfl
 | r::s::t,_,h =>
   by_cases hk:0<bH r.1 ((s::t).getLastD r).1
   ·have hc:gV (m+1) (r::s::t)=⟨2,r.1.take (bH r.1 ((s::t).getLastD r).1),[],ak (if bM (r::s::t) 0=[] then [] else dx (cu (gV m (bM (r::s::t) 0))))⟩:=by
     show fI _ (r::s::t)=_
     unfold fI
     dsimp only
     rw[if_pos hk]
    have h0: ∀ i,0<i->bM (r::s::t) i=[]:=fun i hi=>by rw[cP,if_pos hk,if_neg (by omega)]
    rw[HH (f:=fun i=>iU fr to (pF (gV (m+1) (r::s::t)) p i) (bM (r::s::t) i)) fun i hi=>by rw[h0 i hi];rfl]
    have e0:bM (r::s::t) 0=bT (bH r.1 ((s::t).getLastD r).1) (r::s::t):=by rw[cP,if_pos hk,if_pos rfl]
    rw[hc,e0,O8 fr to p h.zU]
    rfl
   ·have hn: ∀ x,x∈ r::s::t->iK x.1<17:=fun x hx=>by
     have:=h.V2 x hx
     obtain⟨q,v⟩:=x
     cases q with
     | nil=>exact Nat.succ_pos _
     | cons b q =>
       have:=this b (List.mem_cons_self ..)
       show b.toNat+1<17
       omega
    have hc:gV (m+1) (r::s::t)=⟨3,[],if r.1=[] then r.2 else [],aP fun i=>if bM (r::s::t) i=[] then [] else dx (cu (gV m (bM (r::s::t) i)))⟩:=by
     show fI _ (r::s::t)=_
     unfold fI
     dsimp only
     rw[if_neg hk]
    rw[hc,FE fr to p h.zU hn,I9 h.zU]
    have hp:cat p []=p:=by show p++[]=p;rw[List.append_nil]
    congr 1
    ·unfold TA
     dsimp only
     by_cases he:r.1=[]
     ·have hv:r.2≠[]:=fun e=>by have:=(h.val r (List.mem_cons_self ..)).1;rw[e] at this;cases this
      rw[if_pos he,if_pos he,if_neg hv,GP,he]
     ·rw[if_neg he,if_neg he,if_pos rfl];rfl
    ·refine hJ fun i _=> ?_
     rw[cP,if_neg hk]
     unfold pF
     rw[if_pos rfl]
     dsimp only
     rw[hp]
theorem yG {w:Sp}{T:Wk->Nd->List UInt8->Option Wk}{x:Nd}{p:List UInt8}{g:Nat->List (List UInt8×List UInt8)}: ∀ {n:Nat} {s s':Wk},(∀ i,i<n->∀ s1 s2,fF w T x p i s1=some s2->s2.fs=s1.fs++g i)->cU w T x p n s=some s'->s'.fs=s.fs++(List.range n).flatMap g
 | 0,s,s',_,h=>by
   injection h with h;subst h
   simp
 | n+1,s,s',hg,h=>by
   unfold cU at h
   split at h
   ·cases h
   ·rename_i s1 h1
    have e1:=yG (fun i hi=>hg i (by omega)) h1
    have e2:=hg n (Nat.lt_succ_self _) s1 s' h
    rw[e2,e1,List.range_succ,List.flatMap_append,List.append_assoc]
    simp
theorem Oz {w:Sp}{s s':Wk}{t:List UInt8}{y:Nd}(h:gp w s t=some (y,s')):s'.fs=s.fs:=by
 unfold gp at h
 split at h
 ·injection h with h;injection h with _ h;subst h;rfl
 ·split at h
  ·injection h with h;injection h with _ h;subst h;rfl
  ·cases h
def M6 (w:Sp):Nat->List Rw->Prop
 | 0,_=>True
 | m+1,l=>∀ i,i<16->(bM l i=[]->(gV (m+1) l).r i=[])/\(bM l i≠[]->(gV (m+1) l).r i≠[]/\(∀ s y s',gp w s ((gV (m+1) l).r i)=some (y,s')->y=gV m (bM l i))/\M6 w m (bM l i))
theorem Tk {m:Nat}: ∀ {l:List Rw},(gV (m+1) l).v≠[]->∃ x,x∈ l/\(gV (m+1) l).p=x.1
 | [],h=>absurd rfl h
 | [r],_=>⟨r,List.mem_cons_self ..,rfl⟩
 | r::s::t,h=>by
   refine⟨r,List.mem_cons_self ..,?_⟩
   have e:gV (m+1) (r::s::t)=fI (fun l'=>if l'=[] then [] else dx (cu (gV m l'))) (r::s::t):=rfl
   rw[e] at h ⊢
   unfold fI at h ⊢
   dsimp only at h ⊢
   split at h
   ·exact absurd rfl h
   ·rename_i hk
    rw[if_neg hk]
    dsimp only at h ⊢
    by_cases he:r.1=[]
    ·exact he.symm
    ·rw[if_neg he] at h;exact absurd rfl h
theorem SM {w:Sp}{m:Nat}{l:List Rw}{p:List UInt8}(s:Wk)(hk: ∀ x,x∈ l->nU (cat p x.1)=true):(s.qE w (gV (m+1) l) p).fs=s.fs++TA w.fr w.to p (gV (m+1) l):=by
 show(if jt w (gV (m+1) l) p=true then s.fs++[(bF (cat p (gV (m+1) l).p),(gV (m+1) l).v)] else s.fs)=_
 unfold jt TA
 by_cases hv:(gV (m+1) l).v=[]
 ·rw[if_pos hv,decide_eq_true hv];simp
 ·obtain⟨x,hx,e⟩:=Tk hv
  rw[if_neg hv,decide_eq_false hv,e,hk x hx]
  by_cases hb:hasB w.fr w.to (cat p x.1)=true
  ·rw[if_pos hb,hb];rfl
  ·have:hasB w.fr w.to (cat p x.1)=false:=by simpa using hb
   rw[if_neg hb,this];simp
theorem OQ {m:Nat}{l:List Rw}{p:List UInt8}{i:Nat}(h:cW (m+1) l){x:Rw}(hx:x∈ bM l i): ∃ y,y∈ l/\cat (pF (gV (m+1) l) p i) x.1=cat p y.1:=by
 match l,h with
 | [],_=>cases hx
 | [_],_=>cases hx
 | r::s::t,h =>
   have e:gV (m+1) (r::s::t)=fI (fun l'=>if l'=[] then [] else dx (cu (gV m l'))) (r::s::t):=rfl
   rw[cP] at hx
   rw[e]
   unfold fI
   dsimp only
   split at hx
   ·rename_i hk
    rw[if_pos hk]
    split at hx
    ·obtain⟨y,hy,rfl⟩:=List.mem_map.1 hx
     refine⟨y,hy,?_⟩
     show(p++r.1.take (bH r.1 ((s::t).getLastD r).1))++y.1.drop (bH r.1 ((s::t).getLastD r).1)=p++y.1
     rw[← qo h.zU hy,List.append_assoc,List.take_append_drop]
    ·cases hx
   ·rename_i hk
    rw[if_neg hk]
    obtain⟨y,hy,rfl⟩:=List.mem_map.1 hx
    refine⟨y,(List.mem_filter.1 hy).1,?_⟩
    have hy:=(List.mem_filter.1 hy).2
    rw[mS,decide_eq_true_eq] at hy
    obtain⟨q,v⟩:=y
    cases q with
    | nil=>cases hy
    | cons b q =>
      have hb:b.toNat=i:=Nat.succ.inj hy
      show((p++[])++[UInt8.ofNat i])++q=p++b::q
      rw[← hb,UInt8.ofNat_toNat]
      simp
theorem JM {w:Sp}: ∀ {j m:Nat} {l:List Rw} {p:List UInt8} {s s':Wk},cW m l->l≠[]->M6 w m l->(∀ x,x∈ l->nU (cat p x.1)=true)->oO w j s (gV m l) p=some s'->s'.fs=s.fs++iU w.fr w.to p l
 | 0,_,_,_,_,_,_,_,_,_,h=>by cases h
 | j+1,0,l,p,s,s',hr,hl,_,_,_=>by
   cases l with
   | nil=>exact absurd rfl hl
   | cons x l=>exact absurd (hr.len x (List.mem_cons_self ..)) (Nat.not_lt_zero _)
 | j+1,m+1,l,p,s,s',hr,hl,hL,hk,h=>by
   unfold oO at h
   split at h
   ·cases h
   have:=yG (g:=fun i=>iU w.fr w.to (pF (gV (m+1) l) p i) (bM l i)) ?_ h
   ·rw[this,SM s hk,Mv w.fr w.to p hl hr,List.append_assoc]
   intro i hi s1 s2 hs
   obtain⟨L1,L2⟩:=hL i hi
   unfold fF at hs
   by_cases he:bM l i=[]
   ·rw[if_pos (L1 he)] at hs
    injection hs with hs;subst hs
    rw[he];simp[iU]
   ·obtain⟨L2,L3,L4⟩:=L2 he
    rw[if_neg L2] at hs
    cases hm:dS w.fr w.to (pF (gV (m+1) l) p i)with
    | false =>
      rw[hm] at hs
      injection hs with hs;subst hs
      rw[Lp hm,List.append_nil]
    | true =>
      rw[hm,cond_true] at hs
      split at hs
      ·cases hs
      ·rename_i y s3 hf
       have hy:=L3 _ _ _ hf
       subst hy
       rw[JM (jJ hr i) he L4 (fun x hx=>by obtain⟨z,hz,e⟩:=OQ (p:=p) hr hx;rw[e];exact hk z hz) hs,Oz hf]
theorem Xz: ∀ a,a<16->∀ b,b<16->(a*16% 256) ||| b=a*16+b:=by decide
theorem J4 {a b:Int}(ha:0<=a/\a<=15)(hb:0<=b/\b<=15):bitsOf .or (a*16% 256) b=a*16+b:=by
 obtain⟨x,rfl⟩:=Int.eq_ofNat_of_zero_le ha.1
 obtain⟨y,rfl⟩:=Int.eq_ofNat_of_zero_le hb.1
 have:=Xz x (by omega) y (by omega)
 show(((((x:Int)*16% 256).toNat ||| ((y:Int)).toNat:Nat):Int))=_
 rw[show((x:Int)*16% 256).toNat=x*16% 256 by omega,Int.toNat_natCast,this]
 push_cast;rfl
theorem AK {f:Nat->Int}{n j:Nat}(h:j<n)(h0:0<=f j/\f j<256):ai (cO f 0 n) (j:Int)=f j:=by
 unfold ai cO
 rw[List.getD_eq_getElem?_getD,Int.toNat_natCast,List.getElem?_map,List.getElem?_range h]
 simp only[Option.map_some,Option.getD_some,Nat.zero_add]
 rw[UInt8.toNat_ofNat']
 omega
theorem Ig (q:List UInt8)(j:Nat)(h:j<q.length):q[j]?=some (UInt8.ofNat (ai q (j:Int)).toNat):=by
 unfold ai
 simp[List.getD_eq_getElem?_getD,List.getElem?_eq_getElem h]
theorem yz {q:List UInt8}{m:Nat}(hm:q.length=2*m)(hq: ∀ j:Nat,j<q.length->ai q (j:Int)<=15):az (bF q)=q:=by
 have hnn: ∀ i,0<=ai q i:=fun i=>(dG q i).1
 have hl:(bF q).length=m:=by rw[xz,hm];omega
 have hpair: ∀ i:Nat,i<m->ai (bF q) (i:Int)=ai q ((2*i:Nat):Int)*16+ai q ((2*i+1:Nat):Int):=fun i hi=>by
  have h1:=hq (2*i) (by omega)
  have h2:=hq (2*i+1) (by omega)
  have h3:=hnn ((2*i:Nat):Int)
  have h4:=hnn ((2*i+1:Nat):Int)
  have e:gb q i=ai q ((2*i:Nat):Int)*16+ai q ((2*i+1:Nat):Int):=by
   unfold gb
   rw[show(2*(i:Int))=((2*i:Nat):Int)by push_cast;rfl,show(((2*i:Nat):Int)+1)=((2*i+1:Nat):Int)by push_cast;rfl]
   exact J4 ⟨h3,h1⟩ ⟨h4,h2⟩
  unfold bF
  rw[AK (by rw[hm];omega) (by rw[e];omega),e]
 apply List.ext_getElem?
 intro j
 by_cases hj:j<q.length
 ·rw[Ig q j hj]
  unfold az cO
  rw[List.getElem?_map,List.getElem?_range (by rw[hl];omega)]
  simp only[Option.map_some,Nat.zero_add,Option.some.injEq]
  congr 2
  obtain⟨i,hi⟩: ∃ i,j=2*i∨j=2*i+1:=⟨j / 2,by omega⟩
  have hp:=hpair i (by omega)
  have h1:=hq (2*i) (by omega)
  have h2:=hq (2*i+1) (by omega)
  have h3:=hnn ((2*i:Nat):Int)
  have h4:=hnn ((2*i+1:Nat):Int)
  unfold jw
  rcases hi with rfl | rfl
  ·rw[if_pos (by omega),show(((2*i:Nat):Int) / 2)=(i:Int)by omega,hp]
   omega
  ·rw[if_neg (by omega),show(((2*i+1:Nat):Int) / 2)=(i:Int)by omega,hp]
   omega
 ·rw[List.getElem?_eq_none (by rw[pW,hl];omega),List.getElem?_eq_none (by omega)]
theorem Ui {p:List UInt8}(h:fB p=true)(j:Nat)(hj:j<p.length):ai p (j:Int)<=15:=by
 have:=List.all_eq_true.1 h j (List.mem_range.2 hj)
 unfold CY at this
 simp only[Bool.not_eq_true',decide_eq_false_iff_not] at this
 omega
theorem bL (b:UInt8)(l:List UInt8)(j:Nat):ai (b::l) ((j+1:Nat):Int)=ai l (j:Int):=by
 unfold ai
 rw[Int.toNat_natCast,Int.toNat_natCast];rfl
theorem BD {p:List UInt8}(h:fB p=true)(leaf:Bool):eC (cZ p leaf)=true/\c8 (cZ p leaf)=leaf/\cV (cZ p leaf)=p:=by
 have hp:=Ui h
 cases ho:decide ((p.length:Int)% 2=1)with
 | true =>
   have ho':(p.length:Int)% 2=1:=of_decide_eq_true ho
   have hflag:e9 leaf true<=3/\0<=e9 leaf true/\e9 leaf true% 2=1/\(2<=e9 leaf true↔leaf=true):=by cases leaf<;>decide
   have e:az (cZ p leaf)=UInt8.ofNat (e9 leaf true).toNat::p:=by
    unfold cZ
    rw[ho]
    refine yz (m:=(p.length+1) / 2) (by simp only[cond_true,List.length_cons];omega) fun j hj=> ?_
    cases j with
    | zero =>
      show((UInt8.ofNat (e9 leaf true).toNat).toNat:Int)<=15
      rw[UInt8.toNat_ofNat'];omega
    | succ j =>
      rw[bL]
      exact hp j (by simpa using hj)
   have e0:ai (az (cZ p leaf)) 0=e9 leaf true:=by
    rw[e]
    show((UInt8.ofNat (e9 leaf true).toNat).toNat:Int)=_
    rw[UInt8.toNat_ofNat'];omega
   refine⟨sO.2 ⟨by rw[e];simp,by rw[e0];omega,.inl (by rw[e0];omega)⟩,?_,?_⟩
   ·unfold c8
    rw[e0]
    cases leaf<;>rfl
   ·unfold cV
    rw[e0,if_pos hflag.2.2.1,e];rfl
 | false =>
   have ho': ¬ (p.length:Int)% 2=1:=of_decide_eq_false ho
   have hflag:e9 leaf false<=3/\0<=e9 leaf false/\¬ e9 leaf false% 2=1/\(2<=e9 leaf false↔leaf=true):=by cases leaf<;>decide
   have e:az (cZ p leaf)=UInt8.ofNat (e9 leaf false).toNat::0::p:=by
    unfold cZ
    rw[ho]
    refine yz (m:=(p.length+2) / 2) (by simp only[cond_false,List.length_cons];omega) fun j hj=> ?_
    cases j with
    | zero =>
      show((UInt8.ofNat (e9 leaf false).toNat).toNat:Int)<=15
      rw[UInt8.toNat_ofNat'];omega
    | succ j =>
      rw[bL]
      cases j with
      | zero=>show((0:UInt8).toNat:Int)<=15;decide
      | succ j =>
        simp only[cond_false]
        rw[bL]
        exact hp j (by simpa using hj)
   have e0:ai (az (cZ p leaf)) 0=e9 leaf false:=by
    rw[e]
    show((UInt8.ofNat (e9 leaf false).toNat).toNat:Int)=_
    rw[UInt8.toNat_ofNat'];omega
   refine⟨sO.2 ⟨by rw[e];simp,by rw[e0];omega,.inr (by rw[e];rfl)⟩,?_,?_⟩
   ·unfold c8
    rw[e0]
    cases leaf<;>rfl
   ·unfold cV
    rw[e0,if_neg hflag.2.2.1,e];rfl
end Go.Proofs.YtoibaecagklkaaaGreatDoor
