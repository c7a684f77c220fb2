/-
  Conditions that the executor computes, written out by a program (vcgen.py).
-/
import Derived.Test.YtpaaiebohjjieaaGreatDoorMi
import Derived.Test.YtpaaiebohjjieaaGreatDoorMj
import Derived.Test.YtpaaiebohjjieaaGreatDoorMk
import Derived.Test.YtpaaiebohjjieaaGreatDoorMm
import Derived.Test.YtpaaiebohjjieaaGreatDoorMn
import Derived.Test.YtpaaiebohjjieaaGreatDoorMo
import Derived.Test.YtpaaiebohjjieaaGreatDoorMl
namespace Go.Proofs.YtpaaiebohjjieaaGreatDoor
open Go Sx
set_option maxRecDepth 20000
section
variable (n : Nat) (y : Nat × Nat) (x : BW × List UInt8) (z : List (List UInt8 × List UInt8))
abbrev pJ:=aa x.2
abbrev ju:=getD x.2
abbrev agY:=jX (aF (SV.str true (110::111::32::mV List.nil 114 101 102 58)) (ax x.2) List.nil) 378
abbrev Gd:List (List UInt8):=if Wk.used (fB x) (pJ x)=0 then(fB x).ns++[Sp.at (e9 x) (pJ x)] else(fB x).ns
abbrev Ka:=SB.view (e9 x).z (e9 x).o (uP x) (bD (e9 x).f)
abbrev T7:=iX (n6 (fB x).ud x.2) (w5 (fB x).us x.2 (Wk.used (fB x) x.2+1))
abbrev Ui:=iX (fB x).ud (fB x).us
abbrev Kg:=Wk.take (e9 x) (fB x) (pJ x)
abbrev lS:=List.getD z n (List.nil,List.nil)
abbrev Gt:=eC (kC x) (y.2*2) 38 (cU (fun a=>(lS a (fB x).fs).1) (bD (fun a=>(lS a (fB x).fs).2)))
abbrev Us:=cq (AG x) y.1 1 9 (bD (fun a=>c9 a (T1 x)))
abbrev Kq:=eY (List.length (Gd x)) y.1 (kC x) y
abbrev Kw:=eY (iR x) y.1 (kC x) y
abbrev aal:=kG (Sp.Ok (e9 x)) (Wk.Small (fB x)) (bT (iR x) (pK x) (kC x<=sU x))
end
theorem Yb (x:BW×List UInt8):VC.holds (runM Yx 198 Tryz.f198 uV x)=((fun(a:SV)=>(fun(b:SB)=>aS (Gz x.2) (Bk (cG x.2) (∃(a:Nat×Nat),Kw a x/\bl (∀(a:Nat->Nat),rW (ju x) a=rU (ju x) a) jY (Er (nG x)) (Er (nH x)) aW aW (ak aW (Er (iR x)) (pK x=a.1)) True (kJ (Er (nE x)) (N7 a x) True (Sr (Rg (fB x))) (qv a.1 (N9 x) (fB x)) (oo a.2 (Ko x) (fB x)) (Sr At) (wH b) (nB x))) (iH x.2 (Bk (hJ (e9 x) (pJ x)) (∃(a:Nat×Nat),Kq a x/\bl (∀(a:Nat->Nat),rW (ju x) a=rU (getD (Sp.at (e9 x) (pJ x))) a) jY (Er (nG x)) (Er (nH x)) aW aW (dn (iR x) (List.length (Gd x)) (pK x) a.1) True (kJ (Er (nE x)) (N7 a x) True (mW (Ui x) (Kg x)) (qv a.1 (N9 x) (Kg x)) (oo a.2 (Ko x) (Kg x)) (Sr At) (wH b) (nB x))) (∃(_:List UInt8×List UInt8),False)) (∃(_:List UInt8×List UInt8),False))) (aS (dj x.2) (∃(c:BW×List UInt8),gp (aal c) aW (pJ x=c.2) jY (nG x=nG c) (bl (nH x=nH c) aW aW (dn (iR x) (iR c) (pK x) (pK c)) True (nE x=nE c) (dn (kC x) (kC c) (sU x) (sU c)) True (bl (mW (Ui x) (fB c)) (qv (pK c) (N9 x) (fB c)) (oo (sU c) (Ko x) (fB c)) kH (af (nB x) (nB c)) kH (aI ((e9 x).z=(e9 c).z) ((e9 x).o=(e9 c).o) aW (uP x=uP c) ((e9 x).c=(e9 c).c)) (af (Ka x) (Ka c)) (Bk (hJ (e9 c) c.2) (∀(a:Nat×Nat),Dc a c->Bk (cG x.2) (∃(d:Nat×Nat),ak (Kw d x) (∀(a:Nat->Nat),rW (Gs c) a=rU (ju x) a) (bl jY (nG c=nG x) (nH c=nH x) aW aW (dn (AG c) (iR x) a.1 d.1) True (nE c=nE x) (bl (dn (kC c) (kC x) a.2 d.2) True (mW (T7 c) (fB x)) (qv d.1 (Us a c) (fB x)) (oo d.2 (Gt a c) (fB x)) (Sr At) (af (nB c) (nB x)) (af (J8 c) b) True))) (iH x.2 (Bk (hJ (e9 x) (pJ x)) (∃(d:Nat×Nat),ak (Kq d x) (∀(a:Nat->Nat),rW (Gs c) a=rU (getD (Sp.at (e9 x) (pJ x))) a) (bl jY (nG c=nG x) (nH c=nH x) aW aW (dn (AG c) (List.length (Gd x)) a.1 d.1) True (nE c=nE x) (bl (dn (kC c) (kC x) a.2 d.2) True (mW (T7 c) (Kg x)) (qv d.1 (Us a c) (Kg x)) (oo d.2 (Gt a c) (Kg x)) (Sr At) (af (nB c) (nB x)) (af (J8 c) b) True))) (∃(_:List UInt8×List UInt8),False)) (∃(_:List UInt8×List UInt8),False))) (∀(b:List UInt8×List UInt8),Bk (cG x.2) (∃(a:Nat×Nat),Kw a x/\False) (iH x.2 (Bk (hJ (e9 x) (pJ x)) (∃(a:Nat×Nat),Kq a x/\False) (∃(c:List UInt8×List UInt8),cZ (Ao a) aW True (De b) (De c))) (∃(c:List UInt8×List UInt8),cZ (Ao a) aW True (De b) (De c)))))))) (Bk (cG x.2) (∃(a:Nat×Nat),Kw a x/\False) (iH x.2 (Bk (hJ (e9 x) (pJ x)) (∃(a:Nat×Nat),Kq a x/\False) (∃(b:List UInt8×List UInt8),cZ (Ao a) aW True (agY x) (De b))) (∃(b:List UInt8×List UInt8),cZ (Ao a) aW True (agY x) (De b)))) (eA x.2)) (cG x.2)) (J8 x)) lQ):=by kernel_rfl
section
attribute [local irreducible] ey getD cG eA aa hJ
theorem K3 {x:BW×List UInt8}(hw:x.1.w.Ok)(hs:x.1.s.Small)(hc:x.1.s.ns.length<=x.1.c1/\x.1.s.fs.length<=x.1.c2)(ht:x.2.length<9223372036854775808) :
  aq (runM Yx 198 Tryz.f198 uV x):=by
 refine aq.j7 (Yb x) (by delta Bk Sr Er NI cn aF bx ak jX cR aI aL kG ax cr aS dj eC cU bD aW bT dn cq kH cB eY gp bl cZ iH aD gj c9 ja zY c6 wH lQ mV kJ Gz lp rW rU Ao fB e9 De At sU pK T1 lR kC iX nB uP J8 AI nE mW nG nH Gs iR Ko AG Dc N7 N9 oo qv jY pJ ju agY Gd Ka T7 Ui Kg lS Gt Us Kq Kw aal;exact rfl) ?_;obtain⟨⟨w,s,c1,c2⟩,t⟩:=x;dsimp only at hw hs hc ht ⊢;have hr:Rel 9223372036854775808 t:=⟨.inl ht,ht⟩
 have ez:=apv.zero;have done: ∀ {p q:Nat},s.ns.length<=c1->s.fs.length<=c2->p=c1->q=c2->s.ns.length<=p/\s.fs.length<=q:=fun a b c d=>by subst c;subst d;exact⟨a,b⟩
 cases h1:cG t<;>cases h2:eA t<;>cases h3:hJ w (aa t)
 all_goals simp only[hr,ht,Bool.false_eq_true,Bool.true_eq_false,false_imp_iff,forall_const,true_and,and_true]
 all_goals first
  | exact⟨(_,_),ez,Cl⟩
  | refine⟨(⟨w,s,c1,c2⟩,aa t),?_⟩
  | refine⟨(c1,c2),?_⟩
 all_goals simp only[h3,hw,hs,hc,Bool.false_eq_true,Bool.true_eq_false,false_imp_iff,forall_const,true_and,and_true]
 all_goals
  repeat' first
   | exact af.refl _
   | refine And.intro ?_ ?_
   | exact fun _=>rfl
   | (intro (y:List UInt8×List UInt8);exact⟨y,ez,af.refl _⟩)
   | (intro (y:Nat×Nat) hy;refine⟨y,hy,?_⟩)
   | rfl
   | exact trivial
   | fail
end
end Go.Proofs.YtpaaiebohjjieaaGreatDoor
namespace Go.Proofs.YtpaaiebohjjieaaGreatDoor
open Go Sx
set_option maxRecDepth 20000
theorem U1:au Tryz.prog 198 (kj uV) :=vF (n:=20) (fn:=Tryz.f198) Tryz.func198 (by kernel_rfl) (by kernel_rfl) uV fun x hx=>⟨Yx,an6,rfl,K3 hx.1 hx.2.1 hx.2.2.1 hx.2.2.2⟩
def va (x:Nd)(p:List UInt8)(i:Nat):List UInt8:=if x.k=3 then cat (cat p x.p) [UInt8.ofNat i] else cat p x.p
def BL (w:Sp)(x:Nd)(p:List UInt8):Bool:=!decide (x.v=[])&&(hasB w.fr w.to (cat p x.p)&&Cs (cat p x.p))
def Wk.GJ (w:Sp)(s:Wk)(x:Nd)(p:List UInt8):Wk:={s with lk:=s.lk+1,fs:=if BL w x p=true then s.fs++[(dJ (cat p x.p),x.v)] else s.fs}
def l7 (w:Sp)(s:Wk)(t:List UInt8):Option (Nd×Wk):=if cG t=true then some (getD t,s)else if(eA t&&hJ w (aa t))=true then some (getD (w.at (aa t)),s.take w (aa t))else none
def jZ (w:Sp)(T:Wk->Nd->List UInt8->Option Wk)(x:Nd)(p:List UInt8)(i:Nat)(s:Wk):Option Wk :=
 if x.r i=[] then some s else bif eo w.fr w.to (va x p i)then(match l7 w s (x.r i)with
  | none=>none
  | some (y,s')=>T s' y (va x p i))else some s
def fz (w:Sp)(T:Wk->Nd->List UInt8->Option Wk)(x:Nd)(p:List UInt8):Nat->Wk->Option Wk
 | 0,s=>some s
 | i+1,s=>match fz w T x p i s with
   | none=>none
   | some s'=>jZ w T x p i s'
def z6 (w:Sp):Nat->Wk->Nd->List UInt8->Option Wk
 | 0,_,_,_=>none
 | m+1,s,x,p=>if 400<=s.lk then none else fz w (z6 w m) x p 16 (s.GJ w x p)
def tI (w:Sp)(m:Nat)(s:Wk)(x:Nd)(p:List UInt8):Bool:=(z6 w m s x p).isSome
def yO (w:Sp)(m:Nat)(s:Wk)(x:Nd)(p:List UInt8):Wk:=match z6 w m s x p with
 | some s'=>s'
 | none=>s
structure Wk.Fit (s:Wk)(k:Nat):Prop where
 u: ∀ h,0<=s.used h/\s.used h<=k
 ns:s.ns.length<=k
 fs:s.fs.length<=s.lk
 lk:s.lk<=400
def Vc (m:Nat):qB:=snC (Nd×List UInt8) (fun y=>[y.1.sv,.str false y.2]) (fun g y=>g.s.Fit (g.s.lk+1)/\401<=g.s.lk+m/\y.1.z8/\y.2.length<=13*g.s.lk) fun g y=>.fork (tI g.w m g.s y.1 y.2) fun b=>match b with
 | true=>aoZ .aZ g.w (yO g.w m g.s y.1 y.2)
 | false=>XM fun v=>v
def alj (st:Sx.St):List Nat:=match st.m.get 0 with
 | some (.cells [_,_,_,_,.bI kn _ _ _ _ _,_,.bI kf _ _ _ _ _] _ _)=>[kn,kf]
 | _=>[]
def aku (g:BW)(x:Nd)(p:List UInt8):bp :={α:=Nat,pre:=fun _ c2=>(g.s.GJ g.w x p).fs.length<=c2,sM:=fun _ _=>0,fresh:=1,slots:=fun _ _=>[],mem:=fun st c2=>[(0,adm g.w (g.s.GJ g.w x p) 2 st.nx g.c1 c2),(st.nx,IC (g.s.GJ g.w x p) c2)],drop:=fun _=>[3]}
def adA (m:Nat)(g:BW)(x:Nd)(p:List UInt8):bp :=
 {α:=Nat×Wk×Nat×Nat,pre:=fun _ y=>y.1<=16/\fz g.w (z6 g.w m) x p y.1 (g.s.GJ g.w x p)=some y.2.1/\y.2.1.ns.length<=y.2.2.1/\y.2.1.fs.length<=y.2.2.2,sM:=fun _ y=>16 - y.1,fresh:=2,slots:=fun _ y=>[(10,.int .i64 false y.1)],
  mem:=fun st y=>[(0,adm g.w y.2.1 st.nx (st.nx+1) y.2.2.1 y.2.2.2),(1,Rg y.2.1),(st.nx,G5 y.2.1 y.2.2.1),(st.nx+1,IC y.2.1 y.2.2.2)],drop:=alj}
def aod (x:Nd)(p:List UInt8)(i:Nat):bp :={α:=Unit,pre:=fun _ _=>True,sM:=fun _ _=>0,fresh:=0,slots:=fun _ _=>[(7,.str false (va x p i))],mem:=fun _ _=>[]}
def afn (x:Nd)(p:List UInt8)(st:Sx.St):Option q9:=match slot st.tmps 10 with
 | some (.int _ _ i)=>some (one (aod x p i.toNat))
 | _=>none
noncomputable def Qg (m:Nat):List (FuncId×PT):=(140,kj (Vc m))::(198,kj uV)::Qf
noncomputable def aek (m:Nat)(g:BW)(x:Nd)(p:List UInt8):gF:={cF with cM:=fun f=>aA f (Qg m),aR:=fun f=>if f=254 then [(1,always (adA m g x p)),(105007,afn x p)] else if f=140 then [(104009,always (aku g x p))] else []}
section
variable (n m : Nat) (s : List UInt8) (B D E G K h o : SB) (f : Nat × Nat) (g : Nd) (x : BW × Nd × List UInt8) (A : BW × List UInt8) (y : Nat × Wk × Nat × Nat) (z : Loop) (C : Wk)
abbrev yx:=x.1.w
abbrev wT:=x.1.s
abbrev ahV:List (List UInt8×List UInt8):=[(dJ (cat x.2.2 x.2.1.p),x.2.1.v)]
abbrev ahl:=List.length (if dZ (BL (yx x) x.2.1 x.2.2)then(wT x).fs++ahV x else(wT x).fs)
abbrev lT:=List.length C.ns
abbrev Ke:=(wT x).fs
abbrev ak3:=∃(a:Nat),bT (ahl x) a (aI jY (Er (yx x).fr) (Er (yx x).to) aW (kJ aW (ak aW (Er (lT (wT x))) (Er x.1.c1)) True (AI (wT x)+1=NI (aP (wT x).lk)) (dn (List.length (Ke x)) (ahl x) x.1.c2 a) True (oo a (cq (List.length (Ke x)) x.1.c2 2 38 (gN (Ke x)::cB (gO (Ke x)))) (Wk.GJ (yx x) (wT x) x.2.1 x.2.2)) (kJ (Sr D) (Sr E) (Sr (Rg (wT x))) (Sr (G5 (wT x) x.1.c1)) (Sr G) (Sr (iX (yx x).ad (yx x).ag)) (Sr K) True (Sp.view (yx x))) B))
abbrev TZ:List (List UInt8×List UInt8):=if dZ (BL (yx x) x.2.1 x.2.2)then Ke x++ahV x else Ke x
abbrev iz:=yx x
abbrev kD:=wT x
abbrev kV:=x.2.1
abbrev ku:=x.2.2
abbrev x9:=lR y.2.1
abbrev ya:=lT y.2.1
abbrev nA:=y.2.1
abbrev lM:=NI y.1
abbrev iQ:=y.2.2
abbrev rN:=x.1.c1
abbrev wJ:=x.1.c2
abbrev uC:=iX (iz x).ad (iz x).ag
abbrev aak:=tI (iz x) (aP n) (kD x) (kV x) (ku x)
abbrev Ku:=yO (iz x) (aP n) (kD x) (kV x) (ku x)
abbrev T2:=∀(a:List UInt8×List UInt8),Bk (aak n x) (∃(a:Nat×Nat),eY (lT (Ku n x)) a.1 (lR (Ku n x)) a/\False) (∃(b:List UInt8×List UInt8),ak aW (af (De a) (De b)) True)
abbrev k5:=yO (iz x) n (kD x) (kV x) (ku x)
abbrev J5:=gK y.1 16 (fz (iz x) (z6 (iz x) n) (kV x) (ku x) y.1 (Wk.GJ (iz x) (kD x) (kV x) (ku x))=some (nA y)) (eY (lT y.2.1) y.2.2.1 (lR y.2.1) y.2.2)
abbrev J6:=yO (iz x) (aP n) (kD x) (kV x) (ku x)
abbrev Gf:=SB.view (iz x).z (iz x).o (iz x).n (bD (iz x).f)
abbrev nI:=(kV x).r n
abbrev ahb:=lZ (fU (nI 0 x) (nI 1 x) (nI 2 x) (nI 3 x) (nI 4 x) (nI 5 x) (nI 6 x) (nI 7 x) (fU (nI 8 x) (nI 9 x) (nI 10 x) (nI 11 x) (nI 12 x) (nI 13 x) (nI 14 x) (nI 15 x) List.nil)) (Int.toNat (lM y))
abbrev nD:=lR (kD x)
abbrev T6:=aI ((e9 A).z=(iz x).z) ((e9 A).o=(iz x).o) aW (uP A=(iz x).n) ((e9 A).c=(iz x).c)
abbrev ZO:=cR 1 (lp 7 (iz x).o 0 (iz x).n (iz x).c (iz x).z) List.nil 28
abbrev yj:=lT (kD x)
abbrev Ub:=iX (nA y).ud (nA y).us
abbrev Uc:=c6 (Sr (Sp.view (iz x)))
abbrev ym:=(kD x).lk
abbrev AA:=AI (nA y)
abbrev mR:=(iz x).fr
abbrev mS:=(iz x).to
abbrev Gn:=cat (ku x) (kV x).p
abbrev NZ:=va (kV x) (ku x) (Int.toNat (lM y))
abbrev Gp:=IC (nA y) (iQ y).2
abbrev Gq:=G5 (nA y) (iQ y).1
abbrev N4:=ak (oG z) (Sr B) (kJ (Sr D) (Sr E) (Sr G) (Sr K) (Sr E) (Sr h) (Sr (uC x)) (Uc x) o)
abbrev ahE:=ak (Sp.Ok (iz x)) (Wk.Small (kD x)) (aI (bT (yj x) (rN x) (nD x<=wJ x)) (Wk.Fit (kD x) (aP (ym x))) (401<=ym x+n) (Nd.z8 (kV x)) (List.length (ku x)<=13*ym x))
abbrev ahI:=eC (lR (k5 n x)) (f.2*2) 38 (cU (fun a=>(lS a (k5 n x).fs).1) (bD (fun a=>(lS a (k5 n x).fs).2)))
abbrev AF:=NI (ym x)
abbrev cV:=g.r n=nI m x
abbrev pR:=List.length s<=1000
end
theorem Vm (m:Nat)(x:BW×Nd×List UInt8):VC.holds (runM (aek m x.1 x.2.1 x.2.2) 140 Tryz.f140 (Vc (m+1)) x)=((fun(a:SB)=>(fun(b:SB)=>(fun(c:SB)=>(fun(d:SB)=>(fun(e:SB)=>(fun(f:BW×List UInt8->Nd)=>(fun(g:SB)=>(fun(h:SB)=>(fun(i:SB)=>(fun(j:Nat×Wk×Nat×Nat->SB)=>(fun(k:Nat×Wk×Nat×Nat->SB)=>Fk (400<=AF x) (Bk (aak m x) (∃(a:Nat×Nat),eY (lT (Ku m x)) a.1 (lR (Ku m x)) a/\False) (∃(a:List UInt8×List UInt8),ak aW (bH 2 (De a) (aF (SV.str true (116::111::mV (mV (mV List.nil 111 100 101 115) 110 121 32 110) 111 32 109 97)) cn List.nil) 378) True)) (ak (I6 (AF x+1)) (cH (eI (bh (ku x)+bh (kV x).p)) (aS (pR (mR x)/\pR (mS x)) (aS (dS (Gn x)) (gp (dK i) (dK b) (dK b) (fW (cI (nD x) (nD x)) (jd (2*aP (nD x)*32)) (cr (aP (nD x)))) (Er (wJ x*2)) (∀(d:Nat),aX (aP (nD x)) d (dK b/\(∃(f:Nat),aI (List.length (TZ x)<=f) jY (Er (mR x)) (Er (mS x)) (bl aW aW (ak aW (Er (yj x)) (Er (rN x))) True (AF x+1=NI (aP (ym x))) (dn (aP (nD x)) (List.length (TZ x)) d f) True (oo f (cq (aP (nD x)) d 2 38 (cU (fun a=>iT a (nD x) (lS a (kD x).fs).1 (iW (a - nD x) (dJ (Gn x)))) (bD (fun a=>iT a (nD x) (lS a (kD x).fs).2 (iW (a - nD x) (kV x).v))))) (Wk.GJ (iz x) (kD x) (kV x) (ku x))) (kJ (Sr e) (Sr c) (Sr b) (Sr (Rg (kD x))) (Sr (G5 (kD x) (rN x))) (Sr h) (Sr (uC x)) (Uc x) a)))))) (ak3 e c b h a x) (Cs (Gn x))) (ak3 e c b h a x) (hasB (mR x) (mS x) (Gn x))) (ak3 e c b h a x) (dX (kV x).v)) (∀(i:Nat),aX (List.length (TZ x)) i (∀(l:Loop),(∃(f:Nat×Wk×Nat×Nat),aL (J5 m x f) (0=lM f) jY (aI (Er (mR x)) (Er (mS x)) aW aW (bl (dn (yj x) (ya f) (rN x) (iQ f).1) True (NI (aP (ym x))=AA f) (dn (List.length (TZ x)) (x9 f) i (iQ f).2) True (mW (iX (kD x).ud (kD x).us) (nA f)) (af (cq (yj x) (rN x) 1 9 (cB (JA (kD x).ns))) (Gq f)) (af (cq (List.length (TZ x)) i 2 38 (gN (TZ x)::cB (gO (TZ x)))) (Gp f)) (N4 g d b e c h a x l))))/\(∀(i:Nat×Wk×Nat×Nat),J5 m x i->bf (ak (0<=lM i) (lM i<16) (lM i<16)/\Fk (ahb x i=[]) (dG (∃(f:Nat×Wk×Nat×Nat),aL (cg 16 f.1 16 i.1 (J5 m x f)) (lM i+1=lM f) jY (aI (Er (mR x)) (Er (mS x)) aW aW (bl (dn (ya i) (ya f) (iQ i).1 (iQ f).1) True (AA i=AA f) (dn (x9 i) (x9 f) (iQ i).2 (iQ f).2) True (mW (Ub i) (nA f)) (af (k i) (Gq f)) (af (j i) (Gp f)) (N4 g d b e c h a x l)))) (lM i+1)) (ak (eI (bh (ku x)+bh (kV x).p)) (cS (eI (bh (Gn x)+1)/\(∃(_:Unit),ak True (cat (Gn x) [eS (lM i)]=NZ x i) (iY (Sr (adm (iz x) (nA i) 16 17 (iQ i).1 (iQ i).2)) (Sr (Rg (nA i))) (N4 g d b e c h a x l) (Gq i) (Gp i)))) (∃(_:Unit),ak True (Gn x=NZ x i) (iY (Sr (adm (iz x) (nA i) 16 17 (iQ i).1 (iQ i).2)) (Sr (Rg (nA i))) (N4 g d b e c h a x l) (Gq i) (Gp i))) (kV x).k 3) (∀(_:Unit),True->aS (pR (mR x)/\pR (mS x)) (Er l/\(∃(n:BW×List UInt8),gp (aL (Sp.Ok (e9 n)) (Wk.Small (fB n)) (bT (iR n) (pK n) (kC n<=sU n)) (dj n.2)) aW (ahb x i=n.2) jY (mR x=nG n) (bl (mS x=nH n) aW aW (dn (ya i) (iR n) (iQ i).1 (pK n)) True (AA i=nE n) (dn (x9 i) (kC n) (iQ i).2 (sU n)) True (bl (mW (Ub i) (fB n)) (qv (pK n) (k i) (fB n)) (oo (sU n) (j i) (fB n)) kH (af (uC x) (nB n)) kH (aI ((iz x).z=(e9 n).z) ((iz x).o=(e9 n).o) aW ((iz x).n=uP n) ((iz x).c=(e9 n).c)) (af (Gf x) (Ka n)) (Bk (cG n.2) (∀(f:Nat×Nat),Kw f n->(∃(j:BW×Nd×List UInt8),bl (ahE m j) aW ((ju n).k=(kV j).k) ((ju n).p=(kV j).p) ((ju n).v=(kV j).v) (cV 0 0 (ju n) j) (cV 1 1 (ju n) j) (cV 2 2 (ju n) j) (bl (cV 3 3 (ju n) j) (cV 4 4 (ju n) j) (cV 5 5 (ju n) j) (cV 6 6 (ju n) j) (cV 7 7 (ju n) j) (cV 8 8 (ju n) j) (cV 9 9 (ju n) j) (cV 10 10 (ju n) j) (bl (cV 11 11 (ju n) j) (cV 12 12 (ju n) j) (cV 13 13 (ju n) j) (cV 14 14 (ju n) j) (cV 15 15 (ju n) j) (NZ x i=ku j) jY (nG n=mR j) (bl (nH n=mS j) aW aW (dn (iR n) (yj j) f.1 (rN j)) True (nE n=AF j) (dn (kC n) (nD j) f.2 (wJ j)) True (bl (mW (Ui n) (kD j)) (qv (rN j) (cq (iR n) f.1 1 9 (bD (fun a=>c9 a (fB n).ns))) (kD j)) (oo (wJ j) (Gt f n) (kD j)) kH (af (nB n) (uC j)) kH (T6 j n) (af (Gf x) (Gf j)) (Bk (tI (iz j) m (kD j) (kV j) (ku j)) (∀(f:Nat×Nat),eY (lT (k5 m j)) f.1 (lR (k5 m j)) f->dG (∃(k:Nat×Wk×Nat×Nat),cg 16 k.1 16 i.1 (J5 m x k)/\bl (lM i+1=lM k) jY (mR j=mR x) (mS j=mS x) aW aW (dn (lT (k5 m j)) (ya k) f.1 (iQ k).1) True (kJ (AI (k5 m j)=AA k) (dn (lR (k5 m j)) (x9 k) f.2 (iQ k).2) True (mW (iX (k5 m j).ud (k5 m j).us) (nA k)) (af (cq (lT (k5 m j)) f.1 1 9 (bD (fun a=>c9 a (k5 m j).ns))) (Gq k)) (af (ahI m f j) (Gp k)) (oG l) (bl (Sr d) (Sr b) (Sr e) (Sr c) (Sr b) (Sr h) (af (uC j) (uC x)) (af (ZO j) a) (Uc x)) g)) (lM i+1)) (T2 m x)))))))) (iH n.2 (Bk (hJ (e9 n) (pJ n)) (∀(j:Nat×Nat),Kq j n->(∃(k:BW×Nd×List UInt8),bl (ahE m k) aW ((f n).k=(kV k).k) ((f n).p=(kV k).p) ((f n).v=(kV k).v) (cV 0 0 (f n) k) (cV 1 1 (f n) k) (cV 2 2 (f n) k) (bl (cV 3 3 (f n) k) (cV 4 4 (f n) k) (cV 5 5 (f n) k) (cV 6 6 (f n) k) (cV 7 7 (f n) k) (cV 8 8 (f n) k) (cV 9 9 (f n) k) (cV 10 10 (f n) k) (bl (cV 11 11 (f n) k) (cV 12 12 (f n) k) (cV 13 13 (f n) k) (cV 14 14 (f n) k) (cV 15 15 (f n) k) (NZ x i=ku k) jY (nG n=mR k) (bl (nH n=mS k) aW aW (dn (List.length (Gd n)) (yj k) j.1 (rN k)) True (nE n=AF k) (dn (kC n) (nD k) j.2 (wJ k)) True (bl (mW (iX (n6 (fB n).ud (pJ n)) (w5 (fB n).us (pJ n) (Wk.used (fB n) (pJ n)+1))) (kD k)) (qv (rN k) (cq (List.length (Gd n)) j.1 1 9 (bD (fun a=>c9 a (Gd n)))) (kD k)) (oo (wJ k) (Gt j n) (kD k)) kH (af (nB n) (uC k)) kH (T6 k n) (af (Gf x) (Gf k)) (Bk (tI (iz k) m (kD k) (kV k) (ku k)) (∀(f:Nat×Nat),eY (lT (k5 m k)) f.1 (lR (k5 m k)) f->dG (∃(j:Nat×Wk×Nat×Nat),cg 16 j.1 16 i.1 (J5 m x j)/\bl (lM i+1=lM j) jY (mR k=mR x) (mS k=mS x) aW aW (dn (lT (k5 m k)) (ya j) f.1 (iQ j).1) True (kJ (AI (k5 m k)=AA j) (dn (lR (k5 m k)) (x9 j) f.2 (iQ j).2) True (mW (iX (k5 m k).ud (k5 m k).us) (nA j)) (af (cq (lT (k5 m k)) f.1 1 9 (bD (fun a=>c9 a (k5 m k).ns))) (Gq j)) (af (ahI m f k) (Gp j)) (oG l) (bl (Sr d) (Sr b) (Sr e) (Sr c) (Sr b) (Sr h) (af (uC k) (uC x)) (af (ZO k) a) (Uc x)) g)) (lM i+1)) (T2 m x)))))))) (T2 m x)) (T2 m x))))))) (dG (∃(f:Nat×Wk×Nat×Nat),aL (cg 16 f.1 16 i.1 (J5 m x f)) (lM i+1=lM f) jY (aI (Er (mR x)) (Er (mS x)) aW aW (bl (dn (ya i) (ya f) (iQ i).1 (iQ f).1) True (AA i=AA f) (dn (x9 i) (x9 f) (iQ i).2 (iQ f).2) True (mW (Ub i) (nA f)) (af (k i) (Gq f)) (af (j i) (Gp f)) (N4 g d b e c h a x l)))) (lM i+1)) (eo (mR x) (mS x) (NZ x i))))) (Bk (aak m x) (∃(b:Nat×Nat),bl (eY (lT (Ku m x)) b.1 (lR (Ku m x)) b) jY (Er (mR x)) (Er (mS x)) aW aW (dn (ya i) (lT (J6 m x)) (iQ i).1 b.1) True (kJ (AA i=AI (J6 m x)) (dn (x9 i) (lR (J6 m x)) (iQ i).2 b.2) True (mW (Ub i) (J6 m x)) (qv b.1 (k i) (J6 m x)) (oo b.2 (j i) (J6 m x)) (Sr h) (wH a) (uC x))) (∃(_:List UInt8×List UInt8),False)) (lM i) 16))))) (fun a=>cq (ya a) (iQ a).1 1 9 (cB (JA (nA a).ns)))) (fun a=>cq (x9 a) (iQ a).2 2 38 (gN (nA a).fs::cB (gO (nA a).fs)))) (SB.cells (uN 5 (bC (AF x+1)) (ax (mR x)::aF (ax (mS x)) (SV.func (Fn.func 71) List.nil (aF (SV.ptr 4 true 0) (SV.ptr 6 true 0) List.nil)) (aF (SV.map 1) (fX 2 1 (yj x) (rN x)) (aF (bC (AF x)) (fX 3 2 (nD x) (wJ x)) List.nil)))) 7 171)) At) (c8 1 (ax (ku x)) 9)) (fun a=>getD (Sp.at (e9 a) (pJ a)))) (c8 1 SV.aZ 73)) (c8 19 (SV.agg (mL (kV x))) 246)) (c8 19 (Nd.sv (kV x)) 246)) (c8 1 F4 163)) (ZO x)):=by kernel_rfl
def numOf (n:Int):List UInt8:=aB (digits n)
structure zW (n:Nat)(t:Nat->Bool)(i:Nat):Prop where
 le:i<=n
 all: ∀ j,j<i->t j=true
noncomputable def B3 (tmp:Nat)(n:Nat)(t:Nat->Bool):bp :={α:=Nat,pre:=fun _ i=>zW n t i,sM:=fun _ i=>n - i,fresh:=0,slots:=fun _ i=>[(tmp,.int .i64 false i)],mem:=fun _ _=>[]}
structure AW (n:Nat)(x:Nat×Nat):Prop where
 le:x.1<=n
 cap:x.1<=x.2
noncomputable def ajM (tmp slot:Nat)(n:Nat)(f:Nat->List UInt8):bp :=
 {α:=Nat×Nat,pre:=fun _ x=>AW n x,sM:=fun _ x=>n - x.1,fresh:=1,slots:=fun st x=>[(tmp,.int .i64 false x.1),(slot,.bI st.nx 1 false 0 x.1 x.2)],
  mem:=fun st x=>[(st.nx,.rows false x.1 [.str f] false x.2 9)]}
theorem DN {n i:Nat}{t:Nat->Bool}(h:zW n t i)(hi: ¬ (i:Int)<(n:Int)):(List.range n).all t=true:=by rw[List.all_eq_true];intro j hj;have:=List.mem_range.1 hj;exact h.all j (by omega)
theorem zP {n i:Nat}{t:Nat->Bool}(hi:(i:Int)<(n:Int))(ht:t i=false):(List.range n).all t=false:=by rw[List.all_eq_false];exact⟨i,List.mem_range.2 (by omega),by rw[ht];decide⟩
theorem uY {n i:Nat}{t:Nat->Bool}(h:zW n t i)(hi:(i:Int)<(n:Int))(ht:t i=true):zW n t (i+1):=⟨by omega,fun j hj=>by
 by_cases e:j=i
 ·subst e;exact ht
 ·exact h.all j (by omega)⟩
theorem gW {l:Bool}{a b:Bool}(h:a=b):ah (.bool l a) (.bool false b):=fun E=>by subst h;rfl
theorem aeT {l:List (List UInt8)}{m:Nat}(h: ∀ x∈ l,x.length<=m):(flat l).length<=l.length*m:=by
 induction l with
 | nil=>simp[flat]
 | cons a r ih =>
   have h1:=h a (by simp);have h2:=ih fun x hx=>h x (by simp[hx]);have:flat (a::r)=a++flat r:=by simp[flat]
   rw[this,List.length_append,List.length_cons,Nat.add_mul];omega
theorem abc (a:List UInt8)(l:List (List UInt8)):(flat (a::l)).length=a.length+(flat l).length:=by simp[flat]
theorem abe:(flat []).length=0:=rfl
theorem WI (l:List (List UInt8)):(ee l).length<=(flat l).length+9:=by have:=xH 192 (flat l).length;rw[ee,List.length_append];omega
theorem UK {f:Nat->List UInt8}{n:Nat}{y:List UInt8}(h:y∈ j6 f 0 n): ∃ i,i<n/\y=f i:=by obtain⟨j,hj⟩:=List.getElem?_of_mem h;obtain⟨h1,h2⟩:=Dr hj;exact⟨j,h1,by rw[← h2,Nat.zero_add]⟩
theorem Sx.af.empty {tot tot':Nat}{ty:TypeId}{av:List aK}{z:Bool}(h:tot=tot'):af (.cells [] tot ty) (.rows z 0 av false tot' ty):=by subst h;refine af.of rfl rfl fun _=> ?_;refine⟨rfl,fun E o ⟨c,fr,h1,h2,_,h4⟩=>⟨c,fr,h1,fun _=>h2,by omega,h4,fun i k col hi=>absurd hi (Nat.not_lt_zero _)⟩,fun _=>rfl⟩
theorem ae7 {_n:Nat}{F:Nat->List UInt8}{k:Nat}{v:List UInt8}(hv:v=F k){c c':Nat}(hc:c=c') :
  af (.rows false (k+1) [.str fun j=>if j<k then F j else lZ [v] (j - k)] false (c*1) 9) (.rows false (k+1) [.str F] false c' 9):=by
 refine Sx.af.vZ rfl (by omega) fun i hi=> ?_;by_cases h:i<k
 ·rw[if_pos h]
 ·have e:i=k:=by omega
  subst e;rw[if_neg h,Nat.sub_self,hv];rfl
theorem abj {n c _k:Nat}{y:Nat×Nat}(_h:AW n y)(hk:(y.1:Int)<(n:Int))(hc:y.1+1<=c):AW n (y.1+1,c):=⟨by show y.1+1<=n;omega,hc⟩
structure Pp where
 k:Int
 root:List UInt8
 key:List UInt8
 to:List UInt8
 n:Nat
 f:Nat->List UInt8
def Pp.sv (x:Pp)(u:SV):SV:=.agg [.int .i64 false x.k,.str false x.root,.str false x.key,.str false x.to,u]
def xS (f:Nat->List UInt8)(i:Nat):Bool:=!decide ((1000:Int)<((f i).length:Int))
def zy (n:Nat)(f:Nat->List UInt8):Bool:=(List.range n).all (xS f)
def Pp.ok (x:Pp):Bool:=(decide (x.k=0)&&decide (x.to=[])||decide (x.k=1))&&decide ((x.root.length:Int)=32)&& !decide ((6:Int)<(x.key.length:Int))&& !decide ((6:Int)<(x.to.length:Int)) &&
 !decide ((200:Int)<(x.n:Int))&&zy x.n x.f
def E9 (f:Nat->List UInt8)(i:Nat):List UInt8:=aB (f i)
def Pp.rows (x:Pp):List (List UInt8):=j6 (E9 x.f) 0 x.n
def Pp.items (x:Pp):List (List UInt8):=[numOf x.k,aB x.root,aB x.key,aB x.to,ee x.rows]
def Pp.put (x:Pp):List UInt8:=ee x.items
def Pp.fits (x:Pp):Bool:=x.ok&& !decide ((65536:Int)<(x.put.length:Int))
def yG (z:Bool)(o c:Nat)(x:Pp)(key:Option Nat):Seen:=⟨key,z,o,x.n,c,[.str x.f]⟩
noncomputable def aec (x:Pp):gF:={cF with cM:=fun f=>aA f Cz,aR:=fun f=>if f=25 then [(12,always (B3 37 x.n (xS x.f)))] else []}
theorem anU (x:Pp):Sx.Good Tryz.prog (aec x):=.of bO pz bt
def dP:List aK:=[.str fun _=>[]]
def shP:List AZ:=[.agg [.one,.one,.one,.one,.slice dP]]
def zz (vs:List SV)(l:List Seen):Option (Pp×Bool×Nat×Nat×Option Nat):=match vs,l with
 | [.agg [.int .i64 false k,.str false root,.str false key,.str false to,_]],[⟨kk,z,o,n,c,[.str f]⟩]=>some (⟨k,root,key,to,n,f⟩,z,o,c,kk)
 | _,_=>none
theorem BA {vs:List SV}{l:List Seen}{x:Pp}{z:Bool}{o c:Nat}{key:Option Nat}(h:zz vs l=some (x,z,o,c,key)):filled shP vs l=[x.sv (.cC 0 1 z o 0 x.n c)]/\l=[yG z o c x key]:=by
 unfold zz at h;split at h
 ·injection h with h;injection h with h1 h;injection h with h2 h;injection h with h3 h;injection h with h4 h5;subst h1;subst h2;subst h3;subst h4;subst h5;exact⟨rfl,rfl⟩
 ·cases h
def nT (n:Nat)(f:Nat->List UInt8)(n':Nat)(f':Nat->List UInt8):Bool:=decide ((n:Int)=(n':Int))&&(List.range n).all fun i=>decide (f i=f' i)
def yH (z:Bool)(o c n:Nat)(f:Nat->List UInt8)(key:Option Nat):Seen:=⟨key,z,o,n,c,[.str f]⟩
def aqn:List AZ:=[.of (.slice dP),.of (.slice dP)]
noncomputable def aeh (n:Nat)(f f':Nat->List UInt8):gF:={cF with cM:=fun f=>aA f kK,aR:=fun g=>if g=72 then [(4,always (B3 13 n fun i=>decide (f i=f' i)))] else []}
theorem an0 (n:Nat)(f f':Nat->List UInt8):Sx.Good Tryz.prog (aeh n f f'):=.of bO fO bt
section
variable (n m : Nat)
abbrev yd:=NI n<NI m
abbrev kE:=fo m (NI n)
end
theorem aiU (n n':Nat)(f f':Nat->List UInt8)(z z':Bool)(o o' c c':Nat)(key key':Option Nat):VC.holds (i7 (aeh n f f') 72 Tryz.f72 [.cC 0 1 z o 0 n c,.cC 1 1 z' o' 0 n' c'] [yH z o c n f key,yH z' o' c' n' f' key'] (.ret (.bool false (nT n f n' f'))))=(Bk (not (eX (NI n) (NI n'))) (iU (dM (nT n f n' f'))) ((∃(a:Nat),iY (zW n (fun a=>eV (f a) (f' a)) a) (fh a) True (Seen.B (yH z o c n f key)) (Seen.B (yH z' o' c' n' f' key')))/\(∀(a:Nat),zW n (fun a=>eV (f a) (f' a)) a->Fk (yd a n) (aI (kE a n) (eJ o (bS a) n) (kE a n') (eJ o' (bS a) n') (bn (iU (dM (nT n f n' f'))) (fN a (fun b=>iY (cg n b n a (zW n (fun a=>eV (f a) (f' a)) b)) (gU a b) True (Seen.B (yH z o c n f key)) (Seen.B (yH z' o' c' n' f' key')))) (eV (f (bS a)) (f' (bS a))))) (ah mz (dM (nT n f n' f')))))):=by kernel_rfl
abbrev Rw:=List UInt8×List UInt8
def cz:List UInt8->List UInt8->Nat
 | a::r,b::s=>if a=b then cz r s+1 else 0
 | _,_=>0
def c7 (k:Nat)(l:List Rw):List Rw:=l.map fun r=>(r.1.drop k,r.2)
def qa (i:Nat)(p:List UInt8):Bool:=match p with
 | []=>false
 | b::_=>decide (b.toNat=i)
def gH (i:Nat)(l:List Rw):List Rw:=l.filter fun r=>qa i r.1
def bF (l:List Rw)(i:Nat):List Rw:=match l with
 | []=>[]
 | [_]=>[]
 | r::s::t=>if 0<cz r.1 ((s::t).getLastD r).1 then(if i=0 then c7 (cz r.1 ((s::t).getLastD r).1) (r::s::t)else [])else c7 1 (gH i (r::s::t))
def iZ (ref:List Rw->List UInt8)(l:List Rw):Nd:=match l with
 | []=>gV
 | [r]=>⟨1,r.1,r.2,bg⟩
 | r::s::t=>if 0<cz r.1 ((s::t).getLastD r).1 then⟨2,r.1.take (cz r.1 ((s::t).getLastD r).1),[],bM (ref (bF (r::s::t) 0))⟩
   else⟨3,[],if r.1=[] then r.2 else [],fu fun i=>ref (bF (r::s::t) i)⟩
def dR:Nat->List Rw->Nd
 | 0,_=>gV
 | m+1,l=>iZ (fun l'=>if l'=[] then [] else gu (dQ (dR m l'))) l
def ctext (m:Nat)(l:List Rw):List UInt8:=dQ (dR m l)
def gr:Nat->List Rw->List (List UInt8)
 | 0,_=>[]
 | m+1,l=>(List.range 16).flatMap fun i=>if bF l i=[] then [] else(if(ctext m (bF l i)).length<32 then [] else [ctext m (bF l i)])++gr m (bF l i)
def j5 (m:Nat)(l:List Rw):List (List UInt8):=ctext m l::gr m l
def rowsOf (l:List (List UInt8×List UInt8)):List Rw:=l.map fun e=>(ay e.1,e.2)
def cO (fr to:List UInt8)(l:List (List UInt8×List UInt8)):List (List UInt8×List UInt8):=l.filter fun e=>hasB fr to (ay e.1)
def AY (l:List Rw):Prop:=l.Pairwise fun a b=>Op.bytesLess a.1 b.1=true
def mw (fr to p:List UInt8)(l:List Rw):List (List UInt8×List UInt8):=(l.filter fun r=>hasB fr to (cat p r.1)).map fun r=>(dJ (cat p r.1),r.2)
def Clear (w:Sp)(l:List (List UInt8)):Prop:=∀ t,t∈ l->hJ w (cT t)=true->w.at (cT t)=t
def En (k:List UInt8):Bool:=!decide (k=[])&&decide ((k.length:Int)<=6)
def zQ (v:List UInt8):Bool:=!decide (v=[])&&decide ((v.length:Int)<=80)
def mE (f g:Nat->List UInt8)(i:Nat):Bool:=En (f i)&&(zQ (g i)&&(decide (i=0)||Op.bytesLess (f (i - 1)) (f i)))
def RR (n:Nat)(f g:Nat->List UInt8):Bool:=(List.range n).all (mE f g)
def fR (n:Nat)(f g:Nat->List UInt8):Int:=bif RR n f g then(if(40:Int)<(n:Int)then 12 else 0)else 1
def cm (n:Nat)(f g:Nat->List UInt8):List Rw:=(List.range n).map fun i=>(f i,g i)
def LP (z:Bool)(l:List Rw)(c:Nat)(ro:Bool):SB:=.rows z l.length [gN l,gO l] ro (c*2) 248
def dE:List aK:=[.str fun _=>[],.str fun _=>[]]
def shE:List AZ:=[.of (.slice dE)]
def jP (z:Bool)(o c n:Nat)(f g:Nat->List UInt8)(key:Option Nat):Seen:=⟨key,z,o,n,c,[.str f,.str g]⟩
noncomputable def adW (n:Nat)(f g:Nat->List UInt8):gF:={cF with cM:=fun f=>aA f qc,aR:=fun h=>if h=56 then [(2,always (A2 7 n (mE f g)))] else []}
theorem anB (n:Nat)(f g:Nat->List UInt8):Sx.Good Tryz.prog (adW n f g):=.of bO iL bt
def Af (f g:Nat->List UInt8)(i:Nat):Bool:=!decide ((20:Int)<((f i).length:Int))&& !decide ((100:Int)<((g i).length:Int))
def Cg (n:Nat)(f g:Nat->List UInt8):Bool:=decide ((n:Int)<=45)&&(List.range n).all (Af f g)
structure OP (n:Nat)(t:Nat->Bool)(i:Nat):Prop where
 up:gd n t i
 le:i<=46
noncomputable def ajK (n:Nat)(t:Nat->Bool):bp :={α:=Nat,pre:=fun _ i=>OP n t i,sM:=fun _ i=>n - i,fresh:=0,slots:=fun _ i=>[(3,.int .i64 false i)],mem:=fun _ _=>[]}
noncomputable def ad0 (n:Nat)(f g:Nat->List UInt8):gF:={cF with cM:=fun f=>aA f qc,aR:=fun h=>if h=5 then [(2,always (ajK n (Af f g)))] else []}
theorem anF (n:Nat)(f g:Nat->List UInt8):Sx.Good Tryz.prog (ad0 n f g):=.of bO iL bt
noncomputable def Yk (t1 t2 n:Nat)(f g:Nat->List UInt8):bp :=
 {α:=Nat×Nat,pre:=fun _ x=>x.1<=n/\x.1<=x.2,sM:=fun _ x=>n - x.1,fresh:=1,slots:=fun st x=>[(t1,.int .i64 false x.1),(t2,.bI st.nx 2 false 0 x.1 x.2)],
  mem:=fun st x=>[(st.nx,.rows false x.1 [.str f,.str g] false (x.2*2) 248)]}
noncomputable def aeg (n:Nat)(f g:Nat->List UInt8):gF:={cF with cM:=fun f=>aA f qc,aR:=fun h=>if h=58 then [(3,always (Yk 11 3 n (fun i=>ay (f i)) g))] else []}
theorem anY (n:Nat)(f g:Nat->List UInt8):Sx.Good Tryz.prog (aeg n f g):=.of bO iL bt
noncomputable def ael (n k:Nat)(f g:Nat->List UInt8):gF:={cF with cM:=fun f=>aA f qc,aR:=fun h=>if h=130 then [(3,always (Yk 13 5 n (fun i=>(f i).drop k) g))] else []}
theorem an4 (n k:Nat)(f g:Nat->List UInt8):Sx.Good Tryz.prog (ael n k f g):=.of bO iL bt
def KR (l:List Rw):b7:=.all Nat fun c=>.req (l.length<=c) (.new (fun k=>.bI k 2 false 0 l.length c) (LP false l c false))
def KY (a b:List UInt8)(i:Nat):Bool:=decide (ai a i=ai b i)
noncomputable def adX (a b:List UInt8):gF:={cF with cM:=fun f=>aA f qc,aR:=fun h=>if h=128 then [(3,always (A2 13 (min a.length b.length) (KY a b)))] else []}
theorem anC (a b:List UInt8):Sx.Good Tryz.prog (adX a b):=.of bO iL bt
noncomputable def am6 (i:Nat)(l:List Rw):bp :=
 {α:=Nat×Nat,pre:=fun _ x=>x.1<=l.length/\(gH i (l.take x.1)).length<=x.2,sM:=fun _ x=>l.length - x.1,fresh:=1,slots:=fun st x=>[(10,.int .i64 false x.1),(5,.bI st.nx 2 true 0 (gH i (l.take x.1)).length x.2)],
  mem:=fun st x=>[(st.nx,LP true (gH i (l.take x.1)) x.2 false)]}
noncomputable def adY (i:Nat)(l:List Rw):gF:={cF with cM:=fun f=>aA f qc,aR:=fun h=>if h=131 then [(3,always (am6 i l))] else []}
theorem anD (i:Nat)(l:List Rw):Sx.Good Tryz.prog (adY i l):=.of bO iL bt
def aez:qB :=
 {G:=List Rw×Nat×Nat,n:=2,N:=3,pre:=fun x=>x.1.length<=1000,args:=fun x=>[.bI 0 2 false 0 x.1.length x.2.1,.func (.func 132) [] [.ptr 1 true 0]],
  mem:=fun x=>[(0,LP false x.1 x.2.1 true),(1,.cells [.int .i64 false x.2.2] 1 3)],
  ans:=fun x=>.all Nat fun c=>.req ((gH x.2.2 x.1).length<=c) (.ret (.bI 2 2 true 0 (gH x.2.2 x.1).length c) [(1,.cells [.int .i64 false x.2.2] 1 3),(2,LP true (gH x.2.2 x.1) c false)])}
section
variable (n m : Nat) (s t : List UInt8) (x A : Nat × Nat) (y z : Nat -> List UInt8) (f g B : Pl) (h o : List Rw)
abbrev NM:=min (List.length s) (List.length t)
abbrev Dh:=Pl.n Pl.k f
abbrev x4:=Dh Pl.t
abbrev NB:=Pl.s 0 Pl.k
abbrev x8:=cm n (fun a=>ay (y a)) z
abbrev Zv:=gB x.1 (x.2*2) 248 (cU (fun a=>ay (y a)) (bD z))
abbrev pM:=aP x.1
abbrev Zz:=fW (cI x.1 x.1) (jd (2*pM x*32)) (cr (pM x))
abbrev F8:=eY x.1 n x.1 x
abbrev ZB:=oe (eI (NI n)) (NI n) (32*NI n) 140737488355328
abbrev Gc:=pM x=A.1/\n=A.2
abbrev uI:=Pl.n f (Pl.n g B)
abbrev C9:=uI Pl.k NB (Pl.s 0 x4)
abbrev AK:=List.length (x8 n y z)
abbrev mY:List aK:=gN h::cB (gO o)
abbrev NX:=gB (AK n y z) (m*2) 248 (mY (x8 n y z) (x8 n y z))
abbrev fk:=0+nC x
abbrev k7:=Pl.s n (Pl.n f g)
abbrev GC:=Pl.n (Pl.s n f) g
abbrev AL:=k7 n (Pl.s m f) g
abbrev Zu:=gB x.1 (x.2*2) 248 (cU (fun a=>List.drop n (y a)) (bD z))
abbrev rM:=bC (fR n y z)
abbrev Da:=Pl.s 0 x4
abbrev ahA:=GC 5 x4 (Pl.s 1 x4)
end
theorem alJ (n:Nat)(f g:Nat->List UInt8)(z:Bool)(o c:Nat)(key:Option Nat):gS (uI Da (k7 1 (AL 0 0 ahA Pl.t) Pl.t) Pl.t) (i7 (adW n f g) 56 Tryz.f56 [.cC 0 2 z o 0 n c] [jP z o c n f g key] (.ret (.int .i64 false (fR n f g)))) ((∃(a:Nat),gd n (mE f g) a/\fh a)/\(∀(a:Nat),gd n (mE f g) a->Fk (yd a n) (ak (kE a n) (eJ o (bS a) n) (bn (bn (ah (bx 1) (rM n f g)) (bn (bn (ah (bx 1) (rM n f g)) (fA a (aL (I6 (NI a - 1)) (fo n (NI a - 1)) (eJ o (fM (NI a - 1)) n) (bn (ah (bx 1) (rM n f g)) (fN a (fun b=>cg n b n a (gd n (mE f g) b)/\gU a b)) (Op.bytesLess (f (fM (NI a - 1))) (f (bS a))))) (fN a (fun b=>cg n b n a (gd n (mE f g) b)/\gU a b)) 0) (decide (bh (g (bS a))<=80))) (ah (bx 1) (rM n f g)) (dX (g (bS a)))) (decide (bh (f (bS a))<=6))) (ah (bx 1) (rM n f g)) (dX (f (bS a))))) (fA n (ah (bx 12) (rM n f g)) (ah (bx 0) (rM n f g)) 40))):=⟨by kernel_rfl,by kernel_rfl⟩
theorem alK (n:Nat)(f g:Nat->List UInt8)(z:Bool)(o c:Nat)(key:Option Nat):gS (uI Da (GC 7 x4 Pl.t) Pl.t) (i7 (ad0 n f g) 5 Tryz.f5 [.cC 0 2 z o 0 n c] [jP z o c n f g key] (.ret (.bool false (Cg n f g)))) ((∃(a:Nat),OP n (Af f g) a/\fh a)/\(∀(a:Nat),OP n (Af f g) a->Fk (yd a n) (Fk (NI a<=45) (ak (kE a n) (eJ o (bS a) n) (bf (iU (dM (Cg n f g))) (ak (kE a n) (eJ o (bS a) n) (bf (iU (dM (Cg n f g))) (fN a (fun b=>cg n b n a (OP n (Af f g) b)/\gU a b)) 100 (bh (g (bS a))))) 20 (bh (f (bS a))))) (ah (SV.bool fI (decide (NI n<=45))) (dM (Cg n f g)))) (ah (SV.bool fI (decide (NI n<=45))) (dM (Cg n f g))))):=⟨by kernel_rfl,by kernel_rfl⟩
theorem api (n:Nat)(f g:Nat->List UInt8)(z:Bool)(o c:Nat)(key:Option Nat):gS (AL 0 0 C9 (GC 7 C9 Pl.k)) (i7 (aeg n f g) 58 Tryz.f58 [.cC 0 2 z o 0 n c] [jP z o c n f g key] (KR (cm n (fun i=>ay (f i)) g))) (ak (ZB n) (∃(a:Nat×Nat),gQ (F8 n a) (0=fJ a) (0=a.1) (lF n=a.2) (bH (lF n*2) (Zv a f g) List.nil 248)) (∀(a:Nat×Nat),F8 n a->fA n (gp (fo n (fJ a)) (eJ o (fk a) n) (dS (f (fk a))) (dW (jX (uN 0 (wS (uJ (fk a) f) (uJ (fk a) g)) (SV.cells (wS cn cn))) 38)) (Zz a) (∀(b:Nat),aX (pM a) b (dG (∃(c:Nat×Nat),aL (cg n c.1 n a.1 (F8 n c)) (mP a c) (Gc b a c) (af (gB (pM a) (b*2) 248 (cU (fun b=>iT b a.1 (ay (f b)) (iW (b - a.1) (ay (f (fk a))))) (bD (fun b=>iT b a.1 (g b) (iW (b - a.1) (g (fk a))))))) (Zv c f g))) (mQ a)))) (∃(b:Nat),gK (AK n f g) b (af (Zv a f g) (NX n b f g)) (ah (SV.bI (aP 1) 2 false 0 a.1 a.2) (SV.bI (aP 1) 2 false 0 (AK n f g) b))) (fJ a))):=⟨by kernel_rfl,by kernel_rfl⟩
theorem adj (n k:Nat)(f g:Nat->List UInt8)(z:Bool)(o c:Nat)(key:Option Nat):gS (AL 0 0 C9 (GC 6 C9 Pl.k)) (i7 (ael n k f g) 130 Tryz.f130 [.cC 0 2 z o 0 n c,.int .i64 false k] [jP z o c n f g key] (KR (c7 k (cm n f g)))) (ak (ZB n) (∃(a:Nat×Nat),gQ (F8 n a) (0=fJ a) (0=a.1) (lF n=a.2) (bH (lF n*2) (Zu k a f g) List.nil 248)) (∀(a:Nat×Nat),F8 n a->fA n (aI (fo n (fJ a)) (eJ o (fk a) n) (pU (NI k) (NI k) (bh (f (fk a))) (bh (f (fk a))) (bh (f (fk a)))) (Zz a) (∀(b:Nat),aX (pM a) b (dG (∃(c:Nat×Nat),aL (cg n c.1 n a.1 (F8 n c)) (mP a c) (Gc b a c) (af (gB (pM a) (b*2) 248 (cU (fun b=>iT b a.1 (List.drop k (f b)) (iW (b - a.1) (eK (f (fk a)) (iG 20) none (NI k) (bh (f (fk a)))))) (bD (fun b=>iT b a.1 (g b) (iW (b - a.1) (g (fk a))))))) (Zu k c f g))) (mQ a)))) (∃(b:Nat),gK (List.length (c7 k (cm n f g))) b (af (Zu k a f g) (gB (List.length (c7 k (cm n f g))) (b*2) 248 (mY (c7 k (cm n f g)) (c7 k (cm n f g))))) (ah (SV.bI (aP 1) 2 false 0 a.1 a.2) (SV.bI (aP 1) 2 false 0 (List.length (c7 k (cm n f g))) b))) (fJ a))):=⟨by kernel_rfl,by kernel_rfl⟩
theorem aiS (a b:List UInt8):gS Pl.k (jy (adX a b) 128 Tryz.f128 [.str false a,.str false b] (.ret (.int .i64 false (cz a b)))) ((∃(c:Nat),gd (NM a b) (KY a b) c/\fh c)/\(∀(c:Nat),gd (NM a b) (KY a b) c->bf (ak (qq c (bP a)) (qq c (bP b)) (bn (ah (qu c) (qu (cz a b))) (fN c (fun d=>cg (NM a b) d (NM a b) c (gd (NM a b) (KY a b) d)/\gU c d)) (eX (ai a (NI c)) (ai b (NI c))))) (ah (SV.int IntKind.i64 (jV false) (min (bP a) (bP b))) (qu (cz a b))) (NI c) (min (bP a) (bP b)))):=⟨by kernel_rfl,by kernel_rfl⟩
theorem Ho: ∀(a b:List UInt8),cz a b<=a.length/\cz a b<=b.length
 | [],_=>by simp[cz]
 | _::_,[]=>by simp[cz]
 | a::r,b::s=>by
   unfold cz;split
   ·have:=Ho r s;simp only[List.length_cons];omega
   ·simp
theorem Jn: ∀(k:Nat) (a b c:List UInt8),k<=cz a c->Op.bytesLess b a=false->Op.bytesLess c b=false->b.take k=a.take k
 | 0,_,_,_,_,_,_=>by simp
 | k+1,[],_,_,h,_,_=>by simp[cz] at h
 | k+1,_::_,_,[],h,_,_=>by simp[cz] at h
 | k+1,a::r,b,c::t,h,h1,h2=>by
   unfold cz at h;split at h
   ·rename_i e;subst e;cases b with
    | nil=>simp[Op.bytesLess] at h1
    | cons b s =>
      simp only[Op.bytesLess] at h1 h2;by_cases e1:b<a
      ·simp[e1] at h1
      ·by_cases e2:a<b
       ·simp[e2] at h2
       ·have e:b=a:=by
         apply UInt8.le_antisymm
         ·exact UInt8.not_lt.1 e2
         ·exact UInt8.not_lt.1 e1
        subst e;simp at h1 h2;rw[List.take_succ_cons,List.take_succ_cons,Jn k r s t (by omega) h1 h2]
   ·omega
theorem oA: ∀(a b:List UInt8),Op.bytesLess a b=true->Op.bytesLess b a=false
 | _,[],h=>by simp[Op.bytesLess] at h
 | [],_::_,_=>by simp[Op.bytesLess]
 | a::r,b::s,h=>by
   simp only[Op.bytesLess,Bool.or_eq_true,decide_eq_true_eq,Bool.and_eq_true,beq_iff_eq] at h;simp only[Op.bytesLess,Bool.or_eq_false_iff,decide_eq_false_iff_not];rcases h with h | ⟨h1,h2⟩
   ·refine⟨fun e=>absurd (UInt8.lt_trans h e) (UInt8.lt_irrefl _),?_⟩;have:(b==a)=false:=by rw[beq_eq_false_iff_ne];intro e;subst e;exact absurd h (UInt8.lt_irrefl _)
    rw[this,Bool.false_and]
   ·subst h1;refine⟨UInt8.lt_irrefl _,?_⟩;rw[oA r s h2,Bool.and_false]
theorem pq (a:List UInt8):Op.bytesLess a a=false:=by
 cases h:Op.bytesLess a a with
 | false=>rfl
 | true=>rw[oA a a h] at h;cases h
theorem zk: ∀(r:Rw) (l:List Rw),l.getLastD r∈ r::l
 | r,[]=>by simp
 | r,s::l=>by rw[List.getLastD_cons];exact List.mem_cons_of_mem _ (zk s l)
theorem Ol: ∀(r:Rw) (l:List Rw),AY (r::l)->∀ x,x∈ r::l->x=l.getLastD r∨Op.bytesLess x.1 (l.getLastD r).1=true
 | r,[],_,x,hx=>by simp only[List.mem_cons,List.not_mem_nil,or_false] at hx;exact .inl hx
 | r,s::l,h,x,hx=>by
   rw[List.getLastD_cons];have h':AY (r::s::l):=h;unfold AY at h';rw[List.pairwise_cons] at h';rcases List.mem_cons.1 hx with e | e
   ·subst e;exact .inr (h'.1 _ (zk s l))
   ·exact Ol s l h'.2 x e
theorem XC {r:Rw}{l:List Rw}(h:AY (r::l)){x:Rw}(hx:x∈ r::l):Op.bytesLess x.1 r.1=false:=by
 unfold AY at h;rw[List.pairwise_cons] at h;rcases List.mem_cons.1 hx with e | e
 ·subst e;exact pq _
 ·exact oA _ _ (h.1 x e)
theorem zG {r:Rw}{l:List Rw}(h:AY (r::l)){x:Rw}(hx:x∈ r::l):x.1.take (cz r.1 (l.getLastD r).1)=r.1.take (cz r.1 (l.getLastD r).1):=by
 refine Jn _ r.1 x.1 (l.getLastD r).1 (Nat.le_refl _) (XC h hx) ?_;rcases Ol r l h x hx with e | e
 ·subst e;exact pq _
 ·exact oA _ _ e
theorem MN: ∀(k:Nat) (a b:List UInt8),a.take k=b.take k->k<=a.length->k<=b.length->Op.bytesLess (a.drop k) (b.drop k)=Op.bytesLess a b
 | 0,_,_,_,_,_=>rfl
 | k+1,[],_,_,h,_=>by simp at h
 | k+1,_::_,[],_,_,h=>by simp at h
 | k+1,a::r,b::s,h,h1,h2=>by rw[List.take_succ_cons,List.take_succ_cons] at h;injection h with e h;subst e;rw[List.drop_succ_cons,List.drop_succ_cons,MN k r s h (by simpa using h1) (by simpa using h2)];have: ¬ a<a:=UInt8.lt_irrefl _;simp[Op.bytesLess,this]
theorem K4 {α:Type}(f:α->Nat)(n:Nat): ∀(l:List α),l.Pairwise (fun a b=>f a<=f b)->l.filter (fun x=>decide (f x<n))++l.filter (fun x=>!decide (f x<n))=l
 | [],_=>rfl
 | x::l,h=>by
   rw[List.pairwise_cons] at h;by_cases hx:f x<n
   ·rw[List.filter_cons_of_pos (by simpa using hx),List.filter_cons_of_neg (by simpa using hx),List.cons_append,K4 f n l h.2]
   ·have hl: ∀ y,y∈ l->¬ f y<n:=fun y hy=>by have:=h.1 y hy;omega
    rw[List.filter_cons_of_neg (by simpa using hx),List.filter_cons_of_pos (by simpa using hx)];rw[List.filter_eq_nil_iff.2 (fun y hy=>by simpa using hl y hy),List.nil_append];rw[List.filter_eq_self.2 (fun y hy=>by simpa using hl y hy)]
theorem nh {α β:Type}{f g:α->List β}: ∀ {l:List α},(∀ i,i∈ l->f i=g i)->l.flatMap f=l.flatMap g
 | [],_=>rfl
 | a::l,h=>by rw[List.flatMap_cons,List.flatMap_cons,h a (List.mem_cons_self ..),nh fun i hi=>h i (List.mem_cons_of_mem _ hi)]
theorem Cp {α:Type}(f:α->Nat): ∀(n:Nat) (l:List α),l.Pairwise (fun a b=>f a<=f b)->(∀ x,x∈ l->f x<n)->(List.range n).flatMap (fun i=>l.filter fun x=>decide (f x=i))=l
 | 0,l,_,h=>by
   cases l with
   | nil=>rfl
   | cons x l=>exact absurd (h x (List.mem_cons_self ..)) (Nat.not_lt_zero _)
 | n+1,l,hp,h=>by
   have hs:=K4 f n l hp;rw[List.range_succ,List.flatMap_append];have e1:(List.range n).flatMap (fun i=>l.filter fun x=>decide (f x=i))=l.filter (fun x=>decide (f x<n)):=by
    have hA:=Cp f n (l.filter fun x=>decide (f x<n)) (hp.filter _) (fun x hx=>by simpa using (List.mem_filter.1 hx).2);rw[← hA];have: ∀ i,i∈ List.range n->(l.filter fun x=>decide (f x=i))=(l.filter fun x=>decide (f x<n)).filter fun x=>decide (f x=i):=fun i hi=>by
     rw[List.filter_filter];refine List.filter_congr fun x _=> ?_;have hi:=List.mem_range.1 hi;by_cases e:f x=i
     ·have:f x<n:=by omega
      rw[decide_eq_true e,decide_eq_true this];rfl
     ·rw[decide_eq_false e];rfl
    rw[nh this,hA]
   have e2:[n].flatMap (fun i=>l.filter fun x=>decide (f x=i))=l.filter (fun x=>!decide (f x<n)):=by
    simp only[List.flatMap_cons,List.flatMap_nil,List.append_nil];refine List.filter_congr fun x hx=> ?_;have:=h x hx;by_cases e:f x=n
    ·rw[decide_eq_true e,decide_eq_false (by omega)];rfl
    ·rw[decide_eq_false e,decide_eq_true (by omega)];rfl
   rw[e1,e2,hs]
def n9 (p:List UInt8):Nat:=match p with
 | []=>0
 | b::_=>b.toNat+1
theorem afz: ∀ {a b:List UInt8},Op.bytesLess a b=true->n9 a<=n9 b
 | [],_,_=>Nat.zero_le _
 | _::_,[],h=>by simp[Op.bytesLess] at h
 | a::r,b::s,h=>by
   simp only[Op.bytesLess,Bool.or_eq_true,decide_eq_true_eq,Bool.and_eq_true,beq_iff_eq] at h;show a.toNat+1<=b.toNat+1;rcases h with h | ⟨h,_⟩
   ·have:a.toNat<b.toNat:=UInt8.lt_iff_toNat_lt.1 h;omega
   ·subst h;exact Nat.le_refl _
theorem vw (i:Nat)(p:List UInt8):qa i p=decide (n9 p=i+1):=by
 cases p with
 | nil=>simp[qa,n9]
 | cons b r=>simp[qa,n9]
theorem XD {l:List Rw}(h:AY l)(hn: ∀ x,x∈ l->n9 x.1<17):l.filter (fun x=>decide (n9 x.1=0))++(List.range 16).flatMap (fun i=>gH i l)=l:=by
 have hg:=Cp (fun x:Rw=>n9 x.1) 17 l (h.imp afz) hn;have e:(List.range 17).flatMap (fun i=>l.filter fun x=>decide (n9 x.1=i))=l.filter (fun x=>decide (n9 x.1=0))++(List.range 16).flatMap (fun i=>gH i l):=by rw[List.range_succ_eq_map,List.flatMap_cons,List.flatMap_map];congr 1;refine nh fun i _=> ?_;unfold gH;refine List.filter_congr fun x _=> ?_;rw[vw]
 rw[← e];exact hg
theorem S3 (fr to p:List UInt8)(a b:List Rw):mw fr to p (a++b)=mw fr to p a++mw fr to p b:=by simp[mw,List.filter_append,List.map_append]
theorem Nf (fr to p:List UInt8)(f:Nat->List Rw): ∀(l:List Nat),mw fr to p (l.flatMap f)=l.flatMap fun i=>mw fr to p (f i)
 | []=>rfl
 | i::l=>by rw[List.flatMap_cons,List.flatMap_cons,S3,Nf fr to p f l]
theorem EI (fr to p q:List UInt8)(k:Nat): ∀(l:List Rw),(∀ x,x∈ l->x.1=q++x.1.drop k)->mw fr to p l=mw fr to (cat p q) (c7 k l)
 | [],_=>rfl
 | x::l,h=>by
   have ih:=EI fr to p q k l fun y hy=>h y (List.mem_cons_of_mem _ hy);have e:cat (cat p q) (x.1.drop k)=cat p x.1:=by show(p++q)++x.1.drop k=p++x.1;rw[List.append_assoc,← h x (List.mem_cons_self ..)]
   unfold mw c7 at ih ⊢;rw[List.map_cons];cases hb:hasB fr to (cat p x.1)with
   | true=>rw[List.filter_cons_of_pos (p:=fun r:Rw=>hasB fr to (cat p r.1)) hb,List.filter_cons_of_pos (p:=fun r:Rw=>hasB fr to (cat (cat p q) r.1)) (show hasB fr to (cat (cat p q) (x.1.drop k))=true by rw[e];exact hb),List.map_cons,List.map_cons,ih,e]
   | false=>rw[List.filter_cons_of_neg (p:=fun r:Rw=>hasB fr to (cat p r.1)) (by simp[hb]),List.filter_cons_of_neg (p:=fun r:Rw=>hasB fr to (cat (cat p q) r.1)) (by simp[e,hb]),ih]
theorem S4 (fr to p:List UInt8){l:List Rw}(h:AY l)(hn: ∀ x,x∈ l->n9 x.1<17) :
  mw fr to p l=mw fr to p (l.filter fun x=>decide (n9 x.1=0))++(List.range 16).flatMap fun i=>mw fr to (cat p [UInt8.ofNat i]) (c7 1 (gH i l)):=by
 conv=>lhs;rw[← XD h hn]
 rw[S3,Nf];congr 1;refine nh fun i hi=> ?_;have hi:=List.mem_range.1 hi;refine EI fr to p [UInt8.ofNat i] 1 _ fun x hx=> ?_;have hx:=(List.mem_filter.1 hx).2;rw[vw,decide_eq_true_eq] at hx;obtain⟨q,v⟩:=x;cases q with
 | nil=>cases hx
 | cons b r =>have hb:b.toNat=i:=Nat.succ.inj hx;show b::r=[UInt8.ofNat i]++r;rw[← hb,UInt8.ofNat_toNat];rfl
theorem af2 (fr to p:List UInt8){r:Rw}{l:List Rw}(h:AY (r::l)) :
  mw fr to p (r::l)=mw fr to (cat p (r.1.take (cz r.1 (l.getLastD r).1))) (c7 (cz r.1 (l.getLastD r).1) (r::l)) :=
 EI fr to p _ _ _ fun x hx=>by rw[← zG h hx,List.take_append_drop]
theorem vH {a b:UInt8}{r s:List UInt8}:Op.bytesLess (a::r) (b::s)=false↔b<=a/\(a=b->Op.bytesLess r s=false):=by
 simp only[Op.bytesLess,Bool.or_eq_false_iff,decide_eq_false_iff_not,UInt8.not_lt,Bool.and_eq_false_iff,beq_eq_false_iff_ne];constructor
 ·rintro⟨h1,h2⟩;exact⟨h1,fun e=>h2.resolve_left (fun h=>h e)⟩
 ·rintro⟨h1,h2⟩;refine⟨h1,?_⟩;by_cases e:a=b
  ·exact .inr (h2 e)
  ·exact .inl e
theorem FU: ∀(a b c:List UInt8),Op.bytesLess b a=false->Op.bytesLess c b=false->Op.bytesLess c a=false
 | [],_,c,_,_=>by cases c<;>simp[Op.bytesLess]
 | _::_,[],_,h,_=>by simp[Op.bytesLess] at h
 | _::_,_::_,[],_,h=>by simp[Op.bytesLess] at h
 | x::a,y::b,z::c,h1,h2=>by rw[vH] at h1 h2 ⊢;refine⟨UInt8.le_trans h1.1 h2.1,fun e=> ?_⟩;subst e;have e:z=y:=UInt8.le_antisymm h1.1 h2.1;exact FU a b c (h1.2 e.symm) (h2.2 e)
theorem EM: ∀(q r:List UInt8),Op.bytesLess (q++r) q=false
 | [],r=>by cases r<;>simp[Op.bytesLess]
 | a::q,r=>by rw[List.cons_append,vH];exact⟨UInt8.le_refl _,fun _=>EM q r⟩
theorem RE: ∀(q r:List UInt8),q.length<=cz q (q++r)
 | [],_=>Nat.zero_le _
 | a::q,r=>by rw[List.cons_append];unfold cz;rw[if_pos rfl,List.length_cons];have:=RE q r;omega
theorem FT {a b:List UInt8}(h:(Op.bytesLess a b||decide (a=b))=true):Op.bytesLess b a=false:=by
 rw[Bool.or_eq_true,decide_eq_true_eq] at h;rcases h with h | h
 ·exact oA _ _ h
 ·subst h;exact pq _
theorem Vf: ∀(a b:List UInt8),Op.bytesLess b a=false->(Op.bytesLess a b||decide (a=b))=true
 | [],[],_=>by simp
 | [],_::_,_=>by simp[Op.bytesLess]
 | _::_,[],h=>by simp[Op.bytesLess] at h
 | x::a,y::b,h=>by
   rw[vH] at h;by_cases e:x=y
   ·subst e;have:=Vf a b (h.2 rfl);rw[Bool.or_eq_true,decide_eq_true_eq] at this ⊢;rcases this with h1 | h1
    ·left;simp[Op.bytesLess,h1]
    ·right;rw[h1]
   ·rw[Bool.or_eq_true];left;have:x<y:=UInt8.lt_of_le_of_ne h.1 e;simp[Op.bytesLess,this]
theorem abl {fr to q r:List UInt8}(h:hasB fr to (q++r)=true):eo fr to q=true:=by
 unfold hasB at h;rw[Bool.and_eq_true,Bool.not_eq_true'] at h;obtain⟨h1,h2⟩:=h;have h3:=FT h2;have hq:=EM q r;unfold eo;rw[Bool.and_eq_true];refine⟨Vf _ _ (FU _ _ _ hq h3),?_⟩;cases hl:Op.bytesLess q (ay fr)with
 | false=>rfl
 | true =>have ht:=Jn q.length q (ay fr) (q++r) (RE q r) (oA _ _ hl) h1;rw[List.take_length] at ht;show(false||preB q (ay fr))=true;rw[Bool.false_or];unfold preB;have hl:=congrArg List.length ht;rw[List.length_take] at hl;rw[decide_eq_true ht,decide_eq_true (show q.length<=(ay fr).length by omega)];rfl
theorem EJ {fr to p:List UInt8}(h:eo fr to p=false)(l:List Rw):mw fr to p l=[]:=by
 unfold mw;rw[List.filter_eq_nil_iff.2]
 ·rfl
 ·intro x _ hx;have:eo fr to p=true:=abl (r:=x.1) hx;rw[h] at this;cases this
structure dI (m:Nat)(l:List Rw):Prop where
 KN:AY l
 len: ∀ x,x∈ l->x.1.length<m
 nib: ∀ x,x∈ l->∀ b,b∈ x.1->b.toNat<16
 val: ∀ x,x∈ l->0<x.2.length/\x.2.length<=80
theorem RN {m k:Nat}{q:List UInt8}{l:List Rw}(h:dI (m+1) l)(hk:0<k)(hq: ∀ x,x∈ l->k<=x.1.length/\x.1.take k=q):dI m (c7 k l):=by
 refine⟨?_,fun x hx=> ?_,fun x hx b hb=> ?_,fun x hx=> ?_⟩
 ·have hr:=h.KN;unfold AY c7 at *;rw[List.pairwise_map];refine List.Pairwise.imp_of_mem (fun {a b} ha hb hab=> ?_) hr;have h1:=hq a ha;have h2:=hq b hb;show Op.bytesLess (a.1.drop k) (b.1.drop k)=true;rw[MN k a.1 b.1 (h1.2.trans h2.2.symm) h1.1 h2.1];exact hab
 all_goals
  obtain⟨y,hy,rfl⟩:=List.mem_map.1 hx
 ·have:=h.len y hy;have:=(hq y hy).1;show(y.1.drop k).length<m;rw[List.length_drop];omega
 ·exact h.nib y hy b (List.mem_of_mem_drop hb)
 ·exact h.val y hy
theorem aj4 {m:Nat}{l:List Rw}(h:dI m l)(i:Nat):dI m (gH i l):=by have hm: ∀ x,x∈ gH i l->x∈ l:=fun x hx=>(List.mem_filter.1 hx).1;exact⟨h.KN.filter _,fun x hx=>h.len x (hm x hx),fun x hx=>h.nib x (hm x hx),fun x hx=>h.val x (hm x hx)⟩
theorem dH (r s:Rw)(t:List Rw)(i:Nat):bF (r::s::t) i=if 0<cz r.1 ((s::t).getLastD r).1 then(if i=0 then c7 (cz r.1 ((s::t).getLastD r).1) (r::s::t)else [])else c7 1 (gH i (r::s::t)):=rfl
theorem oU {m:Nat}{l:List Rw}(h:dI (m+1) l)(i:Nat):dI m (bF l i):=by
 have nil:dI m []:=⟨List.Pairwise.nil,(fun x hx=>by cases hx),(fun x hx=>by cases hx),(fun x hx=>by cases hx)⟩
 match l,h with
 | [],_=>exact nil
 | [_],_=>exact nil
 | r::s::t,h =>
   rw[dH];split
   ·rename_i hk;split
    ·refine RN (q:=r.1.take (cz r.1 ((s::t).getLastD r).1)) h hk fun x hx=> ?_;have ht:=zG h.KN hx;refine⟨?_,ht⟩;have hl:=congrArg List.length ht;rw[List.length_take,List.length_take] at hl;have:=(Ho r.1 ((s::t).getLastD r).1).1;omega
    ·exact nil
   ·refine RN (q:=[UInt8.ofNat i]) (aj4 h i) (Nat.succ_pos _) fun x hx=> ?_;have hx:=(List.mem_filter.1 hx).2;rw[vw,decide_eq_true_eq] at hx;obtain⟨q,v⟩:=x;cases q with
    | nil=>cases hx
    | cons b r =>
      have hb:b.toNat=i:=Nat.succ.inj hx;refine⟨by simp,?_⟩;show [b]=[UInt8.ofNat i]
      rw[← hb,UInt8.ofNat_toNat]
theorem VZ {r:Rw}{l:List Rw}(h:AY (r::l)):(r::l).filter (fun x=>decide (n9 x.1=0))=if r.1=[] then [r] else []:=by
 have hl:l.filter (fun x=>decide (n9 x.1=0))=[]:=by
  rw[List.filter_eq_nil_iff];intro x hx;unfold AY at h;rw[List.pairwise_cons] at h;have hx:=h.1 x hx;obtain⟨q,v⟩:=x;cases q with
  | nil=>simp[Op.bytesLess] at hx
  | cons b q=>simp[n9]
 obtain⟨q,v⟩:=r;cases q with
 | nil=>rw[List.filter_cons_of_pos (by simp[n9]),hl];rfl
 | cons b q=>rw[List.filter_cons_of_neg (by simp[n9]),hl,if_neg (by simp)]
def ace (fr to p:List UInt8)(x:Nd):List (List UInt8×List UInt8):=if x.v=[] then [] else(if hasB fr to (cat p x.p)=true then [(dJ (cat p x.p),x.v)] else [])
theorem S5 (fr to p:List UInt8)(r:Rw):mw fr to p [r]=if hasB fr to (cat p r.1)=true then [(dJ (cat p r.1),r.2)] else []:=by
 unfold mw;by_cases h:hasB fr to (cat p r.1)=true
 ·rw[if_pos h,List.filter_cons_of_pos (p:=fun r:Rw=>hasB fr to (cat p r.1)) h];rfl
 ·rw[if_neg h,List.filter_cons_of_neg (p:=fun r:Rw=>hasB fr to (cat p r.1)) h];rfl
theorem xx {α:Type}{f:Nat->List α}: ∀ {l:List Nat},(∀ i,i∈ l->f i=[])->l.flatMap f=[]
 | [],_=>rfl
 | i::l,h=>by rw[List.flatMap_cons,h i (List.mem_cons_self ..),xx fun j hj=>h j (List.mem_cons_of_mem _ hj)];rfl
theorem V7 {α:Type}{f:Nat->List α}(h: ∀ i,0<i->f i=[]):(List.range 16).flatMap f=f 0:=by rw[List.range_succ_eq_map,List.flatMap_cons,List.flatMap_map,xx fun i _=>h _ (Nat.succ_pos _),List.append_nil]
theorem Ng (fr to p:List UInt8){m:Nat}{l:List Rw}(hl:l≠[])(h:dI (m+1) l) :
  mw fr to p l=ace fr to p (dR (m+1) l)++(List.range 16).flatMap fun i=>mw fr to (va (dR (m+1) l) p i) (bF l i):=by
 match l,hl,h with
 | [r],_,h =>
   have hv:r.2≠[]:=fun e=>by have:=(h.val r (List.mem_cons_self ..)).1;rw[e] at this;cases this
   rw[xx (f:=fun i=>mw fr to (va (dR (m+1) [r]) p i) (bF [r] i)) fun i _=>rfl,List.append_nil,S5];show _=if r.2=[] then [] else _
   rw[if_neg hv];rfl
 | r::s::t,_,h =>
   by_cases hk:0<cz r.1 ((s::t).getLastD r).1
   ·have hc:dR (m+1) (r::s::t)=⟨2,r.1.take (cz r.1 ((s::t).getLastD r).1),[],bM (if bF (r::s::t) 0=[] then [] else gu (dQ (dR m (bF (r::s::t) 0))))⟩:=by show iZ _ (r::s::t)=_;unfold iZ;dsimp only;rw[if_pos hk]
    have h0: ∀ i,0<i->bF (r::s::t) i=[]:=fun i hi=>by rw[dH,if_pos hk,if_neg (by omega)]
    rw[V7 (f:=fun i=>mw fr to (va (dR (m+1) (r::s::t)) p i) (bF (r::s::t) i)) fun i hi=>by rw[h0 i hi];rfl];have e0:bF (r::s::t) 0=c7 (cz r.1 ((s::t).getLastD r).1) (r::s::t):=by rw[dH,if_pos hk,if_pos rfl]
    rw[hc,e0,af2 fr to p h.KN];rfl
   ·have hn: ∀ x,x∈ r::s::t->n9 x.1<17:=fun x hx=>by
     have:=h.nib x hx;obtain⟨q,v⟩:=x;cases q with
     | nil=>exact Nat.succ_pos _
     | cons b q =>have:=this b (List.mem_cons_self ..);show b.toNat+1<17;omega
    have hc:dR (m+1) (r::s::t)=⟨3,[],if r.1=[] then r.2 else [],fu fun i=>if bF (r::s::t) i=[] then [] else gu (dQ (dR m (bF (r::s::t) i)))⟩:=by show iZ _ (r::s::t)=_;unfold iZ;dsimp only;rw[if_neg hk]
    rw[hc,S4 fr to p h.KN hn,VZ h.KN];have hp:cat p []=p:=by show p++[]=p;rw[List.append_nil]
    congr 1
    ·unfold ace;dsimp only;by_cases he:r.1=[]
     ·have hv:r.2≠[]:=fun e=>by have:=(h.val r (List.mem_cons_self ..)).1;rw[e] at this;cases this
      rw[if_pos he,if_pos he,if_neg hv,S5,he]
     ·rw[if_neg he,if_neg he,if_pos rfl];rfl
    ·refine nh fun i _=> ?_;rw[dH,if_neg hk];unfold va;rw[if_pos rfl];dsimp only;rw[hp]
theorem KG {w:Sp}{T:Wk->Nd->List UInt8->Option Wk}{x:Nd}{p:List UInt8}{g:Nat->List (List UInt8×List UInt8)}: ∀ {n:Nat} {s s':Wk},(∀ i,i<n->∀ s1 s2,jZ w T x p i s1=some s2->s2.fs=s1.fs++g i)->fz w T x p n s=some s'->s'.fs=s.fs++(List.range n).flatMap g
 | 0,s,s',_,h=>by injection h with h;subst h;simp
 | n+1,s,s',hg,h=>by
   unfold fz at h;split at h
   ·cases h
   ·rename_i s1 h1;have e1:=KG (fun i hi=>hg i (by omega)) h1;have e2:=hg n (Nat.lt_succ_self _) s1 s' h;rw[e2,e1,List.range_succ,List.flatMap_append,List.append_assoc];simp
theorem ais {w:Sp}{s s':Wk}{t:List UInt8}{y:Nd}(h:l7 w s t=some (y,s')):s'.fs=s.fs:=by
 unfold l7 at h;split at h
 ·injection h with h;injection h with _ h;subst h;rfl
 ·split at h
  ·injection h with h;injection h with _ h;subst h;rfl
  ·cases h
def adv (w:Sp):Nat->List Rw->Prop
 | 0,_=>True
 | m+1,l=>∀ i,i<16->(bF l i=[]->(dR (m+1) l).r i=[])/\(bF l i≠[]->(dR (m+1) l).r i≠[]/\(∀ s y s',l7 w s ((dR (m+1) l).r i)=some (y,s')->y=dR m (bF l i))/\adv w m (bF l i))
theorem akQ {m:Nat}: ∀ {l:List Rw},(dR (m+1) l).v≠[]->∃ x,x∈ l/\(dR (m+1) l).p=x.1
 | [],h=>absurd rfl h
 | [r],_=>⟨r,List.mem_cons_self ..,rfl⟩
 | r::s::t,h=>by
   refine⟨r,List.mem_cons_self ..,?_⟩;have e:dR (m+1) (r::s::t)=iZ (fun l'=>if l'=[] then [] else gu (dQ (dR m l'))) (r::s::t):=rfl
   rw[e] at h ⊢;unfold iZ at h ⊢;dsimp only at h ⊢;split at h
   ·exact absurd rfl h
   ·rename_i hk;rw[if_neg hk];dsimp only at h ⊢;by_cases he:r.1=[]
    ·exact he.symm
    ·rw[if_neg he] at h;exact absurd rfl h
theorem aln {w:Sp}{m:Nat}{l:List Rw}{p:List UInt8}(s:Wk)(hk: ∀ x,x∈ l->Cs (cat p x.1)=true):(s.GJ w (dR (m+1) l) p).fs=s.fs++ace w.fr w.to p (dR (m+1) l):=by
 show(if BL w (dR (m+1) l) p=true then s.fs++[(dJ (cat p (dR (m+1) l).p),(dR (m+1) l).v)] else s.fs)=_
 unfold BL ace;by_cases hv:(dR (m+1) l).v=[]
 ·rw[if_pos hv,decide_eq_true hv];simp
 ·obtain⟨x,hx,e⟩:=akQ hv;rw[if_neg hv,decide_eq_false hv,e,hk x hx];by_cases hb:hasB w.fr w.to (cat p x.1)=true
  ·rw[if_pos hb,hb];rfl
  ·have:hasB w.fr w.to (cat p x.1)=false:=by simpa using hb
   rw[if_neg hb,this];simp
theorem afq {m:Nat}{l:List Rw}{p:List UInt8}{i:Nat}(h:dI (m+1) l){x:Rw}(hx:x∈ bF l i): ∃ y,y∈ l/\cat (va (dR (m+1) l) p i) x.1=cat p y.1:=by
 match l,h with
 | [],_=>cases hx
 | [_],_=>cases hx
 | r::s::t,h =>
   have e:dR (m+1) (r::s::t)=iZ (fun l'=>if l'=[] then [] else gu (dQ (dR m l'))) (r::s::t):=rfl
   rw[dH] at hx;rw[e];unfold iZ;dsimp only;split at hx
   ·rename_i hk;rw[if_pos hk];split at hx
    ·obtain⟨y,hy,rfl⟩:=List.mem_map.1 hx;refine⟨y,hy,?_⟩;show(p++r.1.take (cz r.1 ((s::t).getLastD r).1))++y.1.drop (cz r.1 ((s::t).getLastD r).1)=p++y.1;rw[← zG h.KN hy,List.append_assoc,List.take_append_drop]
    ·cases hx
   ·rename_i hk;rw[if_neg hk];obtain⟨y,hy,rfl⟩:=List.mem_map.1 hx;refine⟨y,(List.mem_filter.1 hy).1,?_⟩;have hy:=(List.mem_filter.1 hy).2;rw[vw,decide_eq_true_eq] at hy;obtain⟨q,v⟩:=y;cases q with
    | nil=>cases hy
    | cons b q =>have hb:b.toNat=i:=Nat.succ.inj hy;show((p++[])++[UInt8.ofNat i])++q=p++b::q;rw[← hb,UInt8.ofNat_toNat];simp
theorem aaI {w:Sp}: ∀ {j m:Nat} {l:List Rw} {p:List UInt8} {s s':Wk},dI m l->l≠[]->adv w m l->(∀ x,x∈ l->Cs (cat p x.1)=true)->z6 w j s (dR m l) p=some s'->s'.fs=s.fs++mw w.fr w.to p l
 | 0,_,_,_,_,_,_,_,_,_,h=>by cases h
 | j+1,0,l,p,s,s',hr,hl,_,_,_=>by
   cases l with
   | nil=>exact absurd rfl hl
   | cons x l=>exact absurd (hr.len x (List.mem_cons_self ..)) (Nat.not_lt_zero _)
 | j+1,m+1,l,p,s,s',hr,hl,hL,hk,h=>by
   unfold z6 at h;split at h
   ·cases h
   have:=KG (g:=fun i=>mw w.fr w.to (va (dR (m+1) l) p i) (bF l i)) ?_ h
   ·rw[this,aln s hk,Ng w.fr w.to p hl hr,List.append_assoc]
   intro i hi s1 s2 hs;obtain⟨L1,L2⟩:=hL i hi;unfold jZ at hs;by_cases he:bF l i=[]
   ·rw[if_pos (L1 he)] at hs;injection hs with hs;subst hs;rw[he];simp[mw]
   ·obtain⟨L2,L3,L4⟩:=L2 he;rw[if_neg L2] at hs;cases hm:eo w.fr w.to (va (dR (m+1) l) p i)with
    | false =>rw[hm] at hs;injection hs with hs;subst hs;rw[EJ hm,List.append_nil]
    | true =>
      rw[hm,cond_true] at hs;split at hs
      ·cases hs
      ·rename_i y s3 hf;have hy:=L3 _ _ _ hf;subst hy;rw[aaI (oU hr i) he L4 (fun x hx=>by obtain⟨z,hz,e⟩:=afq (p:=p) hr hx;rw[e];exact hk z hz) hs,ais hf]
theorem aq6: ∀ a,a<16->∀ b,b<16->(a*16% 256) ||| b=a*16+b:=by decide
theorem Zc {a b:Int}(ha:0<=a/\a<=15)(hb:0<=b/\b<=15):bitsOf .or (a*16% 256) b=a*16+b:=by
 obtain⟨x,rfl⟩:=Int.eq_ofNat_of_zero_le ha.1;obtain⟨y,rfl⟩:=Int.eq_ofNat_of_zero_le hb.1;have:=aq6 x (by omega) y (by omega);show(((((x:Int)*16% 256).toNat ||| ((y:Int)).toNat:Nat):Int))=_;rw[show((x:Int)*16% 256).toNat=x*16% 256 by omega,Int.toNat_natCast,this]
 push_cast;rfl
theorem Lo {f:Nat->Int}{n j:Nat}(h:j<n)(h0:0<=f j/\f j<256):ai (eP f 0 n) (j:Int)=f j:=by unfold ai eP;rw[List.getD_eq_getElem?_getD,Int.toNat_natCast,List.getElem?_map,List.getElem?_range h];simp only[Option.map_some,Option.getD_some,Nat.zero_add];rw[UInt8.toNat_ofNat'];omega
theorem VJ (q:List UInt8)(j:Nat)(h:j<q.length):q[j]?=some (UInt8.ofNat (ai q (j:Int)).toNat):=by unfold ai;simp[List.getD_eq_getElem?_getD,List.getElem?_eq_getElem h]
theorem JK {q:List UInt8}{m:Nat}(hm:q.length=2*m)(hq: ∀ j:Nat,j<q.length->ai q (j:Int)<=15):ay (dJ q)=q:=by
 have hnn: ∀ i,0<=ai q i:=fun i=>(eO q i).1;have hl:(dJ q).length=m:=by rw[JI,hm];omega
 have hpair: ∀ i:Nat,i<m->ai (dJ q) (i:Int)=ai q ((2*i:Nat):Int)*16+ai q ((2*i+1:Nat):Int):=fun i hi=>by
  have h1:=hq (2*i) (by omega);have h2:=hq (2*i+1) (by omega);have h3:=hnn ((2*i:Nat):Int);have h4:=hnn ((2*i+1:Nat):Int);have e:ny q i=ai q ((2*i:Nat):Int)*16+ai q ((2*i+1:Nat):Int):=by unfold ny;rw[show(2*(i:Int))=((2*i:Nat):Int)by push_cast;rfl,show(((2*i:Nat):Int)+1)=((2*i+1:Nat):Int)by push_cast;rfl];exact Zc ⟨h3,h1⟩ ⟨h4,h2⟩
  unfold dJ;rw[Lo (by rw[hm];omega) (by rw[e];omega),e]
 apply List.ext_getElem?;intro j;by_cases hj:j<q.length
 ·rw[VJ q j hj];unfold ay eP;rw[List.getElem?_map,List.getElem?_range (by rw[hl];omega)];simp only[Option.map_some,Nat.zero_add,Option.some.injEq];congr 2;obtain⟨i,hi⟩: ∃ i,j=2*i∨j=2*i+1:=⟨j / 2,by omega⟩
  have hp:=hpair i (by omega);have h1:=hq (2*i) (by omega);have h2:=hq (2*i+1) (by omega);have h3:=hnn ((2*i:Nat):Int);have h4:=hnn ((2*i+1:Nat):Int);unfold pF;rcases hi with rfl | rfl
  ·rw[if_pos (by omega),show(((2*i:Nat):Int) / 2)=(i:Int)by omega,hp];omega
  ·rw[if_neg (by omega),show(((2*i+1:Nat):Int) / 2)=(i:Int)by omega,hp];omega
 ·rw[List.getElem?_eq_none (by rw[zB,hl];omega),List.getElem?_eq_none (by omega)]
theorem aor {p:List UInt8}(h:oB p=true)(j:Nat)(hj:j<p.length):ai p (j:Int)<=15:=by have:=List.all_eq_true.1 h j (List.mem_range.2 hj);unfold Qr at this;simp only[Bool.not_eq_true',decide_eq_false_iff_not] at this;omega
theorem bZ (b:UInt8)(l:List UInt8)(j:Nat):ai (b::l) ((j+1:Nat):Int)=ai l (j:Int):=by unfold ai;rw[Int.toNat_natCast,Int.toNat_natCast];rfl
theorem Nl {p:List UInt8}(h:oB p=true)(leaf:Bool):nu (iE p leaf)=true/\fH (iE p leaf)=leaf/\gP (iE p leaf)=p:=by
 have hp:=aor h;cases ho:decide ((p.length:Int)% 2=1)with
 | true =>
   have ho':(p.length:Int)% 2=1:=of_decide_eq_true ho;have hflag:mF leaf true<=3/\0<=mF leaf true/\mF leaf true% 2=1/\(2<=mF leaf true↔leaf=true):=by cases leaf<;>decide
   have e:ay (iE p leaf)=UInt8.ofNat (mF leaf true).toNat::p:=by
    unfold iE;rw[ho];refine JK (m:=(p.length+1) / 2) (by simp only[cond_true,List.length_cons];omega) fun j hj=> ?_;cases j with
    | zero =>show((UInt8.ofNat (mF leaf true).toNat).toNat:Int)<=15;rw[UInt8.toNat_ofNat'];omega
    | succ j =>rw[bZ];exact hp j (by simpa using hj)
   have e0:ai (ay (iE p leaf)) 0=mF leaf true:=by rw[e];show((UInt8.ofNat (mF leaf true).toNat).toNat:Int)=_;rw[UInt8.toNat_ofNat'];omega
   refine⟨CF.2 ⟨by rw[e];simp,by rw[e0];omega,.inl (by rw[e0];omega)⟩,?_,?_⟩
   ·unfold fH;rw[e0];cases leaf<;>rfl
   ·unfold gP;rw[e0,if_pos hflag.2.2.1,e];rfl
 | false =>
   have ho': ¬ (p.length:Int)% 2=1:=of_decide_eq_false ho;have hflag:mF leaf false<=3/\0<=mF leaf false/\¬ mF leaf false% 2=1/\(2<=mF leaf false↔leaf=true):=by cases leaf<;>decide
   have e:ay (iE p leaf)=UInt8.ofNat (mF leaf false).toNat::0::p:=by
    unfold iE;rw[ho];refine JK (m:=(p.length+2) / 2) (by simp only[cond_false,List.length_cons];omega) fun j hj=> ?_;cases j with
    | zero =>show((UInt8.ofNat (mF leaf false).toNat).toNat:Int)<=15;rw[UInt8.toNat_ofNat'];omega
    | succ j =>
      rw[bZ];cases j with
      | zero=>show((0:UInt8).toNat:Int)<=15;decide
      | succ j =>simp only[cond_false];rw[bZ];exact hp j (by simpa using hj)
   have e0:ai (ay (iE p leaf)) 0=mF leaf false:=by rw[e];show((UInt8.ofNat (mF leaf false).toNat).toNat:Int)=_;rw[UInt8.toNat_ofNat'];omega
   refine⟨CF.2 ⟨by rw[e];simp,by rw[e0];omega,.inr (by rw[e];rfl)⟩,?_,?_⟩
   ·unfold fH;rw[e0];cases leaf<;>rfl
   ·unfold gP;rw[e0,if_neg hflag.2.2.1,e];rfl
end Go.Proofs.YtpaaiebohjjieaaGreatDoor
