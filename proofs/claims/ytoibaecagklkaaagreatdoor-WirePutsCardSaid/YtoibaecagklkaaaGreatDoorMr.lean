/-
  Span: through: the contract; Verify: the set-up.
-/
import Derived.Test.YtoibaecagklkaaaGreatDoorMq
import Derived.Test.YtoibaecagklkaaaGreatDoorMp
import Derived.Test.YtoibaecagklkaaaGreatDoorMl
open Bool renaming and_eq_true->O,eq_false_iff->cx,false->D,false_and->cB,false_or->cH,not_eq_true'->Z,or_eq_true->bn,or_false->an,true->C
open Decidable renaming decide->F
open Go.IntKind renaming i64->J
open Go.Op renaming bytesLess->Q
open Int renaming eq_ofNat_of_zero_le->cL,le_of_eq->c4,le_refl->R,toNat_natCast->K
open List renaming all_eq_true->b5,append_nil->az,drop_eq_nil_of_le->c5,ext_getElem?->c6,getD_eq_getElem?_getD->L,getElem?_drop->c_,getElem?_eq_getElem->V,getElem?_eq_none->aA,getElem?_map->b6,getElem?_range->b9,length_append->c!,length_cons->d_,length_drop->M,length_pos_iff->d!,mem_cons->a_,mem_range->a!,not_mem_nil->bl
open Nat renaming le_refl->W,not_lt_zero->b_,zero_add->X,zero_le->N
open Option renaming map_some->b!,none->G,some->H
open UInt8 renaming lt_iff_toNat_lt->cl,lt_irrefl->ef,ofNat->I,toNat_inj->ei,toNat_ofNat'->Y
namespace Go.Proofs.YtoibaecagklkaaaGreatDoor
open Go Sx
variable {l:List e_}{a b h p s t:e_}{i m n:Nat}{f:Nat->e_}{x:Nd}{w:Sp}
section
open Go Sx
set_option maxRecDepth 20000
def cw (f:Nat->e_):Nat->e_->Bool
 | 0=>λ_=>D
 | i+1=>λh=>cw f i h||decide (h=b7 (f i))
def cX (f:Nat->e_):Nat->e_->Int
 | 0=>λ_=>0
 | i+1=>λh=>bif cw f i h then cX f i h else(bif F (h=b7 (f i))then(i:Int)else 0)
theorem nJ (f:Nat->e_): ∀(n:Nat) (h:e_),cw f n h=C->0<=cX f n h/\cX f n h<n/\b7 (f (cX f n h).toNat)=h
 | 0,h,e=>by cases e
 | n+1,h,e=>by
   unfold cX;cases hd:cw f n h with
   | true =>obtain⟨h1,h2,h3⟩:=nJ f n h hd;exact⟨h1,by show cX f n h<_;omega,h3⟩
   | false =>
     have hs:F (h=b7 (f n))=true:=by unfold cw at e;rw[hd,cH] at e;exact e
     rw[hs];simp only[cond_true,cond_false,K];exact⟨by omega,by omega,(of_decide_eq_true hs).symm⟩
theorem lD (f:Nat->e_): ∀(n j:Nat),j<n->cw f n (b7 (f j))=C
 | 0,j,h=>absurd h (b_ _)
 | n+1,j,h=>by
   unfold cw;by_cases e:j=n
   ·subst e;simp
   ·rw[lD f n j (by omega)];rfl
theorem tr (f:Nat->e_): ∀(n:Nat),cX f n (b7 (f 0))=0
 | 0=>rfl
 | n+1=>by
   unfold cX;cases n with
   | zero=>simp[cw]
   | succ n=>rw[lD f (n+1) 0 (by omega),tr f (n+1)];rfl
theorem Ar {root:e_}:(cw f n root=C/\cX f n root=0)↔(0<n/\b7 (f 0)=root):=by
 constructor
 ·rintro⟨h1,h2⟩;obtain⟨_,g2,g3⟩:=nJ f n root h1;rw[h2] at g2 g3;exact⟨by omega,g3⟩
 ·rintro⟨h1,rfl⟩;exact⟨lD f n 0 h1,tr f n⟩
def XY (a b:e_):Bool:=Q a b||decide (a=b)
def Sp.full (w:Sp):Sp:={w with ad:=cw w.f w.n,ag:=cX w.f w.n}
def Wk.start:Wk:=⟨λ_=>D,λ_=>0,[],0,[]⟩
def mB (root:e_)(w:Sp):Option Wk:=bif dJ w root then jA w 401 (Wk.start.take w root) (getD (w.at root)) [] else G
def cU (root:e_)(w:Sp):Option (List (e_×e_)) :=
 bif XY w.fr w.to&&(F (0<w.n)&&(F (w.n<=200)&&F (b7 (w.f 0)=root)))then(match mB root w.full with
  | some s=>bif ec s.ns.length (λi=>s.ns.getD i []) w.n w.f then H s.fs else G
  | none=>G)else G
def jy (root:e_)(w:Sp):List (e_×e_):=match cU root w with
 | some l=>l
 | none=>[]
def GD (root:e_)(w:Sp):cN:=.fork (cU root w).isSome λb=>match b with
 | true=>.all Nat λc=>.req ((jy root w).length<=c) (.new (λk=>.aD [.bx k 2 C 0 (jy root w).length c,.int .i64 C 0]) (.rows C (jy root w).length [eC (jy root w),eD (jy root w)] D (c*2) 50))
 | false=>.ret (.aD [.aK,.int .i64 C 10])
def ac6 (st:Sx.St)(i:Nat):Nat:=match st.m.get (vB st i)with
 | some (.cells [.map k] _ _)=>k
 | _=>0
def RX (w:Sp):aX :={α:=Nat,pre:=λ_ i=>i<=w.n,jx:=λ_ i=>w.n - i,fresh:=0,slots:=λ_ i=>[(37,.int .i64 D i)],mem:=λst i=>[(ac6 st 8,.fmap (cw w.f i) (.int .i64 (cX w.f i)) G)]}
noncomputable def Uy:List (FuncId×PT):=(51,bQ VF jP)::FP 401
noncomputable def S7 (w:Sp):dK:={bE with cm:=λf=>ay f Uy,bh:=λf=>if f=14 then [(5,always (RX w))] else []}
theorem PV:aQ Tryz.prog (λf=>ay f Uy):=.cons CT (bR _ _) (PU 401)
theorem aa8 (w:Sp):Sx.Good Tryz.prog (S7 w):=.of bz PV aU
def kT (w:Sp)(kk:Option Nat):Seen:=⟨kk,w.z,w.o,w.n,w.c,[.str w.f]⟩
theorem Na (root:e_)(w:Sp)(kk:Option Nat):VC.holds (fN (S7 w) 14 Tryz.f14 [.str D root,.agg [.str D w.fr,.str D w.to],.aS 0 1 w.z w.o 0 w.n w.c] [kT w kk] (GD root w))=((λg:SV=>((λe:(yu×e_)->Nd=>((λh:SB=>((Bk (!(Q w.fr w.to||decide (w.fr=w.to))) (Bk ((cU root w).isSome) (∃(u:Nat),(jy root w).length<=u/\False) (aa g g)) (Fk ((w.n:Int)=0) (Bk ((cU root w).isSome) (∃(x:Nat),(jy root w).length<=x/\False) (aa g g)) (Fk (200<(w.n:Int)) (Bk ((cU root w).isSome) (∃(y:Nat),(jy root w).length<=y/\False) (aa g g)) ((∃(q:Nat),q<=w.n/\0=(q:Int)/\ah (SB.map [] 0) (SB.fmap (cw w.f q) (bL.int J (cX w.f q)) G)/\ah (SB.cells [SV.map 3] 1 90) (SB.cells [SV.map 3] 1 90)/\ah (SB.cells (SV.aS 0 1 w.z w.o 0 w.n w.c).cells 1 29) (SB.cells (SV.aS 0 1 w.z w.o 0 w.n w.c).cells 1 29)/\ah h h/\ah (kT w kk).B (kT w kk).B/\True)/\∀(d:Nat),d<=w.n->Fk ((d:Int)<(w.n:Int)) ((0<=(d:Int)/\(d:Int)<(w.n:Int))/\(w.o=w.o /\0+(d:Int).toNat<w.n)/\(True/\IQ [w.f (0+(d:Int).toNat)])/\Bk (!cw w.f d (b7 (flat [w.f (0+(d:Int).toNat)]))) (I6 ((d:Int)+1)/\∃(j:Nat),(j<=w.n/\w.n - j<w.n - d)/\(d:Int)+1=(j:Int)/\ah (SB.fmap (mA (cw w.f d) (b7 (flat [w.f (0+(d:Int).toNat)]))) (bL.int J (x8 (cX w.f d) (b7 (flat [w.f (0+(d:Int).toNat)])) (d:Int))) G) (SB.fmap (cw w.f j) (bL.int J (cX w.f j)) G)/\ah (SB.cells [SV.map 3] 1 90) (SB.cells [SV.map 3] 1 90)/\ah (SB.cells (SV.aS 0 1 w.z w.o 0 w.n w.c).cells 1 29) (SB.cells (SV.aS 0 1 w.z w.o 0 w.n w.c).cells 1 29)/\ah h h/\ah (kT w kk).B (kT w kk).B/\True) (I6 ((d:Int)+1)/\∃(l:Nat),(l<=w.n/\w.n - l<w.n - d)/\(d:Int)+1=(l:Int) /\ah (SB.fmap (cw w.f d) (bL.int J (cX w.f d)) G) (SB.fmap (cw w.f l) (bL.int J (cX w.f l)) G)/\ah (SB.cells [SV.map 3] 1 90) (SB.cells [SV.map 3] 1 90)/\ah (SB.cells (SV.aS 0 1 w.z w.o 0 w.n w.c).cells 1 29) (SB.cells (SV.aS 0 1 w.z w.o 0 w.n w.c).cells 1 29)/\ah h h/\ah (kT w kk).B (kT w kk).B/\True)) (Bk (!cw w.f d root) (Bk ((cU root w).isSome) (∃(A:Nat),(jy root w).length<=A/\False) (aa g g)) (Bk (!decide (dflt (cw w.f d root) (cX w.f d root)=0)) (Bk ((cU root w).isSome) (∃(E:Nat),(jy root w).length<=E/\False) (aa g g)) (∃(b:yu×e_),(b.1.w.Ok/\b.1.s.Small/\(b.1.s.ns.length<=b.1.c1/\b.1.s.fs.length<=b.1.c2)/\True)/\(0:Nat)=(0:Nat)/\root=b.2/\(7:Nat)=(7:Nat)/\w.fr=b.1.w.fr/\w.to=b.1.w.to/\(0:Nat)=(0:Nat) /\(0:Nat)=(0:Nat)/\b.1.s.ns.length=0/\0=(b.1.s.lk:Int)/\b.1.s.fs.length=0/\ah (SB.map [] 0) (ig b.1.s)/\(cZ b.1.s b.1.c1).no=C/\(cR b.1.s b.1.c2).no=C/\(1:Nat)=(1:Nat)/\ah (SB.fmap (cw w.f d) (bL.int J (cX w.f d)) G) (SB.fmap b.1.w.ad (bL.int J b.1.w.ag) G)/\(1:Nat)=(1:Nat)/\(w.z=b.1.w.z/\w.o=b.1.w.o/\(0:Nat)=(0:Nat)/\w.n=b.1.w.n/\w.c=b.1.w.c)/\ah (SB.view w.z w.o w.n [aE.str w.f]) (SB.view b.1.w.z b.1.w.o b.1.w.n [aE.str b.1.w.f])/\Bk (dJ b.1.w b.2) (∀(i:Nat×Nat),(if b.1.s.used b.2=0 then b.1.s.ns++[b.1.w.at b.2] else b.1.s.ns).length<=i.1/\b.1.s.fs.length<=i.2->∃(a:yu×Nd×e_),(a.1.w.Ok/\a.1.s.Small/\(a.1.s.ns.length<=a.1.c1/\a.1.s.fs.length<=a.1.c2)/\a.1.s.Fit (a.1.s.lk+1)/\401<=a.1.s.lk+401/\a.2.1.p6/\a.2.2.length<=13*a.1.s.lk)/\(0:Nat)=(0:Nat)/\(e b).k=a.2.1.k/\(e b).p=a.2.1.p /\(e b).v=a.2.1.v/\(e b).r 0=a.2.1.r 0/\(e b).r 1=a.2.1.r 1/\(e b).r 2=a.2.1.r 2/\(e b).r 3=a.2.1.r 3/\(e b).r 4=a.2.1.r 4/\(e b).r 5=a.2.1.r 5/\(e b).r 6=a.2.1.r 6/\(e b).r 7=a.2.1.r 7/\(e b).r 8=a.2.1.r 8/\(e b).r 9=a.2.1.r 9/\(e b).r 10=a.2.1.r 10/\(e b).r 11=a.2.1.r 11/\(e b).r 12=a.2.1.r 12/\(e b).r 13=a.2.1.r 13/\(e b).r 14=a.2.1.r 14/\(e b).r 15=a.2.1.r 15/\[]=a.2.2/\(7:Nat)=(7:Nat)/\b.1.w.fr=a.1.w.fr/\b.1.w.to=a.1.w.to/\(0:Nat)=(0:Nat)/\(0:Nat)=(0:Nat)/\((0:Nat)=(0:Nat)/\(if b.1.s.used b.2=0 then b.1.s.ns++[b.1.w.at b.2] else b.1.s.ns).length=a.1.s.ns.length/\i.1=a.1.c1)/\True/\(b.1.s.lk:Int)=(a.1.s.lk:Int)/\((0:Nat)=(0:Nat)/\b.1.s.fs.length=a.1.s.fs.length/\i.2=a.1.c2)/\True/\ah (SB.fmap (mA b.1.s.ud b.2) (bL.int J (x8 b.1.s.us b.2 (b.1.s.used b.2+1))) G) (ig a.1.s) /\ah (SB.rows C (if b.1.s.used b.2=0 then b.1.s.ns++[b.1.w.at b.2] else b.1.s.ns).length [aE.str λF=>(if b.1.s.used b.2=0 then b.1.s.ns++[b.1.w.at b.2] else b.1.s.ns).getD F []] D (i.1*1) 9) (cZ a.1.s a.1.c1)/\ah (SB.rows C b.1.s.fs.length [aE.str λH=>(b.1.s.fs.getD H ([],[])).1,aE.str λI=>(b.1.s.fs.getD I ([],[])).2] D (i.2*2) 50) (cR a.1.s a.1.c2)/\(1:Nat)=(1:Nat)/\ah (SB.fmap b.1.w.ad (bL.int J b.1.w.ag) G) (SB.fmap a.1.w.ad (bL.int J a.1.w.ag) G)/\(1:Nat)=(1:Nat)/\(b.1.w.z=a.1.w.z/\b.1.w.o=a.1.w.o/\(0:Nat)=(0:Nat)/\b.1.w.n=a.1.w.n/\b.1.w.c=a.1.w.c)/\ah (SB.view w.z w.o w.n [aE.str w.f]) (SB.view a.1.w.z a.1.w.o a.1.w.n [aE.str a.1.w.f])/\Bk (iu a.1.w 401 a.1.s a.2.1 a.2.2) (∀(m:Nat×Nat),(de a.1.w 401 a.1.s a.2.1 a.2.2).ns.length<=m.1 /\(de a.1.w 401 a.1.s a.2.1 a.2.2).fs.length<=m.2->(((C=C/\0+(de a.1.w 401 a.1.s a.2.1 a.2.2).ns.length<=(de a.1.w 401 a.1.s a.2.1 a.2.2).ns.length)/\(a.1.w.z=w.z/\w.o=a.1.w.o/\0+a.1.w.n<=w.n)/\True)/\(de a.1.w 401 a.1.s a.2.1 a.2.2).ns.length<9223372036854775808)/\((!ec (de a.1.w 401 a.1.s a.2.1 a.2.2).ns.length (fun(K:Nat)=>(de a.1.w 401 a.1.s a.2.1 a.2.2).ns.getD K []) a.1.w.n w.f)=C->Bk ((cU root w).isSome) (∃(L:Nat),(jy root w).length<=L/\False) (aa g g))/\((!ec (de a.1.w 401 a.1.s a.2.1 a.2.2).ns.length (fun(M:Nat)=>(de a.1.w 401 a.1.s a.2.1 a.2.2).ns.getD M []) a.1.w.n w.f)=D->Bk ((cU root w).isSome) (∃(t:Nat),(jy root w).length<=t /\ah (SB.rows C (de a.1.w 401 a.1.s a.2.1 a.2.2).fs.length [aE.str λN=>((de a.1.w 401 a.1.s a.2.1 a.2.2).fs.getD N ([],[])).1,aE.str λO=>((de a.1.w 401 a.1.s a.2.1 a.2.2).fs.getD O ([],[])).2] D (m.2*2) 50) (SB.rows C (jy root w).length [eC (jy root w),eD (jy root w)] D (t*2) 50)/\aa (SV.aD [SV.bx 29 2 C 0 (de a.1.w 401 a.1.s a.2.1 a.2.2).fs.length m.2,SV.int .i64 C 0]) (SV.aD [SV.bx 29 2 C 0 (jy root w).length t,SV.int .i64 C 0])) (aa (SV.aD [SV.bx 29 2 C 0 (de a.1.w 401 a.1.s a.2.1 a.2.2).fs.length m.2,SV.int .i64 C 0]) g))) (∀(_:e_×e_),Bk ((cU root w).isSome) (∃(u2:Nat),(jy root w).length<=u2/\False) (aa g g))) (∀(_:e_×e_),Bk ((cU root w).isSome) (∃(P:Nat),(jy root w).length<=P/\False) (aa g g))))))))))) (SB.cells (SV.agg [SV.str D w.fr,SV.str D w.to]).cells 2 28))) (fun(b:yu×e_)=>(getD (b.1.w.at b.2))))) (SV.aD [SV.aK,SV.int .i64 C 10])):=by kernel_rfl
structure Sp.jZ (w:Sp):Prop where
 f: ∀ i,i<w.n->(w.f i).length<=1000
 fr:w.fr.length<=1000
 to:w.to.length<=1000
theorem C0 (f:Nat->e_): ∀ {n:Nat} {h:e_},cw f n h=D->cX f n h=0
 | 0,_,_=>rfl
 | n+1,h,e=>by unfold cw at e;simp only[Bool.or_eq_false_iff] at e;unfold cX;rw[e.1,e.2];rfl
theorem qn (f:Nat->e_)(n:Nat)(t:e_):cX f (n+1) t=bif cw f n t then cX f n t else(bif F (t=b7 (f n))then(n:Int)else 0):=rfl
theorem C1 (h:cw f n (b7 (f n))=D):(∀ t,mA (cw f n) (b7 (f n)) t=cw f (n+1) t)/\(∀ t,x8 (cX f n) (b7 (f n)) n t=cX f (n+1) t):=by
 refine⟨λt=>rfl,λt=> ?_⟩;rw[qn];unfold x8;by_cases e:t=b7 (f n)
 ·subst e;rw[h];simp
 ·rw[decide_eq_false e];cases hd:cw f n t with
  | true=>rfl
  | false=>exact C0 f hd
theorem C2 (h:cw f n (b7 (f n))=C):(∀ t,cw f n t=cw f (n+1) t)/\(∀ t,cX f n t=cX f (n+1) t):=by
 refine⟨λt=> ?_,λt=> ?_⟩
 ·show _=(cw f n t||decide (t=b7 (f n)))
  by_cases e:t=b7 (f n)
  ·subst e;rw[h];rfl
  ·rw[decide_eq_false e,an]
 ·rw[qn];cases hd:cw f n t with
  | true=>rfl
  | false =>
    by_cases e:t=b7 (f n)
    ·subst e;rw[h] at hd;cases hd
    ·rw[decide_eq_false e];exact C0 f hd
theorem yb (w:Sp)(t:e_):(Wk.start.take w t).Fit 1:=Wk.Fit.take (k:=0) ⟨λ_=>⟨R _,R _⟩,W _,W _,N _⟩ w t
theorem adB {b:Bool}(h:(!b)=C):b=false:=by cases b<;>simp_all
theorem adC {b:Bool}(h:(!b)=D):b=true:=by cases b<;>simp_all
section
attribute [local irreducible] b7 aJ getD cw cX hasB kj ak jA iu de ec
set_option maxHeartbeats 1000000 in
theorem JC (hw:w.jZ)(root:e_)(kk:Option Nat) :
  av (fN (S7 w) 14 Tryz.f14 [.str D root,.agg [.str D w.fr,.str D w.to],.aS 0 1 w.z w.o 0 w.n w.c] [kT w kk] (GD root w)):=by
 refine av.gV (Na root w kk) (by delta Bk Fk;exact rfl) ?_;dsimp only;have S: ∀ v:SV,aa v v:=λ_ _=>rfl
 have eR:cU root w=bif XY w.fr w.to&&(F (0<w.n)&&(F (w.n<=200)&&F (b7 (w.f 0)=root)))then(match mB root w.full with
  | some s=>bif ec s.ns.length (λi=>s.ns.getD i []) w.n w.f then H s.fs else G
  | none=>G)else none:=rfl
 have bad:cU root w=G->∀ {A B:Prop},B->((cU root w).isSome=C->A)/\((cU root w).isSome=D->B):=λh A B b=>by rw[h];exact⟨(λh=>by cases h),λ_=>b⟩
 refine⟨λh=>bad (by rw[eR,show XY w.fr w.to=D by simpa [XY] using h];rfl) (S _),λhle=>⟨λh0=>bad (by rw[eR,show F (0<w.n)=D from decide_eq_false (by have:=of_decide_eq_true h0;omega)];simp) (S _),λh0=>⟨λh2=>bad (by rw[eR,show F (w.n<=200)=D from decide_eq_false (by have:=of_decide_eq_true h2;omega)];simp) (S _),λh2=> ?_⟩⟩⟩
 have hle:XY w.fr w.to=true:=by unfold XY;simpa only[Bool.not_eq_false'] using hle
 have h0:0<w.n:=by have:=of_decide_eq_false h0;omega
 have h2:w.n<=200:=by have:=of_decide_eq_false h2;omega
 refine⟨⟨0,N _,rfl,ah.ZD λs=>by unfold cw;rfl,ah.refl _,ah.refl _,ah.refl _,ah.refl _,trivial⟩,λx hx=>⟨λhlt=> ?_,λhge=> ?_⟩⟩
 ·have hlt:x<w.n:=by have:=of_decide_eq_true hlt;omega
  have hf:=hw.f x hlt;simp only[-eq_self,nK,K,X];refine⟨⟨by omega,by omega⟩,⟨rfl,hlt⟩,⟨trivial,by rw[nK];omega,by simp⟩,λhd=>⟨⟨by omega,by omega⟩,x+1,⟨hlt,by omega⟩,by omega,?_⟩,λhd=>⟨⟨by omega,by omega⟩,x+1,⟨hlt,by omega⟩,by omega,?_⟩⟩
  ·have hd:cw w.f x (b7 (w.f x))=false:=by simpa using hd
   exact⟨ah.fmap (C1 hd).1 λt=>congrArg (Value.int .i64) ((C1 hd).2 t),ah.refl _,ah.refl _,ah.refl _,ah.refl _,trivial⟩
  ·have hd:cw w.f x (b7 (w.f x))=true:=by simpa using hd
   exact⟨ah.fmap (C2 hd).1 λt=>congrArg (Value.int .i64) ((C2 hd).2 t),ah.refl _,ah.refl _,ah.refl _,ah.refl _,trivial⟩
 ·have hx:x=w.n:=by have:=of_decide_eq_false hge;omega
  subst hx;have noroot: ¬ (cw w.f w.n root=C/\cX w.f w.n root=0)->cU root w=none:=λh=>by have: ¬ b7 (w.f 0)=root:=λe=>h (Ar.2 ⟨h0,e⟩);rw[eR,decide_eq_false this];simp
  refine⟨λhr=>bad (noroot λh=>by rw[h.1] at hr;cases hr) (S _),λhr=> ?_⟩;have hr:cw w.f w.n root=true:=by simpa using hr
  refine⟨λhz=>bad (noroot λh=>by rw[h.1,h.2] at hz;cases hz) (S _),λhz=> ?_⟩;have hz:cX w.f w.n root=0:=by rw[hr] at hz;exact WM (p:=cX w.f w.n root=0) hz
  have hroot:b7 (w.f 0)=root:=(Ar.1 ⟨hr,hz⟩).2
  have eR:cU root w=(match mB root w.full with
   | some s=>bif ec s.ns.length (λi=>s.ns.getD i []) w.n w.f then H s.fs else G
   | none=>G):=by rw[eR,hle,decide_eq_true h0,decide_eq_true h2,decide_eq_true hroot];rfl
  have hok:w.full.Ok:=⟨h2,hw.f,λh e=>by obtain⟨g1,g2,_⟩:=nJ w.f w.n h e;exact⟨g1,g2⟩,hw.fr,hw.to⟩
  refine⟨(⟨w.full,Wk.start,0,0⟩,root),⟨hok,⟨λ_=>⟨R _,show(0:Int)<=1000 by decide⟩,N _,N _,N _⟩,⟨W _,W _⟩,trivial⟩,?_⟩;dsimp only;refine⟨rfl,rfl,rfl,rfl,rfl,rfl,rfl,rfl,rfl,rfl,ah.ZD λ_=>rfl,rfl,rfl,rfl,ah.refl _,rfl,⟨rfl,rfl,rfl,rfl,rfl⟩,ah.refl _,λhL c hc=> ?_,λhL c=>bad (by rw[eR,mB,hL];rfl) (S _)⟩;have hg:aJ (w.full.at root)=true:=by simp only[dJ,O] at hL;exact hL.2
  have hfit:=yb w.full root;have eW:mB root w.full=jA w.full 401 (Wk.start.take w.full root) (getD (w.full.at root)) []:=by rw[mB,hL];rfl
  refine⟨(⟨w.full,Wk.start.take w.full root,c.1,c.2⟩,getD (w.full.at root),[]),⟨hok,hfit.small (by decide),hc,hfit,(by show 401<=0+401;decide),fQ (iT hg),N _⟩,?_⟩;dsimp only
  repeat' first
   | exact ah.refl _
   | refine And.intro ?_ ?_
   | rfl
   | exact trivial
   | fail
  ·intro hB e he;have hs:=zU hB;have k1:=(sB w.full 401 _ _ _ _ hfit hs).1;generalize de w.full 401 (Wk.start.take w.full root) (getD (w.full.at root)) []=s' at hs k1 he ⊢;have eR:cU root w=bif ec s'.ns.length (λi=>s'.ns.getD i []) w.n w.f then H s'.fs else none:=by rw[eR,eW,hs]
   have hns:=k1.ns;have hlk:=k1.lk;refine⟨⟨⟨⟨rfl,by omega⟩,⟨rfl,rfl,by show 0+w.n<=w.n;omega⟩,trivial⟩,by omega⟩,λhq=>bad (by rw[eR,show ec s'.ns.length (λi=>s'.ns.getD i []) w.n w.f=D from adB hq];rfl) (S _),λhq=> ?_⟩
   have hq:ec s'.ns.length (λi=>s'.ns.getD i []) w.n w.f=true:=adC hq;have eR:cU root w=H s'.fs:=by rw[eR,hq];rfl
   have eL:jy root w=s'.fs:=by unfold jy;rw[eR]
   rw[eR,eL];exact⟨λ_=>⟨e.2,he.2,ah.refl _,S _⟩,(λh=>by cases h)⟩
  ·exact λhB c=>bad (by rw[eR,eW,sA hB]) (S _)
end
def abS:List zw:=[.of .one,.agg [.one,.one],.of (.slice [.str λ_=>[]])]
def abT (vs:List SV)(l:List Seen):Option (e_×Sp×Option Nat):=match vs,l with
 | [.str D root,.agg [.str D fr,.str D to],_],[⟨kk,z,o,n,c,[.str f]⟩]=>H (root,⟨fr,to,n,f,z,o,c,λ_=>D,λ_=>0⟩,kk)
 | _,_=>G
theorem YB {vs:List SV}{l:List Seen}{root:e_}{kk:Option Nat}(h:abT vs l=H (root,w,kk)):filled abS vs l=[.str D root,.agg [.str D w.fr,.str D w.to],.aS 0 1 w.z w.o 0 w.n w.c]/\l=[kT w kk]:=by
 unfold abT at h;split at h
 ·cases h;exact⟨rfl,rfl⟩
 ·cases h
def ya (vs:List SV)(l:List Seen):Option (Prop×cN):=match abT vs l with
 | some (root,w,_)=>H (w.jZ,GD root w)
 | none=>G
theorem Oq (l:List (e_×e_))(c:Nat):(cN.req (l.length<=c) (.new (λk=>.aD [.bx k 2 C 0 l.length c,.int .i64 C 0]) (.rows C l.length [eC l,eD l] D (c*2) 50))).Ok:=by
 refine⟨rfl,rfl,λk=>by simp[SV.wf,SV.e9,Nat.blt_eq],λE E' k k' h=> ?_⟩;simp only[SV.val,SV.vals];cases l with
 | nil=>rfl
 | cons a r=>rw[h (SB.jk (i:=0) (Nat.succ_pos _))]
theorem QY (root:e_)(w:Sp):(GD root w).Ok:=by
 intro b;cases b with
 | false=>rfl
 | true=>intro c;exact Oq (jy root w) c
theorem VJ:ax Tryz.prog 14 (bQ abS ya):=by
 refine dN (n:=20) (fn:=Tryz.f14) Tryz.func14 (by kernel_rfl) (by kernel_rfl) ?_;intro vs l q a h hq;unfold ya at h;split at h
 ·rename_i root w kk hx;cases h;obtain⟨e1,e2⟩:=YB hx;rw[e1,e2];exact⟨_,aa8 w,rfl,QY root w,JC hq root kk⟩
 ·cases h
end
section
open Go Sx
set_option maxRecDepth 20000
theorem adU: ∀ a,a<16->∀ b,b<16->(a*16% 256) ||| b=a*16+b:=by decide
theorem F9 {a b:Int}(ha:0<=a/\a<=15)(hb:0<=b/\b<=15):bitsOf .or (a*16% 256) b=a*16+b:=by
 obtain⟨x,rfl⟩:=cL ha.1;obtain⟨y,rfl⟩:=cL hb.1;have:=adU x (by omega) y (by omega);show(((((x:Int)*16% 256).toNat ||| ((y:Int)).toNat:Nat):Int))=_;rw[show((x:Int)*16% 256).toNat=x*16% 256 by omega,K,this]
 push_cast;rfl
theorem sN {f:Nat->Int}{j:Nat}(h:j<n)(h0:0<=f j/\f j<256):ai (bD f 0 n) (j:Int)=f j:=by unfold ai bD;rw[L,K,b6,b9 h];simp only[b!,Option.getD_some,X];rw[Y];omega
theorem Aa (q:e_)(j:Nat)(h:j<q.length):q[j]?=H (I (ai q (j:Int)).toNat):=by unfold ai;simp[L,V h]
theorem Bw {q:e_}(hm:q.length=2*m)(hq: ∀ j:Nat,j<q.length->ai q (j:Int)<=15):ak (br q)=q:=by
 have hnn: ∀ i,0<=ai q i:=λi=>(cg q i).1;have hl:(br q).length=m:=by rw[tW,hm];omega
 have hpair: ∀ i:Nat,i<m->ai (br q) (i:Int)=ai q ((2*i:Nat):Int)*16+ai q ((2*i+1:Nat):Int):=λi hi=>by
  have h1:=hq (2*i) (by omega);have h2:=hq (2*i+1) (by omega);have h3:=hnn ((2*i:Nat):Int);have h4:=hnn ((2*i+1:Nat):Int);have e:kS q i=ai q ((2*i:Nat):Int)*16+ai q ((2*i+1:Nat):Int):=by unfold kS;rw[show(2*(i:Int))=((2*i:Nat):Int)by push_cast;rfl,show(((2*i:Nat):Int)+1)=((2*i+1:Nat):Int)by push_cast;rfl];exact F9 ⟨h3,h1⟩ ⟨h4,h2⟩
  unfold br;rw[sN (by rw[hm];omega) (by rw[e];omega),e]
 apply c6;intro j;by_cases hj:j<q.length
 ·rw[Aa q j hj];unfold ak bD;rw[b6,b9 (by rw[hl];omega)];simp only[b!,X,Option.some.injEq];congr 2;obtain⟨i,hi⟩: ∃ i,j=2*i∨j=2*i+1:=⟨j / 2,by omega⟩
  have hp:=hpair i (by omega);have h1:=hq (2*i) (by omega);have h2:=hq (2*i+1) (by omega);have h3:=hnn ((2*i:Nat):Int);have h4:=hnn ((2*i+1:Nat):Int);unfold ga;rcases hi with rfl | rfl
  ·rw[if_pos (by omega),show(((2*i:Nat):Int) / 2)=(i:Int)by omega,hp];omega
  ·rw[if_neg (by omega),show(((2*i+1:Nat):Int) / 2)=(i:Int)by omega,hp];omega
 ·rw[aA (by rw[fK,hl];omega),aA (by omega)]
theorem F3 (h:cY p=C)(j:Nat)(hj:j<p.length):ai p (j:Int)<=15:=by have:=b5.1 h j (a!.2 hj);unfold sJ at this;simp only[Z,decide_eq_false_iff_not] at this;omega
theorem gX (b:UInt8)(l:e_)(j:Nat):ai (b::l) ((j+1:Nat):Int)=ai l (j:Int):=by unfold ai;rw[K,K];rfl
theorem xJ (h:cY p=C)(leaf:Bool):bI (bK p leaf)=C/\cD (bK p leaf)=leaf/\bT (bK p leaf)=p:=by
 have hp:=F3 h;cases ho:F ((p.length:Int)% 2=1)with
 | true =>
   have ho':(p.length:Int)% 2=1:=of_decide_eq_true ho;have hflag:eU leaf C<=3/\0<=eU leaf C/\eU leaf C% 2=1/\(2<=eU leaf C↔leaf=C):=by cases leaf<;>decide
   have e:ak (bK p leaf)=I (eU leaf C).toNat::p:=by
    unfold bK;rw[ho];refine Bw (m:=(p.length+1) / 2) (by simp only[cond_true,d_];omega) λj hj=> ?_;cases j with
    | zero =>show((I (eU leaf C).toNat).toNat:Int)<=15;rw[Y];omega
    | succ j =>rw[gX];exact hp j (by simpa using hj)
   have e0:ai (ak (bK p leaf)) 0=eU leaf true:=by rw[e];show((I (eU leaf C).toNat).toNat:Int)=_;rw[Y];omega
   refine⟨nV.2 ⟨by rw[e];simp,by rw[e0];omega,.inl (by rw[e0];omega)⟩,?_,?_⟩
   ·unfold cD;rw[e0];cases leaf<;>rfl
   ·unfold bT;rw[e0,if_pos hflag.2.2.1,e];rfl
 | false =>
   have ho': ¬ (p.length:Int)% 2=1:=of_decide_eq_false ho;have hflag:eU leaf D<=3/\0<=eU leaf D/\¬ eU leaf D% 2=1/\(2<=eU leaf D↔leaf=C):=by cases leaf<;>decide
   have e:ak (bK p leaf)=I (eU leaf D).toNat::0::p:=by
    unfold bK;rw[ho];refine Bw (m:=(p.length+2) / 2) (by simp only[cond_false,d_];omega) λj hj=> ?_;cases j with
    | zero =>show((I (eU leaf D).toNat).toNat:Int)<=15;rw[Y];omega
    | succ j =>
      rw[gX];cases j with
      | zero=>show((0:UInt8).toNat:Int)<=15;decide
      | succ j =>simp only[cond_false];rw[gX];exact hp j (by simpa using hj)
   have e0:ai (ak (bK p leaf)) 0=eU leaf false:=by rw[e];show((I (eU leaf D).toNat).toNat:Int)=_;rw[Y];omega
   refine⟨nV.2 ⟨by rw[e];simp,by rw[e0];omega,.inr (by rw[e];rfl)⟩,?_,?_⟩
   ·unfold cD;rw[e0];cases leaf<;>rfl
   ·unfold bT;rw[e0,if_neg hflag.2.2.1,e];rfl
theorem gU (hb:b.length<=1048576):bO (aq b)=C/\cy (aq b)=D/\af (aq b)=b/\aF (aq b)=[]:=by
 have:=rj hb []
 rwa [az] at this
theorem o6 (hb:b.length<=1048576):dh (aq b)=true:=by obtain⟨h1,h2,_,h4⟩:=gU hb;exact nY.2 ⟨h1,h2,h4⟩
theorem A6 (hl:(flat l).length<=1048576):bO (dn l)=C/\cy (dn l)=C/\af (dn l)=flat l/\aF (dn l)=[]:=by
 have:=A5 hl []
 rwa [az] at this
theorem X1 (hl:(flat l).length<=1048576):dn l≠[128]:=λh=>by have h1:=(A6 hl).2.1;rw[h] at h1;exact absurd h1 (by decide)
theorem tM (hl:(flat l).length<=1048576)(hw: ∀ x∈ l,bO x=C/\aF x=[]) :
  aH (dn l)=kX (flat l)/\af (dn l)=flat l/\cS (flat l)=C/\au (flat l)=l.length/\∀(j:Nat) (x:e_),l[j]?=H x->aj (flat l) j=x:=by
 obtain⟨h1,h2,h3,h4⟩:=A6 hl;obtain⟨i1,i2,i3⟩:=tu l hw;refine⟨?_,h3,i1,i2,i3⟩;rw[aH,if_neg (X1 hl),h1,h2,h4,h3];rfl
theorem vJ (h:fe bM t=C):bO t=C/\aF t=[]/\t≠[128]/\t≠[]:=by
 have hn: ∀ {t:e_},bO t=C->t≠[]:=λh e=>by rw[e] at h;exact absurd h (by decide)
 simp only[fe,bn] at h;rcases h with h | h
 ·obtain⟨⟨h1,_,h3⟩,h4⟩:=nM.1 h;exact⟨h1,h3,λe=>by have:=qu h;rw[e] at this;simp at this,hn h1⟩
 ·obtain⟨h1,h2,h3⟩:=wZ h;have hs:1<=aH t:=by
   by_cases e:aH t=0
   ·exact absurd (by unfold getD;rw[if_neg (by omega),if_neg (by omega),if_neg (by omega)];rfl) h3
   ·omega
  obtain⟨g1,_,g3,_⟩:=BV hs;exact⟨g1,g3,λe=>by rw[e] at hs;exact absurd hs (by decide),hn g1⟩
def GY (s:e_)(x:Nd):Prop:=0<=aH s/\(getD s).zW x
theorem tS (j:Nat)(hj:j<16):cc j=[]:=eE (λ_=>[]) j hj
theorem IY {l:Int}(h:gO x l=C):cY x.p=true:=by simp only[gO,O] at h;exact h.2
theorem IW (h:cY x.p=C)(leaf:Bool):cJ x leaf=bK x.p leaf:=by rw[cJ,h];rfl
theorem J3:bO [128]=C/\aF [128]=[]:=by have:=gU (b:=[]) (by decide);exact⟨this.1,this.2.2.2⟩
attribute [local irreducible] aj af bO aF cy au cS dh bI cD bT bK aq aN
theorem MS (hk:x.k=1)(h:kW x=C):GY (jz x) x:=by
 have hnib:cY x.p=true:=by simp only[kW,O] at h;exact IY h.1
 obtain⟨h1,_,h3,h4⟩:=tI h;have l1:=l9 (x:=x) (leaf:=C);have l2:=ie (cJ x C);have l3:=ie x.v;have l4:=lU (a:=aq (cJ x C)) (b:=aq x.v);obtain⟨a1,a2,a3,a4⟩:=gU (b:=cJ x C) (by omega);obtain⟨b1,b2,b3,b4⟩:=gU (b:=x.v) (by omega);obtain⟨s1,s2,s3,s4,s5⟩:=tM (l:=[aq (cJ x C),aq x.v]) (by omega) (λy hy=>by
  simp only[a_,bl,or_false] at hy;rcases hy with rfl | rfl
  ·exact⟨a1,a4⟩
  ·exact⟨b1,b4⟩)
 have i0:=s5 0 _ rfl;have i1:=s5 1 _ rfl;obtain⟨n1,n2,n3⟩:=xJ hnib C;have p0:dh (aj (flat [aq (cJ x C),aq x.v]) 0)=true:=by rw[i0];exact o6 (by omega)
 have p1:dh (aj (flat [aq (cJ x C),aq x.v]) 1)=true:=by rw[i1];exact o6 (by omega)
 have c0:af (aj (flat [aq (cJ x C),aq x.v]) 0)=bK x.p true:=by rw[i0,a3,IW hnib]
 have hs:aH (jz x)=1:=by rw[jz,s1,kX,s3,s4];show mW _=1;rw[mW,p0,c0,n1,n2,p1];rfl
 refine⟨by rw[hs];decide,?_⟩;have e:getD (jz x)=mg (jz x):=by unfold getD;rw[if_pos hs]
 rw[e];unfold mg jz;rw[s2];refine⟨hk.symm,?_,?_,λj hj=> ?_⟩
 ·show bT (af (aj (flat [aq (cJ x C),aq x.v]) 0))=x.p;rw[c0,n3]
 ·show af (aj (flat [aq (cJ x C),aq x.v]) 1)=x.v;rw[i1,b3]
 ·rw[h4 j hj];exact tS j hj
theorem Rf (hk:x.k=2)(h:nI bM x=C):GY (pY x) x:=by
 have hnib:cY x.p=true:=by simp only[nI,O] at h;exact IY h.1
 obtain⟨h1,h2,h3,_,h4⟩:=wS h;have hm:fe bM (x.r 0)=true:=by simp only[fe,bn];exact h4.imp id λh=>h.1
 obtain⟨r1,r2,_,_⟩:=vJ hm;have rl:=oU hm;have l1:=l9 (x:=x) (leaf:=D);have l2:=ie (cJ x D);have l4:=lU (a:=aq (cJ x D)) (b:=x.r 0);obtain⟨a1,a2,a3,a4⟩:=gU (b:=cJ x D) (by omega);obtain⟨s1,s2,s3,s4,s5⟩:=tM (l:=[aq (cJ x D),x.r 0]) (by omega) (λy hy=>by
  simp only[a_,bl,or_false] at hy;rcases hy with rfl | rfl
  ·exact⟨a1,a4⟩
  ·exact⟨r1,r2⟩)
 have i0:=s5 0 _ rfl;have i1:=s5 1 _ rfl;obtain⟨n1,n2,n3⟩:=xJ hnib D;have p0:dh (aj (flat [aq (cJ x D),x.r 0]) 0)=true:=by rw[i0];exact o6 (by omega)
 have c0:af (aj (flat [aq (cJ x D),x.r 0]) 0)=bK x.p false:=by rw[i0,a3,IW hnib]
 have hs:aH (pY x)=2:=by rw[pY,s1,kX,s3,s4];show mW _=2;rw[mW,p0,c0,n1,n2];rfl
 refine⟨by rw[hs];decide,?_⟩;have e:getD (pY x)=qR (pY x):=by unfold getD;rw[if_neg (by omega),if_pos hs]
 rw[e];unfold qR pY;rw[s2];refine⟨hk.symm,?_,h2.symm,λj hj=> ?_⟩
 ·show bT (af (aj (flat [aq (cJ x D),x.r 0]) 0))=x.p;rw[c0,n3]
 ·show bN (aj (flat [aq (cJ x D),x.r 0]) 1) j=x.r j;rw[i1];have:bN (x.r 0) j=(λi=>if i=0 then x.r 0 else []) j:=eE (λi=>if i=0 then x.r 0 else []) j hj
  rw[this];show(if j=0 then x.r 0 else [])=x.r j
  by_cases e:j=0
  ·subst e;rfl
  ·rw[if_neg e,h3 j (by omega) hj]
def Cd (x:Nd):List e_:=[bX x.r 16 0,bX x.r 16 1,bX x.r 16 2,bX x.r 16 3,bX x.r 16 4,bX x.r 16 5,bX x.r 16 6,bX x.r 16 7,bX x.r 16 8,bX x.r 16 9,bX x.r 16 10,bX x.r 16 11,bX x.r 16 12,bX x.r 16 13,bX x.r 16 14,bX x.r 16 15,aq x.v]
theorem Xr (x:Nd)(j:Nat)(hj:j<16):(Cd x)[j]?=H (bX x.r 16 j):=by
 have:j=0∨j=1∨j=2∨j=3∨j=4∨j=5∨j=6∨j=7∨j=8∨j=9∨j=10∨j=11∨j=12∨j=13∨j=14∨j=15:=by omega
 rcases this with rfl | rfl | rfl | rfl | rfl | rfl | rfl | rfl | rfl | rfl | rfl | rfl | rfl | rfl | rfl | rfl<;>rfl
theorem Np {y:e_}(h:y∈ Cd x):(∃ j,j<16/\y=bX x.r 16 j)∨y=aq x.v:=by
 simp only[Cd,a_,bl,or_false] at h;rcases h with h | h | h | h | h | h | h | h | h | h | h | h | h | h | h | h | h
 ·exact .inl ⟨0,by decide,h⟩
 ·exact .inl ⟨1,by decide,h⟩
 ·exact .inl ⟨2,by decide,h⟩
 ·exact .inl ⟨3,by decide,h⟩
 ·exact .inl ⟨4,by decide,h⟩
 ·exact .inl ⟨5,by decide,h⟩
 ·exact .inl ⟨6,by decide,h⟩
 ·exact .inl ⟨7,by decide,h⟩
 ·exact .inl ⟨8,by decide,h⟩
 ·exact .inl ⟨9,by decide,h⟩
 ·exact .inl ⟨10,by decide,h⟩
 ·exact .inl ⟨11,by decide,h⟩
 ·exact .inl ⟨12,by decide,h⟩
 ·exact .inl ⟨13,by decide,h⟩
 ·exact .inl ⟨14,by decide,h⟩
 ·exact .inl ⟨15,by decide,h⟩
 ·exact .inr h
theorem wM (r:Nat->e_)(j:Nat)(hj:j<16):(r j=[]/\bX r 16 j=[128])∨(r j≠[]/\bX r 16 j=r j):=by
 unfold bX;rw[if_pos hj];by_cases e:r j=[]
 ·exact .inl ⟨e,by rw[if_pos e]⟩
 ·exact .inr ⟨e,by rw[if_neg e]⟩
theorem No (h:dO bM x=C):(flat (Cd x)).length<=617:=by
 obtain⟨_,h2,h3,_⟩:=oE h;have hb: ∀ j,j<16->(bX x.r 16 j).length<=33:=λj hj=>by
  rcases wM x.r j hj with ⟨_,e⟩ | ⟨e0,e⟩
  ·rw[e];decide
  ·rw[e];rcases qG h3 hj with h | h
   ·exact absurd h e0
   ·exact oU h
 have e:flat (Cd x)=flat [bX x.r 16 0,bX x.r 16 1,bX x.r 16 2,bX x.r 16 3,bX x.r 16 4,bX x.r 16 5,bX x.r 16 6,bX x.r 16 7,bX x.r 16 8,bX x.r 16 9,bX x.r 16 10,bX x.r 16 11,bX x.r 16 12,bX x.r 16 13,bX x.r 16 14,bX x.r 16 15]++aq x.v:=by show flat ([bX x.r 16 0,bX x.r 16 1,bX x.r 16 2,bX x.r 16 3,bX x.r 16 4,bX x.r 16 5,bX x.r 16 6,bX x.r 16 7,bX x.r 16 8,bX x.r 16 9,bX x.r 16 10,bX x.r 16 11,bX x.r 16 12,bX x.r 16 13,bX x.r 16 14,bX x.r 16 15]++[aq x.v])=_;simp only[flat,List.flatten_append,List.flatten_cons,List.flatten_nil,az]
 have h6:(flat [bX x.r 16 0,bX x.r 16 1,bX x.r 16 2,bX x.r 16 3,bX x.r 16 4,bX x.r 16 5,bX x.r 16 6,bX x.r 16 7,bX x.r 16 8,bX x.r 16 9,bX x.r 16 10,bX x.r 16 11,bX x.r 16 12,bX x.r 16 13,bX x.r 16 14,bX x.r 16 15]).length<=16*33:=by
  refine Fc (m:=33) λy hy=> ?_;simp only[a_,bl,or_false] at hy;rcases hy with rfl | rfl | rfl | rfl | rfl | rfl | rfl | rfl | rfl | rfl | rfl | rfl | rfl | rfl | rfl | rfl
  ·exact hb 0 (by decide)
  ·exact hb 1 (by decide)
  ·exact hb 2 (by decide)
  ·exact hb 3 (by decide)
  ·exact hb 4 (by decide)
  ·exact hb 5 (by decide)
  ·exact hb 6 (by decide)
  ·exact hb 7 (by decide)
  ·exact hb 8 (by decide)
  ·exact hb 9 (by decide)
  ·exact hb 10 (by decide)
  ·exact hb 11 (by decide)
  ·exact hb 12 (by decide)
  ·exact hb 13 (by decide)
  ·exact hb 14 (by decide)
  ·exact hb 15 (by decide)
 have h7:=ie x.v;rw[e,c!];omega
theorem GL (hk:x.k=3)(h:dO bM x=C):GY (fD x) x:=by
 obtain⟨h1,h2,h3,_⟩:=oE h;have hl:=No h;have hT:fD x=dn (Cd x):=rfl;obtain⟨b1,b2,b3,b4⟩:=gU (b:=x.v) (by omega);have hw: ∀ y∈ Cd x,bO y=C/\aF y=[]:=λy hy=>by
  rcases Np hy with ⟨j,hj,rfl⟩ | rfl
  ·rcases wM x.r j hj with ⟨_,e⟩ | ⟨e0,e⟩
   ·rw[e];exact J3
   ·rw[e];rcases qG h3 hj with g | g
    ·exact absurd g e0
    ·exact⟨(vJ g).1,(vJ g).2.1⟩
  ·exact⟨b1,b4⟩
 obtain⟨s1,s2,s3,s4,s5⟩:=tM (l:=Cd x) (by omega) hw;have i16:aj (flat (Cd x)) 16=aq x.v:=s5 16 _ rfl;have p16:dh (aj (flat (Cd x)) 16)=true:=by rw[i16];exact o6 (by omega)
 have hs:aH (fD x)=3:=by
  rw[hT,s1,kX,s3,s4];show(bif dh (aj (flat (Cd x)) 16)then(3:Int)else -1)=3
  rw[p16];rfl
 refine⟨by rw[hs];decide,?_⟩;have e:getD (fD x)=gP (fD x):=by unfold getD;rw[if_neg (by omega),if_neg (by omega),if_pos hs]
 rw[e];unfold gP;rw[hT,s2];refine⟨hk.symm,h1.symm,?_,λj hj=> ?_⟩
 ·show af (aj (flat (Cd x)) 16)=x.v;rw[i16,b3]
 ·show dR (cF (flat (Cd x))) j=x.r j;have e1:dR (cF (flat (Cd x))) j=cF (flat (Cd x)) j:=eE _ j hj;rw[e1,cF,s5 j _ (Xr x j hj)];rcases wM x.r j hj with ⟨e0,e⟩ | ⟨e0,e⟩
  ·rw[e,if_pos rfl,e0]
  ·rw[e];rcases qG h3 hj with g | g
   ·exact absurd g e0
   ·rw[if_neg (vJ g).2.2.1]
theorem MT (h:lZ x=C):GY [128] x:=by
 obtain⟨h0,h1,h2,h3⟩:=Bn h;have hs:aH [128]=0:=by decide
 refine⟨by rw[hs];decide,?_⟩;have e:getD [128]=eZ:=by unfold getD;rw[if_neg (by omega),if_neg (by omega),if_neg (by omega)]
 rw[e];exact⟨h0.symm,h1.symm,h2.symm,λj hj=>by rw[h3 j hj];exact tS j hj⟩
theorem qO :(x.k=0->cq x=[128])/\(x.k=1->cq x=jz x)/\(x.k=2->cq x=pY x)/\(x.k=3->cq x=fD x):=by unfold cq;refine⟨λh=>by rw[if_pos h],λh=>by rw[if_neg (by omega),if_pos h],λh=>by rw[if_neg (by omega),if_neg (by omega),if_pos h],λh=>by rw[if_neg (by omega),if_neg (by omega),if_neg (by omega)]⟩
theorem Rg (h:aI x=C):GY (cq x) x:=by
 rcases kL h with ⟨hk,h⟩ | ⟨hk,h⟩ | ⟨hk,h⟩ | ⟨hk,h⟩
 ·rw[qO.1 hk];exact MT h
 ·rw[qO.2.1 hk];exact MS hk h
 ·rw[qO.2.2.1 hk];exact Rf hk h
 ·rw[qO.2.2.2 hk];exact GL hk h
theorem gY (h:aI x=C):aJ (cq x)=C/\(getD (cq x)).zW x:=by
 obtain⟨h1,h2⟩:=Rg h;refine⟨?_,h2⟩;unfold aJ Aw;rw[decide_eq_true h1,show fW bM (getD (cq x))=C from(om h2).trans h,zO h2]
 simp
theorem rM (h:aJ s=C):0<=aH s/\aI (getD s)=C/\cq (getD s)=s:=by unfold aJ Aw at h;simp only[O,decide_eq_true_eq] at h;exact h
theorem Yh (h:aI x=C):1<=(cq x).length/\(cq x).length<=700:=by
 have hp: ∀ l:List e_,1<=(dn l).length/\(dn l).length<=(flat l).length+9:=λl=>by have h1:=AD 192 (flat l).length;have h2:=qv 192 (flat l).length;unfold dn;rw[c!];omega
 rcases kL h with ⟨hk,h⟩ | ⟨hk,h⟩ | ⟨hk,h⟩ | ⟨hk,h⟩
 ·rw[qO.1 hk];decide
 ·rw[qO.2.1 hk];obtain⟨h1,_,h3,_⟩:=tI h;have l1:=l9 (x:=x) (leaf:=C);have l2:=ie (cJ x C);have l3:=ie x.v;have l4:=lU (a:=aq (cJ x C)) (b:=aq x.v);have:=hp [aq (cJ x C),aq x.v];unfold jz;omega
 ·rw[qO.2.2.1 hk];obtain⟨h1,h2,h3,_,h4⟩:=wS h;have hm:fe bM (x.r 0)=true:=by simp only[fe,bn];exact h4.imp id λh=>h.1
  have rl:=oU hm;have l1:=l9 (x:=x) (leaf:=D);have l2:=ie (cJ x D);have l4:=lU (a:=aq (cJ x D)) (b:=x.r 0);have:=hp [aq (cJ x D),x.r 0];unfold pY;omega
 ·rw[qO.2.2.2 hk];have hl:=No h;have:=hp (Cd x);show 1<=(dn (Cd x)).length/\(dn (Cd x)).length<=700;omega
end
section
open Go Sx
set_option maxRecDepth 20000
theorem QO (h:bO s=D):aJ s=false:=by
 refine KV λhk=> ?_;unfold aH at hk;split at hk
 ·rename_i e;rw[e] at h;exact absurd (h.symm.trans J3.1) (by decide)
 ·rw[h] at hk;exact absurd hk (show ¬ (0:Int)<= -1 by decide)
def vh (p:e_)(j:Nat):Int:=(ai p (2*(j:Int))*16% 256+ai p (2*(j:Int)+1))% 256
def sI (p:e_):e_:=bD (vh p) 0 (p.length / 2)
noncomputable def SC (p:e_):dK:={bE with cm:=λf=>ay f mR,bh:=λf=>if f=178 then [(2,always (RU 3 p.length (sJ p)))] else []}
theorem aaB (p:e_):Sx.Good Tryz.prog (SC p):=.of bz fI aU
noncomputable def Se (k:e_):aX :={α:=Nat,pre:=λ_ i=>i<=k.length,jx:=λ_ i=>k.length - i,fresh:=0,slots:=λ_ i=>[(3,.str D (bD (ga k) 0 (2*i))),(4,.int .i64 D i)],mem:=λ_ _=>[]}
noncomputable def SA (k:e_):dK:={bE with cm:=λf=>ay f mR,bh:=λf=>if f=55 then [(3,always (Se k))] else []}
theorem aaA (k:e_):Sx.Good Tryz.prog (SA k):=.of bz fI aU
noncomputable def Lo:List (FuncId×PT):=(178,aM gL)::(55,aM hG)::mR
noncomputable def aaa (p:e_):aX :={α:=Nat,pre:=λ_ j=>j<=p.length / 2,jx:=λ_ j=>p.length / 2 - j,fresh:=0,slots:=λ_ j=>[(4,.str D (bD (vh p) 0 j)),(5,.int .i64 D (2*(j:Int)))],mem:=λ_ _=>[]}
noncomputable def Sz (p:e_):dK:={bE with cm:=λf=>ay f Lo,bh:=λf=>if f=139 then [(5,always (aaa p))] else []}
def kY (p:e_):Bool:=!decide ((p.length:Int)% 2=1)&&cY p
def Jl (p:e_):cN:=.fork (kY p) λb=>match b with
 | true=>.ret (.aD [.str D (sI p),.bool C C])
 | false=>.ret (.aD [.str C [],.bool C D])
def BN:List SV->Option (Prop×cN)
 | [.str D p]=>H (p.length<1099511627776,Jl p)
 | _=>G
noncomputable def Lp:List (FuncId×PT):=(139,bw BN)::Lo
noncomputable def Sw:dK:={bE with cm:=λf=>ay f Lp}
noncomputable def Uj:List (FuncId×PT):=(203,bw l7)::Lp
noncomputable def Sy:dK:={bE with cm:=λf=>ay f Uj}
theorem Df (h:cY p=C):sI p=br p:=by unfold sI br bD;apply List.map_congr_left;intro j hj;rw[a!] at hj;rw[X];have h1:=F3 h (2*j) (by omega);have h2:=F3 h (2*j+1) (by omega);have h3:=(cg p ((2*j:Nat):Int)).1;have h4:=(cg p ((2*j+1:Nat):Int)).1;unfold vh kS;rw[show(2*(j:Int))=((2*j:Nat):Int)by push_cast;rfl,show(((2*j:Nat):Int)+1)=((2*j+1:Nat):Int)by push_cast;rfl,F9 ⟨h3,h1⟩ ⟨h4,h2⟩];congr 2;omega
theorem xP (k:e_): ∀ j:Nat,j<(ak k).length->ai (ak k) (j:Int)=ga k j:=by intro j hj;rw[fK] at hj;unfold ak;refine sN hj ?_;have:=cg k ((j / 2:Nat):Int);unfold ga;rw[show((j:Int) / 2)=((j / 2:Nat):Int)by omega];split<;>omega
theorem Bm (k:e_)(j:Nat):0<=ga k j/\ga k j<=15:=by have:=cg k ((j:Int) / 2);unfold ga;split<;>omega
theorem xO (k:e_)(n:Nat):cY ((ak k).drop n)=true:=by
 unfold cY;rw[b5];intro j hj;rw[a!,M] at hj;unfold sJ;have e:ai ((ak k).drop n) (j:Int)=ai (ak k) ((n+j:Nat):Int):=by unfold ai;rw[K,K,L,L,c_]
 rw[e,xP k (n+j) (by omega)];have:=(Bm k (n+j)).2;simp only[Z,decide_eq_false_iff_not];omega
theorem Bu (k:e_):br (ak k)=k:=by
 have hl:(br (ak k)).length=k.length:=by rw[tW,fK];omega
 apply c6;intro j;by_cases hj:j<k.length
 ·have h1:=xP k (2*j) (by rw[fK];omega);have h2:=xP k (2*j+1) (by rw[fK];omega);have b1:=Bm k (2*j);have b2:=Bm k (2*j+1);have hb:=cg k (j:Int);rw[Aa k j hj];unfold br bD;rw[b6,b9 (by rw[fK];omega)];simp only[b!,X,Option.some.injEq];congr 2;unfold kS;rw[show(2*(j:Int))=((2*j:Nat):Int)by push_cast;rfl,show(((2*j:Nat):Int)+1)=((2*j+1:Nat):Int)by push_cast;rfl,h1,h2,F9 b1 b2];unfold ga;rw[if_pos (by omega),if_neg (by omega),show(((2*j:Nat):Int) / 2)=(j:Int)by omega,show(((2*j+1:Nat):Int) / 2)=(j:Int)by omega];omega
 ·rw[aA (by omega),aA (by omega)]
theorem drop_one {q:e_}(h:q≠[]):q=I (ai q 0).toNat::q.drop 1:=by
 cases q with
 | nil=>exact absurd rfl h
 | cons b r =>show b::r=I ((b.toNat:Int)).toNat::r;rw[K];simp
theorem Qk (h:bI s=C):bK (bT s) (cD s)=s:=by
 obtain⟨h0,h1,h2⟩:=nV.1 h;have hl:=fK s;have hp:=d!.2 h0;have b0:=(cg (ak s) 0).1;have d1:=drop_one h0;unfold bT cD;by_cases ho:ai (ak s) 0% 2=1
 ·rw[if_pos ho];have e:F ((((ak s).drop 1).length:Int)% 2=1)=true:=decide_eq_true (by rw[M];omega);unfold bK;rw[e];have f:eU (F (2<=ai (ak s) 0)) C=ai (ak s) 0:=by
   by_cases c:2<=ai (ak s) 0
   ·rw[decide_eq_true c];show(2:Int)+1=_;omega
   ·rw[decide_eq_false c];show(0:Int)+1=_;omega
  rw[f];show br (I (ai (ak s) 0).toNat::(ak s).drop 1)=s;rw[← d1,Bu]
 ·rw[if_neg ho];have h2:ai (ak s) 1=0:=by
   rcases h2 with h2 | h2
   ·exact absurd h2 ho
   ·exact h2
  have e:F ((((ak s).drop 2).length:Int)% 2=1)=false:=decide_eq_false (by rw[M];omega);unfold bK;rw[e];have f:eU (F (2<=ai (ak s) 0)) D=ai (ak s) 0:=by
   by_cases c:2<=ai (ak s) 0
   ·rw[decide_eq_true c];show(2:Int)+0=_;omega
   ·rw[decide_eq_false c];show(0:Int)+0=_;omega
  rw[f];have d2:(ak s).drop 1=0::(ak s).drop 2:=by
   have hne:(ak s).drop 1≠[]:=by intro e0;have:=congrArg List.length e0;rw[M] at this;simp at this;omega
   have d:=drop_one hne;have e1:ai ((ak s).drop 1) 0=ai (ak s) 1:=by unfold ai;rw[L,L,c_];rfl
   rw[e1,h2,List.drop_drop] at d;exact d
  show br (I (ai (ak s) 0).toNat::0::(ak s).drop 2)=s;rw[← d2,← d1,Bu]
theorem UQ {leaf:Bool}(h:bK ((ak s).drop n) leaf=s):bI s=C/\cD s=leaf/\bT s=(ak s).drop n:=by
 have:=xJ (xO s n) leaf
 rwa [h] at this
theorem Qh (h: ∀ n leaf,n=1∨n=2->n<=(ak s).length->bK ((ak s).drop n) leaf≠s):bI s=false:=by
 cases hb:bI s with
 | false=>rfl
 | true =>
   exfalso;have hp:=Qk hb;obtain⟨h0,_,_⟩:=nV.1 hb;have hl:=fK s;have hpos:=d!.2 h0;unfold bT at hp;split at hp
   ·exact h 1 _ (.inl rfl) (by omega) hp
   ·exact h 2 _ (.inr rfl) (by omega) hp
theorem Da (h:t.length=33)(h0:ai t 0=160):aq (t.drop 1)=t:=by
 have hne:t≠[]:=λe=>by rw[e] at h;simp at h
 have d:=drop_one hne;have hl:(t.drop 1).length=32:=by rw[M];omega
 unfold aq;rw[if_neg (by omega),hl];unfold aN;rw[if_pos (by decide)];rw[h0] at d;exact d.symm
theorem K3 :bY t=C↔t.length=33/\ai t 0=160:=by
 constructor
 ·intro h;have hl:=qu h;obtain⟨⟨h1,h2,h3⟩,h4⟩:=nM.1 h;refine⟨hl,?_⟩;have e:=uR h1;rw[h2,h3,az] at e;have e2:aq (af t)=t:=e;rw[← e2];unfold aq;rw[if_neg (by omega),h4];rfl
 ·rintro⟨h,h0⟩;have e:=Da h h0;obtain⟨g1,g2,g3,g4⟩:=gU (b:=t.drop 1) (by rw[M];omega);rw[e] at g1 g2 g3 g4;exact nM.2 ⟨⟨g1,g2,g4⟩,by rw[g3,M];omega⟩
theorem XM (h:t.length=33)(h0:ai t 0=160):af t=t.drop 1:=by
 have e:=Da h h0;have g:=(gU (b:=t.drop 1) (by rw[M];omega)).2.2.1
 rwa [e] at g
theorem zA (r:Nat->e_): ∀ n,0<=b8 r n/\b8 r n<=n
 | 0=>⟨R _,R _⟩
 | n+1=>by have:=zA r n;unfold b8;split<;>omega
theorem wV {r:Nat->e_}: ∀ {n:Nat},b8 r n=0↔∀ j,j<n->r j=[]
 | 0=>⟨λ_ j hj=>absurd hj (b_ _),λ_=>rfl⟩
 | n+1=>by
   have ih:=wV (r:=r) (n:=n);have hn:=zA r n;unfold b8;by_cases e:r n=[]
   ·rw[if_pos e,ih];constructor
    ·intro h j hj;by_cases ej:j=n
     ·subst ej;exact e
     ·exact h j (by omega)
    ·intro h j hj;exact h j (by omega)
   ·rw[if_neg e];constructor
    ·intro h;omega
    ·intro h;exact absurd (h n (by omega)) e
theorem yA {r:Nat->e_}: ∀ {n:Nat},cr r n=0↔∀ j,j<n->r j=[]
 | 0=>⟨λ_ j hj=>absurd hj (b_ _),λ_=>rfl⟩
 | n+1=>by
   have ih:=yA (r:=r) (n:=n);unfold cr;by_cases e:r n=[]
   ·rw[if_pos e,ih];constructor
    ·intro h j hj;by_cases ej:j=n
     ·subst ej;exact e
     ·exact h j (by omega)
    ·intro h j hj;exact h j (by omega)
   ·rw[if_neg e];constructor
    ·intro h;omega
    ·intro h;exact absurd (h n (by omega)) e
theorem HF (r:Nat->e_):F (b8 r 16=0)=F (cr r 16=0):=by rw[decide_eq_decide,wV,yA]
theorem TD {r:Nat->e_}(h0:r 0≠[]):F (b8 r 16=1)=F (cr r 16=1):=by
 rw[decide_eq_decide];have key: ∀ n,1<=n->(b8 r n=1↔∀ j,1<=j->j<n->r j=[])/\(cr r n=1↔∀ j,1<=j->j<n->r j=[])/\1<=b8 r n/\1<=cr r n:=by
  intro n;induction n with
  | zero=>intro h;omega
  | succ n ih =>
    intro _;by_cases hn:n=0
    ·subst hn;have e1:b8 r 1=1:=by rw[b8,if_neg h0];rfl
     have e2:cr r 1=1:=by rw[cr,if_neg h0];rfl
     exact⟨⟨λ_ j h1 h2=>by omega,λ_=>e1⟩,⟨λ_ j h1 h2=>by omega,λ_=>e2⟩,c4 e1.symm,c4 e2.symm⟩
    ·obtain⟨i1,i2,i3,i4⟩:=ih (by omega);unfold b8 cr;by_cases e:r n=[]
     ·rw[if_pos e,if_pos e,i1,i2];have hh:(∀ j,1<=j->j<n->r j=[])↔∀ j,1<=j->j<n+1->r j=[]:=by
       constructor
       ·intro h j h1 h2;by_cases ej:j=n
        ·subst ej;exact e
        ·exact h j h1 (by omega)
       ·intro h j h1 h2;exact h j h1 (by omega)
      exact⟨hh,hh,i3,i4⟩
     ·rw[if_neg e,if_neg e];refine⟨⟨λh=>by omega,λh=>absurd (h n (by omega) (by omega)) e⟩,⟨λh=>by omega,λh=>absurd (h n (by omega) (by omega)) e⟩,by omega,by omega⟩
 have:=key 16 (by decide);rw[this.1,this.2.1]
structure GX (a b:e_)(i:Nat):Prop where
 la:i<=a.length
 lb:i<=b.length
 e:a.take i=b.take i
theorem uT (h:i<a.length): ∃ c,a.drop i=c::a.drop (i+1)/\ai a i=(c.toNat:Int)/\a.take (i+1)=a.take i++[c]:=by refine⟨a[i],List.drop_eq_getElem_cons h,?_,by rw[List.take_add_one,V h];rfl⟩;unfold ai;rw[K,L,V h];rfl
theorem RQ (h:GX a b i)(ha:i<a.length)(hb:i<b.length)(hn: ¬ ai a i=ai b i):Q a b=F (ai a i<ai b i):=by
 obtain⟨c,h1,h2,_⟩:=uT ha;obtain⟨d,g1,g2,_⟩:=uT hb;rw[← xq i a b h.e h.la h.lb,h1,g1,h2,g2];rw[h2,g2] at hn;have e:(c==d)=false:=by rw[beq_eq_false_iff_ne];intro e;exact hn (by rw[e])
 show(F (c<d)||(c==d&&_))=_;rw[e,cB,an];exact decide_eq_decide.2 ⟨λh=>by have:=cl.1 h;omega,λh=>cl.2 (by omega)⟩
theorem Ki (h:GX a b i)(ha:i<a.length)(hb:i<b.length)(he:ai a i=ai b i):GX a b (i+1):=by obtain⟨c,_,h2,h3⟩:=uT ha;obtain⟨d,_,g2,g3⟩:=uT hb;refine⟨ha,hb,?_⟩;rw[h3,g3,h.e];rw[h2,g2] at he;rw[ei.1 (by omega:c.toNat=d.toNat)]
theorem CF (h:GX a b i)(hx:a.length<=i∨b.length<=i):Q a b=F ((a.length:Int)<b.length):=by
 have h1:=h.la;have h2:=h.lb;rw[← xq i a b h.e h.la h.lb];by_cases e:b.length<=i
 ·rw[c5 e,decide_eq_false (by omega)];cases a.drop i<;>rfl
 ·have ea:a.length<=i:=by omega
  obtain⟨d,g1,_⟩:=uT (a:=b) (i:=i) (by omega);rw[c5 ea,g1,decide_eq_true (by omega)];rfl
theorem vv: ∀(a b:e_),(!Op.bytesLess a b)=(Q b a||decide (b=a))
 | [],[]=>rfl
 | [],_::_=>rfl
 | _::_,[]=>rfl
 | a::r,b::s=>by
   have ih:=vv r s;by_cases e:a=b
   ·subst e;have l:F (a<a)=false:=decide_eq_false (ef a);simp only[Q,l,cH,beq_self_eq_true,Bool.true_and,ih,List.cons.injEq,true_and]
   ·have e1:(a==b)=false:=beq_eq_false_iff_ne.2 e;have e2:(b==a)=false:=beq_eq_false_iff_ne.2 (Ne.symm e);simp only[Q,e1,e2,cB,an,List.cons.injEq];have ne: ¬ (b=a/\s=r):=λh=>e h.1.symm;rw[decide_eq_false ne,an];have:=ei (a:=a) (b:=b);by_cases l:a<b
    ·rw[decide_eq_true l,decide_eq_false (λh=>absurd (UInt8.lt_trans l h) (ef _))];rfl
    ·have g:b<a:=by rw[cl] at l ⊢;have: ¬ a.toNat=b.toNat:=λh=>e (this.1 h);omega
     rw[decide_eq_false l,decide_eq_true g];rfl
def qx (n:Nat)(f:Nat->e_)(t:e_):Bool:=!(List.range n).all λi=>!decide (f i=t)
theorem NO :qx l.length (λi=>l.getD i []) t=C↔t∈ l:=by
 unfold qx;rw[Z,cx];simp only[Ne,b5,a!,Z,decide_eq_false_iff_not];constructor
 ·intro h;by_cases e:t∈ l
  ·exact e
  ·refine absurd (λi hi=> ?_) h;rw[L,V hi];exact λh'=>e (h'▸ List.getElem_mem hi)
 ·intro h h';obtain⟨i,hi,e⟩:=List.getElem_of_mem h;exact h' i hi (by rw[L,V hi];exact e)
def fh (g:Nat->e_)(h:e_)(lo n:Nat)(v:Int):Prop:=(v= -1/\∀ i,lo<=i->i<n->g i≠h)∨∃ k:Nat,v=(k:Int)/\lo<=k/\k<n/\g k=h/\∀ i,lo<=i->i<k->g i≠h
theorem fh.none (g:Nat->e_)(h:e_)(n:Nat):fh g h n n (-1):=.inl ⟨rfl,λi h1 h2=>absurd h2 (by omega)⟩
theorem fh.hit {g:Nat->e_}{lo:Nat}(hl:lo<n)(e:g lo=h):fh g h lo n lo:=.inr ⟨lo,rfl,W _,hl,e,λi h1 h2=>absurd h2 (by omega)⟩
theorem fh.adT {g:Nat->e_}{lo:Nat}{v:Int}(hf:fh g h (lo+1) n v)(e: ¬ g lo=h):fh g h lo n v:=by
 rcases hf with ⟨h1,h2⟩ | ⟨k,h1,h2,h3,h4,h5⟩
 ·refine .inl ⟨h1,λi g1 g2=> ?_⟩;by_cases c:i=lo
  ·subst c;exact e
  ·exact h2 i (by omega) g2
 ·refine .inr ⟨k,h1,by omega,h3,h4,λi g1 g2=> ?_⟩;by_cases c:i=lo
  ·subst c;exact e
  ·exact h5 i (by omega) g2
theorem CZ (f:Nat->e_): ∀(n:Nat) (h:e_),cw f n h=C->∀ i:Nat,(i:Int)<cX f n h->b7 (f i)≠h
 | 0,_,e=>by cases e
 | n+1,h,e=>λi hi=>by
   rw[qn] at hi;cases hd:cw f n h with
   | true=>rw[hd] at hi;exact CZ f n h hd i hi
   | false =>
     intro c;have:i<n:=by
      rw[hd] at hi;by_cases c:h=b7 (f n)
      ·rw[decide_eq_true c] at hi;simp only[cond_true,cond_false] at hi;omega
      ·rw[decide_eq_false c] at hi;simp only[cond_false] at hi;omega
     have:=lD f n i this;rw[c,hd] at this;cases this
theorem fh.done {v:Int}(hf:fh (λi=>b7 (f i)) h 0 n v):(v= -1/\cw f n h=D)∨(cw f n h=C/\v=cX f n h/\0<=v/\v<n):=by
 rcases hf with ⟨h1,h2⟩ | ⟨k,h1,_,h3,h4,h5⟩
 ·refine .inl ⟨h1,cx.2 λe=> ?_⟩;obtain⟨g1,g2,g3⟩:=nJ f n h e;exact h2 _ (N _) (by omega) g3
 ·have h4:b7 (f k)=h:=h4;have e:cw f n h=true:=by have:=lD f n k h3;rwa [h4] at this
  obtain⟨g1,g2,g3⟩:=nJ f n h e;refine .inr ⟨e,?_,by omega,by omega⟩;have m1:=CZ f n h e k;have m2:=h5 (cX f n h).toNat (N _);by_cases c:(k:Int)<cX f n h
  ·exact absurd h4 (m1 c)
  ·by_cases c':(cX f n h).toNat<k
   ·exact absurd g3 (m2 c')
   ·omega
section
variable {w : Sp} {P : Wk -> Prop} (ht : ∀ s h, dJ w h = C -> P s -> P (s.take w h))
include ht
theorem qS {T:Wk->Nd->e_->Option Wk}(hT: ∀ s x p s',P s->T s x p=H s'->P s'){x:Nd}{p:e_}: ∀ {i:Nat} {s s':Wk},P s->cT w T x p i s=H s'->P s'
 | 0,s,s',h,e=>by cases e;exact h
 | i+1,s,s',h,e=>by
   unfold cT at e;split at e
   ·cases e
   ·rename_i s1 h1;have g1:=qS hT h h1;unfold fq at e;split at e
    ·cases e;exact g1
    ·cases hm:dy w.fr w.to (pH x p i)with
     | false=>rw[hm] at e;cases e;exact g1
     | true =>
       rw[hm] at e;simp only[cond_true] at e;split at e
       ·cases e
       ·rename_i y s2 hf;refine hT s2 y _ s' ?_ e;unfold kG at hf;split at hf
        ·injection hf with hf;injection hf with _ h2;subst h2;exact g1
        ·split at hf
         ·rename_i hi;injection hf with hf;injection hf with _ h2;subst h2;simp only[O] at hi;exact ht _ _ hi.2 g1
         ·cases hf
theorem JO (hs: ∀ s x p,P s->P (s.jQ w x p)): ∀(m:Nat) (s:Wk) (x:Nd) (p:e_) (s':Wk),P s->jA w m s x p=H s'->P s'
 | 0,_,_,_,_,_,e=>by cases e
 | m+1,s,x,p,s',h,e=>by
   unfold jA at e;split at e
   ·cases e
   ·exact qS ht (JO hs m) (hs s x p h) e
end
structure zY (w:Sp)(s:Wk):Prop where
 nn: ∀ h,0<=s.used h
 iff: ∀ h,w.ad h=C->(s.used h=0↔¬ w.at h∈ s.ns)
 look: ∀ t,t∈ s.ns->∃ h,dJ w h=C/\t=w.at h
theorem zY.start (w:Sp):zY w Wk.start:=⟨λ_=>R _,λ_ _=>⟨(λ_ h=>by cases h),λ_=>rfl⟩,λt h=>by cases h⟩
theorem zY.jQ {s:Wk}(h:zY w s)(x:Nd)(p:e_):zY w (s.jQ w x p):=⟨h.nn,h.iff,h.look⟩
theorem zY.take (hw: ∀ h,w.ad h=C->b7 (w.at h)=h){s:Wk}(u:zY w s)(hl:dJ w h=C):zY w (s.take w h):=by
 have had:w.ad h=true:=by simp only[dJ,O] at hl;exact hl.1
 have hn:(s.take w h).ns=if s.used h=0 then s.ns++[w.at h] else s.ns:=rfl
 have hm: ∀ t,t∈ (s.take w h).ns↔t∈ s.ns∨t=w.at h:=λt=>by
  rw[hn];by_cases c:s.used h=0
  ·rw[if_pos c,List.mem_append,List.mem_singleton]
  ·rw[if_neg c];have:w.at h∈ s.ns:=by
    by_cases c':w.at h∈ s.ns
    ·exact c'
    ·exact absurd ((u.iff h had).2 c') c
   exact⟨.inl,λe=>e.elim id λe=>e▸ this⟩
 refine⟨λr=> ?_,λr hr=> ?_,λt ht=> ?_⟩
 ·rw[ye];have h1:=u.nn h;have h2:=u.nn r;split<;>omega
 ·rw[ye,hm];have h1:=u.nn h;by_cases c:r=h
  ·subst c;rw[if_pos rfl];exact⟨λe=>absurd e (by omega),λe=>absurd (.inr rfl) e⟩
  ·rw[if_neg c,u.iff r hr];have: ¬ w.at r=w.at h:=λe=>c (by rw[← hw r hr,← hw h had,e]);exact⟨λe e'=>e'.elim e this,λe e'=>e (.inl e')⟩
 ·rcases(hm t).1 ht with e | e
  ·exact u.look t e
  ·exact⟨h,hl,e⟩
theorem qp (w:Sp): ∀ h,w.full.ad h=C->b7 (w.full.at h)=h:=λh e=>(nJ w.f w.n h e).2.2
theorem OE {s s':Wk}(u:zY w.full s)(h:jA w.full m s x p=H s'):zY w.full s':=JO (P:=zY w.full) (λ_ _ hl h=>h.take (qp w) hl) (λ_ x p h=>h.jQ x p) m s x p s' u h
theorem Mw {s s':Wk}(u:zY w.full s)(h:cT w.full (jA w.full m) x p i s=H s'):zY w.full s':=qS (P:=zY w.full) (λ_ _ hl h=>h.take (qp w) hl) (λ_ _ _ _=>OE) u h
end
end Go.Proofs.YtoibaecagklkaaaGreatDoor
