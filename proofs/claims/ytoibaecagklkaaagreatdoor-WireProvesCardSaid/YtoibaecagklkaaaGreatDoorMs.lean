/- A part of the proof. -/
import Derived.Test.YtoibaecagklkaaaGreatDoorMr
open Bool renaming and_eq_true->cD,false->u,not_eq_false'->an,not_eq_true'->a!,or_true->c4,true->C
open Decidable renaming decide->I
open Go.IntKind renaming i64->O
open Go.Op renaming bytesLess->V
open Go.Proofs.Tryz renaming f100->bf,f101->c5,f102->b5,f103->b6,f14->b9,f19->b_,f62->b!,f64->cl,prog->J
open Int renaming le_refl->ct,toNat_natCast->W
open List renaming all_eq_false->c6,drop->az,filter_append->c7,filter_cons->c_,getD_eq_getElem?_getD->cx,getElem?_eq_getElem->c!,getElem?_eq_some_iff->d_,length_append->aC,length_cons->Y,length_nil->d!,map_map->ef,mem_range->ei,range->Z,take->F
open Nat renaming add->a_,beq->R,blt_eq->ej,le_refl->T,lt_of_le_of_lt->ek,succ_pos->cy,zero_add->X,zero_le->M
open Option renaming none->H,some->K
namespace Go.Proofs.YtoibaecagklkaaaGreatDoor
open Go Sx
variable {z:Bool}{l:List Rw}{c c' d i k m n n':Nat}{f g:Nat->f_}{ty:TypeId}
section
open Go Sx
set_option maxRecDepth 20000
theorem Pg (root:f_)(w:Sp)(kk:Option Nat):VC.holds (iX (Vd w) 14 b9 [.str u root,.agg [.str u w.fr,.str u w.to],.bE 0 1 w.z w.o 0 w.n w.c] [qM w kk] (DP root w))=((λg:SV=>((λe:(Ae×f_)->Nd=>((λh:SB=>((Bk (!(V w.fr w.to||decide (w.fr=w.to))) (Bk ((iH root w).isSome) (∃(x:Nat),(By root w).length<=x/\False) (ah g g)) (Fk ((w.n:Int)=0) (Bk ((iH root w).isSome) (∃(y:Nat),(By root w).length<=y/\False) (ah g g)) (Fk (200<(w.n:Int)) (Bk ((iH root w).isSome) (∃(A:Nat),(By root w).length<=A/\False) (ah g g)) ((∃(q:Nat),q<=w.n/\0=(q:Int)/\aa (SB.map [] 0) (SB.fmap (aP w.f q) (aE.int O (cI w.f q)) H)/\aa (SB.cells [SV.map 3] 1 90) (SB.cells [SV.map 3] 1 90)/\aa (SB.cells (SV.bE 0 1 w.z w.o 0 w.n w.c).cells 1 29) (SB.cells (SV.bE 0 1 w.z w.o 0 w.n w.c).cells 1 29)/\aa h h/\aa (qM w kk).B (qM w kk).B/\True)/\∀(d:Nat),d<=w.n->Fk ((d:Int)<(w.n:Int)) ((0<=(d:Int)/\(d:Int)<(w.n:Int))/\(w.o=w.o/\0+(d:Int).toNat<w.n)/\(True/\Xu [w.f (0+(d:Int).toNat)])/\Bk (!aP w.f d (aK (flat [w.f (0+(d:Int).toNat)]))) (I6 ((d:Int)+1)/\∃(j:Nat),(j<=w.n/\w.n-j<w.n-d)/\(d:Int)+1=(j:Int)/\aa (SB.fmap (dZ (aP w.f d) (aK (flat [w.f (0+(d:Int).toNat)]))) (aE.int O (gA (cI w.f d) (aK (flat [w.f (0+(d:Int).toNat)])) (d:Int))) H) (SB.fmap (aP w.f j) (aE.int O (cI w.f j)) H)/\aa (SB.cells [SV.map 3] 1 90) (SB.cells [SV.map 3] 1 90)/\aa (SB.cells (SV.bE 0 1 w.z w.o 0 w.n w.c).cells 1 29) (SB.cells (SV.bE 0 1 w.z w.o 0 w.n w.c).cells 1 29)/\aa h h/\aa (qM w kk).B (qM w kk).B/\True) (I6 ((d:Int)+1)/\∃(l:Nat),(l<=w.n/\w.n-l<w.n-d)/\(d:Int)+1=(l:Int)/\aa (SB.fmap (aP w.f d) (aE.int O (cI w.f d)) H) (SB.fmap (aP w.f l) (aE.int O (cI w.f l)) H)/\aa (SB.cells [SV.map 3] 1 90) (SB.cells [SV.map 3] 1 90)/\aa (SB.cells (SV.bE 0 1 w.z w.o 0 w.n w.c).cells 1 29) (SB.cells (SV.bE 0 1 w.z w.o 0 w.n w.c).cells 1 29)/\aa h h/\aa (qM w kk).B (qM w kk).B/\True)) (Bk (!aP w.f d root) (Bk ((iH root w).isSome) (∃(D:Nat),(By root w).length<=D/\False) (ah g g)) (Bk (!decide (dflt (aP w.f d root) (cI w.f d root)=0)) (Bk ((iH root w).isSome) (∃(E:Nat),(By root w).length<=E/\False) (ah g g)) (∃(b:Ae×f_),(b.1.w.Ok/\b.1.s.Small/\(b.1.s.ns.length<=b.1.c1/\b.1.s.fs.length<=b.1.c2)/\True)/\(0:Nat)=(0:Nat)/\root=b.2/\(7:Nat)=(7:Nat)/\w.fr=b.1.w.fr/\w.to=b.1.w.to/\(0:Nat)=(0:Nat)/\(0:Nat)=(0:Nat)/\b.1.s.ns.length=0/\0=(b.1.s.lk:Int)/\b.1.s.fs.length=0/\aa (SB.map [] 0) (ff b.1.s)/\(dY b.1.s b.1.c1).no=C/\(dH b.1.s b.1.c2).no=C/\(1:Nat)=(1:Nat)/\aa (SB.fmap (aP w.f d) (aE.int O (cI w.f d)) H) (SB.fmap b.1.w.ad (aE.int O b.1.w.ag) H)/\(1:Nat)=(1:Nat)/\(w.z=b.1.w.z/\w.o=b.1.w.o/\(0:Nat)=(0:Nat)/\w.n=b.1.w.n/\w.c=b.1.w.c)/\aa (SB.view w.z w.o w.n [av.str w.f]) (SB.view b.1.w.z b.1.w.o b.1.w.n [av.str b.1.w.f])/\Bk (cL b.1.w b.2) (∀(i:Nat×Nat),(if b.1.s.used b.2=0 then b.1.s.ns++[b.1.w.at b.2] else b.1.s.ns).length<=i.1/\b.1.s.fs.length<=i.2->∃(a:Ae×Nd×f_),(a.1.w.Ok/\a.1.s.Small/\(a.1.s.ns.length<=a.1.c1/\a.1.s.fs.length<=a.1.c2)/\a.1.s.Fit (a.1.s.lk+1)/\401<=a.1.s.lk+401/\a.2.1.lZ/\a.2.2.length<=13*a.1.s.lk)/\(0:Nat)=(0:Nat)/\(e b).k=a.2.1.k/\(e b).p=a.2.1.p/\(e b).v=a.2.1.v/\(e b).r 0=a.2.1.r 0/\(e b).r 1=a.2.1.r 1/\(e b).r 2=a.2.1.r 2/\(e b).r 3=a.2.1.r 3/\(e b).r 4=a.2.1.r 4/\(e b).r 5=a.2.1.r 5/\(e b).r 6=a.2.1.r 6/\(e b).r 7=a.2.1.r 7/\(e b).r 8=a.2.1.r 8/\(e b).r 9=a.2.1.r 9/\(e b).r 10=a.2.1.r 10/\(e b).r 11=a.2.1.r 11/\(e b).r 12=a.2.1.r 12/\(e b).r 13=a.2.1.r 13/\(e b).r 14=a.2.1.r 14/\(e b).r 15=a.2.1.r 15/\[]=a.2.2/\(7:Nat)=(7:Nat)/\b.1.w.fr=a.1.w.fr/\b.1.w.to=a.1.w.to/\(0:Nat)=(0:Nat)/\(0:Nat)=(0:Nat)/\((0:Nat)=(0:Nat)/\(if b.1.s.used b.2=0 then b.1.s.ns++[b.1.w.at b.2] else b.1.s.ns).length=a.1.s.ns.length/\i.1=a.1.c1)/\True/\(b.1.s.lk:Int)=(a.1.s.lk:Int)/\((0:Nat)=(0:Nat)/\b.1.s.fs.length=a.1.s.fs.length/\i.2=a.1.c2)/\True/\aa (SB.fmap (dZ b.1.s.ud b.2) (aE.int O (gA b.1.s.us b.2 (b.1.s.used b.2+1))) H) (ff a.1.s)/\aa (SB.rows C (if b.1.s.used b.2=0 then b.1.s.ns++[b.1.w.at b.2] else b.1.s.ns).length [av.str λF=>(if b.1.s.used b.2=0 then b.1.s.ns++[b.1.w.at b.2] else b.1.s.ns).getD F []] u (i.1*1) 9) (dY a.1.s a.1.c1)/\aa (SB.rows C b.1.s.fs.length [av.str λG=>(b.1.s.fs.getD G ([],[])).1,av.str λI=>(b.1.s.fs.getD I ([],[])).2] u (i.2*2) 50) (dH a.1.s a.1.c2)/\(1:Nat)=(1:Nat)/\aa (SB.fmap b.1.w.ad (aE.int O b.1.w.ag) H) (SB.fmap a.1.w.ad (aE.int O a.1.w.ag) H)/\(1:Nat)=(1:Nat)/\(b.1.w.z=a.1.w.z/\b.1.w.o=a.1.w.o/\(0:Nat)=(0:Nat)/\b.1.w.n=a.1.w.n/\b.1.w.c=a.1.w.c)/\aa (SB.view w.z w.o w.n [av.str w.f]) (SB.view a.1.w.z a.1.w.o a.1.w.n [av.str a.1.w.f])/\Bk (fC a.1.w 401 a.1.s a.2.1 a.2.2) (∀(m:Nat×Nat),(bz a.1.w 401 a.1.s a.2.1 a.2.2).ns.length<=m.1/\(bz a.1.w 401 a.1.s a.2.1 a.2.2).fs.length<=m.2->(((C=C/\0+(bz a.1.w 401 a.1.s a.2.1 a.2.2).ns.length<=(bz a.1.w 401 a.1.s a.2.1 a.2.2).ns.length)/\(a.1.w.z=w.z/\w.o=a.1.w.o/\0+a.1.w.n<=w.n)/\True)/\(bz a.1.w 401 a.1.s a.2.1 a.2.2).ns.length<9223372036854775808)/\((!iG (bz a.1.w 401 a.1.s a.2.1 a.2.2).ns.length (fun(J:Nat)=>(bz a.1.w 401 a.1.s a.2.1 a.2.2).ns.getD J []) a.1.w.n w.f)=C->Bk ((iH root w).isSome) (∃(K:Nat),(By root w).length<=K/\False) (ah g g))/\((!iG (bz a.1.w 401 a.1.s a.2.1 a.2.2).ns.length (fun(L:Nat)=>(bz a.1.w 401 a.1.s a.2.1 a.2.2).ns.getD L []) a.1.w.n w.f)=u->Bk ((iH root w).isSome) (∃(t:Nat),(By root w).length<=t/\aa (SB.rows C (bz a.1.w 401 a.1.s a.2.1 a.2.2).fs.length [av.str λM=>((bz a.1.w 401 a.1.s a.2.1 a.2.2).fs.getD M ([],[])).1,av.str λN=>((bz a.1.w 401 a.1.s a.2.1 a.2.2).fs.getD N ([],[])).2] u (m.2*2) 50) (SB.rows C (By root w).length [bU (By root w),bV (By root w)] u (t*2) 50)/\ah (SV.aN [SV.aX 29 2 C 0 (bz a.1.w 401 a.1.s a.2.1 a.2.2).fs.length m.2,SV.int .i64 C 0]) (SV.aN [SV.aX 29 2 C 0 (By root w).length t,SV.int .i64 C 0])) (ah (SV.aN [SV.aX 29 2 C 0 (bz a.1.w 401 a.1.s a.2.1 a.2.2).fs.length m.2,SV.int .i64 C 0]) g))) (∀(_:f_×f_),Bk ((iH root w).isSome) (∃(P:Nat),(By root w).length<=P/\False) (ah g g))) (∀(_:f_×f_),Bk ((iH root w).isSome) (∃(Q:Nat),(By root w).length<=Q/\False) (ah g g))))))))))) (SB.cells (SV.agg [SV.str u w.fr,SV.str u w.to]).cells 2 28))) (fun(b:Ae×f_)=>(getD (b.1.w.at b.2))))) (SV.aN [SV.aO,SV.int .i64 C 10])):=by kernel_rfl
structure Sp.rB (w:Sp):Prop where
 f: ∀ i,i<w.n->(w.f i).length<=1000
 fr:w.fr.length<=1000
 to:w.to.length<=1000
theorem Fe (f:Nat->f_): ∀ {n:Nat} {h:f_},aP f n h=u->cI f n h=0
 | 0,_,_=>rfl
 | n+1,h,e=>by unfold aP at e;simp only[Bool.or_eq_false_iff] at e;unfold cI;rw[e.1,e.2];rfl
theorem nK (f:Nat->f_)(n:Nat)(t:f_):cI f (n+1) t=bif aP f n t then cI f n t else(bif I (t=aK (f n))then(n:Int)else 0):=rfl
theorem Ff (h:aP f n (aK (f n))=u):(∀ t,dZ (aP f n) (aK (f n)) t=aP f (n+1) t)/\(∀ t,gA (cI f n) (aK (f n)) n t=cI f (n+1) t):=by
 refine⟨λt=>rfl,λt=> ?_⟩;rw[nK];unfold gA;by_cases e:t=aK (f n)
 ·subst e;rw[h];simp
 ·rw[o_ e];cases hd:aP f n t with
  | true=>rfl
  | false=>exact Fe f hd
theorem tC (h:aP f n (aK (f n))=C):(∀ t,aP f n t=aP f (n+1) t)/\(∀ t,cI f n t=cI f (n+1) t):=by
 refine⟨λt=> ?_,λt=> ?_⟩
 ·show _=(aP f n t||decide (t=aK (f n)))
  by_cases e:t=aK (f n)
  ·subst e;rw[h];rfl
  ·rw[o_ e,Bool.or_false]
 ·rw[nK];cases hd:aP f n t with
  | true=>rfl
  | false =>
    by_cases e:t=aK (f n)
    ·subst e;rw[h] at hd;cases hd
    ·rw[o_ e];exact Fe f hd
theorem Gu (w:Sp)(t:f_):(Wk.start.take w t).Fit 1:=Wk.Fit.take (k:=0) ⟨λ_=>⟨ct _,ct _⟩,T _,T _,M _⟩ w t
theorem agf {b:Bool}(h:(!b)=C):b=false:=by cases b<;>simp_all
theorem agh {b:Bool}(h:(!b)=u):b=true:=by cases b<;>simp_all
section
attribute [local irreducible] aK bG getD aP cI hasB oS au lQ fC bz iG
set_option maxHeartbeats 1000000 in
theorem LZ {w:Sp}(hw:w.rB)(root:f_)(kk:Option Nat) :
  ay (iX (Vd w) 14 b9 [.str u root,.agg [.str u w.fr,.str u w.to],.bE 0 1 w.z w.o 0 w.n w.c] [qM w kk] (DP root w)):=by
 refine ay.mS (Pg root w kk) (by delta Bk Fk;exact rfl) ?_;dsimp only;have S: ∀ v:SV,ah v v:=λ_ _=>rfl
 have eR:iH root w=bif Bo w.fr w.to&&(I (0<w.n)&&(I (w.n<=200)&&I (aK (w.f 0)=root)))then(match nu root w.full with
  | some s=>bif iG s.ns.length (λi=>s.ns.getD i []) w.n w.f then K s.fs else H
  | none=>H)else none:=rfl
 have bad:iH root w=H->∀ {A B:Prop},B->((iH root w).isSome=C->A)/\((iH root w).isSome=u->B):=λh A B b=>by rw[h];exact⟨(λh=>by cases h),λ_=>b⟩
 refine⟨λh=>bad (by rw[eR,show Bo w.fr w.to=u by simpa [Bo] using h];rfl) (S _),λhle=>⟨λh0=>bad (by rw[eR,show I (0<w.n)=u from o_ (by have:=l_ h0;omega)];simp) (S _),λh0=>⟨λh2=>bad (by rw[eR,show I (w.n<=200)=u from o_ (by have:=l_ h2;omega)];simp) (S _),λh2=> ?_⟩⟩⟩
 have hle:Bo w.fr w.to=true:=by unfold Bo;simpa only[an] using hle
 have h0:0<w.n:=by have:=m_ h0;omega
 have h2:w.n<=200:=by have:=m_ h2;omega
 refine⟨⟨0,M _,rfl,aa.Fl λs=>by unfold aP;rfl,aa.refl _,aa.refl _,aa.refl _,aa.refl _,trivial⟩,λx hx=>⟨λhlt=> ?_,λhge=> ?_⟩⟩
 ·have hlt:x<w.n:=by have:=l_ hlt;omega
  have hf:=hw.f x hlt;simp only[-eq_self,oP,W,X];refine⟨⟨by omega,by omega⟩,⟨rfl,hlt⟩,⟨trivial,by rw[oP];omega,by simp⟩,λhd=>⟨⟨by omega,by omega⟩,x+1,⟨hlt,by omega⟩,by omega,?_⟩,λhd=>⟨⟨by omega,by omega⟩,x+1,⟨hlt,by omega⟩,by omega,?_⟩⟩
  ·have hd:aP w.f x (aK (w.f x))=false:=by simpa using hd
   exact⟨aa.fmap (Ff hd).1 λt=>congrArg (Value.int .i64) ((Ff hd).2 t),aa.refl _,aa.refl _,aa.refl _,aa.refl _,trivial⟩
  ·have hd:aP w.f x (aK (w.f x))=true:=by simpa using hd
   exact⟨aa.fmap (tC hd).1 λt=>congrArg (Value.int .i64) ((tC hd).2 t),aa.refl _,aa.refl _,aa.refl _,aa.refl _,trivial⟩
 ·have hx:x=w.n:=by have:=m_ hge;omega
  subst hx;have noroot: ¬ (aP w.f w.n root=C/\cI w.f w.n root=0)->iH root w=none:=λh=>by have: ¬ aK (w.f 0)=root:=λe=>h (Cb.2 ⟨h0,e⟩);rw[eR,o_ this];simp
  refine⟨λhr=>bad (noroot λh=>by rw[h.1] at hr;cases hr) (S _),λhr=> ?_⟩;have hr:aP w.f w.n root=true:=by simpa using hr
  refine⟨λhz=>bad (noroot λh=>by rw[h.1,h.2] at hz;cases hz) (S _),λhz=> ?_⟩;have hz:cI w.f w.n root=0:=by rw[hr] at hz;exact ae2 (p:=cI w.f w.n root=0) hz
  have hroot:aK (w.f 0)=root:=(Cb.1 ⟨hr,hz⟩).2
  have eR:iH root w=(match nu root w.full with
   | some s=>bif iG s.ns.length (λi=>s.ns.getD i []) w.n w.f then K s.fs else H
   | none=>H):=by rw[eR,hle,n_ h0,n_ h2,n_ hroot];rfl
  have hok:w.full.Ok:=⟨h2,hw.f,λh e=>by obtain⟨g1,g2,_⟩:=iu w.f w.n h e;exact⟨g1,g2⟩,hw.fr,hw.to⟩
  refine⟨(⟨w.full,Wk.start,0,0⟩,root),⟨hok,⟨λ_=>⟨ct _,show(0:Int)<=1000 by decide⟩,M _,M _,M _⟩,⟨T _,T _⟩,trivial⟩,?_⟩;dsimp only;refine⟨rfl,rfl,rfl,rfl,rfl,rfl,rfl,rfl,rfl,rfl,aa.Fl λ_=>rfl,rfl,rfl,rfl,aa.refl _,rfl,⟨rfl,rfl,rfl,rfl,rfl⟩,aa.refl _,λhL c hc=> ?_,λhL c=>bad (by rw[eR,nu,hL];rfl) (S _)⟩;have hg:bG (w.full.at root)=true:=by simp only[cL,cD] at hL;exact hL.2
  have hfit:=Gu w.full root;have eW:nu root w.full=lQ w.full 401 (Wk.start.take w.full root) (getD (w.full.at root)) []:=by rw[nu,hL];rfl
  refine⟨(⟨w.full,Wk.start.take w.full root,c.1,c.2⟩,getD (w.full.at root),[]),⟨hok,hfit.small (by decide),hc,hfit,(by show 401<=0+401;decide),gE (mw hg),M _⟩,?_⟩;dsimp only
  repeat' first
   | exact aa.refl _
   | refine And.intro ?_ ?_
   | rfl
   | exact trivial
   | fail
  ·intro hB e he;have hs:=Jb hB;have k1:=(BB w.full 401 _ _ _ _ hfit hs).1;generalize bz w.full 401 (Wk.start.take w.full root) (getD (w.full.at root)) []=s' at hs k1 he ⊢;have eR:iH root w=bif iG s'.ns.length (λi=>s'.ns.getD i []) w.n w.f then K s'.fs else none:=by rw[eR,eW,hs]
   have hns:=k1.ns;have hlk:=k1.lk;refine⟨⟨⟨⟨rfl,by omega⟩,⟨rfl,rfl,by show 0+w.n<=w.n;omega⟩,trivial⟩,by omega⟩,λhq=>bad (by rw[eR,show iG s'.ns.length (λi=>s'.ns.getD i []) w.n w.f=u from agf hq];rfl) (S _),λhq=> ?_⟩
   have hq:iG s'.ns.length (λi=>s'.ns.getD i []) w.n w.f=true:=agh hq;have eR:iH root w=K s'.fs:=by rw[eR,hq];rfl
   have eL:By root w=s'.fs:=by unfold By;rw[eR]
   rw[eR,eL];exact⟨λ_=>⟨e.2,he.2,aa.refl _,S _⟩,(λh=>by cases h)⟩
  ·exact λhB c=>bad (by rw[eR,eW,zT hB]) (S _)
end
def abb:List AZ:=[.of .one,.agg [.one,.one],.of (.slice [.str λ_=>[]])]
def abc (vs:List SV)(l:List Seen):Option (f_×Sp×Option Nat):=match vs,l with
 | [.str u root,.agg [.str u fr,.str u to],_],[⟨kk,z,o,n,c,[.str f]⟩]=>K (root,⟨fr,to,n,f,z,o,c,λ_=>u,λ_=>0⟩,kk)
 | _,_=>H
theorem abd {vs:List SV}{l:List Seen}{root:f_}{w:Sp}{kk:Option Nat}(h:abc vs l=K (root,w,kk)):filled abb vs l=[.str u root,.agg [.str u w.fr,.str u w.to],.bE 0 1 w.z w.o 0 w.n w.c]/\l=[qM w kk]:=by
 unfold abc at h;split at h
 ·cases h;exact⟨rfl,rfl⟩
 ·cases h
def zM (vs:List SV)(l:List Seen):Option (Prop×cK):=match abc vs l with
 | some (root,w,_)=>K (w.rB,DP root w)
 | none=>H
theorem Q6 (l:List (f_×f_))(c:Nat):(cK.req (l.length<=c) (.new (λk=>.aN [.aX k 2 C 0 l.length c,.int .i64 C 0]) (.rows C l.length [bU l,bV l] u (c*2) 50))).Ok:=by
 refine⟨rfl,rfl,λk=>by simp[SV.wf,SV.fH,ej],λE E' k k' h=> ?_⟩;simp only[SV.val,SV.vals];cases l with
 | nil=>rfl
 | cons a r=>rw[h (SB.jd (i:=0) (cy _))]
theorem TG (root:f_)(w:Sp):(DP root w).Ok:=by
 intro b;cases b with
 | false=>rfl
 | true=>intro c;exact Q6 (By root w) c
theorem Yk:ax J 14 (bT abb zM):=by
 refine gd (n:=20) Tryz.func14 (by kernel_rfl) (by kernel_rfl) ?_;intro vs l q a h hq;unfold zM at h;split at h
 ·rename_i root w kk hx;cases h;obtain⟨e1,e2⟩:=abd hx;rw[e1,e2];exact⟨_,adU w,rfl,TG root w,LZ hq root kk⟩
 ·cases h
end
section
open Go Sx
set_option maxRecDepth 20000
theorem CS: ∀ {a b c:f_},V a b=C->V b c=C->V a c=C
 | [],[],_,h,_=>by cases h
 | _::_,[],_,h,_=>by cases h
 | _,_::_,[],_,h=>by cases h
 | [],_::_,_::_,_,_=>rfl
 | a::p,b::q,c::r,h,h'=>by
   rw[oV,Bool.or_eq_true,cD,p_,p_] at h h' ⊢;rcases h with h | ⟨rfl,h⟩
   ·rcases h' with h' | ⟨rfl,_⟩
    ·exact .inl (UInt8.lt_trans h h')
    ·exact .inl h
   ·rcases h' with h' | ⟨rfl,h'⟩
    ·exact .inl h'
    ·exact .inr ⟨rfl,CS h h'⟩
structure GO (l:List (f_×f_)):Prop where
 zG:l.Pairwise λa b=>V a.1 b.1=C
 key: ∀ x,x∈ l->x.1≠[]/\x.1.length<=6
 val: ∀ x,x∈ l->0<x.2.length/\x.2.length<=80
theorem E7 {l:List (f_×f_)}(h:GO l):cc 13 (rowsOf l):=by
 refine⟨?_,λx hx=> ?_,λx hx b hb=> ?_,λx hx=> ?_⟩
 ·unfold ve rowsOf;rw[List.pairwise_map];exact h.zG.imp tO
 all_goals
  obtain⟨e,he,rfl⟩:=List.mem_map.1 hx
 ·have:=(h.key e he).2;show(au e.1).length<13;rw[pg];omega
 ·exact pn e.1 b hb
 ·exact h.val e he
theorem AA (fr to:f_)(l:List (f_×f_)):gL fr to [] (rowsOf l)=ak fr to l:=by
 unfold gL rowsOf ak;rw[List.filter_map,ef];have e:((λr:Rw=>hasB fr to (cat [] r.1))∘ λe:f_×f_=>(au e.1,e.2))=λe=>hasB fr to (au e.1):=rfl;rw[e];have: ∀ l:List (f_×f_),l.map ((λr:Rw=>(br (cat [] r.1),r.2))∘ λe=>(au e.1,e.2))=l:=λl=>by
  induction l with
  | nil=>rfl
  | cons x r ih =>rw[List.map_cons,ih];show(br (au x.1),x.2)::r=x::r;rw[m8]
 exact this _
theorem Ee (m:Nat):aZ (bF m [])=true:=by cases m<;>kernel_rfl
def yS (k:f_):Bool:=!decide (k=[])&&I ((k.length:Int)<=6)
def uv (v:f_):Bool:=!decide (v=[])&&I ((v.length:Int)<=80)
def ju (f g:Nat->f_)(i:Nat):Bool:=yS (f i)&&(uv (g i)&&(I (i=0)||V (f (i-1)) (f i)))
def JV (n:Nat)(f g:Nat->f_):Bool:=(Z n).all (ju f g)
def ew (n:Nat)(f g:Nat->f_):Int:=bif JV n f g then(if(40:Int)<(n:Int)then 12 else 0)else 1
def aB (n:Nat)(f g:Nat->f_):List Rw:=(Z n).map λi=>(f i,g i)
def qJ (z:Bool)(l:List Rw)(c:Nat)(ro:Bool):SB:=.rows z l.length [bU l,bV l] ro (c*2) 174
def dE:List av:=[.str λ_=>[],.str λ_=>[]]
def shE:List AZ:=[.of (.slice dE)]
def iY (z:Bool)(o c n:Nat)(f g:Nat->f_)(key:Option Nat):Seen:=⟨key,z,o,n,c,[.str f,.str g]⟩
noncomputable def UR (n:Nat)(f g:Nat->f_):fD:={cv with cT:=λf=>aD f gy,aW:=λh=>if h=62 then [(2,always (MG 7 n (ju f g)))] else []}
theorem ads (n:Nat)(f g:Nat->f_):Sx.Good J (UR n f g):=.of bR dj bq
def uK (f g:Nat->f_)(i:Nat):Bool:=!decide ((20:Int)<((f i).length:Int))&& !decide ((100:Int)<((g i).length:Int))
def uC (n:Nat)(f g:Nat->f_):Bool:=I ((n:Int)<=45)&&(Z n).all (uK f g)
structure GS (n:Nat)(t:Nat->Bool)(i:Nat):Prop where
 up:dr n t i
 le:i<=46
noncomputable def ZE (n:Nat)(t:Nat->Bool):aY :={α:=Nat,pre:=λ_ i=>GS n t i,kH:=λ_ i=>n-i,fresh:=0,slots:=λ_ i=>[(3,.int .i64 u i)],mem:=λ_ _=>[]}
noncomputable def UU (n:Nat)(f g:Nat->f_):fD:={cv with cT:=λf=>aD f gy,aW:=λh=>if h=19 then [(2,always (ZE n (uK f g)))] else []}
theorem adv (n:Nat)(f g:Nat->f_):Sx.Good J (UU n f g):=.of bR dj bq
noncomputable def Py (t1 t2 n:Nat)(f g:Nat->f_):aY :=
 {α:=Nat×Nat,pre:=λ_ x=>x.1<=n/\x.1<=x.2,kH:=λ_ x=>n-x.1,fresh:=1,slots:=λst x=>[(t1,.int .i64 u x.1),(t2,.aX st.nx 2 u 0 x.1 x.2)],
  mem:=λst x=>[(st.nx,.rows u x.1 [.str f,.str g] u (x.2*2) 174)]}
noncomputable def U' (n:Nat)(f g:Nat->f_):fD:={cv with cT:=λf=>aD f gy,aW:=λh=>if h=64 then [(3,always (Py 11 3 n (λi=>au (f i)) g))] else []}
theorem adP (n:Nat)(f g:Nat->f_):Sx.Good J (U' n f g):=.of bR dj bq
noncomputable def Vi (n k:Nat)(f g:Nat->f_):fD:={cv with cT:=λf=>aD f gy,aW:=λh=>if h=102 then [(3,always (Py 13 5 n (λi=>(f i).drop k) g))] else []}
theorem adV (n k:Nat)(f g:Nat->f_):Sx.Good J (Vi n k f g):=.of bR dj bq
def DC (l:List Rw):cK:=.all Nat λc=>.req (l.length<=c) (.new (λk=>.aX k 2 u 0 l.length c) (qJ u l c u))
def DK (a b:f_)(i:Nat):Bool:=I (ai a i=ai b i)
noncomputable def US (a b:f_):fD:={cv with cT:=λf=>aD f gy,aW:=λh=>if h=100 then [(3,always (MG 13 (min a.length b.length) (DK a b)))] else []}
theorem adt (a b:f_):Sx.Good J (US a b):=.of bR dj bq
noncomputable def acT (i:Nat)(l:List Rw):aY :=
 {α:=Nat×Nat,pre:=λ_ x=>x.1<=l.length/\(bI i (l.take x.1)).length<=x.2,kH:=λ_ x=>l.length-x.1,fresh:=1,slots:=λst x=>[(10,.int .i64 u x.1),(5,.aX st.nx 2 C 0 (bI i (l.take x.1)).length x.2)],
  mem:=λst x=>[(st.nx,qJ C (bI i (l.take x.1)) x.2 u)]}
noncomputable def UT (i:Nat)(l:List Rw):fD:={cv with cT:=λf=>aD f gy,aW:=λh=>if h=103 then [(3,always (acT i l))] else []}
theorem adu (i:Nat)(l:List Rw):Sx.Good J (UT i l):=.of bR dj bq
def Vv:gP :=
 {G:=List Rw×Nat×Nat,n:=2,N:=3,pre:=λx=>x.1.length<=1000,args:=λx=>[.aX 0 2 u 0 x.1.length x.2.1,.func (.func 104) [] [.ptr 1 C 0]],
  mem:=λx=>[(0,qJ u x.1 x.2.1 C),(1,.cells [.int .i64 u x.2.2] 1 3)],
  wo:=λx=>.all Nat λc=>.req ((bI x.2.2 x.1).length<=c) (.ret (.aX 2 2 C 0 (bI x.2.2 x.1).length c) [(1,.cells [.int .i64 u x.2.2] 1 3),(2,qJ C (bI x.2.2 x.1) c u)])}
theorem abn (n:Nat)(f g:Nat->f_)(z:Bool)(o c:Nat)(key:Option Nat):dB (.n (.s 0 (.n .k .t)) (.n (.s 1 (.n (.s 0 (.n (.s 0 (.n (.s 5 (.n .k .t)) (.s 1 (.n .k .t)))) .t)) .t)) .t)) (iX (UR n f g) 62 b! [.bE 0 2 z o 0 n c] [iY z o c n f g key] (.ret (.int .i64 u (ew n f g)))) (((∃(e:Nat),dr n (ju f g) e/\0=(e:Int))/\∀(a:Nat),dr n (ju f g) a->Fk ((a:Int)<(n:Int)) ((0<=(a:Int)/\(a:Int)<(n:Int))/\(o=o/\0+(a:Int).toNat<n)/\Bk (!decide (f (0+(a:Int).toNat)=[])) (Bk (!decide ((↑(f (0+(a:Int).toNat)).length:Int)<=6)) (ah (SV.int .i64 C 1) (SV.int .i64 u (ew n f g))) (Bk (!decide (g (0+(a:Int).toNat)=[])) (Bk (!decide ((↑(g (0+(a:Int).toNat)).length:Int)<=80)) (ah (SV.int .i64 C 1) (SV.int .i64 u (ew n f g))) (Fk (0<(a:Int)) (I6 ((a:Int)-1)/\(0<=(a:Int)-1/\(a:Int)-1<(n:Int))/\(o=o/\0+((a:Int)-1).toNat<n)/\Bk (!Op.bytesLess (f (0+((a:Int)-1).toNat)) (f (0+(a:Int).toNat))) (ah (SV.int .i64 C 1) (SV.int .i64 u (ew n f g))) (I6 ((a:Int)+1)/\∃(b:Nat),(dr n (ju f g) b/\n-b<n-a)/\(a:Int)+1=(b:Int))) (I6 ((a:Int)+1)/\∃(d:Nat),(dr n (ju f g) d/\n-d<n-a)/\(a:Int)+1=(d:Int)))) (ah (SV.int .i64 C 1) (SV.int .i64 u (ew n f g))))) (ah (SV.int .i64 C 1) (SV.int .i64 u (ew n f g)))) (Fk (40<(n:Int)) (ah (SV.int .i64 C 12) (SV.int .i64 u (ew n f g))) (ah (SV.int .i64 C 0) (SV.int .i64 u (ew n f g)))))):=⟨by kernel_rfl,by kernel_rfl⟩
theorem abo (n:Nat)(f g:Nat->f_)(z:Bool)(o c:Nat)(key:Option Nat):dB (.n (.s 0 (.n .k .t)) (.n (.n (.s 7 (.n .k .t)) .t) .t)) (iX (UU n f g) 19 b_ [.bE 0 2 z o 0 n c] [iY z o c n f g key] (.ret (.bool u (uC n f g)))) (((∃(d:Nat),GS n (uK f g) d/\0=(d:Int))/\∀(a:Nat),GS n (uK f g) a->Fk ((a:Int)<(n:Int)) (Fk ((a:Int)<=45) ((0<=(a:Int)/\(a:Int)<(n:Int))/\(o=o/\0+(a:Int).toNat<n)/\Fk (20<(↑(f (0+(a:Int).toNat)).length:Int)) (ah (SV.bool C u) (SV.bool u (uC n f g))) ((0<=(a:Int)/\(a:Int)<(n:Int))/\(o=o/\0+(a:Int).toNat<n)/\Fk (100<(↑(g (0+(a:Int).toNat)).length:Int)) (ah (SV.bool C u) (SV.bool u (uC n f g))) (I6 ((a:Int)+1)/\∃(b:Nat),(GS n (uK f g) b/\n-b<n-a)/\(a:Int)+1=(b:Int)))) (ah (SV.bool (u&&C) (I ((n:Int)<=45))) (SV.bool u (uC n f g)))) (ah (SV.bool (u&&C) (I ((n:Int)<=45))) (SV.bool u (uC n f g))))):=⟨by kernel_rfl,by kernel_rfl⟩
theorem aeZ (n:Nat)(f g:Nat->f_)(z:Bool)(o c:Nat)(key:Option Nat):dB (.s 0 (.n (.s 0 (.n .k (.n (.s 0 .k) (.s 0 (.n .k .t))))) (.n (.s 7 (.n .k (.n (.s 0 .k) (.s 0 (.n .k .t))))) .k))) (iX (U' n f g) 64 cl [.bE 0 2 z o 0 n c] [iY z o c n f g key] (DC (aB n (λi=>au (f i)) g))) (((0<=(n:Int)/\32*(n:Int)<=140737488355328/\(n:Int)<=9223372036854775807)/\(∃(d:Nat×Nat),(d.1<=n/\d.1<=d.2)/\0=(d.1:Int)/\(0=d.1/\(n:Int).toNat=d.2)/\aa (SB.cells [] ((n:Int).toNat*2) 174) (SB.rows u d.1 [av.str λm=>au (f m),av.str g] u (d.2*2) 174))/\∀(a:Nat×Nat),a.1<=n/\a.1<=a.2->(I ((a.1:Int)<(n:Int))=C->(0<=(a.1:Int)/\(a.1:Int)<(n:Int))/\(o=o/\0+(a.1:Int).toNat<n)/\(f (0+(a.1:Int).toNat)).length<1099511627776/\K (SB.cells (bg (SV.agg [SV.str C [],SV.str C []]).cells 0 (SV.agg [av.at (0+(a.1:Int).toNat) (av.str f),av.at (0+(a.1:Int).toNat) (av.str g)]).cells) 2 50)=K (SB.cells (bg (SV.agg [SV.str C [],SV.str C []]).cells 0 (SV.agg [av.at (0+(a.1:Int).toNat) (av.str f),av.at (0+(a.1:Int).toNat) (av.str g)]).cells) 2 50)/\(0+a.1<=a.1/\True/\2*(a.1+1)*32<=(281474976710656:Nat)/\a.1+1<(9223372036854775808:Nat))/\∀(e:Nat),a.1+1<=e->I6 ((a.1:Int)+1)/\∃(b:Nat×Nat),((b.1<=n/\b.1<=b.2)/\n-b.1<n-a.1)/\(a.1:Int)+1=(b.1:Int)/\(a.1+1=b.1/\e=b.2)/\aa (SB.rows u (a.1+1) [av.str λh=>if h<a.1 then au (f h)else ck [au (f (0+(a.1:Int).toNat))] (h-a.1),av.str λj=>if j<a.1 then g j else ck [g (0+(a.1:Int).toNat)] (j-a.1)] u (e*2) 174) (SB.rows u b.1 [av.str λp=>au (f p),av.str g] u (b.2*2) 174))/\(I ((a.1:Int)<(n:Int))=u->∃(l:Nat),(aB n (fun(q:Nat)=>au (f q)) g).length<=l/\aa (SB.rows u a.1 [av.str λr=>au (f r),av.str g] u (a.2*2) 174) (SB.rows u (aB n (fun(v:Nat)=>au (f v)) g).length [bU (aB n (fun(w:Nat)=>au (f w)) g),bV (aB n (fun(x:Nat)=>au (f x)) g)] u (l*2) 174)/\ah (SV.aX ((2:Nat)) 2 u 0 a.1 a.2) (SV.aX ((2:Nat)) 2 u 0 (aB n (fun(y:Nat)=>au (f y)) g).length l)))):=⟨by kernel_rfl,by kernel_rfl⟩
theorem Uc (n k:Nat)(f g:Nat->f_)(z:Bool)(o c:Nat)(key:Option Nat):dB (.s 0 (.n (.s 0 (.n .k (.n (.s 0 .k) (.s 0 (.n .k .t))))) (.n (.s 6 (.n .k (.n (.s 0 .k) (.s 0 (.n .k .t))))) .k))) (iX (Vi n k f g) 102 b5 [.bE 0 2 z o 0 n c,.int .i64 u k] [iY z o c n f g key] (DC (cm k (aB n f g)))) (((0<=(n:Int)/\32*(n:Int)<=140737488355328/\(n:Int)<=9223372036854775807)/\(∃(d:Nat×Nat),(d.1<=n/\d.1<=d.2)/\0=(d.1:Int)/\(0=d.1/\(n:Int).toNat=d.2)/\aa (SB.cells [] ((n:Int).toNat*2) 174) (SB.rows u d.1 [av.str λl=>az k (f l),av.str g] u (d.2*2) 174))/\∀(a:Nat×Nat),a.1<=n/\a.1<=a.2->(I ((a.1:Int)<(n:Int))=C->(0<=(a.1:Int)/\(a.1:Int)<(n:Int))/\(o=o/\0+(a.1:Int).toNat<n)/\(0<=(k:Int)/\(k:Int)<=(↑(f (0+(a.1:Int).toNat)).length:Int)/\(↑(f (0+(a.1:Int).toNat)).length:Int)<=(↑(f (0+(a.1:Int).toNat)).length:Int))/\(0+a.1<=a.1/\True/\2*(a.1+1)*32<=(281474976710656:Nat)/\a.1+1<(9223372036854775808:Nat))/\∀(e:Nat),a.1+1<=e->I6 ((a.1:Int)+1)/\∃(b:Nat×Nat),((b.1<=n/\b.1<=b.2)/\n-b.1<n-a.1)/\(a.1:Int)+1=(b.1:Int)/\(a.1+1=b.1/\e=b.2)/\aa (SB.rows u (a.1+1) [av.str λh=>if h<a.1 then az k (f h)else ck [bX (f (0+(a.1:Int).toNat)) (K (Operand.tmp 20)) H (k:Int) (↑(f (0+(a.1:Int).toNat)).length:Int)] (h-a.1),av.str λi=>if i<a.1 then g i else ck [g (0+(a.1:Int).toNat)] (i-a.1)] u (e*2) 174) (SB.rows u b.1 [av.str λm=>az k (f m),av.str g] u (b.2*2) 174))/\(I ((a.1:Int)<(n:Int))=u->∃(j:Nat),(cm k (aB n f g)).length<=j/\aa (SB.rows u a.1 [av.str λp=>az k (f p),av.str g] u (a.2*2) 174) (SB.rows u (cm k (aB n f g)).length [bU (cm k (aB n f g)),bV (cm k (aB n f g))] u (j*2) 174)/\ah (SV.aX ((2:Nat)) 2 u 0 a.1 a.2) (SV.aX ((2:Nat)) 2 u 0 (cm k (aB n f g)).length j)))):=⟨by kernel_rfl,by kernel_rfl⟩
theorem YH (a b:f_):dB .k (gT (US a b) 100 bf [.str u a,.str u b] (.ret (.int .i64 u (bL a b)))) (((∃(e:Nat),dr (min a.length b.length) (DK a b) e/\0=(e:Int))/\∀(c:Nat),dr (min a.length b.length) (DK a b) c->Fk ((c:Int)<min (a.length:Int) (b.length:Int)) ((0<=(c:Int)/\(c:Int)<(a.length:Int))/\(0<=(c:Int)/\(c:Int)<(b.length:Int))/\Bk (!decide (ai a (c:Int)=ai b (c:Int))) (ah (SV.int .i64 u (c:Int)) (SV.int .i64 u (↑(bL a b):Int))) (I6 ((c:Int)+1)/\∃(d:Nat),(dr (min a.length b.length) (DK a b) d/\min a.length b.length-d<min a.length b.length-c)/\(c:Int)+1=(d:Int))) (ah (SV.int .i64 (u&&u) (min (a.length:Int) (b.length:Int))) (SV.int .i64 u (↑(bL a b):Int))))):=⟨by kernel_rfl,by kernel_rfl⟩
theorem oR {k:IntKind}{l:Bool}{a b:Int}(h:a=b):ah (.int k l a) (.int k u b):=λE=>by subst h;rfl
theorem rS {x:Nat}(hx:x<n)(h:ju f g x=u):ah (.int .i64 C 1) (.int .i64 u (ew n f g)):=by have:JV n f g=false:=c6.2 ⟨x,ei.2 hx,by rw[h];decide⟩;exact oR (by rw[ew,this];rfl)
theorem JH (n:Nat)(hn:n<9223372036854775808)(f g:Nat->f_)(z:Bool)(o c:Nat)(key:Option Nat):ay (iX (UR n f g) 62 b! [.bE 0 2 z o 0 n c] [iY z o c n f g key] (.ret (.int .i64 u (ew n f g)))):=by
 refine ay.A5 (abn n f g z o c key) (by delta Bk Fk;exact rfl) ?_;simp only[W,X,true_and,a!,an,p_,q_];refine⟨⟨0,dr.zero _ _,rfl⟩,λx hx=>⟨λh=> ?_,λh=> ?_⟩⟩
 ·have hlt:x<n:=by omega
  refine⟨by omega,hlt,λa1=>⟨λa2=>rS hlt ?_,λa2=>⟨λa3=>⟨λa4=>rS hlt ?_,λa4=>⟨λa5=>⟨by omega,by omega,by omega,λa6=>rS hlt ?_,λa6=>⟨by omega,x+1,⟨hx.next h ?_,by omega⟩,by omega⟩⟩,λa5=>⟨by omega,x+1,⟨hx.next h ?_,by omega⟩,by omega⟩⟩⟩,λa3=>rS hlt ?_⟩⟩,λa1=>rS hlt ?_⟩
  ·simp[ju,yS,a2]
  ·simp[ju,uv,a4]
  ·rw[show((x:Int)-1).toNat=x-1 by omega] at a6;have:x≠0:=by omega
   simp[ju,a6,this]
  ·rw[show((x:Int)-1).toNat=x-1 by omega] at a6;simp[ju,yS,uv,a1,a2,a3,a4,a6]
  ·have:x=0:=by omega
   subst this;simp[ju,yS,uv,a1,a2,a3,a4]
  ·simp[ju,uv,a3]
  ·simp[ju,yS,a1]
 ·have he:JV n f g=true:=hx.done h;exact⟨λh2=>oR (by rw[ew,he,cond_true,r_ h2]),λh2=>oR (by rw[ew,he,cond_true,s_ h2])⟩
theorem J1 (n:Nat)(f g:Nat->f_)(z:Bool)(o c:Nat)(key:Option Nat):ay (iX (UU n f g) 19 b_ [.bE 0 2 z o 0 n c] [iY z o c n f g key] (.ret (.bool u (uC n f g)))):=by
 refine ay.A5 (abo n f g z o c key) (by delta Fk;exact rfl) ?_;simp only[W,X,true_and,p_,q_];have bad: ∀ {x},x<n->uK f g x=u->ah (.bool C u) (.bool u (uC n f g)):=λ{x} hx h=>dh (by have:(Z n).all (uK f g)=false:=c6.2 ⟨x,ei.2 hx,by rw[h];decide⟩;rw[uC,this,Bool.and_false])
 refine⟨⟨0,⟨dr.zero _ _,M _⟩,rfl⟩,λx hx=>⟨λh=>⟨λh1=> ?_,λh1=> ?_⟩,λh=> ?_⟩⟩
 ·have hlt:x<n:=by omega
  refine⟨by omega,hlt,λa1=>bad hlt ?_,λa1=>⟨by omega,hlt,λa2=>bad hlt ?_,λa2=>⟨by omega,x+1,⟨⟨hx.up.next h ?_,by omega⟩,by omega⟩,by omega⟩⟩⟩
  ·simp[uK,a1]
  ·simp[uK,a2]
  ·have e1: ¬ (20:Int)<(f x).length:=a1;have e2: ¬ (100:Int)<(g x).length:=a2;rw[uK,o_ e1,o_ e2];rfl
 ·refine dh ?_;have: ¬ (n:Int)<=45:=by omega
  rw[uC,o_ this];rfl
 ·refine dh ?_;rw[uC,hx.up.done h,Bool.and_true]
theorem An {cs:List av}{tot tot':Nat}(ht:tot=tot'):aa (.cells [] tot ty) (.rows u 0 cs u tot' ty):=by subst ht;refine aa.of rfl rfl λ_=>⟨rfl,λE o ⟨c,fr,h1,h2,h3,h4⟩=>⟨c,fr,h1,λ_=>h2,by omega,h4,λi k col hi _=>absurd hi (Nat.not_lt_zero _)⟩,id⟩
theorem fc (n:Nat)(f g:Nat->f_):(aB n f g).length=n:=by simp[aB]
theorem CW (h:i<n):(aB n f g).getD i ([],[])=(f i,g i):=by rw[cx,aB,List.getElem?_map,List.getElem?_range h];rfl
theorem DG (hl:l=aB n f g)(hc:c=c'):aa (.rows z n [.str f,.str g] u (c*2) ty) (.rows z l.length [bU l,bV l] u (c'*2) ty):=by
 subst hl;subst hc;refine kW (fc n f g).symm rfl rfl λk d d' h1 h2 i hi E=> ?_
 match k,h1,h2 with
 | 0,h1,h2 =>injection h1 with h1;injection h2 with h2;subst h1;subst h2;simp only[bU,av.at,CW hi]
 | 1,h1,h2 =>injection h1 with h1;injection h2 with h2;subst h1;subst h2;simp only[bV,av.at,CW hi]
 | k+2,h1,_=>simp at h1
theorem LM {f' g':Nat->f_}(hn:n=n')(hc:c=c')(hf: ∀ i,i<n->f i=f' i)(hg: ∀ i,i<n->g i=g' i):aa (.rows z n [.str f,.str g] u (c*2) ty) (.rows z n' [.str f',.str g'] u (c'*2) ty):=by
 refine kW hn (by rw[hc]) rfl λk d d' h1 h2 i hi E=> ?_
 match k,h1,h2 with
 | 0,h1,h2 =>injection h1 with h1;injection h2 with h2;subst h1;subst h2;simp only[av.at,hf i hi]
 | 1,h1,h2 =>injection h1 with h1;injection h2 with h2;subst h1;subst h2;simp only[av.at,hg i hi]
 | k+2,h1,_=>simp at h1
theorem BA {α:Type}{j:Nat}(x:Nat->α)(y:Nat->α)(h:j<n+1)(hy:y 0=x n):(if j<n then x j else y (j-n))=x j:=by
 by_cases e:j<n
 ·rw[r_ e]
 ·have:j=n:=by omega
  subst this;rw[s_ e,Nat.sub_self,hy]
theorem zJ {k' w:Nat}(hk:k=k')(hn:n=n')(hc:c=c'):ah (.aX k w z i n c) (.aX k' w z i n' c'):=λE=>by subst hk;subst hn;subst hc;rfl
theorem OH (n:Nat)(f g:Nat->f_)(hn:n<=1000)(hf: ∀ i,i<n->(f i).length<1099511627776)(z:Bool)(o c:Nat)(key:Option Nat):ay (iX (U' n f g) 64 cl [.bE 0 2 z o 0 n c] [iY z o c n f g key] (DC (aB n (λi=>au (f i)) g))):=by
 refine ay.pr (aeZ n f g z o c key) ?_;simp only[W,X,true_and,p_,q_];refine⟨by omega,⟨(0,n),⟨M _,M _⟩,rfl,⟨rfl,rfl⟩,An rfl⟩,λx hx=>⟨λh=> ?_,λh=> ?_⟩⟩
 ·have hlt:x.1<n:=by omega
  refine⟨by omega,hlt,hf _ hlt,⟨T _,by omega,by omega⟩,λc hc=>⟨by omega,(x.1+1,c),⟨⟨by show x.1+1<=_;omega,hc⟩,by show _-(x.1+1)<_;omega⟩,by show(x.1:Int)+1=((x.1+1:Nat):Int);omega,⟨rfl,rfl⟩,LM rfl rfl (λj hj=> ?_) λj hj=> ?_⟩⟩
  ·exact BA (λj=>au (f j)) (ck [au (f x.1)]) hj rfl
  ·exact BA g (ck [g x.1]) hj rfl
 ·have e:x.1=n:=by have:=hx.1;omega
  exact⟨x.2,by rw[fc];have:=hx.2;omega,by rw[e];exact DG rfl rfl,zJ rfl (by rw[fc,e]) rfl⟩
theorem M4 (k n:Nat)(f g:Nat->f_):cm k (aB n f g)=aB n (λi=>(f i).drop k) g:=by unfold cm aB;rw[ef];rfl
theorem EL (n k:Nat)(f g:Nat->f_)(hn:n<=1000)(hk: ∀ i,i<n->k<=(f i).length)(z:Bool)(o c:Nat)(key:Option Nat):ay (iX (Vi n k f g) 102 b5 [.bE 0 2 z o 0 n c,.int .i64 u k] [iY z o c n f g key] (DC (cm k (aB n f g)))):=by
 refine ay.pr (Uc n k f g z o c key) ?_;simp only[W,X,true_and,p_,q_];refine⟨by omega,⟨(0,n),⟨M _,M _⟩,rfl,⟨rfl,rfl⟩,An rfl⟩,λx hx=>⟨λh=> ?_,λh=> ?_⟩⟩
 ·have hlt:x.1<n:=by omega
  have hkl:=hk _ hlt;refine⟨by omega,hlt,⟨by omega,by omega,by omega⟩,⟨T _,by omega,by omega⟩,λc hc=>⟨by omega,(x.1+1,c),⟨⟨by show x.1+1<=_;omega,hc⟩,by show _-(x.1+1)<_;omega⟩,by show(x.1:Int)+1=((x.1+1:Nat):Int);omega,⟨rfl,rfl⟩,LM rfl rfl (λj hj=> ?_) λj hj=> ?_⟩⟩
  ·refine BA (λj=>(f j).drop k) (ck _) hj ?_;show bX (f x.1) (K (Operand.tmp 20)) H (k:Int) ((f x.1).length:Int)=_;unfold bX;simp
  ·exact BA g (ck [g x.1]) hj rfl
 ·have e:x.1=n:=by have:=hx.1;omega
  rw[M4];exact⟨x.2,by rw[fc];have:=hx.2;omega,by rw[e];exact DG rfl rfl,zJ rfl (by rw[fc,e]) rfl⟩
theorem MV: ∀(a b:f_) (x:Nat),dr (min a.length b.length) (DK a b) x->(x<min a.length b.length->ai a (x:Int)≠ai b (x:Int)->bL a b=x)/\(¬ x<min a.length b.length->bL a b=x)
 | [],b,x,h=>⟨λh1 _=>absurd h1 (by simp),λ_=>by
   have:=h.le;rw[d!,Nat.zero_min] at this;have:x=0:=by omega
   subst this;cases b<;>rfl⟩
 | a::p,[],x,h=>⟨λh1 _=>absurd h1 (by simp),λ_=>by
   have:=h.le;rw[d!,Nat.min_zero] at this;have:x=0:=by omega
   subst this;rfl⟩
 | a::p,b::q,0,h=>⟨λ_ h2=>by have:a≠b:=λe=>h2 (by subst e;rfl);rw[bL,s_ this],λh1=>by rw[Y,Y] at h1;omega⟩
 | a::p,b::q,x+1,h=>by
   have e0:a=b:=by have:=h.all 0 (cy x);have:ai (a::p) 0=ai (b::q) 0:=l_ this;have:(a.toNat:Int)=(b.toNat:Int):=this;exact UInt8.toNat_inj.1 (by omega)
   have hm:min (a::p).length (b::q).length=min p.length q.length+1:=by rw[Y,Y];omega
   have h':dr (min p.length q.length) (DK p q) x:=⟨by have:=h.le;omega,λj hj=>by have:=h.all (j+1) (by omega);unfold DK at this ⊢;rw[cn,cn] at this;exact this⟩
   obtain⟨g1,g2⟩:=MV p q x h';have ec:bL (a::p) (b::q)=bL p q+1:=by rw[bL,r_ e0]
   rw[cn,cn,ec];exact⟨λh1 h2=>by rw[g1 (by omega) h2],λh1=>by rw[g2 (by omega)]⟩
theorem Hl (a b:f_)(ha:a.length<9223372036854775807):ay (gT (US a b) 100 bf [.str u a,.str u b] (.ret (.int .i64 u (bL a b)))):=by
 refine ay.A5 (YH a b) (by delta Bk Fk;exact rfl) ?_;simp only[a!,an,p_,q_];refine⟨⟨0,dr.zero _ _,rfl⟩,λx hx=>⟨λh=> ?_,λh=> ?_⟩⟩
 ·have hlt:x<min a.length b.length:=by omega
  refine⟨⟨by omega,by omega⟩,⟨by omega,by omega⟩,λh1=>oR ?_,λh1=>⟨by omega,x+1,⟨hx.next (by omega) ?_,by omega⟩,by omega⟩⟩
  ·rw[(MV a b x hx).1 hlt h1]
  ·exact n_ h1
 ·have:=(MV a b x hx).2 (by omega);have hle:=hx.le;exact oR (by omega)
def vn (args:List SV):Option (Prop×SV):=match args with
 | [.str u a,.str u b]=>K (a.length<9223372036854775807,.int .i64 u (bL a b))
 | _=>H
theorem RV:ax J 100 (bn vn):=by
 refine fj (ee (n:=20) Tryz.func100 (by kernel_rfl) (by kernel_rfl) ?_);intro args p a h hp;unfold vn at h;split at h
 ·cases h;exact⟨_,adt _ _,rfl,rfl,Hl _ _ hp⟩
 ·cases h
def yD (vs:List SV)(l:List Seen):Option (Prop×cK):=match vs,l with
 | [_],[⟨_,_,_,n,_,[.str f,.str g]⟩]=>K (n<9223372036854775808,.ret (.int .i64 u (ew n f g)))
 | _,_=>H
theorem Vl:ax J 62 (bT shE yD):=by
 refine gd (n:=20) (fn:=b!) Tryz.func62 (by kernel_rfl) (by kernel_rfl) ?_;intro vs l q a h hq;unfold yD at h;split at h
 ·rename_i v key z o n c f g;cases h;exact⟨_,ads n f g,rfl,rfl,JH n hq f g z o c key⟩
 ·cases h
def B9 (vs:List SV)(l:List Seen):Option (Prop×cK):=match vs,l with
 | [_],[⟨_,_,_,n,_,[.str f,.str g]⟩]=>K (True,.ret (.bool u (uC n f g)))
 | _,_=>H
theorem Z9:ax J 19 (bT shE B9):=by
 refine gd (n:=20) Tryz.func19 (by kernel_rfl) (by kernel_rfl) ?_;intro vs l q a h hq;unfold B9 at h;split at h
 ·rename_i v key z o n c f g;cases h;exact⟨_,adv n f g,rfl,rfl,J1 n f g z o c key⟩
 ·cases h
theorem LK (l:List Rw):(DC l).Ok:=λ_=>⟨rfl,rfl,λk=>by
 show Nat.blt k (k+1)=C;rw[ej];omega,λE E' k k' h=>by
 show(SV.aX k 2 u 0 l.length _).val E=(SV.aX k' 2 u 0 l.length _).val E';have:=h rfl;simp only[SV.val];rw[this]⟩
def DD (vs:List SV)(l:List Seen):Option (Prop×cK):=match vs,l with
 | [_],[⟨_,_,_,n,_,[.str f,.str g]⟩]=>K (n<=1000/\∀ i,i<n->(f i).length<1099511627776,DC (aB n (λi=>au (f i)) g))
 | _,_=>H
theorem X8:ax J 64 (bT shE DD):=by
 refine gd (n:=20) Tryz.func64 (by kernel_rfl) (by kernel_rfl) ?_;intro vs l q a h hq;unfold DD at h;split at h
 ·rename_i v key z o n c f g;cases h;exact⟨_,adP n f g,rfl,LK _,OH n f g hq.1 hq.2 z o c key⟩
 ·cases h
def afY:List AZ:=[.of (.slice dE),.of .one]
def tc (vs:List SV)(l:List Seen):Option (Prop×cK):=match vs,l with
 | [_,.int .i64 u k],[⟨_,_,_,n,_,[.str f,.str g]⟩]=>K (0<=k/\n<=1000/\∀ i,i<n->k.toNat<=(f i).length,DC (cm k.toNat (aB n f g)))
 | _,_=>H
theorem Pm:ax J 102 (bT afY tc):=by
 refine gd (n:=20) Tryz.func102 (by kernel_rfl) (by kernel_rfl) ?_;intro vs l q a h hq;unfold tc at h;split at h
 ·rename_i v k key z o n c f g;cases h;have:=EL n k.toNat f g hq.2.1 hq.2.2 z o c key;rw[Int.toNat_of_nonneg hq.1] at this;exact⟨_,adV n k.toNat f g,rfl,LK _,this⟩
 ·cases h
theorem aeN (x:List Rw×Nat×Nat):dB (.n (.s 0 (.n .k (.n .k .t))) (.n (.s 1 (.n (.s 1 (.n (.s 3 (.n .k (.n (.s 0 .k) (.s 0 (.n .k .t))))) (.s 1 (.n .k (.n (.s 0 .k) (.s 0 (.n .k .t))))))) (.s 1 (.n .k (.n (.s 0 .k) (.s 0 (.n .k .t))))))) (.s 0 (.n (.s 0 .k) (.s 1 .k))))) (runM (UT x.2.2 x.1) 103 b6 Vv x) ((λf:(Nat×Nat)->SB=>(((∃(e:Nat×Nat),(e.1<=x.1.length/\(bI x.2.2 (F e.1 x.1)).length<=e.2)/\0=(e.1:Int)/\(bI x.2.2 (F e.1 x.1)).length=0/\(qJ C (bI x.2.2 (F e.1 x.1)) e.2 u).no=C)/\∀(a:Nat×Nat),a.1<=x.1.length/\(bI x.2.2 (F a.1 x.1)).length<=a.2->Fk ((a.1:Int)<(x.1.length:Int)) ((0<=(a.1:Int)/\(a.1:Int)<(x.1.length:Int))/\0+(a.1:Int).toNat<x.1.length/\((!decide ((x.1.getD (0+(a.1:Int).toNat) ([],[])).1=[]))=C->((0:Int)<=(0:Int)/\0<(↑(x.1.getD (0+(a.1:Int).toNat) ([],[])).1.length:Int))/\I6 (ai (x.1.getD (0+(a.1:Int).toNat) ([],[])).1 0)/\Fk (ai (x.1.getD (0+(a.1:Int).toNat) ([],[])).1 0=(x.2.2:Int)) ((0+(bI x.2.2 (F a.1 x.1)).length<=(bI x.2.2 (F a.1 x.1)).length/\True/\2*((bI x.2.2 (F a.1 x.1)).length+1)*32<=(281474976710656:Nat)/\(bI x.2.2 (F a.1 x.1)).length+1<(9223372036854775808:Nat))/\∀(g:Nat),(bI x.2.2 (F a.1 x.1)).length+1<=g->I6 ((a.1:Int)+1)/\∃(b:Nat×Nat),((b.1<=x.1.length/\(bI x.2.2 (F b.1 x.1)).length<=b.2)/\x.1.length-b.1<x.1.length-a.1)/\(a.1:Int)+1=(b.1:Int)/\((bI x.2.2 (F a.1 x.1)).length+1=(bI x.2.2 (F b.1 x.1)).length/\g=b.2)/\aa (SB.rows C ((bI x.2.2 (F a.1 x.1)).length+1) [av.str λh=>if h<(bI x.2.2 (F a.1 x.1)).length then((bI x.2.2 (F a.1 x.1)).getD h ([],[])).1 else ck [(x.1.getD (0+(a.1:Int).toNat) ([],[])).1] (h-(bI x.2.2 (F a.1 x.1)).length),av.str λi=>if i<(bI x.2.2 (F a.1 x.1)).length then((bI x.2.2 (F a.1 x.1)).getD i ([],[])).2 else ck [(x.1.getD (0+(a.1:Int).toNat) ([],[])).2] (i-(bI x.2.2 (F a.1 x.1)).length)] u (g*2) 174) (SB.rows C (bI x.2.2 (F b.1 x.1)).length [bU (bI x.2.2 (F b.1 x.1)),bV (bI x.2.2 (F b.1 x.1))] u (b.2*2) 174)) (I6 ((a.1:Int)+1)/\∃(c:Nat×Nat),((c.1<=x.1.length/\(bI x.2.2 (F c.1 x.1)).length<=c.2)/\x.1.length-c.1<x.1.length-a.1)/\(a.1:Int)+1=(c.1:Int)/\((bI x.2.2 (F a.1 x.1)).length=(bI x.2.2 (F c.1 x.1)).length/\a.2=c.2)/\aa (f a) (SB.rows C (bI x.2.2 (F c.1 x.1)).length [bU (bI x.2.2 (F c.1 x.1)),bV (bI x.2.2 (F c.1 x.1))] u (c.2*2) 174)))/\((!decide ((x.1.getD (0+(a.1:Int).toNat) ([],[])).1=[]))=u->I6 ((a.1:Int)+1)/\∃(d:Nat×Nat),((d.1<=x.1.length/\(bI x.2.2 (F d.1 x.1)).length<=d.2)/\x.1.length-d.1<x.1.length-a.1)/\(a.1:Int)+1=(d.1:Int)/\((bI x.2.2 (F a.1 x.1)).length=(bI x.2.2 (F d.1 x.1)).length/\a.2=d.2)/\aa (f a) (SB.rows C (bI x.2.2 (F d.1 x.1)).length [bU (bI x.2.2 (F d.1 x.1)),bV (bI x.2.2 (F d.1 x.1))] u (d.2*2) 174))) (∃(j:Nat),(bI x.2.2 x.1).length<=j/\((bI x.2.2 (F a.1 x.1)).length=(bI x.2.2 x.1).length/\a.2=j)/\aa (f a) (SB.rows C (bI x.2.2 x.1).length [bU (bI x.2.2 x.1),bV (bI x.2.2 x.1)] u (j*2) 174))))) (fun(a:Nat×Nat)=>(SB.rows C (bI x.2.2 (F a.1 x.1)).length [bU (bI x.2.2 (F a.1 x.1)),bV (bI x.2.2 (F a.1 x.1))] u (a.2*2) 174))):=⟨by kernel_rfl,by kernel_rfl⟩
theorem Q8 {r:Rw}:aa (.rows C (l.length+1) [.str λj=>if j<l.length then(l.getD j ([],[])).1 else ck [r.1] (j-l.length),.str λj=>if j<l.length then(l.getD j ([],[])).2 else ck [r.2] (j-l.length)] u (c*2) ty) (.rows C (l++[r]).length [bU (l++[r]),bV (l++[r])] u (c*2) ty):=by
 refine kW (by simp) rfl rfl λk c c' h1 h2 i hi E=> ?_;have e: ∀(x:Rw->f_),(if i<l.length then x (l.getD i ([],[]))else ck [x r] (i-l.length))=x ((l++[r]).getD i ([],[])):=λx=>by
  rw[sS l r ([],[]) i hi];by_cases h:i<l.length
  ·rw[r_ h,r_ h]
  ·rw[s_ h,s_ h];have:i-l.length=0:=by omega
   rw[this];rfl
 match k,h1,h2 with
 | 0,h1,h2 =>injection h1 with h1;injection h2 with h2;subst h1;subst h2;simp only[bU,av.at,SV.val,← e Prod.fst]
 | 1,h1,h2 =>injection h1 with h1;injection h2 with h2;subst h1;subst h2;simp only[bV,av.at,SV.val,← e Prod.snd]
 | k+2,h1,_=>simp at h1
theorem zS (hk:k<l.length):l.take (k+1)=l.take k++[l.getD k ([],[])]:=by rw[List.take_add_one,cx,c! hk];rfl
theorem Z4 (hk:k<l.length)(h:lU i (l.getD k ([],[])).1=C):bI i (l.take (k+1))=bI i (l.take k)++[l.getD k ([],[])]:=by rw[zS hk];unfold bI;rw[c7];congr 1;rw[c_,h];rfl
theorem Vw (hk:k<l.length)(h:lU i (l.getD k ([],[])).1=u):bI i (l.take (k+1))=bI i (l.take k):=by rw[zS hk];unfold bI;rw[c7,c_,h];simp
theorem Z3 (i:Nat)(l:List Rw)(k:Nat):(bI i (l.take k)).length<=l.length:=by
 have:=List.length_filter_le (λr:Rw=>lU i r.1) (l.take k);have h2:(l.take k).length<=l.length:=by rw[List.length_take];omega
 unfold bI;omega
theorem Su {p:f_}(hp: ¬ p=[]):lU i p=I (ai p 0=(i:Int)):=by
 cases p with
 | nil=>exact absurd rfl hp
 | cons b q =>show I (b.toNat=i)=I ((b.toNat:Int)=(i:Int));exact decide_eq_decide.2 (by omega)
theorem Q7 {l':List Rw}(h:l=l')(hc:c=c'):aa (.rows z l.length [bU l,bV l] u (c*2) ty) (.rows z l'.length [bU l',bV l'] u (c'*2) ty):=by subst h;subst hc;exact aa.refl _
theorem MY (x:List Rw×Nat×Nat)(hx:x.1.length<=1000):ay (runM (UT x.2.2 x.1) 103 b6 Vv x):=by
 refine ay.A5 (aeN x) (by delta Fk;exact rfl) ?_;obtain⟨l,c0,i⟩:=x;simp only[W,X,true_and,a!,an,p_,q_];have hx:l.length<=1000:=hx;refine⟨⟨(0,0),⟨M _,M _⟩,rfl,rfl,rfl⟩,λx ⟨h1,h2⟩=>⟨λh=> ?_,λh=> ?_⟩⟩
 ·have hlt:x.1<l.length:=by omega
  have hcl:=Z3 i l x.1;refine⟨⟨by omega,by omega⟩,hlt,λa=> ?_,λa=> ?_⟩
  ·have hpos:0<(l.getD x.1 ([],[])).1.length:=List.length_pos_iff.2 a;have hb:=Su (i:=i) a;refine⟨⟨by omega,by omega⟩,?_,λb=>⟨⟨T _,by omega,by omega⟩,λc hc=> ?_⟩,λb=> ?_⟩
   ·have h0:=dW (l.getD x.1 ([],[])).1 0;omega
   ·have e:=Z4 hlt (hb.trans (n_ b));refine⟨by omega,(x.1+1,c),⟨⟨by show x.1+1<=_;omega,?_⟩,by show _-(x.1+1)<_;omega⟩,by show(x.1:Int)+1=((x.1+1:Nat):Int);omega,⟨?_,rfl⟩,?_⟩
    ·show(bI i (l.take (x.1+1))).length<=c;rw[e,aC];exact hc
    ·show _=(bI i (l.take (x.1+1))).length;rw[e,aC];rfl
    ·show aa _ (.rows C (bI i (l.take (x.1+1))).length [bU (bI i (l.take (x.1+1))),bV (bI i (l.take (x.1+1)))] u (c*2) _);rw[e];exact Q8
   ·have e:=Vw hlt (hb.trans (o_ b));refine⟨by omega,(x.1+1,x.2),⟨⟨by show x.1+1<=_;omega,?_⟩,by show _-(x.1+1)<_;omega⟩,by show(x.1:Int)+1=((x.1+1:Nat):Int);omega,⟨?_,rfl⟩,Q7 e.symm rfl⟩
    ·show(bI i (l.take (x.1+1))).length<=x.2;rw[e];exact h2
    ·show _=(bI i (l.take (x.1+1))).length;rw[e]
  ·have e:=Vw (i:=i) hlt (by rw[a];rfl);refine⟨by omega,(x.1+1,x.2),⟨⟨by show x.1+1<=_;omega,?_⟩,by show _-(x.1+1)<_;omega⟩,by show(x.1:Int)+1=((x.1+1:Nat):Int);omega,⟨?_,rfl⟩,Q7 e.symm rfl⟩
   ·show(bI i (l.take (x.1+1))).length<=x.2;rw[e];exact h2
   ·show _=(bI i (l.take (x.1+1))).length;rw[e]
 ·have e:l.take x.1=l:=List.take_of_length_le (by omega);rw[e] at h2 ⊢;exact⟨x.2,h2,⟨rfl,rfl⟩,aa.refl _⟩
theorem aa3:ax J 103 (cM Vv) :=fT (n:=20) Tryz.func103 (by kernel_rfl) (by kernel_rfl) Vv λx hx=>⟨_,adu x.2.2 x.1,rfl,MY x hx⟩
noncomputable def NC:List (FuncId×PT):=(105,bY (tU λx=>K (Fits x,aeu x)))::(150,bn IS)::(100,bn vn)::(102,bT afY tc)::(103,cM Vv)::gy
theorem FD:bp J (λf=>aD f NC):=.cons N5 (bO _) (.cons N6 (aS _) (.cons RV (aS _) (.cons Pm (bS _ _) (.cons aa3 (cz _) dj))))
theorem FT (l:List Rw):aB l.length (λi=>(l.getD i ([],[])).1) (λi=>(l.getD i ([],[])).2)=l:=by refine List.ext_getElem (by rw[fc]) λi h1 h2=> ?_;simp only[aB,List.getElem_map,List.getElem_range,cx,c! h2,Option.getD_some]
structure Pd where
 D:Nat->Bool
 dm:Nat->f_
 fb:Nat->Nat
 nb:Nat->Nat
 cb:Nat->Nat
 D2:Nat->Bool
 n2:Nat->Nat
 g:Nat->Nat->Nat
def Pd.parts (P:Pd)(kB:Nat):SB:=.eD P.D [.str P.dm,.b7 kB 1 C P.fb P.nb P.cb] 2 165 u
def Pd.lists (P:Pd)(kA:Nat):SB:=.dQ P.D2 P.n2 [.ref kA P.g] u
def Told (P:Pd):Nat->Nat->List f_->Prop
 | 0,_,_=>False
 | d+1,a,L=>P.D a=C/\∃ Ks:List (List f_),P.nb a=Ks.length/\(0<Ks.length->P.D2 (P.fb a)=C/\Ks.length<=P.n2 (P.fb a))/\L=P.dm a::Ks.flatten/\∀(i:Nat) (L':List f_),Ks[i]?=K L'->Told P d (P.g (P.fb a) i) L'
def kZ (P:Pd)(d n:Nat)(f:Nat->Nat)(B:List f_):Prop:=∃ Ks:List (List f_),n=Ks.length/\Ks.flatten=B/\∀(i:Nat) (L':List f_),Ks[i]?=K L'->Told P d (f i) L'
def nC (m:Nat)(l:List Rw):List f_:=if l=[] then [] else(if(ctext m l).length<32 then [] else [ctext m l])++cR m l
def jl (m:Nat)(l:List Rw):f_:=if l=[] then [] else eY (ctext m l)
def wM (n a b:Nat):Mem->List Gh
 | []=>[]
 | e::r=>match Nat.blt e.1 n,e.2 with
   | false,.eD .. =>.merge a e.1::wM n a b r
   | false,.dQ .. =>.merge b e.1::wM n a b r
   | _,_=>wM n a b r
def tH (nb cb:Nat)(f:Nat->Nat)(P:Pd)(k:Nat):Mem:=[(0,.cells [.str C [],.aX k 1 C 0 nb cb] 2 165),(k,.rows C nb [.ref 3 f] u (cb*1) 106),(3,P.parts 4),(4,P.lists 3)]
structure uE where
 l:List Rw
 c:Nat
 nb:Nat
 cb:Nat
 f:Nat->Nat
 P:Pd
 B:List f_
structure kY where
 nb:Nat
 cb:Nat
 f:Nat->Nat
 P:Pd
def sk (m:Nat):gP :=
 {G:=uE,n:=5,N:=6,pre:=λx=>cc m x.l/\x.l.length<=1000/\m<=13/\x.nb<=x.cb/\(x.B++nC m x.l).length<=100000/\kZ x.P (m+1) x.nb x.f x.B,args:=λx=>[.ptr 0 C 0,.aX 1 2 u 0 x.l.length x.c],
  mem:=λx=>(1,qJ u x.l x.c C)::tH x.nb x.cb x.f x.P 2,
  wo:=λx=>.all kY λy=>.req (y.nb<=y.cb/\kZ y.P (m+1) y.nb y.f (x.B++nC m x.l)) (.ret (.str u (jl m x.l)) (tH y.nb y.cb y.f y.P 5)),
  gh:=λ_ m=>wM 5 3 4 m}
def aet:SV->Mem->List Gh:=λv m=>match v with
 | .ptr kp _ _=>(match m.get kp with
   | some (.cells [_,.aX kr _ _ _ _ _] _ _)=>(match m.get kr with
     | some (.rows _ _ [.ref kA _] _ _ _)=>(match m.get kA with
       | some (.eD _ [_,.b7 kB _ _ _ _ _] _ _ _)=>[.name kr 0,.merge kB kr,.name kp kB,.merge kA kp]
       | _=>[.name kp 0])
     | _=>[.name kp 0])
   | _=>[.name kp 0])
 | _=>[]
def yA (m:Nat):gP :=
 {G:=List Rw×Nat,n:=1,N:=3,pre:=λx=>cc m x.1/\x.1.length<=1000/\m<=13,args:=λx=>[.aX 0 2 u 0 x.1.length x.2],mem:=λx=>[(0,qJ u x.1 x.2 C)],
  wo:=λx=>.all (Nat×Pd) λy=>.req (Told y.2 (m+1) y.1 (cX m x.1)) (.ret (.ga 1 y.1 0) [(1,y.2.parts 2),(2,y.2.lists 1)]),
  gh:=aet}
def gi (m:Nat)(l:List Rw)(i:Nat):List f_:=(Z i).flatMap λj=>nC m (aG l j)
def lH (m:Nat)(l:List Rw)(i j:Nat):f_:=if j<i then jl m (aG l j)else []
noncomputable def ZG (m:Nat)(l:List Rw):aY :=
 {α:=Nat×kY,pre:=λ_ x=>x.1<=16/\x.2.nb<=x.2.cb/\kZ x.2.P (m+1) x.2.nb x.2.f (gi m l x.1),kH:=λ_ x=>16-x.1,fresh:=3,slots:=λ_ x=>[(11,.int .i64 u x.1)],
  mem:=λst x=>[(rm st 3,.cells [.str C [],.aX st.nx 1 C 0 x.2.nb x.2.cb] 2 165),(st.nx,.rows C x.2.nb [.ref (st.nx+1) x.2.f] u (x.2.cb*1) 106),(st.nx+1,x.2.P.parts (st.nx+2)),(st.nx+2,x.2.P.lists (st.nx+1)),
   (rm st 4,.cells (bh ⟨3,[],[],lH m l x.1⟩) 19 138)]}
noncomputable def pZ:Nat->PT
 | 0=>λ_ _ _ _=>.fail "no rows"
 | m+1=>cM (yA (m+1))
noncomputable def afI (m:Nat):List (FuncId×PT):=(63,pZ m)::NC
noncomputable def EW (m:Nat):fD:={cv with cT:=λf=>aD f (afI m)}
noncomputable def afH (m:Nat):List (FuncId×PT):=(101,cM (sk m))::NC
noncomputable def PE (m:Nat)(l:List Rw):fD:={cv with cT:=λf=>aD f (afH m),aW:=λh=>if h=63 then [(5,always (ZG m l))] else []}
theorem wB: ∀ m,aQ (pZ m)
 | 0=>λ_ _ _ _ _ _ h=>h
 | _m+1=>cz _
theorem MN:ax J 63 (pZ 0):=λ_ _ _ _ h=>h.elim
theorem adx (h:ax J 63 (pZ m)):Sx.Good J (EW m):=.of bR (bp.cons h (wB m) FD) bq
theorem adr (h:ax J 101 (cM (sk m)))(l:List Rw):Sx.Good J (PE m l):=.of bR (bp.cons h (cz _) FD) bq
theorem abp (x:uE):dB (.n (.s 0 (.n .k (.s 1 (.n (.s 0 .k) .k)))) .t) (runM (EW 0) 101 c5 (sk 0) x) (((I ((x.l.length:Int)=0)=C->∃(a:kY),(a.nb<=a.cb/\kZ a.P 1 a.nb a.f (x.B++nC 0 x.l))/\[]=jl 0 x.l/\(x.nb=a.nb/\x.cb=a.cb)/\aa (SB.rows C x.nb [av.ref 3 x.f] u (x.cb*1) 106) (SB.rows C a.nb [av.ref 3 a.f] u (a.cb*1) 106)/\aa (SB.eD x.P.D [av.str x.P.dm,av.b7 4 1 C x.P.fb x.P.nb x.P.cb] 2 165 u) (a.P.parts 4)/\aa (SB.dQ x.P.D2 x.P.n2 [cg.ref 3 x.P.g] u) (a.P.lists 3))/\(I ((x.l.length:Int)=0)=u->False))):=⟨by kernel_rfl,by kernel_rfl⟩
theorem aeR (m:Nat)(x:uE):dB (.n (.s 0 (.n .k (.s 1 (.n (.s 0 .k) .k)))) (.s 0 (.n (.s 0 .k) (.s 0 (.n .k (.s 2 (.n (.s 2 (.n .k (.s 1 (.n (.s 0 .k) .k)))) (.s 3 (.n .k (.s 1 (.n (.s 0 .k) .k))))))))))) (runM (EW (m+1)) 101 c5 (sk (m+1)) x) ((Fk ((x.l.length:Int)=0) (∃(e:kY),(e.nb<=e.cb/\kZ e.P (m+1+(1:Nat)) e.nb e.f (x.B++nC (m+1) x.l))/\[]=jl (m+1) x.l/\(x.nb=e.nb/\x.cb=e.cb)/\aa (SB.rows C x.nb [av.ref 3 x.f] u (x.cb*1) 106) (SB.rows C e.nb [av.ref 3 e.f] u (e.cb*1) 106)/\aa (SB.eD x.P.D [av.str x.P.dm,av.b7 4 1 C x.P.fb x.P.nb x.P.cb] 2 165 u) (e.P.parts 4)/\aa (SB.dQ x.P.D2 x.P.n2 [cg.ref 3 x.P.g] u) (e.P.lists 3)) (∃(d:List Rw×Nat),(cc (a_._f 0 Unit.unit m+1) d.1/\d.1.length<=1000/\a_._f 0 Unit.unit m+1<=(13:Nat))/\(x.l.length=d.1.length/\x.c=d.2)/\aa (SB.rows u x.l.length [bU x.l,bV x.l] C (x.c*2) 174) (SB.rows u d.1.length [bU d.1,bV d.1] C (d.2*2) 174)/\∀(a:Nat×Pd),Told a.2 (a_._f 0 Unit.unit m+1+(1:Nat)) a.1 (cX (a_._f 0 Unit.unit m+1) d.1)->a.2.D a.1=C/\(a.2.dm a.1).length<1152921504606846976/\(eY (a.2.dm a.1)).length<9223372036854775808/\Bk (bw (eY (a.2.dm a.1))) ((0+x.nb<=x.nb/\True/\2*(x.nb+1)*8<=(281474976710656:Nat)/\x.nb+1<(9223372036854775808:Nat))/\∀(o:Nat),x.nb+1<=o->(∀(I:Nat),(x.P.parts 4).dom I=C->(SB.aM (pF 1 (su 0 (((1:Nat),qJ u x.l x.c C)::tH x.nb x.cb x.f x.P 2) (qJ u d.1 d.2 C) (qJ u x.l x.c C) [((0:Nat),(1:Nat))]) 5) (a.2.parts 2)).dom I=u)->(∀(J:Nat),(SB.told (Cv 6 3) (fun(K:Nat)=>bif K.beq 6 then(3:Nat)else K) (x.P.lists 3)).dom J=C->(SB.told (Cv 6 3) (fun(L:Nat)=>bif L.beq 6 then(3:Nat)else L) (SB.aM (pF 1 (su 0 (((1:Nat),qJ u x.l x.c C)::tH x.nb x.cb x.f x.P 2) (qJ u d.1 d.2 C) (qJ u x.l x.c C) [((0:Nat),(1:Nat))]) 5) (a.2.lists 1))).dom J=u)->∃(h:kY),(h.nb<=h.cb/\kZ h.P (m+1+(1:Nat)) h.nb h.f (x.B++nC (m+1) x.l))/\eY (a.2.dm a.1)=jl (m+1) x.l/\(x.nb+1=h.nb/\o=h.cb)/\aa (SB.rows C (x.nb+1) [av.ref (bif(bif R 3 6 then(3:Nat)else(3:Nat)).beq 7 then(4:Nat)else bif R 3 6 then(3:Nat)else(3:Nat)) fun(p:Nat)=>if p<x.nb then x.f p else Yf [a.1] (p-x.nb)] u (o*1) 106) (SB.rows C h.nb [av.ref 3 h.f] u (h.cb*1) 106)/\aa (SB.eD (fun(M:Nat)=>x.P.D M||a.2.D M) [av.str λq=>bif x.P.D q then x.P.dm q else a.2.dm q,av.b7 (bif(bif R 4 6 then(3:Nat)else(4:Nat)).beq 7 then(4:Nat)else bif R 4 6 then(3:Nat)else(4:Nat)) 1 C (fun(r:Nat)=>bif x.P.D r then x.P.fb r else a.2.fb r) (fun(t:Nat)=>bif x.P.D t then x.P.nb t else a.2.nb t) fun(v:Nat)=>bif x.P.D v then x.P.cb v else a.2.cb v] 2 165 u) (h.P.parts 4)/\aa (SB.dQ (fun(N:Nat)=>x.P.D2 N||a.2.D2 N) (fun(w:Nat)=>bif x.P.D2 w then x.P.n2 w else a.2.n2 w) [cg.gx (fun(O:Nat)=>bif O.beq 7 then(4:Nat)else O) (cg.ref (bif R 3 6 then(3:Nat)else(3:Nat)) fun(b i:Nat)=>bif x.P.D2 b then x.P.g b i else a.2.g b i)] u) (h.P.lists 3)) (a.2.D a.1=C/\(0+x.nb<=x.nb/\(0<a.2.nb a.1->a.2.D2 (a.2.fb a.1)=C/\0+a.2.nb a.1<=a.2.n2 (a.2.fb a.1))/\2*(x.nb+a.2.nb a.1)*8<=(281474976710656:Nat)/\x.nb+a.2.nb a.1<9223372036854775808)/\∀(y:Nat),x.nb+a.2.nb a.1<=y->(∀(Q:Nat),(x.P.parts 4).dom Q=C->(SB.aM (pF 1 (su 0 (((1:Nat),qJ u x.l x.c C)::tH x.nb x.cb x.f x.P 2) (qJ u d.1 d.2 C) (qJ u x.l x.c C) [((0:Nat),(1:Nat))]) 5) (a.2.parts 2)).dom Q=u)->(∀(S:Nat),(SB.told (Cv 6 3) (fun(T:Nat)=>bif T.beq 6 then(3:Nat)else T) (x.P.lists 3)).dom S=C->(SB.told (Cv 6 3) (fun(U:Nat)=>bif U.beq 6 then(3:Nat)else U) (SB.aM (pF 1 (su 0 (((1:Nat),qJ u x.l x.c C)::tH x.nb x.cb x.f x.P 2) (qJ u d.1 d.2 C) (qJ u x.l x.c C) [((0:Nat),(1:Nat))]) 5) (a.2.lists 1))).dom S=u)->∃(j:kY),(j.nb<=j.cb/\kZ j.P (m+1+(1:Nat)) j.nb j.f (x.B++nC (m+1) x.l))/\eY (a.2.dm a.1)=jl (m+1) x.l/\(x.nb+a.2.nb a.1=j.nb/\y=j.cb)/\aa (SB.rows C (x.nb+a.2.nb a.1) [av.ref (bif(bif R 3 6 then(3:Nat)else(3:Nat)).beq 7 then(4:Nat)else bif R 3 6 then(3:Nat)else(3:Nat)) fun(z:Nat)=>if z<x.nb then x.f z else a.2.g (a.2.fb a.1) (z-x.nb)] u (y*1) 106) (SB.rows C j.nb [av.ref 3 j.f] u (j.cb*1) 106)/\aa (SB.eD (fun(V:Nat)=>x.P.D V||a.2.D V) [av.str λA=>bif x.P.D A then x.P.dm A else a.2.dm A,av.b7 (bif(bif R 4 6 then(3:Nat)else(4:Nat)).beq 7 then(4:Nat)else bif R 4 6 then(3:Nat)else(4:Nat)) 1 C (fun(E:Nat)=>bif x.P.D E then x.P.fb E else a.2.fb E) (fun(F:Nat)=>bif x.P.D F then x.P.nb F else a.2.nb F) fun(G:Nat)=>bif x.P.D G then x.P.cb G else a.2.cb G] 2 165 u) (j.P.parts 4)/\aa (SB.dQ (fun(W:Nat)=>x.P.D2 W||a.2.D2 W) (fun(H:Nat)=>bif x.P.D2 H then x.P.n2 H else a.2.n2 H) [cg.gx (fun(X:Nat)=>bif X.beq 7 then(4:Nat)else X) (cg.ref (bif R 3 6 then(3:Nat)else(3:Nat)) fun(b i:Nat)=>bif x.P.D2 b then x.P.g b i else a.2.g b i)] u) (j.P.lists 3))))):=⟨by kernel_rfl,by kernel_rfl⟩
def Pd.or (P Q:Pd):Pd :=
 {D:=λb=>P.D b||Q.D b,dm:=λb=>bif P.D b then P.dm b else Q.dm b,fb:=λb=>bif P.D b then P.fb b else Q.fb b,nb:=λb=>bif P.D b then P.nb b else Q.nb b,cb:=λb=>bif P.D b then P.cb b else Q.cb b,
  D2:=λb=>P.D2 b||Q.D2 b,n2:=λb=>bif P.D2 b then P.n2 b else Q.n2 b,g:=λb i=>bif P.D2 b then P.g b i else Q.g b i}
theorem zU {P Q:Pd}: ∀ {d a:Nat} {L:List f_},Told P d a L->Told (P.or Q) d a L
 | 0,_,_,h=>h.elim
 | d+1,a,L,⟨h1,Ks,h2,h3,h4,h5⟩=>by
   have e2:(P.or Q).nb a=P.nb a:=by show(bif P.D a then _ else _)=_;rw[h1];rfl
   have e3:(P.or Q).fb a=P.fb a:=by show(bif P.D a then _ else _)=_;rw[h1];rfl
   have e4:(P.or Q).dm a=P.dm a:=by show(bif P.D a then _ else _)=_;rw[h1];rfl
   refine⟨by show(P.D a||Q.D a)=C;rw[h1];rfl,Ks,e2.trans h2,λh=> ?_,by rw[e4];exact h4,λi L' hi=> ?_⟩
   ·obtain⟨g1,g2⟩:=h3 h;rw[e3];refine⟨by show(P.D2 _||Q.D2 _)=C;rw[g1];rfl,?_⟩;show _<=(bif P.D2 _ then _ else _)
    rw[g1];exact g2
   ·have hk:0<Ks.length:=ek (M _) (d_.1 hi).1;have:(P.or Q).g ((P.or Q).fb a) i=P.g (P.fb a) i:=by rw[e3];show(bif P.D2 _ then _ else _)=_;rw[(h3 hk).1];rfl
    rw[this];exact zU (h5 i L' hi)
theorem D4 {P Q:Pd}(hd: ∀ b,P.D b=C->Q.D b=u)(hd2: ∀ b,P.D2 b=C->Q.D2 b=u): ∀ {d a:Nat} {L:List f_},Told Q d a L->Told (P.or Q) d a L
 | 0,_,_,h=>h.elim
 | d+1,a,L,⟨h1,Ks,h2,h3,h4,h5⟩=>by
   have hp:P.D a=false:=by
    cases h:P.D a with
    | false=>rfl
    | true=>rw[hd a h] at h1;cases h1
   have hp2: ∀ b,Q.D2 b=C->P.D2 b=false:=λb hb=>by
    cases h:P.D2 b with
    | false=>rfl
    | true=>rw[hd2 b h] at hb;cases hb
   have e2:(P.or Q).nb a=Q.nb a:=by show(bif P.D a then _ else _)=_;rw[hp];rfl
   have e3:(P.or Q).fb a=Q.fb a:=by show(bif P.D a then _ else _)=_;rw[hp];rfl
   have e4:(P.or Q).dm a=Q.dm a:=by show(bif P.D a then _ else _)=_;rw[hp];rfl
   refine⟨by show(P.D a||Q.D a)=C;rw[h1,c4],Ks,e2.trans h2,λh=> ?_,by rw[e4];exact h4,λi L' hi=> ?_⟩
   ·obtain⟨g1,g2⟩:=h3 h;rw[e3];refine⟨by show(P.D2 _||Q.D2 _)=C;rw[g1,c4],?_⟩;show _<=(bif P.D2 _ then _ else _)
    rw[hp2 _ g1];exact g2
   ·have hk:0<Ks.length:=ek (M _) (d_.1 hi).1;have:(P.or Q).g ((P.or Q).fb a) i=Q.g (Q.fb a) i:=by rw[e3];show(bif P.D2 _ then _ else _)=_;rw[hp2 _ (h3 hk).1];rfl
    rw[this];exact D4 hd hd2 (h5 i L' hi)
theorem Ro {P:Pd}: ∀ {d a:Nat} {L:List f_},Told P d a L->Told P (d+1) a L
 | 0,_,_,h=>h.elim
 | _+1,_,_,⟨h1,Ks,h2,h3,h4,h5⟩=>⟨h1,Ks,h2,h3,h4,λi L' hi=>Ro (h5 i L' hi)⟩
theorem Yz {P:Pd}: ∀ {d a:Nat} {L:List f_},Told P d a L->0<L.length
 | 0,_,_,h=>h.elim
 | _+1,_,_,⟨_,_,_,_,h4,_⟩=>by rw[h4];exact cy _
theorem Fj {α:Type}: ∀(Ks:List (List α)),(∀ L,L∈ Ks->0<L.length)->Ks.length<=Ks.flatten.length
 | [],_=>M _
 | L::Ks,h=>by have h1:=h L (List.mem_cons_self ..);have h2:=Fj Ks λx hx=>h x (List.mem_cons_of_mem _ hx);rw[Y,List.flatten_cons,aC];omega
theorem Ed {P:Pd}{f:Nat->Nat}{B:List f_}(h:kZ P d n f B):n<=B.length:=by obtain⟨Ks,h1,h2,h3⟩:=h;rw[h1,← h2];refine Fj Ks λL hL=> ?_;obtain⟨i,hi⟩:=List.getElem?_of_mem hL;exact Yz (h3 i L hi)
theorem Mt {P Q:Pd}{f f':Nat->Nat}{B B':List f_}(hd: ∀ b,P.D b=C->Q.D b=u)(hd2: ∀ b,P.D2 b=C->Q.D2 b=u)(h:kZ P d n f B)(h':kZ Q d n' f' B') :
  kZ (P.or Q) d (n+n') (λj=>if j<n then f j else f' (j-n)) (B++B'):=by
 obtain⟨Ks,h1,h2,h3⟩:=h;obtain⟨Ks',k1,k2,k3⟩:=h';refine⟨Ks++Ks',by rw[aC,h1,k1],by rw[List.flatten_append,h2,k2],λi L' hi=> ?_⟩;by_cases hlt:i<n
 ·rw[List.getElem?_append_left (by omega)] at hi;show Told _ d (if i<n then f i else _) L'
  rw[r_ hlt];exact zU (h3 i L' hi)
 ·rw[List.getElem?_append_right (by omega)] at hi;show Told _ d (if i<n then f i else f' (i-n)) L'
  rw[s_ hlt];rw[← h1] at hi;exact D4 hd hd2 (k3 _ L' hi)
theorem Pn {P:Pd}{a:Nat}{L:List f_}(h:Told P (d+1) a L):kZ P (d+1) (P.nb a) (λi=>P.g (P.fb a) i) L.tail/\(0<P.nb a->P.D2 (P.fb a)=C/\P.nb a<=P.n2 (P.fb a))/\L=P.dm a::L.tail/\P.D a=true:=by obtain⟨h1,Ks,h2,h3,h4,h5⟩:=h;exact⟨⟨Ks,h2,by rw[h4];rfl,λi L' hi=>Ro (h5 i L' hi)⟩,λh=>by rw[h2] at h ⊢;exact h3 h,by rw[h4];rfl,h1⟩
theorem Zg {P:Pd}{a:Nat}{L:List f_}(h:Told P d a L):kZ P d 1 (λi=>Yf [a] i) L:=⟨[L],rfl,by simp,λi L' hi=>by
 match i,hi with
 | 0,hi=>cases hi;exact h
 | i+1,hi=>simp at hi⟩
theorem LC {s:f_}(h:s.length<=700):(eY s).length<=700:=by
 by_cases hl:s.length<32
 ·rw[iC hl];exact h
 ·rw[(iN hl).2.2];omega
theorem p6 (hm:m<=13)(h:cc m l)(hl:l≠[]):(ctext m l).length<=700:=(IF (dw hm h hl)).2
end
end Go.Proofs.YtoibaecagklkaaaGreatDoor
