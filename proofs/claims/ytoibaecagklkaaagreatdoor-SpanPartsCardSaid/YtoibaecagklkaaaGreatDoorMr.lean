/-
  Rlp: what all frames need: loops over elements, rows that grow, lengths.
-/
import Derived.Test.YtoibaecagklkaaaGreatDoorMo
import Derived.Test.YtoibaecagklkaaaGreatDoorMl
import Derived.Test.YtoibaecagklkaaaGreatDoorMq
import Derived.Test.YtoibaecagklkaaaGreatDoorMp
open Bool renaming and_false->Z,false->C,or_false->an,true->d
open Decidable renaming decide->H
open Go.IntKind renaming i64->I
open Go.Proofs.Tryz renaming f14->Q,f51->R,f80->T,prog->K
open Int renaming le_refl->V,toNat_natCast->P
open List renaming all_eq_false->aK,getElem?_map->a_,mem_range->W,range->O
open Nat renaming beq_refl->a!,le_refl->M,not_lt_zero->X,zero_add->Y,zero_le->L
open Option renaming none->F,some->J
namespace Go.Proofs.YtoibaecagklkaaaGreatDoor
open Go Sx
set_option maxRecDepth 20000
def numOf (n:Int):List UInt8:=aA (digits n)
structure qn (n:Nat)(t:Nat->Bool)(i:Nat):Prop where
 le:i<=n
 all: ∀ j,j<i->t j=d
noncomputable def zN (tmp:Nat)(n:Nat)(t:Nat->Bool):aV :={α:=Nat,pre:=λ_ i=>qn n t i,kT:=λ_ i=>n - i,fresh:=0,slots:=λ_ i=>[(tmp,.int .i64 C i)],mem:=λ_ _=>[]}
structure acv (n:Nat)(x:Nat×Nat):Prop where
 le:x.1<=n
 cap:x.1<=x.2
theorem wE {n i:Nat}{t:Nat->Bool}(h:qn n t i)(hi: ¬ (i:Int)<(n:Int)):(O n).all t=true:=by rw[List.all_eq_true];intro j hj;have:=W.1 hj;exact h.all j (by omega)
theorem sW {n i:Nat}{t:Nat->Bool}(hi:(i:Int)<(n:Int))(ht:t i=C):(O n).all t=false:=by rw[aK];exact⟨i,W.2 (by omega),by rw[ht];decide⟩
theorem sV {n i:Nat}{t:Nat->Bool}(h:qn n t i)(hi:(i:Int)<(n:Int))(ht:t i=d):qn n t (i+1):=⟨by omega,λj hj=>by
 by_cases e:j=i
 ·subst e;exact ht
 ·exact h.all j (by omega)⟩
theorem dM {l:Bool}{a b:Bool}(h:a=b):af (.bool l a) (.bool C b):=λE=>by subst h;rfl
theorem Sx.aa.empty {tot tot':Nat}{ty:TypeId}{ay:List aq}{z:Bool}(h:tot=tot'):aa (.cells [] tot ty) (.rows z 0 ay C tot' ty):=by subst h;refine aa.of rfl rfl λ_=> ?_;refine⟨rfl,λE o ⟨c,fr,h1,h2,_,h4⟩=>⟨c,fr,h1,λ_=>h2,by omega,h4,λi k col hi=>absurd hi (X _)⟩,λ_=>rfl⟩
structure Pp where
 k:Int
 root:List UInt8
 key:List UInt8
 to:List UInt8
 n:Nat
 f:Nat->List UInt8
def Pp.sv (x:Pp)(u:SV):SV:=.agg [.int .i64 C x.k,.str C x.root,.str C x.key,.str C x.to,u]
def Z8 (f:Nat->List UInt8)(i:Nat):Bool:=!decide ((1000:Int)<((f i).length:Int))
def WN (n:Nat)(f:Nat->List UInt8):Bool:=(O n).all (Z8 f)
def Pp.ok (x:Pp):Bool:=(H (x.k=0)&&H (x.to=[])||decide (x.k=1))&&H ((x.root.length:Int)=32)&& !decide ((6:Int)<(x.key.length:Int))&& !decide ((6:Int)<(x.to.length:Int)) &&
 !decide ((200:Int)<(x.n:Int))&&WN x.n x.f
def ach (f:Nat->List UInt8)(i:Nat):List UInt8:=aA (f i)
def Pp.rows (x:Pp):List (List UInt8):=iC (ach x.f) 0 x.n
def Pp.items (x:Pp):List (List UInt8):=[numOf x.k,aA x.root,aA x.key,aA x.to,eY x.rows]
def Pp.put (x:Pp):List UInt8:=eY x.items
def Pp.fits (x:Pp):Bool:=x.ok&& !decide ((65536:Int)<(x.put.length:Int))
def dP:List aq:=[.str λ_=>[]]
def dQ (n:Nat)(f:Nat->List UInt8)(n':Nat)(f':Nat->List UInt8):Bool:=H ((n:Int)=(n':Int))&&(O n).all λi=>decide (f i=f' i)
def iw (z:Bool)(o c n:Nat)(f:Nat->List UInt8)(key:Option Nat):Seen:=⟨key,z,o,n,c,[.str f]⟩
def UL:List tO:=[.of (.slice dP),.of (.slice dP)]
noncomputable def RT (n:Nat)(f f':Nat->List UInt8):fJ:={cm with cG:=λf=>aE f gd,bx:=λg=>if g=51 then [(4,always (zN 13 n λi=>decide (f i=f' i)))] else []}
theorem ZB (n:Nat)(f f':Nat->List UInt8):Sx.Good K (RT n f f'):=.of bR dU bl
theorem U9 (n n':Nat)(f f':Nat->List UInt8)(z z':Bool)(o o' c c':Nat)(key key':Option Nat):VC.holds (gD (RT n f f') 51 R [.bS 0 1 z o 0 n c,.bS 1 1 z' o' 0 n' c'] [iw z o c n f key,iw z' o' c' n' f' key'] (.ret (.bool C (dQ n f n' f'))))=((((!decide ((n:Int)=(n':Int)))=d->af (SV.bool d C) (SV.bool C (dQ n f n' f')))/\((!decide ((n:Int)=(n':Int)))=C->(∃(u5:Nat),qn n (fun(u4:Nat)=>decide (f u4=f' u4)) u5/\0=(u5:Int)/\aa (iw z o c n f key).B (iw z o c n f key).B/\aa (iw z' o' c' n' f' key').B (iw z' o' c' n' f' key').B/\True)/\∀(u3:Nat),qn n (fun(u2:Nat)=>decide (f u2=f' u2)) u3->(H ((u3:Int)<(n:Int))=d->(0<=(u3:Int)/\(u3:Int)<(n:Int))/\(o=o/\0+(u3:Int).toNat<n)/\(0<=(u3:Int)/\(u3:Int)<(n':Int))/\(o'=o'/\0+(u3:Int).toNat<n')/\((!decide (f (0+(u3:Int).toNat)=f' (0+(u3:Int).toNat)))=d->af (SV.bool d C) (SV.bool C (dQ n f n' f')))/\((!decide (f (0+(u3:Int).toNat)=f' (0+(u3:Int).toNat)))=C->I6 ((u3:Int)+1)/\∃(u1:Nat),(qn n (fun(u0:Nat)=>decide (f u0=f' u0)) u1/\n - u1<n - u3)/\(u3:Int)+1=(u1:Int)/\aa (iw z o c n f key).B (iw z o c n f key).B /\aa (iw z' o' c' n' f' key').B (iw z' o' c' n' f' key').B/\True))/\(H ((u3:Int)<(n:Int))=C->af (SV.bool d d) (SV.bool C (dQ n f n' f')))))):=by kernel_rfl
theorem Vy {p:Prop}[Decidable p](h:(!decide p)=C):p:=by
 cases hd:H p with
 | true=>exact of_decide_eq_true hd
 | false=>rw[hd] at h;cases h
theorem Q5 {p:Prop}[Decidable p](h:(!decide p)=d):H p=false:=by
 cases hd:H p with
 | true=>rw[hd] at h;cases h
 | false=>rfl
theorem Q6 {p:Prop}[Decidable p](h:(!decide p)=C):H p=true:=by
 cases hd:H p with
 | true=>rfl
 | false=>rw[hd] at h;cases h
theorem Fp {n n':Nat}{f f':Nat->List UInt8}(hn:n<9223372036854775808)(z z':Bool)(o o' c c':Nat)(key key':Option Nat):aB (gD (RT n f f') 51 R [.bS 0 1 z o 0 n c,.bS 1 1 z' o' 0 n' c'] [iw z o c n f key,iw z' o' c' n' f' key'] (.ret (.bool C (dQ n f n' f')))):=by
 refine aB.of_eq (U9 n n' f f' z z' o o' c c' key key') ?_;simp only[P,Y];refine⟨λh=>dM (by rw[dQ,Q5 h];rfl),λh=>⟨⟨0,⟨L _,λj hj=>absurd hj (X _)⟩,rfl,aa.refl _,aa.refl _,trivial⟩,λi hi=>⟨λa=> ?_,λa=> ?_⟩⟩⟩
 ·simp only[decide_eq_true_eq] at a;have e:(n:Int)=(n':Int):=Vy h;refine⟨by omega,⟨trivial,by omega⟩,by omega,⟨trivial,by omega⟩,λb=> ?_,λb=>⟨by omega,i+1,⟨sV hi a (Q6 b),by omega⟩,by omega,aa.refl _,aa.refl _,trivial⟩⟩;exact dM (by rw[dQ,sW a (Q5 b),Z])
 ·simp only[decide_eq_false_iff_not] at a;exact dM (by rw[dQ,wE hi a,Q6 h];rfl)
def jW (vs:List SV)(l:List Seen):Option (Prop×cL):=match vs,l with
 | [_,_],[⟨_,_,_,n,_,[.str f]⟩,⟨_,_,_,n',_,[.str f']⟩]=>J (n<9223372036854775808,.ret (.bool C (dQ n f n' f')))
 | _,_=>F
theorem OQ:az K 51 (bE UL jW):=by
 refine fT (n:=20) (fn:=R) Tryz.func51 (by kernel_rfl) (by kernel_rfl) ?_;intro vs l q a h hq;unfold jW at h;split at h
 ·rename_i v v' key z o n c f key' z' o' n' c' f';injection h with h;injection h with h1 h2;subst h1;subst h2;exact⟨_,ZB n f f',rfl,rfl,Fp hq z z' o o' c c' key key'⟩
 ·cases h
def aI (f:Nat->List UInt8):Nat->List UInt8->Bool
 | 0=>λ_=>C
 | i+1=>λh=>aI f i h||decide (h=aC (f i))
def cq (f:Nat->List UInt8):Nat->List UInt8->Int
 | 0=>λ_=>0
 | i+1=>λh=>bif aI f i h then cq f i h else(bif H (h=aC (f i))then(i:Int)else 0)
theorem gG (f:Nat->List UInt8): ∀(n:Nat) (h:List UInt8),aI f n h=d->0<=cq f n h/\cq f n h<n/\aC (f (cq f n h).toNat)=h
 | 0,h,e=>by cases e
 | n+1,h,e=>by
   unfold cq;cases hd:aI f n h with
   | true =>obtain⟨h1,h2,h3⟩:=gG f n h hd;exact⟨h1,by show cq f n h<_;omega,h3⟩
   | false =>
     have hs:H (h=aC (f n))=true:=by unfold aI at e;rw[hd,Bool.false_or] at e;exact e
     rw[hs];simp only[cond_true,cond_false,P];exact⟨by omega,by omega,(of_decide_eq_true hs).symm⟩
theorem xu (f:Nat->List UInt8): ∀(n j:Nat),j<n->aI f n (aC (f j))=d
 | 0,j,h=>absurd h (X _)
 | n+1,j,h=>by
   unfold aI;by_cases e:j=n
   ·subst e;simp
   ·rw[xu f n j (by omega)];rfl
theorem AV (f:Nat->List UInt8): ∀(n:Nat),cq f n (aC (f 0))=0
 | 0=>rfl
 | n+1=>by
   unfold cq;cases n with
   | zero=>simp[aI]
   | succ n=>rw[xu f (n+1) 0 (by omega),AV f (n+1)];rfl
theorem AU {f:Nat->List UInt8}{n:Nat}{root:List UInt8}:(aI f n root=d/\cq f n root=0)↔(0<n/\aC (f 0)=root):=by
 constructor
 ·rintro⟨h1,h2⟩;obtain⟨_,g2,g3⟩:=gG f n root h1;rw[h2] at g2 g3;exact⟨by omega,g3⟩
 ·rintro⟨h1,rfl⟩;exact⟨xu f n 0 h1,AV f n⟩
def j7 (a b:List UInt8):Bool:=Op.bytesLess a b||decide (a=b)
def Sp.full (w:Sp):Sp:={w with ad:=aI w.f w.n,ag:=cq w.f w.n}
def Wk.start:Wk:=⟨λ_=>C,λ_=>0,[],0,[]⟩
def kZ (root:List UInt8)(w:Sp):Option Wk:=bif bD w root then kg w 401 (Wk.start.take w root) (getD (w.at root)) [] else F
def cU (root:List UInt8)(w:Sp):Option (List (List UInt8×List UInt8)) :=
 bif j7 w.fr w.to&&(H (0<w.n)&&(H (w.n<=200)&&H (aC (w.f 0)=root)))then(match kZ root w.full with
  | some s=>bif dQ s.ns.length (λi=>s.ns.getD i []) w.n w.f then J s.fs else F
  | none=>F)else F
def Ai (root:List UInt8)(w:Sp):List (List UInt8×List UInt8):=match cU root w with
 | some l=>l
 | none=>[]
def pS (root:List UInt8)(w:Sp):cL:=.fork (cU root w).isSome λb=>match b with
 | true=>.all Nat λc=>.req ((Ai root w).length<=c) (.new (λk=>.aN [.aZ k 2 d 0 (Ai root w).length c,.int .i64 d 0]) (.rows d (Ai root w).length [bK (Ai root w),bL (Ai root w)] C (c*2) 50))
 | false=>.ret (.aN [.aM,.int .i64 d 10])
def Yd (st:Sx.St)(i:Nat):Nat:=match st.m.get (I9 st i)with
 | some (.cells [.map k] _ _)=>k
 | _=>0
def Rf (w:Sp):aV :={α:=Nat,pre:=λ_ i=>i<=w.n,kT:=λ_ i=>w.n - i,fresh:=0,slots:=λ_ i=>[(37,.int .i64 C i)],mem:=λst i=>[(Yd st 8,.fmap (aI w.f i) (.int .i64 (cq w.f i)) F)]}
noncomputable def TA:List (FuncId×PT):=(51,bE UL jW)::FX 401
noncomputable def RV (w:Sp):fJ:={cm with cG:=λf=>aE f TA,bx:=λf=>if f=14 then [(5,always (Rf w))] else []}
theorem Po:bn K (λf=>aE f TA):=.cons OQ (bQ _ _) (Pn 401)
theorem ZE (w:Sp):Sx.Good K (RV w):=.of bR Po bl
def pQ (w:Sp)(kk:Option Nat):Seen:=⟨kk,w.z,w.o,w.n,w.c,[.str w.f]⟩
structure It where
 D:Nat->Bool
 cS:Nat->List UInt8
 fb:Nat->Nat
 nb:Nat->Nat
 cb:Nat->Nat
 us:Nat->Int
 hd:Nat->Int
 D2:Nat->Bool
 n2:Nat->Nat
 rf:Nat->Nat->List UInt8
def It.items (A:It)(kR:Nat):SB:=.dR A.D [.str A.cS,.bU kR 1 d A.fb A.nb A.cb,.int .i64 A.us,.int .i64 A.hd] 4 133 C
def It.lists (A:It):SB:=.dD A.D2 A.n2 [.str A.rf] C
def fW (t:List UInt8):Nat:=aS (getD t).r 16
def eK (t:List UInt8)(j:Nat):List UInt8:=cK (getD t).r 16 j
structure jC (f:Nat->List UInt8)(i:Nat)(A:It)(g:List UInt8->Nat):Prop where
 dom: ∀ h,aI f i h=d->A.D (g h)=d
 cS: ∀ h,aI f i h=d->A.cS (g h)=f (cq f i h).toNat
 nb: ∀ h,aI f i h=d->A.nb (g h)=fW (A.cS (g h))
 row: ∀ h,aI f i h=d->0<A.nb (g h)->A.D2 (A.fb (g h))=d/\A.nb (g h)<=A.n2 (A.fb (g h))/\∀ j,j<A.nb (g h)->A.rf (A.fb (g h)) j=eK (A.cS (g h)) j
 us: ∀ a,A.D a=d->A.us a=0/\A.hd a=0
def mV (n:Nat)(f:Nat->List UInt8):Bool:=(O n).all λi=>bg (f i)
noncomputable def Ly:List (FuncId×PT):=(128,cH (sE λx=>J (Fits x,zX x)))::fP
theorem D1:bn K (λf=>aE f Ly):=.cons OZ (b9 _) cO
structure RdG where
 n:Nat
 f:Nat->List UInt8
 c:Nat
structure MQ where
 A:It
 g:List UInt8->Nat
def Y6 (n:Nat)(f:Nat->List UInt8)(y:MQ)(k:Nat):Mem:=[(k,.fmap (aI f n) (.ref (k+1) y.g) F),(k+1,y.A.items (k+2)),(k+2,y.A.lists)]
def Ez:gE :=
 {G:=RdG,n:=1,N:=4,pre:=λx=>x.n<=1000/\∀ i,i<x.n->(x.f i).length<=1000,args:=λx=>[.aZ 0 1 d 0 x.n x.c],mem:=λx=>[(0,.rows d x.n [.str x.f] d (x.c*1) 9)],
  wP:=λx=>.fork (H (0<x.n)&&mV x.n x.f) λb=>match b with
   | true=>.all MQ λy=>.req (jC x.f x.n y.A y.g) (.ret (.aN [.map 1,.int .i64 d 0]) (Y6 x.n x.f y 1))
   | false=>.ret (.aN [.fB,.int .i64 d 2]) []}
def abu (st:Sx.St)(i:Nat):Nat:=match slot st.tmps i with
 | some (.map k)=>k
 | _=>0
noncomputable def VU (n:Nat)(f:Nat->List UInt8):aV :=
 {α:=Nat×MQ,pre:=λ_ y=>cT n (λi=>bg (f i)) y.1/\jC f y.1 y.2.A y.2.g,kT:=λ_ y=>n - y.1,fresh:=2,slots:=λ_ y=>[(16,.int .i64 C y.1)],
  mem:=λst y=>[(abu st 4,.fmap (aI f y.1) (.ref st.nx y.2.g) F),(st.nx,y.2.A.items (st.nx+1)),(st.nx+1,y.2.A.lists)]}
noncomputable def RU (x:RdG):fJ:={cm with cG:=λf=>aE f Ly,bx:=λh=>if h=80 then [(5,always (VU x.n x.f))] else []}
theorem ZD (x:RdG):Sx.Good K (RU x):=.of bR D1 bl
theorem XD (x:RdG):cZ (.s 0 (.n (.s 0 (.n .k (.n .k .t))) (.n (.s 2 (.n (.s 0 (.n (.s 1 (.n .k (.n .k (.n .k (.n .k .t))))) (.s 0 (.n (.s 1 (.n .k (.n .k (.n .k (.n .k .t))))) (.s 1 (.n .k (.n .k (.n .k (.n .k .t))))))))) .t)) (.n (.s 1 .k) .t)))) (runM (RU x) 80 T Ez x) ((λP0:(Nat×MQ)->Nd=>(((H ((x.n:Int)=0)=d->(H (0<x.n)&&mV x.n x.f)=d->∃(u37:MQ),jC x.f x.n u37.A u37.g/\False)/\(H ((x.n:Int)=0)=C->(∃(u36:Nat×MQ),(cT x.n (fun(u35:Nat)=>bg (x.f u35)) u36.1/\jC x.f u36.1 u36.2.A u36.2.g)/\0=(u36.1:Int)/\aa (SB.map [] 0) (SB.fmap (aI x.f u36.1) (aD.ref 2 u36.2.g) F)/\(∀(u34:Nat),¬SB.fR 0 (u36.2.A.items 3) u34)/\∀(u33:Nat),¬SB.fR 0 u36.2.A.lists u33)/\∀(u32:Nat×MQ),cT x.n (fun(u31:Nat)=>bg (x.f u31)) u32.1/\jC x.f u32.1 u32.2.A u32.2.g->(H ((u32.1:Int)<(x.n:Int))=d->(0<=(u32.1:Int)/\(u32.1:Int)<(x.n:Int))/\0+(u32.1:Int).toNat<x.n/\((x.f (0+(u32.1:Int).toNat)).length<=9223372036854775808/\(x.f (0+(u32.1:Int).toNat)).length<1099511627776)/\(bg (x.f (0+(u32.1:Int).toNat))=d->(True/\BT [x.f (0+(u32.1:Int).toNat)])/\(aI x.f u32.1 (aC (flat [x.f (0+(u32.1:Int).toNat)]))=d->I6 ((u32.1:Int)+1) /\∃(u30:Nat×MQ),((cT x.n (fun(u29:Nat)=>bg (x.f u29)) u30.1/\jC x.f u30.1 u30.2.A u30.2.g)/\x.n - u30.1<x.n - u32.1)/\(u32.1:Int)+1=(u30.1:Int)/\aa (SB.fmap (aI x.f u32.1) (aD.ref 2 u32.2.g) F) (SB.fmap (aI x.f u30.1) (aD.ref 2 u30.2.g) F)/\aa (SB.dR u32.2.A.D [aq.str u32.2.A.cS,aq.bU 3 1 d u32.2.A.fb u32.2.A.nb u32.2.A.cb,aq.int I u32.2.A.us,aq.int I u32.2.A.hd] 4 133 C) (u30.2.A.items 3)/\aa (SB.dD u32.2.A.D2 u32.2.A.n2 [bW.str u32.2.A.rf] C) u30.2.A.lists)/\(aI x.f u32.1 (aC (flat [x.f (0+(u32.1:Int).toNat)]))=C->Fits (P0 u32).again/\(aU (P0 u32).again=d->∀(u28:Nat),aS (P0 u32).again.r 16<=u28->∀(u27:Nat),(∀(u26:Nat),u32.2.A.D2 u26=d->(u26.beq u27&& !(d&&(aS (P0 u32).again.r 16).beq 0))=C)->∀(u25:Nat),(∀(u24:Nat),u32.2.A.D u24=d->u24.beq u25=C)->I6 ((u32.1:Int)+1)/\∃(u23:Nat×MQ),((cT x.n (fun(u22:Nat)=>bg (x.f u22)) u23.1 /\jC x.f u23.1 u23.2.A u23.2.g)/\x.n - u23.1<x.n - u32.1)/\(u32.1:Int)+1=(u23.1:Int)/\aa (SB.fmap (dA (aI x.f u32.1) (aC (flat [x.f (0+(u32.1:Int).toNat)]))) (aD.ref (bif(id (bif(id 2).beq 6 then(3:Nat)else id 2)).beq 7 then(2:Nat)else id (bif(id 2).beq 6 then(3:Nat)else id 2)) (v8 u32.2.g (aC (flat [x.f (0+(u32.1:Int).toNat)])) u25)) F) (SB.fmap (aI x.f u23.1) (aD.ref 2 u23.2.g) F) /\aa (SB.dR (fun(u21:Nat)=>u32.2.A.D u21||u21.beq u25) [aq.str λu20=>bif u32.2.A.D u20 then u32.2.A.cS u20 else x.f (0+(u32.1:Int).toNat),aq.bU (bif(id (bif(id 3).beq 6 then(3:Nat)else id 3)).beq 7 then(2:Nat)else id (bif(id 3).beq 6 then(3:Nat)else id 3)) 1 d (fun(u19:Nat)=>bif u32.2.A.D u19 then u32.2.A.fb u19 else u27) (fun(u18:Nat)=>bif u32.2.A.D u18 then u32.2.A.nb u18 else aS (P0 u32).again.r 16) fun(u17:Nat)=>bif u32.2.A.D u17 then u32.2.A.cb u17 else u28,aq.int I fun(u16:Nat)=>bif u32.2.A.D u16 then u32.2.A.us u16 else(0:Int),aq.int I fun(u15:Nat)=>bif u32.2.A.D u15 then u32.2.A.hd u15 else(0:Int)] 4 133 C) (u23.2.A.items 3)/\aa (SB.dD (fun(u14:Nat)=>u32.2.A.D2 u14||u14.beq u27&& !(d&&(aS (P0 u32).again.r 16).beq 0)) (fun(u13:Nat)=>bif u32.2.A.D2 u13 then u32.2.A.n2 u13 else aS (P0 u32).again.r 16) [bW.str fun(b i:Nat)=>bif u32.2.A.D2 b then u32.2.A.rf b i else cK (P0 u32).again.r 16 i] C) u23.2.A.lists)/\(aU (P0 u32).again=C ->∀(u12:Nat),(∀(u11:Nat),u32.2.A.D u11=d->u11.beq u12=C)->I6 ((u32.1:Int)+1)/\∃(u10:Nat×MQ),((cT x.n (fun(u9:Nat)=>bg (x.f u9)) u10.1/\jC x.f u10.1 u10.2.A u10.2.g)/\x.n - u10.1<x.n - u32.1)/\(u32.1:Int)+1=(u10.1:Int)/\aa (SB.fmap (dA (aI x.f u32.1) (aC (flat [x.f (0+(u32.1:Int).toNat)]))) (aD.ref (bif(id 2).beq 6 then(2:Nat)else id 2) (v8 u32.2.g (aC (flat [x.f (0+(u32.1:Int).toNat)])) u12)) F) (SB.fmap (aI x.f u10.1) (aD.ref 2 u10.2.g) F) /\aa (SB.dR (fun(u8:Nat)=>u32.2.A.D u8||u8.beq u12) [aq.str λu7=>bif u32.2.A.D u7 then u32.2.A.cS u7 else x.f (0+(u32.1:Int).toNat),aq.bU (bif(id 3).beq 6 then(2:Nat)else id 3) 1 d (fun(u6:Nat)=>bif u32.2.A.D u6 then u32.2.A.fb u6 else(0:Nat)) (fun(u5:Nat)=>bif u32.2.A.D u5 then u32.2.A.nb u5 else(0:Nat)) fun(u4:Nat)=>bif u32.2.A.D u4 then u32.2.A.cb u4 else(0:Nat),aq.int I fun(u3:Nat)=>bif u32.2.A.D u3 then u32.2.A.us u3 else(0:Int),aq.int I fun(u2:Nat)=>bif u32.2.A.D u2 then u32.2.A.hd u2 else(0:Int)] 4 133 C) (u10.2.A.items 3)/\aa (SB.dD u32.2.A.D2 u32.2.A.n2 [bW.str u32.2.A.rf] C) u10.2.A.lists)))/\(bg (x.f (0+(u32.1:Int).toNat))=C->(H (0<x.n)&&mV x.n x.f)=d->∃(u1:MQ),jC x.f x.n u1.A u1.g/\False))/\(H ((u32.1:Int)<(x.n:Int))=C->((H (0<x.n)&&mV x.n x.f)=d->∃(u0:MQ),jC x.f x.n u0.A u0.g/\aa (SB.fmap (aI x.f u32.1) (aD.ref 2 u32.2.g) F) (SB.fmap (aI x.f x.n) (aD.ref 2 u0.g) F) /\aa (SB.dR u32.2.A.D [aq.str u32.2.A.cS,aq.bU 3 1 d u32.2.A.fb u32.2.A.nb u32.2.A.cb,aq.int I u32.2.A.us,aq.int I u32.2.A.hd] 4 133 C) (u0.A.items 3)/\aa (SB.dD u32.2.A.D2 u32.2.A.n2 [bW.str u32.2.A.rf] C) u0.A.lists)/\((H (0<x.n)&&mV x.n x.f)=C->False)))))) (fun(u32:Nat×MQ)=>(getD (x.f (0+(u32.1:Int).toNat))))):=⟨by kernel_rfl,by kernel_rfl⟩
theorem MM (root:List UInt8)(w:Sp)(kk:Option Nat):VC.holds (gD (RV w) 14 Q [.str C root,.agg [.str C w.fr,.str C w.to],.bS 0 1 w.z w.o 0 w.n w.c] [pQ w kk] (pS root w))=((λP0:SV=>((λP1:(yN×List UInt8)->Nd=>((λP2:SB=>((((!(Op.bytesLess w.fr w.to||decide (w.fr=w.to)))=d->((cU root w).isSome=d->∃(u25:Nat),(Ai root w).length<=u25/\False)/\((cU root w).isSome=C->af P0 P0))/\((!(Op.bytesLess w.fr w.to||decide (w.fr=w.to)))=C->(H ((w.n:Int)=0)=d->((cU root w).isSome=d->∃(u24:Nat),(Ai root w).length<=u24/\False)/\((cU root w).isSome=C->af P0 P0))/\(H ((w.n:Int)=0)=C->(H (200<(w.n:Int))=d->((cU root w).isSome=d->∃(u23:Nat),(Ai root w).length<=u23/\False)/\((cU root w).isSome=C->af P0 P0))/\(H (200<(w.n:Int))=C->(∃(u22:Nat),u22<=w.n/\0=(u22:Int)/\aa (SB.map [] 0) (SB.fmap (aI w.f u22) (aD.int I (cq w.f u22)) F)/\aa (SB.cells [SV.map 3] 1 90) (SB.cells [SV.map 3] 1 90)/\aa (SB.cells (SV.bS 0 1 w.z w.o 0 w.n w.c).cells 1 29) (SB.cells (SV.bS 0 1 w.z w.o 0 w.n w.c).cells 1 29)/\aa P2 P2/\aa (pQ w kk).B (pQ w kk).B/\True)/\∀(u21:Nat),u21<=w.n->(H ((u21:Int)<(w.n:Int))=d->(0<=(u21:Int)/\(u21:Int)<(w.n:Int))/\(w.o=w.o /\0+(u21:Int).toNat<w.n)/\(True/\BT [w.f (0+(u21:Int).toNat)])/\((!aI w.f u21 (aC (flat [w.f (0+(u21:Int).toNat)])))=d->I6 ((u21:Int)+1)/\∃(u20:Nat),(u20<=w.n/\w.n - u20<w.n - u21)/\(u21:Int)+1=(u20:Int)/\aa (SB.fmap (dA (aI w.f u21) (aC (flat [w.f (0+(u21:Int).toNat)]))) (aD.int I (fE (cq w.f u21) (aC (flat [w.f (0+(u21:Int).toNat)])) (u21:Int))) F) (SB.fmap (aI w.f u20) (aD.int I (cq w.f u20)) F)/\aa (SB.cells [SV.map 3] 1 90) (SB.cells [SV.map 3] 1 90)/\aa (SB.cells (SV.bS 0 1 w.z w.o 0 w.n w.c).cells 1 29) (SB.cells (SV.bS 0 1 w.z w.o 0 w.n w.c).cells 1 29)/\aa P2 P2/\aa (pQ w kk).B (pQ w kk).B/\True)/\((!aI w.f u21 (aC (flat [w.f (0+(u21:Int).toNat)])))=C->I6 ((u21:Int)+1)/\∃(u19:Nat),(u19<=w.n/\w.n - u19<w.n - u21)/\(u21:Int)+1=(u19:Int) /\aa (SB.fmap (aI w.f u21) (aD.int I (cq w.f u21)) F) (SB.fmap (aI w.f u19) (aD.int I (cq w.f u19)) F)/\aa (SB.cells [SV.map 3] 1 90) (SB.cells [SV.map 3] 1 90)/\aa (SB.cells (SV.bS 0 1 w.z w.o 0 w.n w.c).cells 1 29) (SB.cells (SV.bS 0 1 w.z w.o 0 w.n w.c).cells 1 29)/\aa P2 P2/\aa (pQ w kk).B (pQ w kk).B/\True))/\(H ((u21:Int)<(w.n:Int))=C->((!aI w.f u21 root)=d->((cU root w).isSome=d->∃(u18:Nat),(Ai root w).length<=u18/\False)/\((cU root w).isSome=C->af P0 P0))/\((!aI w.f u21 root)=C->((!decide (dflt (aI w.f u21 root) (cq w.f u21 root)=0))=d->((cU root w).isSome=d->∃(u17:Nat),(Ai root w).length<=u17/\False)/\((cU root w).isSome=C->af P0 P0))/\((!decide (dflt (aI w.f u21 root) (cq w.f u21 root)=0))=C->∃(u16:yN×List UInt8),(u16.1.w.Ok/\u16.1.s.Small/\(u16.1.s.ns.length<=u16.1.c1/\u16.1.s.fs.length<=u16.1.c2)/\True)/\(0:Nat)=(0:Nat)/\root=u16.2/\(7:Nat)=(7:Nat)/\w.fr=u16.1.w.fr/\w.to=u16.1.w.to/\(0:Nat)=(0:Nat) /\(0:Nat)=(0:Nat)/\u16.1.s.ns.length=0/\0=(u16.1.s.lk:Int)/\u16.1.s.fs.length=0/\aa (SB.map [] 0) (eH u16.1.s)/\(dL u16.1.s u16.1.c1).no=d/\(dm u16.1.s u16.1.c2).no=d/\(1:Nat)=(1:Nat)/\aa (SB.fmap (aI w.f u21) (aD.int I (cq w.f u21)) F) (SB.fmap u16.1.w.ad (aD.int I u16.1.w.ag) F)/\(1:Nat)=(1:Nat)/\(w.z=u16.1.w.z/\w.o=u16.1.w.o/\(0:Nat)=(0:Nat)/\w.n=u16.1.w.n/\w.c=u16.1.w.c)/\aa (SB.view w.z w.o w.n [aq.str w.f]) (SB.view u16.1.w.z u16.1.w.o u16.1.w.n [aq.str u16.1.w.f])/\(bD u16.1.w u16.2=d->∀(u15:Nat×Nat),(if u16.1.s.used u16.2=0 then u16.1.s.ns++[u16.1.w.at u16.2] else u16.1.s.ns).length<=u15.1/\u16.1.s.fs.length<=u15.2->∃(u14:yN×Nd×List UInt8),(u14.1.w.Ok/\u14.1.s.Small/\(u14.1.s.ns.length<=u14.1.c1/\u14.1.s.fs.length<=u14.1.c2)/\u14.1.s.Fit (u14.1.s.lk+1)/\401<=u14.1.s.lk+401/\u14.2.1.k5/\u14.2.2.length<=13*u14.1.s.lk)/\(0:Nat)=(0:Nat)/\(P1 u16).k=u14.2.1.k/\(P1 u16).p=u14.2.1.p /\(P1 u16).v=u14.2.1.v/\(P1 u16).r 0=u14.2.1.r 0/\(P1 u16).r 1=u14.2.1.r 1/\(P1 u16).r 2=u14.2.1.r 2/\(P1 u16).r 3=u14.2.1.r 3/\(P1 u16).r 4=u14.2.1.r 4/\(P1 u16).r 5=u14.2.1.r 5/\(P1 u16).r 6=u14.2.1.r 6/\(P1 u16).r 7=u14.2.1.r 7/\(P1 u16).r 8=u14.2.1.r 8/\(P1 u16).r 9=u14.2.1.r 9/\(P1 u16).r 10=u14.2.1.r 10/\(P1 u16).r 11=u14.2.1.r 11/\(P1 u16).r 12=u14.2.1.r 12/\(P1 u16).r 13=u14.2.1.r 13/\(P1 u16).r 14=u14.2.1.r 14/\(P1 u16).r 15=u14.2.1.r 15/\[]=u14.2.2/\(7:Nat)=(7:Nat)/\u16.1.w.fr=u14.1.w.fr/\u16.1.w.to=u14.1.w.to/\(0:Nat)=(0:Nat)/\(0:Nat)=(0:Nat)/\((0:Nat)=(0:Nat)/\(if u16.1.s.used u16.2=0 then u16.1.s.ns++[u16.1.w.at u16.2] else u16.1.s.ns).length=u14.1.s.ns.length/\u15.1=u14.1.c1)/\True/\(u16.1.s.lk:Int)=(u14.1.s.lk:Int)/\((0:Nat)=(0:Nat)/\u16.1.s.fs.length=u14.1.s.fs.length/\u15.2=u14.1.c2)/\True/\aa (SB.fmap (dA u16.1.s.ud u16.2) (aD.int I (fE u16.1.s.us u16.2 (u16.1.s.used u16.2+1))) F) (eH u14.1.s) /\aa (SB.rows d (if u16.1.s.used u16.2=0 then u16.1.s.ns++[u16.1.w.at u16.2] else u16.1.s.ns).length [aq.str λu13=>(if u16.1.s.used u16.2=0 then u16.1.s.ns++[u16.1.w.at u16.2] else u16.1.s.ns).getD u13 []] C (u15.1*1) 9) (dL u14.1.s u14.1.c1)/\aa (SB.rows d u16.1.s.fs.length [aq.str λu12=>(u16.1.s.fs.getD u12 ([],[])).1,aq.str λu11=>(u16.1.s.fs.getD u11 ([],[])).2] C (u15.2*2) 50) (dm u14.1.s u14.1.c2)/\(1:Nat)=(1:Nat)/\aa (SB.fmap u16.1.w.ad (aD.int I u16.1.w.ag) F) (SB.fmap u14.1.w.ad (aD.int I u14.1.w.ag) F)/\(1:Nat)=(1:Nat)/\(u16.1.w.z=u14.1.w.z/\u16.1.w.o=u14.1.w.o/\(0:Nat)=(0:Nat)/\u16.1.w.n=u14.1.w.n/\u16.1.w.c=u14.1.w.c)/\aa (SB.view w.z w.o w.n [aq.str w.f]) (SB.view u14.1.w.z u14.1.w.o u14.1.w.n [aq.str u14.1.w.f])/\(cY u14.1.w 401 u14.1.s u14.2.1 u14.2.2=d->∀(u10:Nat×Nat),(bp u14.1.w 401 u14.1.s u14.2.1 u14.2.2).ns.length<=u10.1 /\(bp u14.1.w 401 u14.1.s u14.2.1 u14.2.2).fs.length<=u10.2->(((d=d/\0+(bp u14.1.w 401 u14.1.s u14.2.1 u14.2.2).ns.length<=(bp u14.1.w 401 u14.1.s u14.2.1 u14.2.2).ns.length)/\(u14.1.w.z=w.z/\w.o=u14.1.w.o/\0+u14.1.w.n<=w.n)/\True)/\(bp u14.1.w 401 u14.1.s u14.2.1 u14.2.2).ns.length<9223372036854775808)/\((!dQ (bp u14.1.w 401 u14.1.s u14.2.1 u14.2.2).ns.length (fun(u9:Nat)=>(bp u14.1.w 401 u14.1.s u14.2.1 u14.2.2).ns.getD u9 []) u14.1.w.n w.f)=d->((cU root w).isSome=d->∃(u8:Nat),(Ai root w).length<=u8/\False)/\((cU root w).isSome=C->af P0 P0))/\((!dQ (bp u14.1.w 401 u14.1.s u14.2.1 u14.2.2).ns.length (fun(u7:Nat)=>(bp u14.1.w 401 u14.1.s u14.2.1 u14.2.2).ns.getD u7 []) u14.1.w.n w.f)=C->((cU root w).isSome=d->∃(u6:Nat),(Ai root w).length<=u6 /\aa (SB.rows d (bp u14.1.w 401 u14.1.s u14.2.1 u14.2.2).fs.length [aq.str λu5=>((bp u14.1.w 401 u14.1.s u14.2.1 u14.2.2).fs.getD u5 ([],[])).1,aq.str λu4=>((bp u14.1.w 401 u14.1.s u14.2.1 u14.2.2).fs.getD u4 ([],[])).2] C (u10.2*2) 50) (SB.rows d (Ai root w).length [bK (Ai root w),bL (Ai root w)] C (u6*2) 50)/\af (SV.aN [SV.aZ 29 2 d 0 (bp u14.1.w 401 u14.1.s u14.2.1 u14.2.2).fs.length u10.2,SV.int .i64 d 0]) (SV.aN [SV.aZ 29 2 d 0 (Ai root w).length u6,SV.int .i64 d 0]))/\((cU root w).isSome=C->af (SV.aN [SV.aZ 29 2 d 0 (bp u14.1.w 401 u14.1.s u14.2.1 u14.2.2).fs.length u10.2,SV.int .i64 d 0]) P0)))/\(cY u14.1.w 401 u14.1.s u14.2.1 u14.2.2=C->∀(_:List UInt8×List UInt8),((cU root w).isSome=d->∃(u2:Nat),(Ai root w).length<=u2/\False)/\((cU root w).isSome=C->af P0 P0)))/\(bD u16.1.w u16.2=C->∀(_:List UInt8×List UInt8),((cU root w).isSome=d->∃(u0:Nat),(Ai root w).length<=u0/\False) /\((cU root w).isSome=C->af P0 P0))))))))))) (SB.cells (SV.agg [SV.str C w.fr,SV.str C w.to]).cells 2 28))) (fun(u16:yN×List UInt8)=>(getD (u16.1.w.at u16.2))))) (SV.aN [SV.aM,SV.int .i64 d 10])):=by kernel_rfl
structure Sp.oB (w:Sp):Prop where
 f: ∀ i,i<w.n->(w.f i).length<=1000
 fr:w.fr.length<=1000
 to:w.to.length<=1000
theorem DB (f:Nat->List UInt8): ∀ {n:Nat} {h:List UInt8},aI f n h=C->cq f n h=0
 | 0,_,_=>rfl
 | n+1,h,e=>by unfold aI at e;simp only[Bool.or_eq_false_iff] at e;unfold cq;rw[e.1,e.2];rfl
theorem mN (f:Nat->List UInt8)(n:Nat)(t:List UInt8):cq f (n+1) t=bif aI f n t then cq f n t else(bif H (t=aC (f n))then(n:Int)else 0):=rfl
theorem DC {f:Nat->List UInt8}{n:Nat}(h:aI f n (aC (f n))=C):(∀ t,dA (aI f n) (aC (f n)) t=aI f (n+1) t)/\(∀ t,fE (cq f n) (aC (f n)) n t=cq f (n+1) t):=by
 refine⟨λt=>rfl,λt=> ?_⟩;rw[mN];unfold fE;by_cases e:t=aC (f n)
 ·subst e;rw[h];simp
 ·rw[decide_eq_false e];cases hd:aI f n t with
  | true=>rfl
  | false=>exact DB f hd
theorem rV {f:Nat->List UInt8}{n:Nat}(h:aI f n (aC (f n))=d):(∀ t,aI f n t=aI f (n+1) t)/\(∀ t,cq f n t=cq f (n+1) t):=by
 refine⟨λt=> ?_,λt=> ?_⟩
 ·show _=(aI f n t||decide (t=aC (f n)))
  by_cases e:t=aC (f n)
  ·subst e;rw[h];rfl
  ·rw[decide_eq_false e,an]
 ·rw[mN];cases hd:aI f n t with
  | true=>rfl
  | false =>
    by_cases e:t=aC (f n)
    ·subst e;rw[h] at hd;cases hd
    ·rw[decide_eq_false e];exact DB f hd
theorem EL (w:Sp)(t:List UInt8):(Wk.start.take w t).Fit 1:=Wk.Fit.take (k:=0) ⟨λ_=>⟨V _,V _⟩,M _,M _,L _⟩ w t
theorem abQ {b:Bool}(h:(!b)=d):b=false:=by cases b<;>simp_all
theorem abR {b:Bool}(h:(!b)=C):b=true:=by cases b<;>simp_all
section
attribute [local irreducible] aC bg getD aI cq hasB kC ak kg cY bp dQ
set_option maxHeartbeats 1000000 in
theorem JB {w:Sp}(hw:w.oB)(root:List UInt8)(kk:Option Nat) :
  aB (gD (RV w) 14 Q [.str C root,.agg [.str C w.fr,.str C w.to],.bS 0 1 w.z w.o 0 w.n w.c] [pQ w kk] (pS root w)):=by
 refine aB.of_eq (MM root w kk) ?_;dsimp only;have S: ∀ v:SV,af v v:=λ_ _=>rfl
 have eR:cU root w=bif j7 w.fr w.to&&(H (0<w.n)&&(H (w.n<=200)&&H (aC (w.f 0)=root)))then(match kZ root w.full with
  | some s=>bif dQ s.ns.length (λi=>s.ns.getD i []) w.n w.f then J s.fs else F
  | none=>F)else none:=rfl
 have bad:cU root w=F->∀ {A B:Prop},B->((cU root w).isSome=d->A)/\((cU root w).isSome=C->B):=λh A B b=>by rw[h];exact⟨(λh=>by cases h),λ_=>b⟩
 refine⟨λh=>bad (by rw[eR,show j7 w.fr w.to=C by simpa [j7] using h];rfl) (S _),λhle=>⟨λh0=>bad (by rw[eR,show H (0<w.n)=C from decide_eq_false (by have:=of_decide_eq_true h0;omega)];simp) (S _),λh0=>⟨λh2=>bad (by rw[eR,show H (w.n<=200)=C from decide_eq_false (by have:=of_decide_eq_true h2;omega)];simp) (S _),λh2=> ?_⟩⟩⟩
 have hle:j7 w.fr w.to=true:=by unfold j7;simpa only[Bool.not_eq_false'] using hle
 have h0:0<w.n:=by have:=of_decide_eq_false h0;omega
 have h2:w.n<=200:=by have:=of_decide_eq_false h2;omega
 refine⟨⟨0,L _,rfl,aa.DH λs=>by unfold aI;rfl,aa.refl _,aa.refl _,aa.refl _,aa.refl _,trivial⟩,λx hx=>⟨λhlt=> ?_,λhge=> ?_⟩⟩
 ·have hlt:x<w.n:=by have:=of_decide_eq_true hlt;omega
  have hf:=hw.f x hlt;simp only[-eq_self,nN,P,Y];refine⟨⟨by omega,by omega⟩,⟨rfl,hlt⟩,⟨trivial,by rw[nN];omega,by simp⟩,λhd=>⟨⟨by omega,by omega⟩,x+1,⟨hlt,by omega⟩,by omega,?_⟩,λhd=>⟨⟨by omega,by omega⟩,x+1,⟨hlt,by omega⟩,by omega,?_⟩⟩
  ·have hd:aI w.f x (aC (w.f x))=false:=by simpa using hd
   exact⟨aa.fmap (DC hd).1 λt=>congrArg (Value.int .i64) ((DC hd).2 t),aa.refl _,aa.refl _,aa.refl _,aa.refl _,trivial⟩
  ·have hd:aI w.f x (aC (w.f x))=true:=by simpa using hd
   exact⟨aa.fmap (rV hd).1 λt=>congrArg (Value.int .i64) ((rV hd).2 t),aa.refl _,aa.refl _,aa.refl _,aa.refl _,trivial⟩
 ·have hx:x=w.n:=by have:=of_decide_eq_false hge;omega
  subst hx;have noroot: ¬ (aI w.f w.n root=d/\cq w.f w.n root=0)->cU root w=none:=λh=>by have: ¬ aC (w.f 0)=root:=λe=>h (AU.2 ⟨h0,e⟩);rw[eR,decide_eq_false this];simp
  refine⟨λhr=>bad (noroot λh=>by rw[h.1] at hr;cases hr) (S _),λhr=> ?_⟩;have hr:aI w.f w.n root=true:=by simpa using hr
  refine⟨λhz=>bad (noroot λh=>by rw[h.1,h.2] at hz;cases hz) (S _),λhz=> ?_⟩;have hz:cq w.f w.n root=0:=by rw[hr] at hz;exact Vy (p:=cq w.f w.n root=0) hz
  have hroot:aC (w.f 0)=root:=(AU.1 ⟨hr,hz⟩).2
  have eR:cU root w=(match kZ root w.full with
   | some s=>bif dQ s.ns.length (λi=>s.ns.getD i []) w.n w.f then J s.fs else F
   | none=>F):=by rw[eR,hle,decide_eq_true h0,decide_eq_true h2,decide_eq_true hroot];rfl
  have hok:w.full.Ok:=⟨h2,hw.f,λh e=>by obtain⟨g1,g2,_⟩:=gG w.f w.n h e;exact⟨g1,g2⟩,hw.fr,hw.to⟩
  refine⟨(⟨w.full,Wk.start,0,0⟩,root),⟨hok,⟨λ_=>⟨V _,show(0:Int)<=1000 by decide⟩,L _,L _,L _⟩,⟨M _,M _⟩,trivial⟩,?_⟩;dsimp only;refine⟨rfl,rfl,rfl,rfl,rfl,rfl,rfl,rfl,rfl,rfl,aa.DH λ_=>rfl,rfl,rfl,rfl,aa.refl _,rfl,⟨rfl,rfl,rfl,rfl,rfl⟩,aa.refl _,λhL c hc=> ?_,λhL c=>bad (by rw[eR,kZ,hL];rfl) (S _)⟩;have hg:bg (w.full.at root)=true:=by simp only[bD,Bool.and_eq_true] at hL;exact hL.2
  have hfit:=EL w.full root;have eW:kZ root w.full=kg w.full 401 (Wk.start.take w.full root) (getD (w.full.at root)) []:=by rw[kZ,hL];rfl
  refine⟨(⟨w.full,Wk.start.take w.full root,c.1,c.2⟩,getD (w.full.at root),[]),⟨hok,hfit.small (by decide),hc,hfit,(by show 401<=0+401;decide),gS (nO hg),L _⟩,?_⟩;dsimp only
  repeat' first
   | exact aa.refl _
   | refine And.intro ?_ ?_
   | rfl
   | exact trivial
   | fail
  ·intro hB e he;have hs:=GH hB;have k1:=(Al w.full 401 _ _ _ _ hfit hs).1;generalize bp w.full 401 (Wk.start.take w.full root) (getD (w.full.at root)) []=s' at hs k1 he ⊢;have eR:cU root w=bif dQ s'.ns.length (λi=>s'.ns.getD i []) w.n w.f then J s'.fs else none:=by rw[eR,eW,hs]
   have hns:=k1.ns;have hlk:=k1.lk;refine⟨⟨⟨⟨rfl,by omega⟩,⟨rfl,rfl,by show 0+w.n<=w.n;omega⟩,trivial⟩,by omega⟩,λhq=>bad (by rw[eR,show dQ s'.ns.length (λi=>s'.ns.getD i []) w.n w.f=C from abQ hq];rfl) (S _),λhq=> ?_⟩
   have hq:dQ s'.ns.length (λi=>s'.ns.getD i []) w.n w.f=true:=abR hq;have eR:cU root w=J s'.fs:=by rw[eR,hq];rfl
   have eL:Ai root w=s'.fs:=by unfold Ai;rw[eR]
   rw[eR,eL];exact⟨λ_=>⟨e.2,he.2,aa.refl _,S _⟩,(λh=>by cases h)⟩
  ·exact λhB c=>bad (by rw[eR,eW,yA hB]) (S _)
end
def Dc:List tO:=[.of .one,.agg [.one,.one],.of (.slice [.str λ_=>[]])]
def Qq (vs:List SV)(l:List Seen):Option (List UInt8×Sp×Option Nat):=match vs,l with
 | [.str C root,.agg [.str C fr,.str C to],_],[⟨kk,z,o,n,c,[.str f]⟩]=>J (root,⟨fr,to,n,f,z,o,c,λ_=>C,λ_=>0⟩,kk)
 | _,_=>F
theorem Xh {vs:List SV}{l:List Seen}{root:List UInt8}{w:Sp}{kk:Option Nat}(h:Qq vs l=J (root,w,kk)):filled Dc vs l=[.str C root,.agg [.str C w.fr,.str C w.to],.bS 0 1 w.z w.o 0 w.n w.c]/\l=[pQ w kk]:=by
 unfold Qq at h;split at h
 ·injection h with h;injection h with h1 h;injection h with h2 h3;subst h1;subst h2;subst h3;exact⟨rfl,rfl⟩
 ·cases h
def oo (vs:List SV)(l:List Seen):Option (Prop×cL):=match Qq vs l with
 | some (root,w,_)=>J (w.oB,pS root w)
 | none=>F
theorem Xd (l:List (List UInt8×List UInt8))(c:Nat):(cL.req (l.length<=c) (.new (λk=>.aN [.aZ k 2 d 0 l.length c,.int .i64 d 0]) (.rows d l.length [bK l,bL l] C (c*2) 50))).Ok:=by
 refine⟨rfl,rfl,λk=>by simp[SV.wf,SV.fH,Nat.blt_eq],λE E' k k' h=> ?_⟩;simp only[SV.val,SV.vals];cases l with
 | nil=>rfl
 | cons a r=>rw[h (SB.jo (i:=0) (Nat.succ_pos _))]
theorem Qr (root:List UInt8)(w:Sp):(pS root w).Ok:=by
 intro b;cases b with
 | false=>rfl
 | true=>intro c;exact Xd (Ai root w) c
theorem Cv:az K 14 (bE Dc oo):=by
 refine fT (n:=20) (fn:=Q) Tryz.func14 (by kernel_rfl) (by kernel_rfl) ?_;intro vs l q a h hq;unfold oo at h;split at h
 ·rename_i root w kk hx;injection h with h;injection h with h1 h2;subst h1;subst h2;obtain⟨e1,e2⟩:=Xh hx;rw[e1,e2];exact⟨_,ZE w,rfl,Qr root w,JB hq root kk⟩
 ·cases h
end Go.Proofs.YtoibaecagklkaaaGreatDoor
namespace Go.Proofs.YtoibaecagklkaaaGreatDoor
open Go Sx
set_option maxRecDepth 20000
theorem ug {r r':Nat->List UInt8}: ∀ k,(∀ j,j<k->r j=r' j)->aS r k=aS r' k/\∀ j,cK r k j=cK r' k j
 | 0,_=>⟨rfl,λ_=>rfl⟩
 | k+1,h=>by
   obtain⟨h1,h2⟩:=ug k λj hj=>h j (by omega);have e:=h k (Nat.lt_succ_self k);refine⟨by simp only[aS,e,h1],λj=> ?_⟩;simp only[cK,e,h1];cases bw (r' k)with
   | false=>simp only[cond_false];exact h2 j
   | true=>simp only[cond_true];rw[h2 j]
theorem MS (x:Nd)(j:Nat)(hj:j<16):x.again.r j=x.r j:=by
 match j,hj with
 | 0,_=>exact rfl
 | 1,_=>exact rfl
 | 2,_=>exact rfl
 | 3,_=>exact rfl
 | 4,_=>exact rfl
 | 5,_=>exact rfl
 | 6,_=>exact rfl
 | 7,_=>exact rfl
 | 8,_=>exact rfl
 | 9,_=>exact rfl
 | 10,_=>exact rfl
 | 11,_=>exact rfl
 | 12,_=>exact rfl
 | 13,_=>exact rfl
 | 14,_=>exact rfl
 | 15,_=>exact rfl
 | j+16,h=>exact absurd h (by omega)
theorem KO {D D':Nat->Bool}{cs cs':List aq}{tot:Nat}{ty:TypeId}{ro:Bool}(hD:D=D')(hl:cs'.length<=cs.length)(h: ∀ b,D b=d->∀(k:Nat) (c c':aq),cs[k]?=J c->cs'[k]?=J c'->∀ E,(c'.at b).val E=(c.at b).val E):aa (.dR D cs tot ty C) (.dR D' cs' tot ty ro):=by
 subst hD;refine⟨rfl,λb a ha=>⟨ha,λE o ⟨c,fr,h1,h2,h3,h4⟩=>⟨c,fr,h1,h2,λi u hu=> ?_,h4⟩,λ_=>rfl⟩⟩;rw[a_] at hu;cases hc:cs'[i]? with
 | none=>rw[hc] at hu;cases hu
 | some c1 =>rw[hc] at hu;injection hu with hu;subst hu;have hi:=(List.getElem?_eq_some_iff.1 hc).1;have h0:cs[i]?=J (cs[i]'(by omega)):=List.getElem?_eq_getElem (by omega);rw[h a ha i _ c1 h0 hc E];exact h3 i _ (by rw[a_,h0];rfl)
def It.add (A:It)(b a:Nat)(t:List UInt8)(n c:Nat)(r:Nat->List UInt8):It :=
 ⟨λx=>A.D x||x.beq b,λx=>bif A.D x then A.cS x else t,λx=>bif A.D x then A.fb x else a,λx=>bif A.D x then A.nb x else n,λx=>bif A.D x then A.cb x else c,λx=>bif A.D x then A.us x else 0,λx=>bif A.D x then A.hd x else 0,
  λx=>A.D2 x||(x.beq a&& !(d&&n.beq 0)),λx=>bif A.D2 x then A.n2 x else n,λx i=>bif A.D2 x then A.rf x i else r i⟩
theorem It.rL {A:It}{b a:Nat}{t:List UInt8}{n c:Nat}{r:Nat->List UInt8}{x:Nat}(h:A.D x=d):(A.add b a t n c r).D x=d/\(A.add b a t n c r).cS x=A.cS x/\(A.add b a t n c r).fb x=A.fb x/\(A.add b a t n c r).nb x=A.nb x/\(A.add b a t n c r).us x=A.us x/\(A.add b a t n c r).hd x=A.hd x:=by simp only[It.add,h,Bool.true_or,cond_true,and_self]
theorem It.uR {A:It}{b a:Nat}{t:List UInt8}{n c:Nat}{r:Nat->List UInt8}(h:A.D b=C):(A.add b a t n c r).D b=d/\(A.add b a t n c r).cS b=t/\(A.add b a t n c r).fb b=a/\(A.add b a t n c r).nb b=n/\(A.add b a t n c r).us b=0/\(A.add b a t n c r).hd b=0:=by simp[It.add,h]
theorem It.VN {A:It}{b a:Nat}{t:List UInt8}{n c:Nat}{r:Nat->List UInt8}{x:Nat}(h:A.D2 x=d):(A.add b a t n c r).D2 x=d/\(A.add b a t n c r).n2 x=A.n2 x/\∀ i,(A.add b a t n c r).rf x i=A.rf x i:=by simp[It.add,h]
theorem It.Rc {A:It}{b a:Nat}{t:List UInt8}{n c:Nat}{r:Nat->List UInt8}(hn:0<n)(h:A.D2 a=C):(A.add b a t n c r).D2 a=d/\(A.add b a t n c r).n2 a=n/\∀ i,(A.add b a t n c r).rf a i=r i:=by
 have:n.beq 0=false:=by cases n with
  | zero=>omega
  | succ n=>rfl
 simp[It.add,h,this]
theorem Wg {f:Nat->List UInt8}{i:Nat}{A:It}{g:List UInt8->Nat}(h:jC f i A g)(hd:aI f i (aC (f i))=d):jC f (i+1) A g:=by
 obtain⟨e1,e2⟩:=rV hd;have e: ∀ t,aI f (i+1) t=d->aI f i t=true:=λt ht=>by rw[e1 t];exact ht
 exact⟨λt ht=>h.dom t (e t ht),λt ht=>by rw[← e2 t];exact h.cS t (e t ht),λt ht=>h.nb t (e t ht),λt ht=>h.row t (e t ht),h.us⟩
theorem Wf {f:Nat->List UInt8}{i:Nat}{A:It}{g:List UInt8->Nat}(h:jC f i A g)(hd:aI f i (aC (f i))=C){a1 a c:Nat}(hD: ∀ b,A.D b=d->b.beq a1=C)(hD2: ∀ b,A.D2 b=d->(b.beq a&& !(d&&(fW (f i)).beq 0))=C) :
  jC f (i+1) (A.add a1 a (f i) (fW (f i)) c (eK (f i))) (v8 g (aC (f i)) a1):=by
 have hn1:A.D a1=false:=by
  cases e:A.D a1 with
  | false=>rfl
  | true=>have:=hD a1 e;rw[a!] at this;cases this
 have cases': ∀ t,aI f (i+1) t=d->(aI f i t=d/\t≠aC (f i))∨t=aC (f i):=λt ht=>by
  by_cases e:t=aC (f i)
  ·exact .inr e
  ·left;have:(aI f i t||decide (t=aC (f i)))=true:=ht;rw[decide_eq_false e,an] at this;exact⟨this,e⟩
 have g0: ∀ t,t≠aC (f i)->v8 g (aC (f i)) a1 t=g t:=λt e=>by unfold v8;rw[decide_eq_false e];rfl
 have g1:v8 g (aC (f i)) a1 (aC (f i))=a1:=by unfold v8;simp
 have f0: ∀ t,aI f i t=d->cq f (i+1) t=cq f i t:=λt e=>by rw[mN,e];rfl
 have f1:cq f (i+1) (aC (f i))=i:=by rw[mN,hd];simp
 refine⟨λt ht=> ?_,λt ht=> ?_,λt ht=> ?_,λt ht hp=> ?_,λb hb=> ?_⟩
 ·rcases cases' t ht with ⟨e,e2⟩ | rfl
  ·rw[g0 t e2];exact(It.rL (h.dom t e)).1
  ·rw[g1];exact(It.uR hn1).1
 ·rcases cases' t ht with ⟨e,e2⟩ | rfl
  ·rw[g0 t e2,(It.rL (h.dom t e)).2.1,f0 t e];exact h.cS t e
  ·rw[g1,(It.uR hn1).2.1,f1];rfl
 ·rcases cases' t ht with ⟨e,e2⟩ | rfl
  ·rw[g0 t e2,(It.rL (h.dom t e)).2.1,(It.rL (h.dom t e)).2.2.2.1];exact h.nb t e
  ·rw[g1,(It.uR hn1).2.1,(It.uR hn1).2.2.2.1]
 ·rcases cases' t ht with ⟨e,e2⟩ | rfl
  ·have o:=It.rL (b:=a1) (a:=a) (t:=f i) (n:=fW (f i)) (c:=c) (r:=eK (f i)) (h.dom t e);rw[g0 t e2] at hp ⊢;rw[o.2.1,o.2.2.1,o.2.2.2.1];rw[o.2.2.2.1] at hp;obtain⟨q1,q2,q3⟩:=h.row t e hp;have o2:=It.VN (b:=a1) (a:=a) (t:=f i) (n:=fW (f i)) (c:=c) (r:=eK (f i)) q1;exact⟨o2.1,by rw[o2.2.1];exact q2,λj hj=>by rw[o2.2.2];exact q3 j hj⟩
  ·have o:=It.uR (a:=a) (t:=f i) (n:=fW (f i)) (c:=c) (r:=eK (f i)) hn1;rw[g1] at hp ⊢;rw[o.2.1,o.2.2.1,o.2.2.2.1];rw[o.2.2.2.1] at hp;have ha:A.D2 a=false:=by
    cases e:A.D2 a with
    | false=>rfl
    | true =>
      have:=hD2 a e;have hb:(fW (f i)).beq 0=false:=by
       cases e:fW (f i)with
       | zero=>omega
       | succ n=>rfl
      rw[a!,hb] at this;cases this
   have o2:=It.Rc (A:=A) (b:=a1) (t:=f i) (c:=c) (r:=eK (f i)) hp ha;exact⟨o2.1,by rw[o2.2.1];exact M _,λj _=>o2.2.2 j⟩
 ·by_cases e:A.D b=d
  ·have o:=It.rL (b:=a1) (a:=a) (t:=f i) (n:=fW (f i)) (c:=c) (r:=eK (f i)) e;rw[o.2.2.2.2.1,o.2.2.2.2.2];exact h.us b e
  ·have e:A.D b=false:=by simpa using e
   simp[It.add,e]
def It.none:It:=⟨λ_=>C,λ_=>[],λ_=>0,λ_=>0,λ_=>0,λ_=>0,λ_=>0,λ_=>C,λ_=>0,λ_ _=>[]⟩
theorem SR (f:Nat->List UInt8)(g:List UInt8->Nat):jC f 0 It.none g:=⟨(λ_ h=>by cases h),(λ_ h=>by cases h),(λ_ h=>by cases h),(λ_ h=>by cases h),λ_ h=>by cases h⟩
theorem J4 {x:Nd}(h:aU x=d):Fits x:=λj hj=>by have:=(gS h).ref j hj;omega
theorem KR {x:Nd}(h:Fits x):Fits x.again:=λj hj=>by rw[MS x j hj];exact h j hj
theorem JG (x:RdG)(hx:Ez.pre x):aB (runM (RU x) 80 T Ez x):=by
 refine aB.pr (XD x) ?_;obtain⟨hn,hf⟩:=hx;simp only[P,Y,true_and,decide_eq_true_eq,decide_eq_false_iff_not];refine⟨λh0 h=> ?_,λh0=>⟨⟨(0,⟨It.none,λ_=>0⟩),⟨cT.zero _ _,SR _ _⟩,rfl,aa.DH λ_=>rfl,λa h=>absurd (show C=d from h) (by decide),λa h=>absurd (show C=d from h) (by decide)⟩,λy hy=>⟨λhlt=> ?_,λhge=> ?_⟩⟩⟩
 ·have: ¬ 0<x.n:=by omega
  rw[decide_eq_false this] at h;cases h
 ·obtain⟨i,A,g⟩:=y;obtain⟨hi,hg⟩:=hy;have hlt:(i:Int)<(x.n:Int):=hlt;have hlt':i<x.n:=by omega
  have hlen:(x.f i).length<=1000:=hf i hlt';have ef:flat [x.f i]=x.f i:=by unfold flat;simp
  refine⟨⟨by show(0:Int)<=(i:Int);omega,hlt⟩,hlt',⟨by show(x.f i).length<=_;omega,by show(x.f i).length<_;omega⟩,λhG=>⟨⟨by rw[ef];show(x.f i).length<_;omega,by show 1<_;decide⟩,?_⟩,λhG h=> ?_⟩
  ·have hG:bg (x.f i)=true:=hG;have hv:=nO hG;have hN: ∀ j,j<16->(getD (x.f i)).again.r j=(getD (x.f i)).r j:=MS _;have eN:aS (getD (x.f i)).again.r 16=fW (x.f i):=(ug 16 hN).1;have eA: ∀ j,cK (getD (x.f i)).again.r 16 j=eK (x.f i) j:=(ug 16 hN).2;have hv2:aU (getD (x.f i)).again=true:=(sX (pP (getD (x.f i)))).trans hv;have next:cT x.n (λi=>bg (x.f i)) (i+1):=hi.next hlt hG
   show(aI x.f i (aC (flat [x.f i]))=d->_)/\(aI x.f i (aC (flat [x.f i]))=C->_)
   rw[ef];refine⟨λhd=>⟨⟨by show _<=(i:Int)+1;omega,by show(i:Int)+1<=_;omega⟩,(i+1,⟨A,g⟩),⟨⟨next,Wg hg hd⟩,by show x.n - (i+1)<x.n - i;omega⟩,by show(i:Int)+1=((i+1:Nat):Int);omega,aa.fmap (rV hd).1 λt=>rfl,aa.refl _,aa.refl _⟩,λhd=>⟨KR (J4 hv),λ_ c hc a hD2 a1 hD=>⟨⟨by show _<=(i:Int)+1;omega,by show(i:Int)+1<=_;omega⟩,(i+1,⟨A.add a1 a (x.f i) (fW (x.f i)) c (eK (x.f i)),v8 g (aC (x.f i)) a1⟩),⟨⟨next,Wf hg hd hD (by rw[← eN];exact hD2)⟩,by show x.n - (i+1)<x.n - i;omega⟩,by show(i:Int)+1=((i+1:Nat):Int);omega,aa.fmap (λt=>rfl) (λt=>rfl),?_,?_⟩,λhv'=> ?_⟩⟩
   ·refine KO rfl (M _) λb hb k c1 c2 h1 h2 E=> ?_
    match k,h1,h2 with
    | 0,h1,h2 =>injection h1 with h1;injection h2 with h2;subst h1;subst h2;rfl
    | 1,h1,h2 =>
      injection h1 with h1;injection h2 with h2;subst h1;subst h2;show SV.val E (aq.at b (.bU _ 1 d _ _ _))=SV.val E (aq.at b (.bU _ 1 d _ (λu=>bif A.D u then A.nb u else aS (getD (x.f i)).again.r 16) _))
      rw[eN];rfl
    | 2,h1,h2 =>injection h1 with h1;injection h2 with h2;subst h1;subst h2;rfl
    | 3,h1,h2 =>injection h1 with h1;injection h2 with h2;subst h1;subst h2;rfl
    | k+4,h1,_=>simp at h1
   ·have e1:(fun(b j:Nat)=>bif A.D2 b then A.rf b j else cK (getD (x.f i)).again.r 16 j)=(fun(b j:Nat)=>bif A.D2 b then A.rf b j else eK (x.f i) j):=by funext b j;rw[eA j]
    show aa (.dD (λb=>A.D2 b||b.beq a&& !(d&&(aS (getD (x.f i)).again.r 16).beq 0)) (λb=>bif A.D2 b then A.n2 b else aS (getD (x.f i)).again.r 16) [.str λb j=>bif A.D2 b then A.rf b j else cK (getD (x.f i)).again.r 16 j] C) _
    rw[e1,eN];exact aa.refl _
   ·rw[hv2] at hv';cases hv'
  ·have hG:bg (x.f i)=false:=hG;have:mV x.n x.f=false:=aK.2 ⟨i,W.2 hlt',by rw[hG];decide⟩;rw[this,Z] at h;cases h
 ·obtain⟨i,A,g⟩:=y;obtain⟨hi,hg⟩:=hy;have hge: ¬ (i:Int)<(x.n:Int):=hge;have e:i=x.n:=by have:=hi.le;omega
  subst e;have hr:mV x.n x.f=true:=hi.done hge;have h0':0<x.n:=by omega
  exact⟨λ_=>⟨⟨A,g⟩,hg,aa.refl _,aa.refl _,aa.refl _⟩,λh=>by rw[hr,decide_eq_true h0'] at h;cases h⟩
theorem UP:az K 80 (cD Ez) :=gx (n:=20) (fn:=T) Tryz.func80 (by kernel_rfl) (by kernel_rfl) Ez λx hx=>⟨_,ZD x,rfl,JG x hx⟩
def cn (l:List (List UInt8))(s:List UInt8):Bool:=H (s∈ l)
def qi (n:Nat)(f:Nat->List UInt8)(h:List UInt8):List UInt8:=f (cq f n h).toNat
def Clo (n:Nat)(f:Nat->List UInt8):Prop:=∀ h,aI f n h=d->∀ j,j<fW (qi n f h)->aI f n (eK (qi n f h) j)=d
structure kU (n:Nat)(f:Nat->List UInt8)(root:List UInt8)(Fr:List (List UInt8))(k:Nat):Prop where
 root:root∈ Fr
 nod:Fr.Nodup
 dom: ∀ h,h∈ Fr->aI f n h=d
 clo: ∀ q,q<k->q<Fr.length->∀ j,j<fW (qi n f (Fr.getD q []))->eK (qi n f (Fr.getD q [])) j∈ Fr
structure iU (Fr:List (List UInt8))(met:List UInt8->Int)(b:Nat):Prop where
 pos: ∀ h,h∈ Fr->1<=met h/\met h<=b
structure VI where
 n:Nat
 f:Nat->List UInt8
 A:It
 g:List UInt8->Nat
 room:Int
 root:List UInt8
def It.ZN (A:It)(kR:Nat):SB:=.dR A.D [.str A.cS,.bU kR 1 d A.fb A.nb A.cb,.int .i64 A.us,.int .i64 A.hd] 4 133 d
def It.ZV (A:It):SB:=.dD A.D2 A.n2 [.str A.rf] d
def gC (room:Int)(k:Nat):SB:=.cells [.int .i64 C room,.map k] 2 126
def jk (Fr:List (List UInt8))(c:Nat):SB:=.rows d Fr.length [.str λq=>Fr.getD q []] C (c*1) 9
def n8:gE :=
 {G:=VI,n:=5,N:=6,pre:=λx=>x.n<=1000/\jC x.f x.n x.A x.g/\aI x.f x.n x.root=d/\Clo x.n x.f,args:=λx=>[.ptr 0 d 0,.str C x.root,.map 2],
  mem:=λx=>[(0,gC x.room 1),(1,.map [] 0),(2,.fmap (aI x.f x.n) (.ref 3 x.g) F),(3,x.A.ZN 4),(4,x.A.ZV)],
  wP:=λx=>.all (List (List UInt8)×Nat) λy=>.req (kU x.n x.f x.root y.1 y.1.length/\y.1.length<=y.2) (.ret (.aN [.aZ 5 1 d 0 y.1.length y.2,.int .i64 d 0]) [(0,gC x.room 1),(1,.map [] 0),(2,.fmap (aI x.f x.n) (.ref 3 x.g) F),(5,jk y.1 y.2)])}
structure Ke where
 i:Nat
 Fr:List (List UInt8)
 c:Nat
 met:List UInt8->Int
def Rn (st:Sx.St)(y:Ke):Mem:=[(I9 st 8,.cells [.aZ st.nx 1 d 0 y.Fr.length y.c] 1 29),(st.nx,jk y.Fr y.c),(Yd st 9,.fmap (cn y.Fr) (.int .i64 y.met) F)]
def Kl (st:Sx.St):List Nat:=match st.m.get (I9 st 8)with
 | some (.cells [.aZ k _ _ _ _ _] _ _)=>[k]
 | some (.cells [.slc k _ _ _ _] _ _)=>[k]
 | _=>[]
noncomputable def aaZ (x:VI):aV :=
 {α:=Ke,pre:=λ_ y=>y.i<=y.Fr.length/\y.Fr.length<=y.c/\kU x.n x.f x.root y.Fr y.i/\iU y.Fr y.met (1+16*y.i),kT:=λ_ y=>x.n - y.i,fresh:=1,slots:=λ_ y=>[(12,.int .i64 C y.i),(11,.bool d d)],
  mem:=Rn,drop:=Kl}
noncomputable def YI (x:VI)(i:Int)(h:List UInt8):aV :=
 {α:=Nat×Ke,pre:=λ_ y=>y.1<=fW (qi x.n x.f h)/\(i=(y.2.i:Int)/\h=y.2.Fr.getD y.2.i []/\y.2.i<y.2.Fr.length)/\y.2.Fr.length<=y.2.c/\kU x.n x.f x.root y.2.Fr y.2.i/\iU y.2.Fr y.2.met (1+16*y.2.i+y.1)/\(∀ j,j<y.1->eK (qi x.n x.f h) j∈ y.2.Fr),
  kT:=λ_ y=>fW (qi x.n x.f h) - y.1,fresh:=1,slots:=λ_ y=>[(36,.int .i64 C y.1),(11,.bool d d)],mem:=λst y=>Rn st y.2,drop:=Kl}
noncomputable def YH (x:VI):aV :={α:=Ke,pre:=λ_ y=>y.i=0/\y.Fr.length<=y.c/\kU x.n x.f x.root y.Fr 0/\iU y.Fr y.met 1,kT:=λ_ _=>0,fresh:=1,slots:=λ_ _=>[(11,.bool d d)],mem:=Rn,drop:=Kl}
noncomputable def YP (x:VI):qj:=[(1004,always (YH x)),(6,always (aaZ x)),(9,λst=>match slot st.tmps 12,slot st.tmps 30 with
 | some (.int _ _ i),J (.str _ h)=>J (one (YI x i h))
 | _,_=>F)]
noncomputable def RO (x:VI):fJ:={cm with cG:=λf=>aE f Ly,bx:=λh=>if h=81 then YP x else []}
theorem Zw (x:VI):Sx.Good K (RO x):=.of bR D1 bl
theorem QL (x:VI):cZ (.n (.n (.n (.s 0 (.n .k (.s 0 (.n (.s 0 .k) (.s 0 (.n .k (.n .k .t))))))) (.s 0 (.n .k (.s 0 (.n (.s 0 .k) (.s 0 (.n .k (.n .k .t)))))))) (.n (.s 0 (.n .k (.s 0 (.n (.s 0 .k) (.s 0 (.n .k (.n .k .t))))))) (.s 0 (.n .k (.s 0 (.n (.s 0 .k) (.s 0 (.n .k (.n .k .t))))))))) (.n (.s 0 (.n .k (.s 1 (.n (.s 0 .k) (.s 0 (.n .k (.n .k .t))))))) (.n (.s 1 (.n (.s 0 (.n (.s 0 (.n .k (.s 1 (.n (.s 0 .k) (.s 0 (.n .k (.n .k .t))))))) (.n (.s 2 (.n (.s 1 (.n .k (.s 1 (.n (.s 0 .k) (.s 0 (.n .k (.n .k .t))))))) (.s 1 (.n (.s 1 (.n .k (.n .k (.s 0 (.n (.s 0 .k) (.s 0 (.n .k (.n .k .t)))))))) .t)))) (.s 1 (.n .k (.s 1 (.n (.s 0 .k) (.s 0 (.n .k (.n .k .t)))))))))) .t)) (.s 0 (.n (.s 0 .k) (.s 4 .k)))))) (runM (RO x) 81 Tryz.f81 n8 x) ((((H (x.root=x.root)=d->∀(u26:Nat),1<=u26->(aI x.f x.n x.root=d->∃(u25:Ke),(u25.i=0/\u25.Fr.length<=u25.c/\kU x.n x.f x.root u25.Fr 0/\iU u25.Fr u25.met 1)/\(!false)=d/\(1=u25.Fr.length/\u26=u25.c)/\0<u25.Fr.length/\aa (SB.cells [SV.str C x.root] (u26*1) 9) (jk u25.Fr u25.c)/\aa (SB.map [((0:Nat),SV.str C x.root,SV.int .i64 d 1)] 1) (SB.fmap (cn u25.Fr) (aD.int I u25.met) F))/\(aI x.f x.n x.root=C->∃(u24:Ke),(u24.i=0/\u24.Fr.length<=u24.c/\kU x.n x.f x.root u24.Fr 0/\iU u24.Fr u24.met 1)/\(!true)=d/\(1=u24.Fr.length/\u26=u24.c)/\0<u24.Fr.length/\aa (SB.cells [SV.str C x.root] (u26*1) 9) (jk u24.Fr u24.c)/\aa (SB.map [((0:Nat),SV.str C x.root,SV.int .i64 d 1)] 1) (SB.fmap (cn u24.Fr) (aD.int I u24.met) F)))/\(H (x.root=x.root)=C->∀(u23:Nat),1<=u23->(aI x.f x.n x.root=d->∃(u22:Ke),(u22.i=0/\u22.Fr.length<=u22.c/\kU x.n x.f x.root u22.Fr 0/\iU u22.Fr u22.met 1)/\(!false)=d/\(1=u22.Fr.length/\u23=u22.c)/\0<u22.Fr.length /\aa (SB.cells [SV.str C x.root] (u23*1) 9) (jk u22.Fr u22.c)/\aa (SB.map [((0:Nat),SV.str C x.root,SV.int .i64 d 1)] 1) (SB.fmap (cn u22.Fr) (aD.int I u22.met) F))/\(aI x.f x.n x.root=C->∃(u21:Ke),(u21.i=0/\u21.Fr.length<=u21.c/\kU x.n x.f x.root u21.Fr 0/\iU u21.Fr u21.met 1)/\(!true)=d/\(1=u21.Fr.length/\u23=u21.c)/\0<u21.Fr.length/\aa (SB.cells [SV.str C x.root] (u23*1) 9) (jk u21.Fr u21.c)/\aa (SB.map [((0:Nat),SV.str C x.root,SV.int .i64 d 1)] 1) (SB.fmap (cn u21.Fr) (aD.int I u21.met) F))))/\∀(u20:Ke),u20.i=0/\u20.Fr.length<=u20.c/\kU x.n x.f x.root u20.Fr 0/\iU u20.Fr u20.met 1->(∃(u19:Ke),(u19.i<=u19.Fr.length/\u19.Fr.length<=u19.c/\kU x.n x.f x.root u19.Fr u19.i/\iU u19.Fr u19.met ((1:Nat)+16*u19.i))/\0=(u19.i:Int)/\(u20.Fr.length=u19.Fr.length/\u20.c=u19.c)/\aa (SB.rows d u20.Fr.length [aq.str λu18=>u20.Fr.getD u18 []] C (u20.c*1) 9) (jk u19.Fr u19.c) /\aa (SB.fmap (cn u20.Fr) (aD.int I u20.met) F) (SB.fmap (cn u19.Fr) (aD.int I u19.met) F))/\∀(u17:Ke),u17.i<=u17.Fr.length/\u17.Fr.length<=u17.c/\kU x.n x.f x.root u17.Fr u17.i/\iU u17.Fr u17.met ((1:Nat)+16*u17.i)->(H ((u17.i:Int)<(u17.Fr.length:Int))=d->(0<=(u17.i:Int)/\(u17.i:Int)<(u17.Fr.length:Int))/\0+(u17.i:Int).toNat<u17.Fr.length/\(aI x.f x.n (u17.Fr.getD (0+(u17.i:Int).toNat) [])=d->x.A.D (x.g (u17.Fr.getD (0+(u17.i:Int).toNat) []))=d/\(∃(u16:Nat×Ke),(u16.1<=fW (qi x.n x.f (u17.Fr.getD (0+(u17.i:Int).toNat) []))/\((u17.i:Int)=(u16.2.i:Int)/\u17.Fr.getD (0+(u17.i:Int).toNat) []=u16.2.Fr.getD u16.2.i []/\u16.2.i<u16.2.Fr.length)/\u16.2.Fr.length<=u16.2.c/\kU x.n x.f x.root u16.2.Fr u16.2.i/\iU u16.2.Fr u16.2.met ((1:Nat)+16*u16.2.i+u16.1)/\∀(u15:Nat),u15<u16.1->eK (qi x.n x.f (u17.Fr.getD (0+(u17.i:Int).toNat) [])) u15∈ u16.2.Fr)/\0=(u16.1:Int)/\(u17.Fr.length=u16.2.Fr.length/\u17.c=u16.2.c) /\aa (SB.rows d u17.Fr.length [aq.str λu14=>u17.Fr.getD u14 []] C (u17.c*1) 9) (jk u16.2.Fr u16.2.c)/\aa (SB.fmap (cn u17.Fr) (aD.int I u17.met) F) (SB.fmap (cn u16.2.Fr) (aD.int I u16.2.met) F))/\∀(u13:Nat×Ke),(u13.1<=fW (qi x.n x.f (u17.Fr.getD (0+(u17.i:Int).toNat) []))/\((u17.i:Int)=(u13.2.i:Int)/\u17.Fr.getD (0+(u17.i:Int).toNat) []=u13.2.Fr.getD u13.2.i []/\u13.2.i<u13.2.Fr.length)/\u13.2.Fr.length<=u13.2.c/\kU x.n x.f x.root u13.2.Fr u13.2.i/\iU u13.2.Fr u13.2.met ((1:Nat)+16*u13.2.i+u13.1)/\∀(u12:Nat),u12<u13.1->eK (qi x.n x.f (u17.Fr.getD (0+(u17.i:Int).toNat) [])) u12∈ u13.2.Fr)->(H ((u13.1:Int)<(↑(x.A.nb (x.g (u17.Fr.getD (0+(u17.i:Int).toNat) []))):Int))=d->(0<=(u13.1:Int)/\(u13.1:Int)<(↑(x.A.nb (x.g (u17.Fr.getD (0+(u17.i:Int).toNat) []))):Int))/\(x.A.D2 (x.A.fb (x.g (u17.Fr.getD (0+(u17.i:Int).toNat) [])))=d/\0+(u13.1:Int).toNat<x.A.n2 (x.A.fb (x.g (u17.Fr.getD (0+(u17.i:Int).toNat) [])))) /\I6 (dflt (cn u13.2.Fr (x.A.rf (x.A.fb (x.g (u17.Fr.getD (0+(u17.i:Int).toNat) []))) (0+(u13.1:Int).toNat))) (u13.2.met (x.A.rf (x.A.fb (x.g (u17.Fr.getD (0+(u17.i:Int).toNat) []))) (0+(u13.1:Int).toNat)))+1) /\(H (1<dflt (dA (cn u13.2.Fr) (x.A.rf (x.A.fb (x.g (u17.Fr.getD (0+(u17.i:Int).toNat) []))) (0+(u13.1:Int).toNat)) (x.A.rf (x.A.fb (x.g (u17.Fr.getD (0+(u17.i:Int).toNat) []))) (0+(u13.1:Int).toNat))) (fE u13.2.met (x.A.rf (x.A.fb (x.g (u17.Fr.getD (0+(u17.i:Int).toNat) []))) (0+(u13.1:Int).toNat)) (dflt (cn u13.2.Fr (x.A.rf (x.A.fb (x.g (u17.Fr.getD (0+(u17.i:Int).toNat) []))) (0+(u13.1:Int).toNat))) (u13.2.met (x.A.rf (x.A.fb (x.g (u17.Fr.getD (0+(u17.i:Int).toNat) []))) (0+(u13.1:Int).toNat)))+1) (x.A.rf (x.A.fb (x.g (u17.Fr.getD (0+(u17.i:Int).toNat) []))) (0+(u13.1:Int).toNat))))=d->I6 ((u13.1:Int)+1)/\∃(u11:Nat×Ke),((u11.1<=fW (qi x.n x.f (u17.Fr.getD (0+(u17.i:Int).toNat) []))/\((u17.i:Int)=(u11.2.i:Int)/\u17.Fr.getD (0+(u17.i:Int).toNat) []=u11.2.Fr.getD u11.2.i []/\u11.2.i<u11.2.Fr.length)/\u11.2.Fr.length<=u11.2.c/\kU x.n x.f x.root u11.2.Fr u11.2.i/\iU u11.2.Fr u11.2.met ((1:Nat)+16*u11.2.i+u11.1) /\∀(u10:Nat),u10<u11.1->eK (qi x.n x.f (u17.Fr.getD (0+(u17.i:Int).toNat) [])) u10∈ u11.2.Fr)/\fW (qi x.n x.f (u17.Fr.getD (0+(u17.i:Int).toNat) [])) - u11.1<fW (qi x.n x.f (u17.Fr.getD (0+(u17.i:Int).toNat) [])) - u13.1)/\(u13.1:Int)+1=(u11.1:Int)/\(u13.2.Fr.length=u11.2.Fr.length/\u13.2.c=u11.2.c)/\aa (SB.rows d u13.2.Fr.length [aq.str λu9=>u13.2.Fr.getD u9 []] C (u13.2.c*1) 9) (jk u11.2.Fr u11.2.c)/\aa (SB.fmap (dA (cn u13.2.Fr) (x.A.rf (x.A.fb (x.g (u17.Fr.getD (0+(u17.i:Int).toNat) []))) (0+(u13.1:Int).toNat))) (aD.int I (fE u13.2.met (x.A.rf (x.A.fb (x.g (u17.Fr.getD (0+(u17.i:Int).toNat) []))) (0+(u13.1:Int).toNat)) (dflt (cn u13.2.Fr (x.A.rf (x.A.fb (x.g (u17.Fr.getD (0+(u17.i:Int).toNat) []))) (0+(u13.1:Int).toNat))) (u13.2.met (x.A.rf (x.A.fb (x.g (u17.Fr.getD (0+(u17.i:Int).toNat) []))) (0+(u13.1:Int).toNat)))+1))) F) (SB.fmap (cn u11.2.Fr) (aD.int I u11.2.met) F)) /\(H (1<dflt (dA (cn u13.2.Fr) (x.A.rf (x.A.fb (x.g (u17.Fr.getD (0+(u17.i:Int).toNat) []))) (0+(u13.1:Int).toNat)) (x.A.rf (x.A.fb (x.g (u17.Fr.getD (0+(u17.i:Int).toNat) []))) (0+(u13.1:Int).toNat))) (fE u13.2.met (x.A.rf (x.A.fb (x.g (u17.Fr.getD (0+(u17.i:Int).toNat) []))) (0+(u13.1:Int).toNat)) (dflt (cn u13.2.Fr (x.A.rf (x.A.fb (x.g (u17.Fr.getD (0+(u17.i:Int).toNat) []))) (0+(u13.1:Int).toNat))) (u13.2.met (x.A.rf (x.A.fb (x.g (u17.Fr.getD (0+(u17.i:Int).toNat) []))) (0+(u13.1:Int).toNat)))+1) (x.A.rf (x.A.fb (x.g (u17.Fr.getD (0+(u17.i:Int).toNat) []))) (0+(u13.1:Int).toNat))))=C->(0+u13.2.Fr.length<=u13.2.Fr.length/\True/\2*(u13.2.Fr.length+1)*16<=(281474976710656:Nat)/\u13.2.Fr.length+1<(9223372036854775808:Nat))/\∀(u8:Nat),u13.2.Fr.length+1<=u8->(aI x.f x.n (x.A.rf (x.A.fb (x.g (u17.Fr.getD (0+(u17.i:Int).toNat) []))) (0+(u13.1:Int).toNat))=d->I6 ((u13.1:Int)+1) /\∃(u7:Nat×Ke),((u7.1<=fW (qi x.n x.f (u17.Fr.getD (0+(u17.i:Int).toNat) []))/\((u17.i:Int)=(u7.2.i:Int)/\u17.Fr.getD (0+(u17.i:Int).toNat) []=u7.2.Fr.getD u7.2.i []/\u7.2.i<u7.2.Fr.length)/\u7.2.Fr.length<=u7.2.c/\kU x.n x.f x.root u7.2.Fr u7.2.i/\iU u7.2.Fr u7.2.met ((1:Nat)+16*u7.2.i+u7.1)/\∀(u6:Nat),u6<u7.1->eK (qi x.n x.f (u17.Fr.getD (0+(u17.i:Int).toNat) [])) u6∈ u7.2.Fr)/\fW (qi x.n x.f (u17.Fr.getD (0+(u17.i:Int).toNat) [])) - u7.1<fW (qi x.n x.f (u17.Fr.getD (0+(u17.i:Int).toNat) [])) - u13.1)/\(u13.1:Int)+1=(u7.1:Int)/\(!false)=d/\(u13.2.Fr.length+1=u7.2.Fr.length/\u8=u7.2.c)/\aa (SB.rows d (u13.2.Fr.length+1) [aq.str λu5=>if u5<u13.2.Fr.length then u13.2.Fr.getD u5 [] else bP [x.A.rf (x.A.fb (x.g (u17.Fr.getD (0+(u17.i:Int).toNat) []))) (0+(u13.1:Int).toNat)] (u5 - u13.2.Fr.length)] C (u8*1) 9) (jk u7.2.Fr u7.2.c) /\aa (SB.fmap (dA (cn u13.2.Fr) (x.A.rf (x.A.fb (x.g (u17.Fr.getD (0+(u17.i:Int).toNat) []))) (0+(u13.1:Int).toNat))) (aD.int I (fE u13.2.met (x.A.rf (x.A.fb (x.g (u17.Fr.getD (0+(u17.i:Int).toNat) []))) (0+(u13.1:Int).toNat)) (dflt (cn u13.2.Fr (x.A.rf (x.A.fb (x.g (u17.Fr.getD (0+(u17.i:Int).toNat) []))) (0+(u13.1:Int).toNat))) (u13.2.met (x.A.rf (x.A.fb (x.g (u17.Fr.getD (0+(u17.i:Int).toNat) []))) (0+(u13.1:Int).toNat)))+1))) F) (SB.fmap (cn u7.2.Fr) (aD.int I u7.2.met) F))/\(aI x.f x.n (x.A.rf (x.A.fb (x.g (u17.Fr.getD (0+(u17.i:Int).toNat) []))) (0+(u13.1:Int).toNat))=C->∃(u4:List (List UInt8)×Nat),(kU x.n x.f x.root u4.1 u4.1.length/\u4.1.length<=u4.2)/\False)))/\(H ((u13.1:Int)<(↑(x.A.nb (x.g (u17.Fr.getD (0+(u17.i:Int).toNat) []))):Int))=C->I6 ((u17.i:Int)+1)/\∃(u3:Ke),((u3.i<=u3.Fr.length/\u3.Fr.length<=u3.c/\kU x.n x.f x.root u3.Fr u3.i/\iU u3.Fr u3.met ((1:Nat)+16*u3.i))/\x.n - u3.i<x.n - u17.i) /\(u17.i:Int)+1=(u3.i:Int)/\(u13.2.Fr.length=u3.Fr.length/\u13.2.c=u3.c)/\aa (SB.rows d u13.2.Fr.length [aq.str λu2=>u13.2.Fr.getD u2 []] C (u13.2.c*1) 9) (jk u3.Fr u3.c)/\aa (SB.fmap (cn u13.2.Fr) (aD.int I u13.2.met) F) (SB.fmap (cn u3.Fr) (aD.int I u3.met) F)))/\(aI x.f x.n (u17.Fr.getD (0+(u17.i:Int).toNat) [])=C->False))/\(H ((u17.i:Int)<(u17.Fr.length:Int))=C->∃(u1:List (List UInt8)×Nat),(kU x.n x.f x.root u1.1 u1.1.length/\u1.1.length<=u1.2)/\(u17.Fr.length=u1.1.length/\u17.c=u1.2)/\aa (SB.rows d u17.Fr.length [aq.str λu0=>u17.Fr.getD u0 []] C (u17.c*1) 9) (jk u1.1 u1.2)))):=⟨by kernel_rfl,by kernel_rfl⟩
end Go.Proofs.YtoibaecagklkaaaGreatDoor
