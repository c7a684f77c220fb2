/- A part of the proof. -/
import Derived.Test.YtoibaecagklkaaaGreatDoorMm
open Bool renaming and_true->P,false->D,or_true->Z,true->A,true_or->ag
open Decidable renaming decide->I
open Go.Proofs.Tryz renaming f105->an,f128->J,f150->ay,f155->a_,f25->a!,f61->bf,func128->Q,func155->bl,prog->C
open Int renaming le_refl->bn,toNat_natCast->M
open List renaming all_eq_true->b_,getElem?_eq_none->b!,length_append->S,length_replicate->cj,mem_range->cl,nil->F,replicate->ct
open Nat renaming le_refl->O,mul_one->W,not_lt_zero->Y,zero_add->cx,zero_le->cy
open Option renaming some->G
namespace Go.Proofs.YtoibaecagklkaaaGreatDoor
open Go Sx
variable {s:h_}{L i:Nat}{x y:Nd}
section
open Go Sx
set_option maxRecDepth 20000
theorem LL {f:FuncId}{fn:Func}(hf:C.funcs[f]?=G fn) (hn:(fn.name== "runtime.NumGoroutine")=D) (hb:fn.body.isSome=A) {g:Nd->Option (Prop×SV)}
  (H: ∀ x p v,g x=G (p,v)->p->∃ cfg args',Sx.Good C cfg/\(∀ E,SV.vals E args'=SV.vals E [x.sv])/\SV.lY 0 args'=A/\v.wf 0=A/\au (eS cfg f fn args' (λu=>ai u v))):aq C f (aI (js g)):=by
 refine fh (U4 (n:=20) hf hn hb ?_);intro args p a h hp;obtain⟨⟨p0,v0⟩,hq,hpa⟩:=Option.map_eq_some_iff.1 h;obtain⟨x,hx,hg⟩:=vO hq;subst hx;injection hpa with h1 h2;subst h1;subst h2;obtain⟨cfg,args',c1,c2,c3,c4,c5⟩:=H x _ _ hg hp;exact⟨cfg,args',c1,c2,c3,c4,c5⟩
theorem Nd.An.kind (h:x.An)(k:Int):Nd.An {k:=k,p:=x.p,v:=x.v,r:=fun(i:Nat)=>[x.r 0,x.r 1,x.r 2,x.r 3,x.r 4,x.r 5,x.r 6,x.r 7,x.r 8,x.r 9,x.r 10,x.r 11,x.r 12,x.r 13,x.r 14,x.r 15].getD i []} :=⟨h.p,h.v,λj hj=>by show([x.r 0,x.r 1,x.r 2,x.r 3,x.r 4,x.r 5,x.r 6,x.r 7,x.r 8,x.r 9,x.r 10,x.r 11,x.r 12,x.r 13,x.r 14,x.r 15].getD j []).length<=1000;rw[jr x.r j hj];exact h.r j hj⟩
theorem uE (x:Nd){k:Int}(h:x.k=k)(E:Nat->Nat):SV.vals E [x.JI A k]=SV.vals E [x.sv]:=by subst h;rfl
theorem adH {k:Int}(h:0<=k/\k<=3):k=0∨k=1∨k=2∨k=3:=by omega
theorem akG:aq C 153 (aI (js λx=>G ((0<=x.k/\x.k<=3)/\x.An,.str D (eM x)))):=by
 refine LL Tryz.func153 (by kernel_rfl) (by kernel_rfl) λx p v h hp=> ?_;cases h;obtain⟨hk,hf⟩:=hp;rcases adH hk with e | e | e | e
 ·exact⟨Hi,[x.JI A 0],VM,uE x e,rfl,rfl,(by refine au.j7 (awG x _) (by delta aA ff;exact rfl) ?_;exact⟨trivial,λE=>by rw[eM,o_ e]⟩)⟩
 ·exact⟨Hi,[x.JI A 1],VM,uE x e,rfl,rfl,(by refine au.j7 (awH x _) (by delta aA dS B9 mZ aU rR;exact rfl) ?_;exact⟨hf.kind 1,λE=>by rw[eM,p_ (by omega),o_ e];rfl⟩)⟩
 ·exact⟨Hi,[x.JI A 2],VM,uE x e,rfl,rfl,(by refine au.j7 (awI x _) (by delta aA dS B9 mZ aU rR;exact rfl) ?_;exact⟨hf.kind 2,λE=>by rw[eM,p_ (by omega),p_ (by omega),o_ e];rfl⟩)⟩
 ·exact⟨Hi,[x.JI A 3],VM,uE x e,rfl,rfl,(by refine au.j7 (awJ x _) (by delta aA dS B9 mZ aU rR;exact rfl) ?_;exact⟨hf.kind 3,λE=>by rw[eM,p_ (by omega),p_ (by omega),p_ (by omega)];rfl⟩)⟩
section
variable {L : Nat} (hI : aq C 155 (bZ (jS L)))
include hI
theorem S1:aR C (λf=>av f (ad2 L)):=.cons hI (bK _) zw
theorem ayP:Sx.Good C (ani L):=.of bI (S1 hI) aO
theorem ayC (x:Nd):Sx.Good C (am2 L x):=.of bI (S1 hI) aO
theorem ayj:aq C 187 (aI (js λx=>G (Rel L (x.r 0),.bool D (yu cS x)))):=by
 refine LL Tryz.func187 (by kernel_rfl) (by kernel_rfl) λx p v h hp=> ?_;cases h;refine⟨ani L,[x.sv],ayP hI,λE=>rfl,rfl,rfl,au.j7 (aBL L x _) (by delta Bk gO fR cJ dy cW aY aX gE nM ij cE dS B9 mZ aU Mh rR nH oH;exact rfl) ?_⟩;have e:pF {k:=x.k,p:=x.p,v:=x.v,r:=fun(i:Nat)=>[x.r 0,x.r 1,x.r 2,x.r 3,x.r 4,x.r 5,x.r 6,x.r 7,x.r 8,x.r 9,x.r 10,x.r 11,x.r 12,x.r 13,x.r 14,x.r 15].getD i []:Nd} 1=pF x 1:=rfl;rw[e,lN (jr x.r)];unfold yu;have nn: ∀ {b:Bool},(!b)=A->b=false:=λh=>by simpa using h
 have nf: ∀ {b:Bool},(!b)=D->b=true:=λh=>by simpa using h
 refine⟨trivial,λa=>bL ?_,λa=>⟨λb=>bL ?_,λb=>⟨trivial,λc=>bL ?_,λc=>⟨hp.2,λd=>bL ?_,λd=>⟨hp,λf=>bL ?_,λf=>bL ?_⟩⟩⟩⟩⟩
 ·rw[nn a];rfl
 ·rw[nf a,nn b];rfl
 ·rw[nf a,nf b,nn c];rfl
 ·rw[nf a,nf b,nf c,d];rfl
 ·rw[nf a,nf b,nf c,d,f];rfl
 ·rw[nf a,nf b,nf c,d,f];rfl
theorem ajD:aq C 188 (aI (js λx=>G (pN L x.r,.bool D (iS cS x)))):=by
 refine LL Tryz.func188 (by kernel_rfl) (by kernel_rfl) λx p v h hp=> ?_;cases h;have hp:pN L x.r:=hp;refine⟨am2 L x,[x.sv],ayC hI x,λE=>rfl,rfl,rfl,au.j7 (asZ L x _) (by delta Fk Bk I6 Sr Er NI gO aM bx bF aj bH az dK dD bt aA fR dU eY fz dy cW aY aX gE nQ gW aV br gX aP gS fy i5 ij cR dF cX dS B9 lu aG KU LY qN mF qc nJ Qa k7 Ua DH jj MB Fu nH Z3 PN aaC Ud arE;exact rfl) ?_⟩;have nn: ∀ {b:Bool},(!b)=A->b=false:=λh=>by simpa using h
 have nf: ∀ {b:Bool},(!b)=D->b=true:=λh=>by simpa using h
 refine⟨λa=>bL ?_,λa=>⟨λb=>bL ?_,λb R=>⟨⟨0,⟨by omega,rfl⟩,rfl,N0 (by simp[fH]),aa.refl _,aa.refl _,aa.refl _,aa.refl _,trivial⟩,λi hi=>⟨λc=> ?_,λc=> ?_⟩⟩⟩⟩
 ·unfold iS;rw[nn a];rfl
 ·have b:=i_ b;unfold iS;rw[nf a,l_ (show ¬ (x.v.length:Int)<=80 by omega)];rfl
 ·have c:=i_ c;have ei:i<16:=by omega
  rw[M,B5 x.r ei];have hr:=hp i ei;have hfn:0<=fH x.r i/\fH x.r i<=i:=by
   have: ∀ n,0<=fH x.r n/\fH x.r n<=n:=by
    intro n;induction n with
    | zero=>exact⟨bn _,bn _⟩
    | succ n ih=>unfold fH;split<;>omega
   exact this i
  refine⟨by omega,λd=> ?_,λd=> ?_⟩
  ·have d: ¬ x.r i=[]:=j_ (nn d);have step:fH x.r (i+1)=fH x.r i+1:=by rw[fH,p_ d]
   refine⟨rfl,hr.2,λf=>⟨by omega,by omega,i+1,⟨⟨by omega,?_⟩,by omega⟩,by omega,N0 (by omega),aa.refl _,aa.refl _,aa.refl _,aa.refl _,trivial⟩,λf=>⟨hr,λg=>⟨by omega,by omega,i+1,⟨⟨by omega,?_⟩,by omega⟩,by omega,N0 (by omega),aa.refl _,aa.refl _,aa.refl _,aa.refl _,trivial⟩,λg=>bL ?_⟩⟩
   ·simp only[rC,hi.2,jN,f,ag,Z,P]
   ·simp only[rC,hi.2,jN,g,Z,P]
   ·have hm:rC cS x.r 16=false:=O8 ei d (by rw[jN,f,g];rfl);unfold iS;rw[hm];simp
  ·have d:x.r i=[]:=i_ (nf d);have step:fH x.r (i+1)=fH x.r i:=by rw[fH,o_ d]
   refine⟨by omega,i+1,⟨⟨by omega,?_⟩,by omega⟩,by omega,N0 (by omega),aa.refl _,aa.refl _,aa.refl _,aa.refl _,trivial⟩;simp only[rC,hi.2,d,decide_true,ag,P]
 ·have c:=j_ c;have hi1:=hi.1;have e:i=16:=by omega
  subst e;have b:=j_ b;refine bL ?_;unfold iS;rw[nf a,hi.2,k_ (show(x.v.length:Int)<=80 by omega)];rfl
theorem akl:aR C (λf=>av f (apb L)):=.cons (ayj hI) (aE _) (.cons (ajD hI) (aE _) zw)
theorem Ou:Sx.Good C (Cu L):=.of bI (akl hI) aO
theorem aen:aq C 152 (aI (js λx=>G (pN L x.r,.bool D (aZ x)))):=by
 refine LL Tryz.func152 (by kernel_rfl) (by kernel_rfl) λx p v h hp=> ?_;cases h;have hp:pN L x.r:=hp;by_cases hk:0<=x.k/\x.k<=3
 ·have hm:pN L (fun(i:Nat)=>[x.r 0,x.r 1,x.r 2,x.r 3,x.r 4,x.r 5,x.r 6,x.r 7,x.r 8,x.r 9,x.r 10,x.r 11,x.r 12,x.r 13,x.r 14,x.r 15].getD i []):=λj hj=>by show Rel L ([x.r 0,x.r 1,x.r 2,x.r 3,x.r 4,x.r 5,x.r 6,x.r 7,x.r 8,x.r 9,x.r 10,x.r 11,x.r 12,x.r 13,x.r 14,x.r 15].getD j []);rw[jr x.r j hj];exact hp j hj
  rcases adH hk with e | e | e | e
  ·refine⟨Cu L,[x.JI A 0],Ou hI,uE x e,rfl,rfl,au.of_eq (atw L x _) ⟨trivial,bL ?_⟩⟩;rw[aZ,mN,o_ e];unfold wA;rw[e];congr 3
  ·refine⟨Cu L,[x.JI A 1],Ou hI,uE x e,rfl,rfl,au.of_eq (atx L x _) ⟨trivial,bL ?_⟩⟩;rw[aZ,mN,p_ (by omega),o_ e];unfold sD;rw[lN (jr x.r)];rfl
  ·refine⟨Cu L,[x.JI A 2],Ou hI,uE x e,rfl,rfl,au.of_eq (aty L x _) ⟨hp 0 (by decide),bL ?_⟩⟩;rw[aZ,mN,p_ (by omega),p_ (by omega),o_ e];unfold yu;rw[lN (jr x.r)];rfl
  ·refine⟨Cu L,[x.JI A 3],Ou hI,uE x e,rfl,rfl,au.of_eq (atz L x _) ⟨hm,bL ?_⟩⟩;rw[aZ,mN,p_ (by omega),p_ (by omega),p_ (by omega),o_ e];unfold iS;have e1: ∀ n,n<=16->rC cS (fun(i:Nat)=>[x.r 0,x.r 1,x.r 2,x.r 3,x.r 4,x.r 5,x.r 6,x.r 7,x.r 8,x.r 9,x.r 10,x.r 11,x.r 12,x.r 13,x.r 14,x.r 15].getD i []) n=rC cS x.r n/\fH (fun(i:Nat)=>[x.r 0,x.r 1,x.r 2,x.r 3,x.r 4,x.r 5,x.r 6,x.r 7,x.r 8,x.r 9,x.r 10,x.r 11,x.r 12,x.r 13,x.r 14,x.r 15].getD i []) n=fH x.r n:=by
    intro n;induction n with
    | zero=>intro _;exact⟨rfl,rfl⟩
    | succ n ih =>intro hn;obtain⟨i1,i2⟩:=ih (by omega);have g:=jr x.r n (by omega);simp only[rC,fH,i1,i2,g,and_self]
   obtain⟨i1,i2⟩:=e1 16 (by omega);rw[i1,i2]
 ·refine⟨Cu L,[x.sv],Ou hI,λE=>rfl,rfl,rfl,au.j7 (atA L x _) (by delta Fk Ix aM fR ij hJ;exact rfl) ?_⟩;have hv:aZ x=false:=by rw[aZ,mN,p_ (by omega),p_ (by omega),p_ (by omega),p_ (by omega)]
  rw[hv];exact⟨λ_ _=>rfl,λa=>⟨λ_ _=>rfl,λb=>absurd ⟨by have:=j_ a;omega,by have:=j_ b;omega⟩ hk⟩⟩
theorem S2:aR C (λf=>av f (ad3 L)):=.cons (aen hI) (aE _) (.cons akG (aE _) zw)
theorem ayQ:Sx.Good C (anj L):=.of bI (S2 hI) aO
end
end
section
open Go Sx
set_option maxRecDepth 20000
theorem als: ¬ 0<=bO []:=by decide
theorem Nn {X:Nd}(hX:getD s=X)(hk:0<=bO s)(hr:pN L X.r){V N:SV}(hV:ai V (.dr [X.sv,.int .i64 A 0]))(hN:ai N (.dr [jm,.int .i64 A 2])) :
  pN L X.r/\((!aZ X)=A->(bM s=A->ai N (.dr [(getD s).sv,.int .i64 A 0]))/\(bM s=D->ai N (.dr [jm,.int .i64 A 2])))/\
   ((!aZ X)=D->((0<=X.k/\X.k<=3)/\X.An)/\((!decide (eM X=s))=A->(bM s=A->ai N (.dr [(getD s).sv,.int .i64 A 0]))/\(bM s=D->ai N (.dr [jm,.int .i64 A 2])))/\
    ((!decide (eM X=s))=D->(bM s=A->ai V (.dr [(getD s).sv,.int .i64 A 0]))/\(bM s=D->ai V (.dr [jm,.int .i64 A 2])))):=by
 have hB:bM s=(aZ X&&I (eM X=s)):=by unfold bM Oo;rw[hX,k_ hk];rfl
 refine⟨hr,λa=> ?_,λa=> ?_⟩
 ·have a:aZ X=false:=by simpa using a
  rw[hB,a];exact⟨(λh=>by cases h),λ_=>hN⟩
 ·have a:aZ X=true:=by simpa using a
  have hs:=kj a;refine⟨⟨hs.k,hs.few⟩,λb=> ?_,λb=> ?_⟩
  ·have b:I (eM X=s)=false:=by simpa using b
   rw[hB,a,b];exact⟨(λh=>by cases h),λ_=>hN⟩
  ·have b:I (eM X=s)=true:=by simpa using b
   rw[hB,a,b,hX];exact⟨λ_=>hV,λh=>by cases h⟩
attribute [local irreducible] ax af gM c9 aH fV
theorem aBq:({k:=0,p:=[],v:=[],r:=fun(i:Nat)=>[[],[],[],[],[],[],[],[],[],[],[],[],[],[],[],[]].getD i []}:Nd)=iL:=rfl
theorem azv:(fun(i:Nat)=>[[],[],[],[],[],[],[],[],[],[],[],[],[],[],[],[]].getD i [])=(iL).r:=rfl
theorem aBr (s:h_):({k:=1,p:=gM (af (ax (af s) 0)),v:=af (ax (af s) 1),r:=fun(i:Nat)=>[bX 0,bX 1,bX 2,bX 3,bX 4,bX 5,bX 6,bX 7,bX 8,bX 9,bX 10,bX 11,bX 12,bX 13,bX 14,bX 15].getD i []}:Nd)=xk s:=rfl
theorem azw (s:h_):(fun(i:Nat)=>[bX 0,bX 1,bX 2,bX 3,bX 4,bX 5,bX 6,bX 7,bX 8,bX 9,bX 10,bX 11,bX 12,bX 13,bX 14,bX 15].getD i [])=(xk s).r:=rfl
theorem aBs (s:h_):({k:=2,p:=gM (af (ax (af s) 0)),v:=[],r:=fun(i:Nat)=>[cV (ax (af s) 1) 0,cV (ax (af s) 1) 1,cV (ax (af s) 1) 2,cV (ax (af s) 1) 3,cV (ax (af s) 1) 4,cV (ax (af s) 1) 5,cV (ax (af s) 1) 6,cV (ax (af s) 1) 7,cV (ax (af s) 1) 8,cV (ax (af s) 1) 9,cV (ax (af s) 1) 10,cV (ax (af s) 1) 11,cV (ax (af s) 1) 12,cV (ax (af s) 1) 13,cV (ax (af s) 1) 14,cV (ax (af s) 1) 15].getD i []}:Nd)=DJ s:=rfl
theorem azx (s:h_):(fun(i:Nat)=>[cV (ax (af s) 1) 0,cV (ax (af s) 1) 1,cV (ax (af s) 1) 2,cV (ax (af s) 1) 3,cV (ax (af s) 1) 4,cV (ax (af s) 1) 5,cV (ax (af s) 1) 6,cV (ax (af s) 1) 7,cV (ax (af s) 1) 8,cV (ax (af s) 1) 9,cV (ax (af s) 1) 10,cV (ax (af s) 1) 11,cV (ax (af s) 1) 12,cV (ax (af s) 1) 13,cV (ax (af s) 1) 14,cV (ax (af s) 1) 15].getD i [])=(DJ s).r:=rfl
theorem lit_3 (s:h_):({k:=3,p:=[],v:=af (ax (af s) 16),r:=fun(i:Nat)=>[iq (fV (af s)) 0,iq (fV (af s)) 1,iq (fV (af s)) 2,iq (fV (af s)) 3,iq (fV (af s)) 4,iq (fV (af s)) 5,iq (fV (af s)) 6,iq (fV (af s)) 7,iq (fV (af s)) 8,iq (fV (af s)) 9,iq (fV (af s)) 10,iq (fV (af s)) 11,iq (fV (af s)) 12,iq (fV (af s)) 13,iq (fV (af s)) 14,iq (fV (af s)) 15].getD i []}:Nd)=oO s:=rfl
theorem azy (s:h_):(fun(i:Nat)=>[iq (fV (af s)) 0,iq (fV (af s)) 1,iq (fV (af s)) 2,iq (fV (af s)) 3,iq (fV (af s)) 4,iq (fV (af s)) 5,iq (fV (af s)) 6,iq (fV (af s)) 7,iq (fV (af s)) 8,iq (fV (af s)) 9,iq (fV (af s)) 10,iq (fV (af s)) 11,iq (fV (af s)) 12,iq (fV (af s)) 13,iq (fV (af s)) 14,iq (fV (af s)) 15].getD i [])=(oO s).r:=rfl
theorem asu (s:h_):bO s<=3:=by
 have hp:xY (af s)<=3:=by unfold xY;cases (gk (ax (af s) 0)&&gU (af (ax (af s) 0)))<;>cases fc (af (ax (af s) 0))<;>cases gk (ax (af s) 1)<;>decide
 have hl:u9 (af s)<=3:=by
  unfold u9;cases ga (af s)with
  | false=>show(-1:Int)<=3;decide
  | true =>
    simp only[cond_true];split
    ·exact hp
    ·split
     ·cases gk (ax (af s) 16)<;>decide
     ·decide
 unfold bO;split
 ·decide
 ·cases (c9 s&&(e9 s&&I (aH s=[])))with
  | false=>show(-1:Int)<=3;decide
  | true=>exact hl
theorem adh (hk: ¬ 0<=bO s):bM s=false:=by unfold bM Oo;rw[l_ hk];rfl
theorem WX (hs:s.length<=L/\s.length<1099511627776)(hk:0<=bO s):pN L (getD s).r:=by
 intro j _;by_cases e:(getD s).r j=[]
 ·rw[e];have hp:0<s.length:=by
   cases s with
   | nil=>exact absurd hk als
   | cons a r=>simp
  exact⟨.inl (by simp;omega),by simp⟩
 ·have:=WV hk j e;exact⟨.inl (by omega),by omega⟩
section
variable {L : Nat} (hI : aq C 155 (bZ (jS L)))
include hI
theorem Pm:aq C 127 (bZ (wh L)):=by
 refine ee (n:=20) Tryz.func127 (by kernel_rfl) (by kernel_rfl) ?_;intro args p a h hp;unfold wh at h;split at h
 ·rename_i s;cases h;refine⟨anj L,ayQ hI,rfl,λb=>by cases b<;>exact rfl,au.j7 (alV L s) (by delta Fk Bk fu bq kI cP qd cU aA uk nT fz bP aD fU aX bS cE dS aG KU k7 aU kO tu lg sG uc vf lI ew WS Xw qz1 oA ara nI arl xG iX va aaT;exact rfl) ?_⟩
  have hp:s.length<=L/\s.length<1099511627776:=hp;have hN:ai (SV.dr [jm,.int .i64 A 2]) (.dr [jm,.int .i64 A 2]):=λ_=>rfl;refine⟨hp.2,λa=> ?_,λa=>⟨λb=> ?_,λb=>⟨λc=> ?_,λc=>⟨λd=> ?_,λd=> ?_⟩⟩⟩⟩
  ·have a:bO s=0:=i_ a;have hX:getD s=iL:=by unfold getD;rw[p_ (by omega),p_ (by omega),p_ (by omega)]
   have hr:=WX hp (by omega:0<=bO s);rw[hX] at hr;rw[aBq,azv];exact Nn (L:=L) (X:=iL) hX (by omega) hr (V:=.dr [jm,.int .i64 A 0]) (λ_=>rfl) hN
  ·have b:bO s=1:=i_ b;have hX:getD s=xk s:=by unfold getD;rw[o_ b]
   have hr:=WX hp (by omega:0<=bO s);rw[hX] at hr;rw[aBr s,azw s];exact Nn (L:=L) (X:=xk s) hX (by omega) hr (V:=.dr [(xk s).JI A 1,.int .i64 A 0]) (λ_=>rfl) hN
  ·have c:bO s=2:=i_ c;have hX:getD s=DJ s:=by unfold getD;rw[p_ (by omega),o_ c]
   have hr:=WX hp (by omega:0<=bO s);rw[hX] at hr;rw[aBs s,azx s];exact Nn (L:=L) (X:=DJ s) hX (by omega) hr (V:=.dr [(DJ s).JI A 2,.int .i64 A 0]) (λ_=>rfl) hN
  ·have d:bO s=3:=i_ d;have hX:getD s=oO s:=by unfold getD;rw[p_ (by omega),p_ (by omega),o_ d]
   have hr:=WX hp (by omega:0<=bO s);rw[hX] at hr;rw[lit_3 s,azy s];exact Nn (L:=L) (X:=oO s) hX (by omega) hr (V:=.dr [(oO s).JI A 3,.int .i64 A 0]) (λ_=>rfl) hN
  ·have a:=j_ a;have b:=j_ b;have c:=j_ c;have d:=j_ d;have hk: ¬ 0<=bO s:=λh0=>by have:=asu s;omega
   exact λx=>⟨(λh=>by rw[adh hk] at h;cases h),λ_=>hN⟩
 ·cases h
theorem aj6:aq C 155 (bZ (jS (L+1))):=by
 refine ee (n:=20) bl (by kernel_rfl) (by kernel_rfl) ?_;intro args p a h hp;unfold jS at h;split at h
 ·rename_i t;cases h;refine⟨aw1 L,.of bI (aR.cons (Pm hI) (bK _) zw) aO,rfl,λb=>by cases b<;>exact rfl,au.j7 (as9 L t) (by delta Fk Bk NI fu bx bB bF bq cP cU bE dM aA fR fz bP aD pZ bS gI nu aG KU k7 jj fk kO tu lI z6 FU FE arb mA k8;exact rfl) ?_⟩
  have hp:Rel (L+1) t:=hp;have hN:ai (SV.dr [jm,.bool A D]) (.dr [jm,.bool A D]):=λ_=>rfl;refine⟨λa=>⟨λb=> ?_,λ_=>hN⟩,λa=>⟨?_,λb=>⟨λc=>⟨λd=> ?_,λ_=>hN⟩,λc=>⟨λd=>λ_=>rfl,λd=> ?_⟩⟩,λb=>⟨λd=> ?_,λ_=>hN⟩⟩⟩
  ·have a:=i_ a;have:=vt b;omega
  ·have a:=j_ a;rcases hp.1 with h | h<;>omega
  ·rw[AI,c] at d;simp at d
  ·have a:=j_ a;rw[AI,b,c,k_ (show t.length<32 by omega)] at d;simp at d
  ·rw[AI,b] at d;simp at d
 ·cases h
end
theorem aoI:aq C 155 (bZ (jS 0)):=by
 refine ee (n:=20) bl (by kernel_rfl) (by kernel_rfl) ?_;intro args p a h hp;unfold jS at h;split at h
 ·rename_i t;cases h;have hp:Rel 0 t:=hp;have h32:32<=t.length:=by rcases hp.1 with h | h;exact absurd h (Y _);exact h
  refine⟨ano,ayV,rfl,λb=>by cases b<;>exact rfl,au.j7 (alU t) (by delta Fk Bk NI fu bx bB bq cP cU dM fR fz bP pZ gI nu aG kO tu lI z6 FU FE;exact rfl) ?_⟩
  have hN:ai (SV.dr [jm,.bool A D]) (.dr [jm,.bool A D]):=λ_=>rfl;refine⟨λa=>⟨λb=> ?_,λ_=>hN⟩,λa=> ?_⟩
  ·have:=vt b;omega
  ·have a:=j_ a;omega
 ·cases h
theorem AJ: ∀ L,aq C 155 (bZ (jS L))
 | 0=>aoI
 | L+1=>aj6 (AJ L)
end
section
open Go Sx
set_option maxRecDepth 20000
theorem ai9 (z:Nat)(n:Int):b7 (fun(j:Nat)=>if j=0+(1+(z:Int)+7).toNat then n/1%256 else if j=0+(1+(z:Int)+6).toNat then n/256%256 else if j=0+(1+(z:Int)+5).toNat then n/65536%256 else if j=0+(1+(z:Int)+4).toNat then n/16777216%256 else if j=0+(1+(z:Int)+3).toNat then n/4294967296%256 else if j=0+(1+(z:Int)+2).toNat then n/1099511627776%256 else if j=0+(1+(z:Int)+1).toNat then n/281474976710656%256 else if j=0+(1+(z:Int)+0).toNat then n/72057594037927936%256 else if j=0 then 128 else 0) 0 (1+(z:Int)+8).toNat
  = 128::(ct z 0++UI n):=by
 rw[show(1+(z:Int)+8).toNat=z+9 by omega,show 0+(1+(z:Int)+7).toNat=z+8 by omega,show 0+(1+(z:Int)+6).toNat=z+7 by omega,show 0+(1+(z:Int)+5).toNat=z+6 by omega,
  show 0+(1+(z:Int)+4).toNat=z+5 by omega,show 0+(1+(z:Int)+3).toNat=z+4 by omega,show 0+(1+(z:Int)+2).toNat=z+3 by omega,show 0+(1+(z:Int)+1).toNat=z+2 by omega,show 0+(1+(z:Int)+0).toNat=z+1 by omega]
 apply List.ext_getElem?;intro i;unfold b7;rw[List.getElem?_map];by_cases hi:i<z+9
 ·rw[List.getElem?_range hi];simp only[Option.map_some,cx];cases i with
  | zero =>rw[p_ (by omega),p_ (by omega),p_ (by omega),p_ (by omega),p_ (by omega),p_ (by omega),p_ (by omega),p_ (by omega),o_ rfl];rfl
  | succ i =>
    rw[List.getElem?_cons_succ];by_cases hz:i<z
    ·rw[List.getElem?_append_left (by simpa using hz),List.getElem?_replicate,o_ hz,p_ (by omega),p_ (by omega),p_ (by omega),p_ (by omega),p_ (by omega),p_ (by omega),p_ (by omega),p_ (by omega),p_ (by omega)];rfl
    ·rw[List.getElem?_append_right (by simp;omega),cj];obtain⟨k,rfl⟩: ∃ k,i=z+k:=⟨i-z,by omega⟩
     rw[Nat.add_sub_cancel_left];have hk:k=0∨k=1∨k=2∨k=3∨k=4∨k=5∨k=6∨k=7:=by omega
     rcases hk with rfl | rfl | rfl | rfl | rfl | rfl | rfl | rfl
     ·rw[p_ (by omega),p_ (by omega),p_ (by omega),p_ (by omega),p_ (by omega),p_ (by omega),p_ (by omega),o_ (by omega)];rfl
     ·rw[p_ (by omega),p_ (by omega),p_ (by omega),p_ (by omega),p_ (by omega),p_ (by omega),o_ (by omega)];rfl
     ·rw[p_ (by omega),p_ (by omega),p_ (by omega),p_ (by omega),p_ (by omega),o_ (by omega)];rfl
     ·rw[p_ (by omega),p_ (by omega),p_ (by omega),p_ (by omega),o_ (by omega)];rfl
     ·rw[p_ (by omega),p_ (by omega),p_ (by omega),o_ (by omega)];rfl
     ·rw[p_ (by omega),p_ (by omega),o_ (by omega)];rfl
     ·rw[p_ (by omega),o_ (by omega)];rfl
     ·rw[o_ (by omega)];rfl
 ·rw[b! (by simpa using hi),b! (by simp[UI];omega)];rfl
theorem UN (T:h_):(UM T).length<100:=by simp only[UM,UI,List.length_cons,S,cj,List.length_nil,p6];omega
theorem alC {x:Sh}{T:h_}(hx:Xv x T)(_hT:T.length<1152921504606846976) :
  au (DO af7 61 bf [.ptr 0 A 0] M9 (x,T) (λ_:Unit=>(True,.str D (bg T),(x,T)))):=by
 refine au.j7 (aBV x T) (by delta I6 Ix Sr Er NI dQ fM iu gO tc mq Qh eC bF aj aC fQ az dK dD aA i7 dU iJ fz dA jJ b8 dx A7 kG aT og dR aG cr fO aqV qz9 aqe aqy zP Ie iw aqK zT FR nL;exact rfl) ?_;dsimp only;have hh:=hx.1.h;have hz:(119-x.held)%64=(p6 T:Int):=by rw[hh];unfold p6;omega
 have hl:p6 T<64:=Nat.mod_lt _ (by decide);have hb:x.held<64/\0<=x.held:=by omega
 have hs:=hx.2;have ht:UM T=128::(ct (p6 T) 0++UI (x.size*8%18446744073709551616)):=by rw[hs];rfl
 rw[hz];refine⟨by omega,by omega,by omega,by omega,by omega,by omega,by omega,by omega,by omega,by omega,by omega,by omega,by omega,by omega,by omega,by omega,by omega,by omega,by omega,by omega,by omega,by omega,by omega,by omega,by omega,by omega,by omega,by omega,by omega,by omega,by omega,by omega,by omega,by omega,by omega,by omega,by omega,by omega,by omega,by omega,(x,T),aa.refl _,⟨hx,?_⟩,λy hy=>⟨(),trivial,aa.refl _,?_⟩⟩
 ·rw[ai9,← ht];have:=UN T;omega
 ·rw[ai9,← ht] at hy;have hy:Xv y (jt T):=hy;have w:=hy.1.w;refine dc ?_;unfold bg aBA;rw[← w 0 (by decide),← w 1 (by decide),← w 2 (by decide),← w 3 (by decide),← w 4 (by decide),← w 5 (by decide),← w 6 (by decide),← w 7 (by decide)]
theorem aAd:aq C 61 (Bu M9 Xf):=by
 refine Vc (n:=20) Tryz.func61 (by kernel_rfl) (by kernel_rfl) ai6 ?_;intro args g x h hp;unfold Xf at h;split at h
 ·cases h;obtain⟨x,T⟩:=x;exact⟨af7,[.ptr 0 A 0],ay3,λE=>rfl,rfl,λ_=>rfl,alC hp.1 hp.2⟩
 ·cases h
theorem ako:aR C (λf=>av f ape):=.cons aAd (At _ _) S6
theorem ayX (n:Nat)(f:Nat->h_):Sx.Good C (anp n f):=.of bI ako aO
theorem auQ:Xv ⟨YC,λ_=>0,0,0⟩ []:=by refine⟨⟨⟨by decide,λj _=>by show(0:Int)<=0/\(0:Int)<=255;decide⟩,λj _=>rfl,λj hj=>absurd hj (Y _),rfl⟩,rfl⟩
theorem Gd (f:Nat->h_)(i:Nat):flat (jw f 0 (i+1))=flat (jw f 0 i)++f i:=by unfold flat jw;rw[List.range_succ];simp
theorem VD (f:Nat->h_): ∀ {i n:Nat},i<=n->(flat (jw f 0 i)).length<=(flat (jw f 0 n)).length:=by
 intro i n h;induction n with
 | zero=>obtain rfl:i=0:=by omega
         exact O _
 | succ n ih =>
   by_cases e:i=n+1
   ·subst e;exact O _
   ·have:=ih (by omega);rw[Gd,S];omega
theorem apP (n:Nat)(f:Nat->h_)(z:Bool)(o c:Nat)(key:Option Nat)(h:(flat (jw f 0 n)).length<1152921504606846976)(hn:n<1152921504606846976) :
  au (je (anp n f) 25 a! [.cT 0 1 z o 0 n c] [⟨key,z,o,n,c,[.str f]⟩] (.ret (.str D (bg (flat (jw f 0 n)))))):=by
 refine au.j7 (aCt n f z o c key) (by delta Fk I6 Ix Sr Er NI aM cQ eC bF bq aj bH aC dK dD bt jk aA fz dA cw jJ bJ br aP kG gH dR lS aG cr fO qz4 qz5 aqp Mi qz2 qz3 zZ RJ qz9 aqe aqy avA FD ahF tg qw;exact rfl) ?_;dsimp only;refine⟨⟨(0,⟨YC,λ_=>0,0,0⟩),⟨cy _,auQ⟩,rfl,Sx.aa.cells (λE=>rfl) rfl,aa.refl _,trivial⟩,λg hg=>⟨λa=> ?_,λa=> ?_⟩⟩
 ·have a:=i_ a;have h1:=VD f (i:=g.1+1) (n:=n) (by omega);rw[Gd,S] at h1;rw[M,cx];refine⟨by omega,⟨rfl,by omega⟩,(g.2,flat (jw f 0 g.1)),aa.refl _,⟨hg.2,by omega⟩,λy hy=>⟨by omega,(g.1+1,y),⟨⟨by show g.1+1<=n;omega,?_⟩,by show n-(g.1+1)<n-g.1;omega⟩,by show(g.1:Int)+1=((g.1+1:Nat):Int);omega,aa.refl _,aa.refl _,trivial⟩⟩;show Xv y (flat (jw f 0 (g.1+1)));rw[Gd];exact hy
 ·have a:=j_ a;have hg1:=hg.1;have e:g.1=n:=by omega
  refine⟨(g.2,flat (jw f 0 g.1)),aa.refl _,⟨hg.2,by rw[e];exact h⟩,λ_ _=> ?_⟩;rw[e];exact λ_=>rfl
theorem aBz:aq C 25 (yS ofQ ofG):=by
 refine Xe (gi (n:=20) (fn:=a!) Tryz.func25 (by kernel_rfl) (by kernel_rfl) ?_);intro vs l q a h hq;unfold Jo at h;split at h
 ·rename_i n f r hx;obtain⟨z,o,c,key⟩:=r;cases h;obtain⟨e1,e2⟩:=QK hx;rw[e1,e2];exact⟨_,ayX n f,rfl,rfl,apP n f z o c key hq.1 (by have:=hq.2;rwa [xq] at this)⟩
 ·cases h
theorem Jf (T:h_):(bg T).length=32:=rfl
noncomputable def OZ:List (FuncId×PT):=(25,yS ofQ ofG)::(155,bZ (jS 9223372036854775808))::(127,bZ (wh 9223372036854775808))::ad3 9223372036854775808
theorem Et:aR C (λf=>av f OZ):=.cons aBz (DU _ _) (.cons (AJ _) (bK _) (.cons (Pm (AJ _)) (bK _) (S2 (AJ _))))
noncomputable def N1:iG:={bQ with cO:=λf=>av f OZ}
theorem adk:Sx.Good C N1:=.of bI Et aO
def ZW (x:Nd):fC:=.fork (aZ x) λb=>match b with
 | true=>.ret (.dr [.str D (eM x),.int .i64 A 0])
 | false=>.ret (.dr [.str A [],.int .i64 A 1])
def vA (g:Nd->Option (Prop×fC)):List SV->Option (Prop×fC)
 | [.agg l]=>(match aem l with
   | some x=>g x
   | none=>none)
 | _=>none
theorem AP {g:Nd->Option (Prop×fC)}{args:List SV}{p:Prop}{v:fC}(h:vA g args=G (p,v)): ∃ x,args=[x.sv]/\g x=G (p,v):=by
 unfold vA at h;split at h
 ·split at h
  ·rename_i x hx;exact⟨x,by rw[HV hx],h⟩
  ·cases h
 ·cases h
def j5 (s:h_):h_:=if s.length<32 then s else aS (bg s)
def anP (a b:h_):Bool:=!decide (a=b)&&I (bg a=bg b)
def fP (r:Nat->h_):Nat->Nat
 | 0=>0
 | i+1=>bif cH (r i)then fP r i+1 else fP r i
def iU (r:Nat->h_):Nat->Nat->h_
 | 0=>λ_=>[]
 | i+1=>λj=>bif cH (r i)then(if j=fP r i then af (r i)else iU r i j)else iU r i j
def MU:Nat->Nd->Prop
 | 0,_=>False
 | L+1,x=>∀ j,j<16->x.r j=[]∨((x.r j).length<L/\(x.r j).length<32)
def CU (L:Nat):List SV->Option (Prop×SV):=js λx=>G (MU L x,.bW)
noncomputable def at6:aN :={α:=Nat,pre:=λ_ i=>i<=16,nF:=λ_ i=>16-i,fresh:=0,slots:=λ_ i=>[(7,.int .i64 D i)],mem:=λ_ _=>[]}
noncomputable def af5 (L:Nat):iG:={bQ with cO:=λf=>av f ((128,aI (CU L))::OZ),bU:=λf=>if f=201 then [(1,always at6)] else []}
noncomputable def aA3 (x:Nd):aN :=
 {α:=Nat×Nat,pre:=λ_ g=>g.1<=16/\fP x.r g.1<=g.2,nF:=λ_ g=>16-g.1,fresh:=1,slots:=λ_ g=>[(7,.int .i64 D g.1)],
  mem:=λst g=>[(1,.cells [.bY st.nx 1 A 0 (fP x.r g.1) g.2] 1 29),(st.nx,.rows A (fP x.r g.1) [.str (iU x.r g.1)] D g.2 9)]}
noncomputable def af4 (x:Nd):iG:={bQ with cO:=λf=>av f ((128,aI (CU 64))::OZ),bU:=λf=>if f=201 then [(1,always (aA3 x))] else []}
def Nq (x:Nd):fC:=.fork (aZ x) λb=>match b with
 | true=>.all Nat λc=>.req (fP x.r 16<=c) (.new (λk=>.bY k 1 A 0 (fP x.r 16) c) (.rows A (fP x.r 16) [.str (iU x.r 16)] D c 9))
 | false=>.ret .bW
section
variable (n m k i j l : Nat) (s : h_) (y f : Nat × Nat) (x : Nd) (B : SB) (z : Loop)
abbrev Ul:=mZ x.v x.k (λa=>aU a (B9 x)) x
abbrev FQ:=cP fu kI F
abbrev ahK:=aX (bP FQ (cP (aA (eM x)) (bq 0) F) FQ FQ (aZ x)) (aD (0<=x.k) (x.k<=3) (Nd.An (Ul x))/\bP (cP (aA (eM (Ul x))) (bq 0) F) (cP (aA (eM x)) (bq 0) F) (cP (aA (eM (Ul x))) (bq 0) F) FQ (aZ x)) (aZ (Ul x))
abbrev Uo:=pN 9223372036854775808 (rR x)
abbrev yK:=Sr (gW 19 (Nd.sv x) 138)/\True
abbrev ah1:=gW 19 (SV.agg (fz (bF x.k) (aA x.p) (aA x.v) (aA (oH x)) (jj 1 x::jj 2 x::jj 3 x::fz (jj 4 x) (jj 5 x) (jj 6 x) (jj 7 x) (aG (jj 8 x) (jj 9 x) (jj 10 x) (jj 11 x) (jj 12 x) (jj 13 x) (jj 14 x) (jj 15 x) F)))) 238
abbrev arO:=aj (dB TH) (i5 n) (∃(a:Nat),cK (pH a n) (gS n a) (nQ z) (Sr B) (Sr (eY 1 SV.bW F 29)) (yK x))
abbrev om:=(getD (qc n x)).r m
abbrev yC:=Rel 9223372036854775808 s
abbrev lG:=fP x.r y.1
abbrev PX:=aP 16 y.1 16 f.1
abbrev Mc:=y.1<=16
abbrev ur:=y.2=f.2
abbrev iM:=Int.toNat (eD y)
abbrev aqM:=az (dB (eY 1 (dh Fz 1 (lG y x) y.2) F 29)) (gZ (lG y x) (lG y x) (2*(lG y x+0)*16) (lG y x+0)) (BF y) (∀(a:Nat),cN (lG y x+0) a (dD (eD y)) (∃(b:Nat×Nat),aT (aD (Mc b) (lG b x<=b.2) (PX b y)) (bt (eD y) (eD b)) kL (nG (lG y x+0) (lG b x) (a=b.2)) True (cv (lG y x+0) (aF a) (bN (lG b x) b.2 9 (bJ (iU x.r b.1) F)) 9 (bJ (iU x.r y.1) F)) (nQ z) (Sr B) (yK x)))
abbrev T4:=bN (lG y x) y.2 9 (bJ (iU x.r y.1) F)
abbrev aaR:=Mc y/\lG y x<=y.2
abbrev oB:=(getD (mF (iM y) x)).r n
abbrev gL:=gZ n m (k*aB i*j) (aB l)
end
theorem alW (x:Nd):VC.holds (jd N1 105 an [x.sv] (ZW x))=(Uo x/\ahK x):=by kernel_rfl
theorem aBU (s:h_)(R:SV->Prop):VC.holds (eS N1 150 ay [.str D s] R)=((I ((↑s.length:Int)<(32:Int))=A->R (SV.str D s))/\(I ((↑s.length:Int)<(32:Int))=D->(True/\ofQ [s])/\(32:Nat)<(1152921504606846976:Nat)/\R (SV.str D (aS (bg (flat [s])))))):=by kernel_rfl
theorem aAs (L:Nat)(x:Nd)(R:SV->Prop):VC.holds (eS (af5 L) 128 J [x.sv] R)=((fun(a:SB)=>cE (Uo x) (R SV.bW) (∀(b:Loop),cR (∀(c:Nat),mJ c->Fk (qN c) (aY (LY c) (gX (Er b) (cW (qc c x)) (∀(d:Nat),cN 1 d (i5 c) (∃(e:Nat),cK (pH e c) (gS c e) (nQ b) (Sr a) (bH 1 (eY 1 SV.bW F 29) [SV.slc (aB (Fz+0)) 0 1 D d] 29) (yK x))) (aY (yC (qc c x)) (MU L (mZ (getD (qc c x)).v (getD (qc c x)).k (λa=>aU a (dS (om c 0 x) (om c 1 x) (om c 2 x) (om c 3 x) (om c 4 x) (om c 5 x) (om c 6 x) (om c 7 x) (dS (om c 8 x) (om c 9 x) (om c 10 x) (om c 11 x) (om c 12 x) (om c 13 x) (om c 14 x) (om c 15 x) F))) (getD (qc c x)))/\arO c x a b) (MU L va/\arO c x a b) (cS (qc c x))) (cH (qc c x))) (dF c (λd=>cK (pH d c) (gS c d) (nQ b) (Sr a) (Sr TH) (yK x))) (DH c x)) (R SV.bW)) (λc=>cK (mJ c) (fy c) (nQ b) (Sr a) (Sr TH) (yK x))) (aZ (Mh x))) (ah1 x)):=by kernel_rfl
theorem as8 (x:Nd):VC.holds (jd (af4 x) 128 J [x.sv] (Nq x))=((fun(a:SB)=>cE (Uo x) (Bk (aZ x) (∃(a:Nat),br (fP x.r 16) a False) (ai SV.bW SV.bW)) (∀(b:Loop),(∃(c:Nat×Nat),az (aaR c x) (mL c) kL (aC (lG c x=0) (fo (T4 c x)) (nQ b) (Sr a) (yK x)))/\(∀(c:Nat×Nat),aaR c x->aM (eD c) 16 (cE (dU (eD c) (eD c<16) (eD c<NI 16)) (gX (Er b) (cW (mF (iM c) x)) (aj (gL (lG c x) (lG c x) 2 (lG c x) 16 (lG c x)) (BF c) (∀(d:Nat),cN (aB (lG c x)) d (kP c) (∃(e:Nat×Nat),aT (aaR e x/\PX e c) (j8 c e) kL (nG (aB (lG c x)) (lG e x) (d=e.2)) True (eZ (aB (lG c x)) (aF d) (λa=>dg a (lG c x) a (lG c x) (iU x.r c.1 a) (af (mF (iM c) x))) (T4 e x) 9) (nQ b) (Sr a) (yK x)))) (aY (yC (mF (iM c) x)) (MU 64 (mZ (getD (mF (iM c) x)).v (getD (mF (iM c) x)).k (λa=>aU a (dS (oB 0 c x) (oB 1 c x) (oB 2 c x) (oB 3 c x) (oB 4 c x) (oB 5 c x) (oB 6 c x) (oB 7 c x) (dS (oB 8 c x) (oB 9 c x) (oB 10 c x) (oB 11 c x) (oB 12 c x) (oB 13 c x) (oB 14 c x) (oB 15 c x) F))) (getD (mF (iM c) x)))/\aqM c x a b) (MU 64 va/\aqM c x a b) (cS (mF (iM c) x))) (cH (mF (iM c) x))) (kP c/\(∃(d:Nat×Nat),aT (aaR d x/\PX d c) (j8 c d) kL (nG (lG c x) (lG d x) (ur c d)) True (aa (T4 c x) (T4 d x)) (nQ b) (Sr a) (yK x))) (I (mF (iM c) x=[]))) (Bk (aZ x) (∃(a:Nat),dx (fP x.r 16<=a) (aa (T4 c x) (cY (fP x.r 16) a (iU x.r 16) 9)) (dh Fz 1 (lG c x) c.2) (dh Fz 1 (fP x.r 16) a)) (ai (dh Fz 1 (lG c x) c.2) SV.bW)))) (aZ (Mh x))) (ah1 x)):=by kernel_rfl
structure Nd.JK (x y:Nd):Prop where
 k:x.k=y.k
 p:x.p=y.p
 v:x.v=y.v
 r: ∀ j,j<16->x.r j=y.r j
theorem Zh {inl:h_->Bool}{r r':Nat->h_}: ∀ {n:Nat},(∀ j,j<n->r j=r' j)->rC inl r n=rC inl r' n/\fH r n=fH r' n
 | 0,_=>⟨rfl,rfl⟩
 | n+1,h=>by obtain⟨h1,h2⟩:=Zh (inl:=inl) (n:=n) λj hj=>h j (by omega);simp only[rC,fH,h1,h2,h n (by omega),and_self]
theorem qX (h:x.JK y):aZ x=aZ y:=by
 obtain⟨h1,h2⟩:=Zh (inl:=cS) h.r;have e0:wA x=wA y:=by
  unfold wA;rw[h.k,h.p,h.v];congr 3;rw[Bool.eq_iff_iff,b_,b_];constructor
  ·intro g j hj;rw[← h.r j (cl.1 hj)];exact g j hj
  ·intro g j hj;rw[h.r j (cl.1 hj)];exact g j hj
 have e1:sD x=sD y:=by unfold sD pF;rw[h.p,h.v,lN h.r]
 have e2:yu cS x=yu cS y:=by unfold yu pF;rw[h.p,h.v,lN h.r,h.r 0 (by decide)]
 have e3:iS cS x=iS cS y:=by unfold iS;rw[h.p,h.v,h1,h2]
 unfold aZ mN;rw[h.k,e0,e1,e2,e3]
theorem EG (h:x.JK y):eM x=eM y:=by
 have e1:sE x=sE y:=by unfold sE fB;rw[h.p,h.v]
 have e2:B8 x=B8 y:=by unfold B8 fB;rw[h.p,h.r 0 (by decide)]
 have e3:mc x=mc y:=by
  have hb: ∀ j,j<16->dX x.r 16 j=dX y.r 16 j:=λj hj=>by unfold dX;rw[h.r j hj]
  unfold mc;rw[hb 0 (by decide),hb 1 (by decide),hb 2 (by decide),hb 3 (by decide),hb 4 (by decide),hb 5 (by decide),hb 6 (by decide),hb 7 (by decide),hb 8 (by decide),hb 9 (by decide),hb 10 (by decide),hb 11 (by decide),hb 12 (by decide),hb 13 (by decide),hb 14 (by decide),hb 15 (by decide),h.v]
 unfold eM;rw[h.k,e1,e2,e3]
theorem o8 (x:Nd):Nd.JK {k:=x.k,p:=x.p,v:=x.v,r:=fun(i:Nat)=>[x.r 0,x.r 1,x.r 2,x.r 3,x.r 4,x.r 5,x.r 6,x.r 7,x.r 8,x.r 9,x.r 10,x.r 11,x.r 12,x.r 13,x.r 14,x.r 15].getD i []} x:=⟨rfl,rfl,rfl,λj hj=>jr x.r j hj⟩
theorem Nd.An.same (h:x.JK y)(hf:y.An):x.An:=⟨by rw[h.p];exact hf.p,by rw[h.v];exact hf.v,λj hj=>by rw[h.r j hj];exact hf.r j hj⟩
def Fits (x:Nd):Prop:=∀ j,j<16->(x.r j).length<9223372036854775808
theorem HA (h:Fits x):pN 9223372036854775808 (fun(i:Nat)=>[x.r 0,x.r 1,x.r 2,x.r 3,x.r 4,x.r 5,x.r 6,x.r 7,x.r 8,x.r 9,x.r 10,x.r 11,x.r 12,x.r 13,x.r 14,x.r 15].getD i []):=λj hj=>by show Rel _ ([x.r 0,x.r 1,x.r 2,x.r 3,x.r 4,x.r 5,x.r 6,x.r 7,x.r 8,x.r 9,x.r 10,x.r 11,x.r 12,x.r 13,x.r 14,x.r 15].getD j []);rw[jr x.r j hj];exact⟨.inl (h j hj),h j hj⟩
theorem aet:aq C 105 (bZ (vA λx=>G (Fits x,ZW x))):=by
 refine ee (n:=20) Tryz.func105 (by kernel_rfl) (by kernel_rfl) ?_;intro args p a h hp;obtain⟨x,hx,hg⟩:=AP h;subst hx;cases hg;refine⟨N1,adk,rfl,λb=>by cases b<;>exact rfl,au.j7 (alW x) (by delta Bk fu bq kI cP aA bP aD aX dS B9 mZ aU rR Ul FQ ahK Uo;exact rfl) ?_⟩
 have e:=qX (o8 x);have e2:=EG (o8 x);refine⟨HA hp,λa=> ?_,λa=> ?_⟩
 ·rw[e] at a;have a:aZ x=false:=by simpa using a
  rw[a];exact⟨(λh=>by cases h),λ_ _=>rfl⟩
 ·rw[e] at a;have a:aZ x=true:=by simpa using a
  have hs:=kj a;rw[e2,a];exact⟨⟨hs.k,Nd.An.same (o8 x) hs.few⟩,λ_ _=>rfl,λh=>by cases h⟩
theorem aw6 (s:h_):flat [s]=s:=by simp[flat]
theorem aCk (h:s.length<1152921504606846976):True/\ofQ [s]:=⟨trivial,by rw[aw6];exact h,by simp⟩
def EJ:List SV->Option (Prop×SV)
 | [.str D s]=>G (s.length<1152921504606846976,.str D (j5 s))
 | _=>none
theorem aeu:aq C 150 (aI EJ):=by
 refine iH adk (n:=20) Tryz.func150 (by kernel_rfl) (by kernel_rfl) ?_;intro args p r h hp;unfold EJ at h;split at h
 ·rename_i s;cases h;refine⟨rfl,rfl,au.of_eq (aBU s _) ⟨λa=> ?_,λa=>⟨aCk hp,by omega,?_⟩⟩⟩
  ·have a:=i_ a;exact dc (by rw[j5,o_ (by omega)])
  ·have a:=j_ a;exact dc (by rw[j5,p_ (by omega),aw6])
 ·cases h
theorem Zy (h:MU L x): ∃ K,L=K+1/\∀ j,j<16->x.r j=[]∨((x.r j).length<K/\(x.r j).length<32):=by
 cases L with
 | zero=>exact h.elim
 | succ K=>exact⟨K,rfl,h⟩
theorem akH (h:MU L x):Fits x:=λj hj=>by
 obtain⟨K,_,h⟩:=Zy h;rcases h j hj with h | h
 ·rw[h];simp
 ·omega
theorem Wp {t:h_}(hk:0<=bO t)(h:t.length<L)(h32:t.length<32):MU L (getD t):=by
 cases L with
 | zero=>exact absurd h (Y _)
 | succ L =>
   intro j _;by_cases e:(getD t).r j=[]
   ·exact .inl e
   ·have:=WV hk j e;exact .inr ⟨by omega,by omega⟩
theorem Ti (h:x.JK y)(hn:MU L y):MU L x:=by
 cases L with
 | zero=>exact hn.elim
 | succ L=>intro j hj;rw[h.r j hj];exact hn j hj
theorem Tj (h:0<L):MU L iL:=by
 cases L with
 | zero=>omega
 | succ L=>intro j hj;exact .inl (jr (λ_=>[]) j hj)
theorem Ei {t:h_}(h:cS t=A):0<=bO t/\bM t=A/\(getD t).k≠0:=by
 rw[AI] at h;simp only[Bool.and_eq_true,m_,Bool.not_eq_true',n_] at h;refine⟨?_,h.2.1,h.2.2⟩;by_cases g:0<=bO t
 ·exact g
 ·rw[adh g] at h;exact absurd h.2.1 (by decide)
theorem akI (hH:aq C 128 (aI (CU L))):aq C 128 (aI (CU (L+1))):=by
 refine LL Q (by kernel_rfl) (by kernel_rfl) λx p v h hp=> ?_;cases h;have hp:MU (L+1) x:=hp;refine⟨af5 L,[x.sv],.of bI (aR.cons hH (aE _) Et) aO,λE=>rfl,rfl,rfl,au.j7 (aAs L x _) (by delta Fk Bk I6 Sr Er NI aJ bF aj bH aC bt aA dU eY fz dy cW aY aX nQ aB oE Fz gW TH br cK gX aP cN gS fy i5 cR dF cE dS B9 lu aG pH LY qN mJ mF qc DH jj dB mZ aU Mh rR oH WS Xw iX va Uo yK ah1 arO om yC;exact rfl) ?_⟩;refine⟨HA (akH hp),λ_ _=>rfl,λ_ R=>⟨⟨0,by omega,rfl,aa.refl _,aa.refl _,aa.refl _,aa.refl _,trivial⟩,λi hi=>⟨λc=> ?_,λ_ _=>rfl⟩⟩⟩;have c:=i_ c;have ei:i<16:=by omega
 rw[M,B5 x.r ei];refine⟨by omega,λd=> ?_,λd=>⟨by omega,i+1,by omega,by omega,aa.refl _,aa.refl _,aa.refl _,aa.refl _,trivial⟩⟩;have d: ¬ x.r i=[]:=by simpa using d
 obtain⟨hl,h32⟩:(x.r i).length<L/\(x.r i).length<32:=by
  rcases hp i ei with h | h
  ·exact absurd h d
  ·exact h
 have hlp:0<L:=by omega
 refine⟨rfl,by omega,λe=> ?_,λe=>⟨⟨.inl (by omega),by omega⟩,λf=>⟨?_,rfl,by omega,i+1,by omega,by omega,aa.refl _,aa.refl _,aa.refl _,aa.refl _,trivial⟩,λf=>⟨Tj hlp,rfl,by omega,i+1,by omega,by omega,aa.refl _,aa.refl _,aa.refl _,aa.refl _,trivial⟩⟩⟩
 ·have:=ru e;omega
 ·exact Ti (o8 (getD (x.r i))) (Wp (Ei f).1 hl h32)
theorem Zw: ∀ L,aq C 128 (aI (CU L))
 | 0=>LL Q (by kernel_rfl) (by kernel_rfl) λx p v h hp=>by injection h with h;injection h with h1 h2;subst h1;exact hp.elim
 | L+1=>akI (Zw L)
theorem HE (r:Nat->h_): ∀ i,fP r i<=i
 | 0=>O _
 | i+1=>by have:=HE r i;unfold fP;cases cH (r i)<;>simp only[cond_true,cond_false]<;>omega
theorem ayL (x:Nd):Sx.Good C (af4 x):=.of bI (aR.cons (Zw 64) (aE _) Et) aO
theorem YD {r:Nat->h_}(h:cH (r i)=A)(j:Nat)(hj:j<fP r i+1):(if j<fP r i then iU r i j else l9 [af (r i)] (j-fP r i))=iU r (i+1) j:=by
 show _=(bif cH (r i)then(if j=fP r i then af (r i)else iU r i j)else iU r i j)
 rw[h];simp only[cond_true];by_cases e:j<fP r i
 ·rw[o_ e,p_ (by omega)]
 ·have e:j=fP r i:=by omega
  subst e;rw[p_ (by omega),o_ rfl,Nat.sub_self];rfl
theorem Gg {r:Nat->h_}(h:cH (r i)=A):fP r (i+1)=fP r i+1:=by rw[fP,h];rfl
theorem jE {r:Nat->h_}(h:cH (r i)=D):fP r (i+1)=fP r i/\∀ j,iU r (i+1) j=iU r i j:=by
 refine⟨by rw[fP,h];rfl,λj=> ?_⟩;show(bif cH (r i)then(if j=fP r i then af (r i)else iU r i j)else iU r i j)=_
 rw[h];rfl
theorem VO (hp:Fits x):au (jd (af4 x) 128 J [x.sv] (Nq x)):=by
 refine au.j7 (as8 x) (by delta Fk Bk I6 Sr Er NI aM aJ aF bF aj aC az dK dD bt aA dU eY fz dy cW aY aD aX nQ bN bJ cY aB oE Fz gW b8 gZ dh cv bA aV br fo nG dx eZ dg gX kL eD BF j8 mL kP aP cN aT cE dS B9 aG mF jj dB mZ aU Mh rR oH WS Xw iX va Uo yK ah1 yC lG PX Mc ur iM aqM T4 aaR oB gL;exact rfl) ?_;have ev:=qX (o8 x);rw[ev];refine⟨HA hp,λa=>⟨λb=> ?_,λ_ _=>rfl⟩,λa R=>⟨⟨(0,0),⟨cy _,O _⟩,rfl,rfl,rfl,rfl,aa.refl _,aa.refl _,aa.refl _,trivial⟩,λg hg=>⟨λc=> ?_,λc=> ?_⟩⟩⟩
 ·rw[b] at a;cases a
 ·have c:=i_ c;have ei:g.1<16:=by omega
  rw[M,B5 x.r ei];have hf:=hp g.1 ei;have hn:=HE x.r g.1;have hg2:=hg.2;have hs:aZ x=true:=by simpa using a
  refine⟨by omega,λd=> ?_,λd=> ?_⟩
  ·have d: ¬ x.r g.1=[]:=by simpa using d
   refine⟨rfl,hf,λe=> ?_,λe=>⟨⟨.inl hf,hf⟩,λf=> ?_,λf=> ?_⟩⟩
   ·refine⟨⟨by omega,trivial,by omega,by omega⟩,by omega,λcap hcap=>⟨by omega,(g.1+1,cap),⟨⟨by show g.1+1<=16;omega,?_⟩,by show 16-(g.1+1)<_;omega⟩,by show(g.1:Int)+1=((g.1+1:Nat):Int);omega,rfl,⟨rfl,(Gg e).symm,rfl⟩,trivial,?_,aa.refl _,aa.refl _,aa.refl _,trivial⟩⟩
    ·show fP x.r (g.1+1)<=cap;rw[Gg e];exact hcap
    ·exact Sx.aa.tO (Gg e).symm (W cap) λj hj=>YD e j hj
   ·have hk:=Ei f;have hil:=vt f;refine⟨Ti (o8 (getD (x.r g.1))) (Wp hk.1 (by omega) hil),rfl,⟨by omega,trivial,by omega,by omega⟩,by omega,λcap hcap=>⟨by omega,(g.1+1,cap),⟨⟨by show g.1+1<=16;omega,?_⟩,by show 16-(g.1+1)<_;omega⟩,by show(g.1:Int)+1=((g.1+1:Nat):Int);omega,rfl,⟨rfl,(jE e).1.symm,rfl⟩,trivial,?_,aa.refl _,aa.refl _,aa.refl _,trivial⟩⟩
    ·show fP x.r (g.1+1)<=cap;rw[(jE e).1];exact hcap
    ·exact Sx.aa.tO (jE e).1.symm (W cap) λj _=>((jE e).2 j).symm
   ·refine⟨Tj (by decide),rfl,⟨by omega,trivial,by omega,by omega⟩,by omega,λcap hcap=>⟨by omega,(g.1+1,cap),⟨⟨by show g.1+1<=16;omega,?_⟩,by show 16-(g.1+1)<_;omega⟩,by show(g.1:Int)+1=((g.1+1:Nat):Int);omega,rfl,⟨rfl,(jE e).1.symm,rfl⟩,trivial,?_,aa.refl _,aa.refl _,aa.refl _,trivial⟩⟩
    ·show fP x.r (g.1+1)<=cap;rw[(jE e).1];exact hcap
    ·exact Sx.aa.tO (jE e).1.symm (W cap) λj _=>((jE e).2 j).symm
  ·have d:x.r g.1=[]:=by simpa using d
   have e:cH (x.r g.1)=false:=by rw[d];rfl
   refine⟨by omega,(g.1+1,g.2),⟨⟨by show g.1+1<=16;omega,?_⟩,by show 16-(g.1+1)<_;omega⟩,by show(g.1:Int)+1=((g.1+1:Nat):Int);omega,rfl,⟨rfl,(jE e).1.symm,rfl⟩,trivial,?_,aa.refl _,aa.refl _,aa.refl _,trivial⟩
   ·show fP x.r (g.1+1)<=g.2;rw[(jE e).1];exact hg2
   ·exact Sx.aa.tO (jE e).1.symm rfl λj _=>((jE e).2 j).symm
 ·have c:=j_ c;have hg1:=hg.1;have e:g.1=16:=by omega
  have hg2:=hg.2;rw[e] at hg2 ⊢;exact⟨λ_=>⟨g.2,hg2,aa.refl _,λ_=>rfl⟩,λh=>by rw[h] at a;cases a⟩
theorem aj1:aq C 128 (bZ (vA λx=>G (Fits x,Nq x))):=by
 refine ee (n:=20) Q (by kernel_rfl) (by kernel_rfl) ?_;intro args p a h hp;obtain⟨x,hx,hg⟩:=AP h;subst hx;cases hg;refine⟨af4 x,ayL x,rfl,λb=> ?_,VO hp⟩;cases b with
 | false=>exact rfl
 | true =>
   intro c;refine⟨rfl,rfl,λk=>by simp[SV.wf,Nat.blt_eq],λE E' k k' h=> ?_⟩;cases hn:fP x.r 16 with
   | zero=>rfl
   | succ n =>rw[hn] at h;have hk:E k=E' k':=h rfl;simp[SV.val,hk]
end
end Go.Proofs.YtoibaecagklkaaaGreatDoor
