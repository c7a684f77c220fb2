/- A part of the proof. -/
import Derived.Test.YtoibaecagklkaaaGreatDoorMt
open Bool renaming eq_false_iff->a_,false->F,true->H
open Go.BinOp renaming or->X
open Go.Op renaming bytesLess->ag
open Go.Operand renaming tmp->an
open Go.Proofs.Tryz renaming f135->bf,f137->bl,f141->b_,f176->b!,f177->Q,f90->bn,func141->cj,prog->M
open Int renaming toNat_natCast->a!
open List renaming append_assoc->cl,cons_append->ct,getD_eq_getElem?_getD->cx,length->ay,length_append->bW,length_cons->cy,length_drop->c7,length_nil->c8,length_replicate->c_,nil->J,replicate->Y
open Option renaming none->O,some->I
namespace Go.Proofs.YtoibaecagklkaaaGreatDoor
open Go Sx
variable {s:h_}{L:Nat}
section
open Go Sx
set_option maxRecDepth 20000
section
variable (n m : Nat) (s : h_) (v w x y : SV) (B : SB) (z f g h : Nat-> Nat-> SV) (A : Nat-> SV) (o : Nat-> SB)
abbrev ahI:Nat->h_:=λa=>aU a (dS (mw n 0 s) (mw n 1 s) (mw n 2 s) (mw n 3 s) (mw n 4 s) (mw n 5 s) (mw n 6 s) (mw n 7 s) (dS (mw n 8 s) (mw n 9 s) (mw n 10 s) (mw n 11 s) (mw n 12 s) (mw n 13 s) (mw n 14 s) (mw n 15 s) J))
abbrev aqr:=aC (cw (ck (af s)) 16) (16<ck (af s)) (cW (lg 16 s)) (pN n (ahI m s)/\Uf) (Bk (aZ (iX (jF (lg 16 s)) 3 (ahI m s))) (aX (bP v w v x (bM s)) (bP (A m) w (A m) x (bM s)) (ew (eM (iX (jF (lg 16 s)) 3 (ahI m s))) s)) (bP v w v x (bM s)))
abbrev WR:=aD (pN n Xw) Uf (Bk (aZ (iX J 0 Xw)) (aX (bP v w v x (bM s)) (bP y w y x (bM s)) (ew (eM (iX J 0 Xw)) s)) (bP v w v x (bM s)))
abbrev Fv:=gM (jF (lg 0 s))
abbrev aas:=aC (fE n (rN s)) (0+lu n<vb s) oN (mT m o) (aX (cK (fE n (rN s)) (0+lu n<vb s) (fE n 16) (lu n<16) (I6 (NI n+1)) (∃(a:Nat),cX (pH a n) (gS n a) (Di m B o) (GI n z) (GI a f))) (I6 (NI n+1)/\(∃(a:Nat),cX (pH a n) (gS n a) (Di m B o) (GI n g) (GI a h))) (ew (lg (0+lu n) s) jX))
abbrev aiI:Nat->h_:=λa=>aU a (sG s::WS)
abbrev aqX:=aD (pN n (aiI s)) (dA (Fv s)) (Bk (aZ (Nd.mk 2 (Fv s) J (aiI s))) (aX (xG s v w x) (xG s y w x) (ew (eM (Nd.mk 2 (Fv s) J (aiI s))) s)) (xG s v w x))
abbrev aax:Nat->SV:=λa=>gI (k7 (bF 3) (uc::aA (jF (lg 16 s))::z 0 a::T5 a z))
abbrev aq6:=aD (pN n Xw) (dA (Fv s)) (Bk (aZ (Nd.mk 1 (Fv s) (jF (sG s)) Xw)) (aX (xG s v w x) (xG s y w x) (ew (eM (Nd.mk 1 (Fv s) (jF (sG s)) Xw)) s)) (xG s v w x))
abbrev art:List SV:=aA (Fv s)::aA (jF (sG s))::fu::tu
end
theorem awj (L:Nat)(s:h_):VC.holds (jd (ana L s) 135 bf [.str F s] (ar4 s))=((fun(a:Nat->Nat->SV)=>(fun(b:Nat->Nat->SV)=>(fun(c:Nat->Nat->SV)=>(fun(d:Nat->Nat->SV)=>(fun(e:Nat->Nat->SV)=>(fun(f:Nat->Nat->SV)=>(fun(g:Nat->Nat->SV)=>(fun(h:Nat->Nat->SV)=>(fun(i:Nat->Nat->SV)=>(fun(j:Nat->Nat->SV)=>(fun(k:Nat->Nat->SV)=>(fun(l:Nat->Nat->SV)=>(fun(m:Nat->Nat->SV)=>(fun(n:Nat->Nat->SV)=>(fun(o:Nat->Nat->SV)=>(fun(p:Nat->Nat->SV)=>(fun(q:Nat->Nat->SV)=>(fun(r:Nat->Nat->SV)=>(fun(t:Nat->Nat->SV)=>(fun(u:Nat->Nat->SV)=>(fun(v:SV)=>(fun(w:SB)=>(fun(x:SV)=>(fun(y:Nat->SB)=>(fun(z:SV)=>(fun(A:SV)=>(fun(C:SV)=>(fun(u2:SV)=>(fun(D:SB)=>(fun(E:Nat->SV)=>(fun(G:Nat->SV)=>(fun(H:Nat->SV)=>(fun(I:Nat->SV)=>aM 1000 (bB s) (xG s v z A) (aY (cW s) (aY (tn (DE s)) (∀(B:Nat),aJ (vb s) B (Bk (e9 s) (bE (rN s) 2 (aC (Ix 0 (rN s)) (0<vb s) (cW (vf s)) (ay (jF (vf s))<536870912) (Bk (gU (jF (vf s))) (Bk (fc (jF (vf s))) (az (Ix 1 (rN s)) (1<vb s) (cW (sG s)) (Bk (e9 s) (bE (rN s) 17 (cR (∀(a:Nat),mJ a->Fk (qN a) (aas a B s w b c d e y) (aqr L a s v z A H)) (λb=>az (mJ b) (fy b) (bH 19 (GI b a) (bq 3::art s) 138) (Di B w y))) (aq6 L s v z A C)) (aq6 L s v z A C))) (gX (Ix 1 (rN s)) (1<vb s) (bE (rN s) 17 (cR (∀(a:Nat),mJ a->Fk (qN a) (aas a B s w g h i j y) (aqr L a s v z A I)) (λa=>az (mJ a) (fy a) (bH 19 (GI a f) (fz (bq 3) (aA (Fv s)) fu (aA (sG s)) tu) 138) (Di B w y))) (aqX L s v z A u2)) (aqX L s v z A u2) (e9 s))) (xG s v z A))) (Bk (e9 s) (bE (rN s) 17 (cR (∀(a:Nat),mJ a->Fk (qN a) (aas a B s w l m n o y) (aqr L a s v z A E)) (λa=>cX (mJ a) (fy a) (Di B w y) D (GI a k))) (WR L s v z A x)) (WR L s v z A x))) (Bk (e9 s) (bE (rN s) 17 (cR (∀(a:Nat),mJ a->Fk (qN a) (aas a B s w q r t u y) (aqr L a s v z A G)) (λa=>cX (mJ a) (fy a) (Di B w y) D (GI a p))) (WR L s v z A x)) (WR L s v z A x)))) (Bk (e9 s) (Bk (e9 s) (WR L s v z A x) (WR L s v z A x)) (Bk (e9 s) (WR L s v z A x) (WR L s v z A x))) (ga (af s))) (aY (tn 0) (∀(a:Nat),aJ 0 a (xG s v z A)) (xG s v z A) (ga J)) (c9 s))) (aax s i)) (aax s d)) (aax s t)) (aax s n)) My) (gI (SV.agg (fz (bq 2) (aA (Fv s)) fu (yF 1 (ax (af s))) tu)))) (gI (k7 kI (art s)))) (cU jm nu)) (FU s)) (λa=>cY (vb s) a (ax (af s)) 9)) (gI lI)) (gW 19 lI 138)) z6) (pG s)) (pG s)) (pG s)) (Ql s)) (pG s)) (pG s)) (pG s)) (pG s)) (Ql s)) (pG s)) (pG s)) (pG s)) (pG s)) (Ql s)) (pG s)) (pG s)) (pG s)) (pG s)) (Ql s)) (pG s)):=by kernel_rfl
theorem avX {x y:Nd}(h:x.JK y):x.sv=y.sv:=by unfold Nd.sv Nd.JI Qy;rw[h.k,h.p,h.v,h.r 0 (by decide),h.r 1 (by decide),h.r 2 (by decide),h.r 3 (by decide),h.r 4 (by decide),h.r 5 (by decide),h.r 6 (by decide),h.r 7 (by decide),h.r 8 (by decide),h.r 9 (by decide),h.r 10 (by decide),h.r 11 (by decide),h.r 12 (by decide),h.r 13 (by decide),h.r 14 (by decide),h.r 15 (by decide)]
def noQ:SV:=.dr [jm,.bool H F]
def afH (x:Nd):SV:=.dr [x.sv,.bool H H]
theorem KG (h:bM s=F):(bM s=H->ai noQ (afH (getD s)))/\(bM s=F->ai noQ noQ) :=⟨λh'=>(by rw[h] at h';cases h'),λ_ _=>rfl⟩
theorem I1 {x:Nd}{V:SV}(hr:pN L x.r)(hp:x.p.length<1152921504606846976)(hV:ai V (afH x))(hx:bM s=H->(getD s).JK x) :
  (pN L x.r/\x.p.length<1152921504606846976)/\
  (aZ x=H->((!decide (eM x=s))=H->(bM s=H->ai noQ (afH (getD s)))/\(bM s=F->ai noQ noQ))/\
    ((!decide (eM x=s))=F->(bM s=H->ai V (afH (getD s)))/\(bM s=F->ai V noQ)))/\
  (aZ x=F->(bM s=H->ai noQ (afH (getD s)))/\(bM s=F->ai noQ noQ)):=by
 refine⟨⟨hr,hp⟩,λa=>⟨λb=> ?_,λb=> ?_⟩,λa=> ?_⟩
 ·have b: ¬ eM x=s:=by simpa using b
  refine KG (a_.2 λh=>b ?_);rw[← EG (hx h)];exact(Ef h).2.2
 ·have b:eM x=s:=by simpa using b
  obtain⟨g1,g2⟩:=aok a b;rw[g1];exact⟨λ_=>by rw[afH,avX g2];exact hV,λh=>by cases h⟩
 ·refine KG (a_.2 λh=> ?_);have:=(Ef h).2.1;rw[qX (hx h),a] at this;cases this
theorem wq {t:h_}(h:gk t=H):jF t=af t:=by rw[jF,(zD.1 h).1];rfl
theorem afd (h:bO s=0):getD s=iL:=by unfold getD;rw[p_ (by omega),p_ (by omega),p_ (by omega)]
theorem oR (h:bM s=H):(s=[128]/\getD s=iL)∨(s≠[128]/\c9 s=H/\e9 s=H/\ga (af s)=H/\
  ((ck (af s)=2/\gk (ax (af s) 0)=H/\gU (af (ax (af s) 0))=H/\((fc (af (ax (af s) 0))=H/\gk (ax (af s) 1)=H/\getD s=xk s)∨(fc (af (ax (af s) 0))=F/\getD s=DJ s))) ∨
   (ck (af s)=17/\gk (ax (af s) 16)=H/\getD s=oO s))):=by
 have h0:=(Ef h).1;by_cases e:s=[128]
 ·exact .inl ⟨e,afd (by rw[bO,o_ e])⟩
 ·refine .inr ⟨e,?_⟩;have hk:bO s=bif c9 s&&(e9 s&&decide (aH s=[]))then u9 (af s)else -1:=by rw[bO,p_ e]
  cases c1:(c9 s&&(e9 s&&decide (aH s=[])))with
  | false=>rw[c1] at hk;rw[hk] at h0;exact absurd h0 (show ¬ (0:Int)<= -1 by decide)
  | true =>
    rw[c1] at hk;simp only[Bool.and_eq_true] at c1;have hk:bO s=u9 (af s):=hk;refine⟨c1.1,c1.2.1,?_⟩;cases c2:ga (af s)with
    | false=>rw[hk,u9,c2] at h0;exact absurd h0 (show ¬ (0:Int)<= -1 by decide)
    | true =>
      refine⟨rfl,?_⟩;rw[u9,c2,cond_true] at hk;by_cases n2:ck (af s)=2
      ·refine .inl ⟨n2,?_⟩;rw[o_ n2,xY] at hk;cases c3:gk (ax (af s) 0)with
       | false=>rw[hk,c3] at h0;exact absurd h0 (show ¬ (0:Int)<= -1 by decide)
       | true =>
         cases c4:gU (af (ax (af s) 0))with
         | false=>rw[hk,c3,c4] at h0;exact absurd h0 (show ¬ (0:Int)<= -1 by decide)
         | true =>
           refine⟨rfl,rfl,?_⟩;rw[c3,c4] at hk;cases c5:fc (af (ax (af s) 0))with
           | false =>rw[c5] at hk;have hk:bO s=2:=hk;exact .inr ⟨rfl,by unfold getD;rw[p_ (by omega),o_ hk]⟩
           | true =>
             rw[c5] at hk;cases c6:gk (ax (af s) 1)with
             | false=>rw[c6] at hk;rw[hk] at h0;exact absurd h0 (show ¬ (0:Int)<= -1 by decide)
             | true =>rw[c6] at hk;have hk:bO s=1:=hk;exact .inl ⟨rfl,rfl,by unfold getD;rw[o_ hk]⟩
      ·rw[p_ n2] at hk;by_cases n17:ck (af s)=17
       ·rw[o_ n17] at hk;cases c3:gk (ax (af s) 16)with
        | false=>rw[c3] at hk;rw[hk] at h0;exact absurd h0 (show ¬ (0:Int)<= -1 by decide)
        | true =>rw[c3] at hk;have hk:bO s=3:=hk;exact .inr ⟨n17,rfl,by unfold getD;rw[p_ (by omega),p_ (by omega),o_ hk]⟩
       ·rw[p_ n17] at hk;rw[hk] at h0;exact absurd h0 (show ¬ (0:Int)<= -1 by decide)
theorem Ww (h:e9 s=H):s≠[128]:=λe=>by subst e;revert h;decide
attribute [local irreducible] ax ck ga af c9 aH e9 gk gU fc gM
theorem Ye (hs:s.length<=L/\s.length<9223372036854775808):au (jd (ana L s) 135 bf [.str F s] (ar4 s)):=by
 refine au.j7 (awj L s) (by delta Fk Bk I6 Ix Sr Er NI fu aM aJ bx bB bF bq kI aj bH aC az cU bE bt aA fR eY fz dy bP cW aY aD dA DE cw aX bN bJ cY gW br cK gX aP gS fy cR fE cX pZ gI nu dS lu aG pH qN mJ nJ k7 oN jX dB aU kO tu T5 GI lg sG uc mw pG rN vb vf Di mT lI iD Ql z6 My ew yF tn WS Xw xG iX FU Uf ahI aqr WR Fv aas aiI aqX aax aq6 art;exact rfl) ?_;dsimp only;by_cases big:(1000:Int)<(s.length:Int)
 ·have g:bM s=false:=a_.2 λh=>by have:=auz h;omega
  exact⟨λ_=>KG g,λh=>absurd big (j_ h)⟩
 have hin:=Hl s;have hit:=Kb (af s);have hl2:=λt=>Hl t;have hii: ∀ j,(jF (ax (af s) j)).length<=1000:=λj=>by
  have h1:=hit j;have h2:=hl2 (ax (af s) j);unfold jF;cases c9 (ax (af s) j)
  ·simp
  ·simp only[cond_true];omega
 have hng:(gM (jF (ax (af s) 0))).length<1152921504606846976:=by
  have h1:=hii 0;have h2:=jD (jF (ax (af s) 0));have h3:(gM (jF (ax (af s) 0))).length<=(ak (jF (ax (af s) 0))).length:=by unfold gM;split<;>simp only[c7]<;>omega
  omega
 refine⟨λh=>absurd (i_ h) big,λ_=>⟨hs.2,λcB=> ?_,λcB=> ?_⟩⟩
 ·have hpos:0<s.length:=List.length_pos_iff.2 (jL.1 cB).1;have R0:Rel L []:=⟨.inl (by simp only[c8];omega),by simp⟩
  have RZ:pN L iL.r:=λj hj=>by have e:iL.r j=[]:=s6 j hj;rw[e];exact R0
  have Zx:(s≠[128]->¬ bM s=H)->bM s=H->(getD s).JK iL:=λhn h=>by
   rcases oR h with ⟨_,e⟩ | ⟨e,_⟩
   ·rw[e];exact⟨rfl,rfl,rfl,λ_ _=>rfl⟩
   ·exact absurd h (hn e)
  have Z:=λhn=>I1 (L:=L) (s:=s) (x:=iL) (V:=afH iL) RZ (by show 0<1152921504606846976;decide) (λ_=>rfl) (Zx hn)
  refine⟨by omega,λiB=>λcap hcap=>⟨λcL=>⟨λn2=> ?_,λn2=>⟨λ_=>⟨λn17=> ?_,λn17=>Z ?_⟩,λc=>absurd (cL.symm.trans c) (by decide)⟩⟩,λcL=>⟨λc=>absurd (c.symm.trans cL) (by decide),λ_=>Z ?_⟩⟩,
   λiB=>⟨λcL=>⟨λ_=>Z ?_,λ_=>Z ?_⟩,λcL=>⟨λ_=>Z ?_,λ_=>Z ?_⟩⟩⟩
  ·have n2:=i_ n2;have n2:ck (af s)=2:=by omega
   have i0:=hit 0;have i1:=hit 1;have j0:=hii 0;have hlt:=Wa cB cL;have RI: ∀ j,Rel L (ax (af s) j):=λj=>⟨.inl (by have:=hit j;omega),by have:=hit j;omega⟩
   have no17: ∀ {P:Prop},decide ((↑(ck (af s)):Int)=(17:Int))=H->P:=λh=>by have:=i_ h;omega
   have noL: ∀ {P:Prop},e9 s=F->P:=λh=>absurd (cL.symm.trans h) (by decide);refine⟨by omega,by omega,by omega,by omega,λgB=>⟨λlf=>⟨by omega,by omega,by omega,λ_=>⟨no17,λ_=> ?_⟩,noL⟩,λlf=>⟨by omega,by omega,λ_=>⟨no17,λ_=> ?_⟩,noL⟩⟩,λgB=>KG ?_⟩
   ·refine I1 (x:={k:=1,p:=gM (jF (ax (af s) 0)),v:=jF (ax (af s) 1),r:=bX}) RZ hng (λ_=>rfl) λh=> ?_;rcases oR h with ⟨e,_⟩ | ⟨_,_,_,_,⟨_,p0,_,⟨_,p1,e⟩ | ⟨e,_⟩⟩ | ⟨n,_⟩⟩
    ·exact absurd e (Ww cL)
    ·rw[e];exact⟨rfl,by rw[wq p0];rfl,by rw[wq p1];rfl,λ_ _=>rfl⟩
    ·rw[wq p0,e] at lf;cases lf
    ·omega
   ·refine I1 (x:={k:=2,p:=gM (jF (ax (af s) 0)),v:=[],r:=cV (ax (af s) 1)}) (λj hj=> ?_) hng (λ_=>rfl) λh=> ?_
    ·have e:cV (ax (af s) 1) j=if j=0 then ax (af s) 1 else []:=jr (λi=>if i=0 then ax (af s) 1 else []) j hj
     show Rel L (cV (ax (af s) 1) j);rw[e];split
     ·exact RI 1
     ·exact R0
    ·rcases oR h with ⟨e,_⟩ | ⟨_,_,_,_,⟨_,p0,_,⟨e,_,_⟩ | ⟨_,e⟩⟩ | ⟨n,_⟩⟩
     ·exact absurd e (Ww cL)
     ·rw[wq p0,e] at lf;cases lf
     ·rw[e];exact⟨rfl,by rw[wq p0];rfl,rfl,λ_ _=>rfl⟩
     ·omega
   ·refine a_.2 λh=> ?_;rcases oR h with ⟨e,_⟩ | ⟨_,_,_,_,⟨_,p0,g,_⟩ | ⟨n,_⟩⟩
    ·exact absurd e (Ww cL)
    ·rw[wq p0,g] at gB;cases gB
    ·omega
  ·have n17:=i_ n17;have n17:ck (af s)=17:=by omega
   have i16:=hit 16;have hlt:=Wa cB cL;have RI: ∀ j,Rel L (ax (af s) j):=λj=>⟨.inl (by have:=hit j;omega),by have:=hit j;omega⟩
   refine⟨⟨0,by omega,rfl,Sx.aa.cells (λE=>rfl) rfl,aa.refl _,aa.refl _,trivial⟩,λi hi=>⟨λh=> ?_,λh=> ?_⟩⟩
   ·have h:=i_ h;rw[a!,Nat.zero_add];refine⟨by omega,by omega,by omega,rfl,λk=>⟨by omega,by omega,by omega,by omega,by omega,i+1,⟨by omega,by omega⟩,by omega,?_,aa.refl _,aa.refl _,trivial⟩,λk=>⟨by omega,i+1,⟨by omega,by omega⟩,by omega,?_,aa.refl _,aa.refl _,trivial⟩⟩
    ·have k: ¬ ax (af s) i=[128]:=by
      have:decide (ax (af s) i=aS [])=false:=by simpa using k
      exact j_ this
     exact WT (f:=λj=>if i=j then ax (af s) i else Cd (af s) i j) λj _=>aa9 k j
    ·have k:ax (af s) i=[128]:=by
      have:decide (ax (af s) i=aS [])=true:=by simpa using k
      exact i_ this
     exact WT λj _=>aa8 k j
   ·have h:=j_ h;have ei:i=16:=by omega
    subst ei;refine⟨by omega,by omega,by omega,I1 (x:={k:=3,p:=[],v:=jF (ax (af s) 16),r:=iq (Cd (af s) 16)}) (λj hj=> ?_) (by show 0<1152921504606846976;decide) (λ_=>rfl) λh=> ?_⟩
    ·have e:iq (Cd (af s) 16) j=Cd (af s) 16 j:=jr (Cd (af s) 16) j hj;show Rel L (iq (Cd (af s) 16) j);rw[e,Cd,o_ hj,fV];split
     ·exact R0
     ·exact RI j
    ·rcases oR h with ⟨e,_⟩ | ⟨_,_,_,_,⟨n,_⟩ | ⟨_,p16,e⟩⟩
     ·exact absurd e (Ww cL)
     ·omega
     ·rw[e];refine⟨rfl,rfl,by rw[wq p16];rfl,λj hj=> ?_⟩;show iq (fV (af s)) j=iq (Cd (af s) 16) j;have e1:iq (Cd (af s) 16) j=Cd (af s) 16 j:=jr (Cd (af s) 16) j hj;have e2:iq (fV (af s)) j=fV (af s) j:=jr (fV (af s)) j hj;rw[e1,e2,Cd,o_ hj]
  ·intro e h;have n2:=j_ n2;have n17:=j_ n17;rcases oR h with ⟨e',_⟩ | ⟨_,_,_,_,⟨n,_⟩ | ⟨n,_⟩⟩
   ·exact e e'
   ·omega
   ·omega
  all_goals
   intro e h;rcases oR h with ⟨e',_⟩ | ⟨_,_,l,i,_⟩
   ·exact e e'
   ·first
    | exact absurd (l.symm.trans cL) (by decide)
    | exact absurd (i.symm.trans iB) (by decide)
 ·have g:bM s=false:=alr cB;exact⟨by omega,λ_ _ _=>KG g,λ_=>KG g⟩
theorem anY (hI:aq M 141 (bZ (jS L))):aq M 135 (bZ (KW L)):=by
 refine ee (n:=20) Tryz.func135 (by kernel_rfl) (by kernel_rfl) ?_;intro args p a h hp;unfold KW at h;split at h
 ·cases h;exact⟨ana L _,.of bI (SX hI) aO,rfl,λb=>by cases b<;>exact rfl,Ye hp⟩
 ·cases h
theorem Kq (hI:aq M 141 (bZ (jS L))):aR M (λf=>av f (adV L)):=.cons (anY hI) (bK _) (SX hI)
end
section
open Go Sx
set_option maxRecDepth 20000
theorem Vt (hI:aq M 141 (bZ (jS L))):aq M 141 (bZ (jS (L+1))):=by
 refine ee (n:=20) cj (by kernel_rfl) (by kernel_rfl) ?_;intro args p a h hp;unfold jS at h;split at h
 ·rename_i t;cases h;refine⟨af3 L,.of bI (Kq hI) aO,rfl,λb=>by cases b<;>exact rfl,au.j7 (alQ L t) (by delta Fk Bk NI fu bx bB bF bq cP cU bE dM aA fR fz dy bP cW aD pZ gI nu aG k7 jj fk kO tu lI z6 FU FE mA k8 ak3;exact rfl) ?_⟩
  have hp:Rel (L+1) t:=hp;have hN:ai (SV.dr [jm,.bool H F]) (.dr [jm,.bool H F]):=λ_=>rfl;refine⟨λa=>⟨λb=> ?_,λ_=>hN⟩,λa=>⟨⟨?_,hp.2⟩,λb=>⟨λc=>⟨λd=> ?_,λ_=>hN⟩,λc=>⟨λd=>λ_=>rfl,λd=> ?_⟩⟩,λb=>⟨λd=> ?_,λ_=>hN⟩⟩⟩
  ·have a:=i_ a
   grind [vt]
  ·have a:=j_ a;rcases hp.1 with h | h<;>omega
  ·grind [AI]
  ·grind [j_,AI,k_]
  grind [AI]
 ·cases h
theorem auE:Sx.Good M acK:=.of bI (aR.cons (λ_ _ _ _ h=>h.elim) (λ_ _ _ _ _ _ h=>h) Kn) aO
theorem ajP:aq M 141 (bZ (jS 0)):=by
 refine ee (n:=20) cj (by kernel_rfl) (by kernel_rfl) ?_;intro args p a h hp;unfold jS at h;split at h
 ·rename_i t;cases h;have hp:Rel 0 t:=hp;have h32:32<=t.length:=by rcases hp.1 with h | h;exact absurd h (Nat.not_lt_zero _);exact h
  refine⟨acK,auE,rfl,λb=>by cases b<;>exact rfl,au.j7 (afy t) (by delta Fk Bk NI fu bx bB bq cU dM fR fz bP pZ gI nu aG kO tu lI z6 FU;exact rfl) ?_⟩
  have hN:ai (SV.dr [jm,.bool H F]) (.dr [jm,.bool H F]):=λ_=>rfl;refine⟨λa=>⟨λb=> ?_,λ_=>hN⟩,λa=> ?_⟩
  ·grind [vt]
  grind
 ·cases h
theorem xP: ∀ L,aq M 141 (bZ (jS L))
 | 0=>ajP
 | L+1=>Vt (xP L)
theorem agf:aq M 89 (bZ (wh 9223372036854775808)):=by
 refine ee (n:=20) Tryz.func89 (by kernel_rfl) (by kernel_rfl) ?_;intro args p a h hp;unfold wh at h;split at h
 ·rename_i s;cases h;have hp:s.length<=9223372036854775808/\s.length<1099511627776:=hp;refine⟨af3 9223372036854775808,.of bI (Kq (xP _)) aO,rfl,λb=>by cases b<;>exact rfl,au.j7 (aAk 9223372036854775808 s) (by delta Bk fu bF bq cP qd cU aA fz dy bP cW aD fU aG k7 jj fk kO tu lI aaT mA ak3;exact rfl) ?_⟩
  exact⟨⟨hp.1,by omega⟩,λa=>⟨λ_ _=>rfl,(by grind)⟩,(by grind [bM,Sx.ai,Nd.sv,getD,jm])⟩
 ·cases h
noncomputable def ao7:List (FuncId×PT):=(89,bZ (wh 9223372036854775808))::adV 9223372036854775808
theorem akg:aR M (λf=>av f ao7):=.cons agf (bK _) (Kq (xP _))
theorem p9 (a b:Int):bitsOf .or a b=bitsOf .or b a:=by
 show((a.toNat ||| b.toNat:Nat):Int)=((b.toNat ||| a.toNat:Nat):Int)
 rw[Nat.or_comm]
theorem Bm (b:Nat->Int){n j:Nat}(hj:j<16+n): ∀ {m:Nat},n<=m->wL b m j=wL b n j
 | 0,h=>by obtain rfl:n=0:=by omega
           rfl
 | m+1,h=>by
   by_cases e:n=m+1
   ·subst e;rfl
   ·rw[JB,p_ (by omega)];exact Bm b hj (by omega)
theorem atD (b:Nat->Int){j:Nat}(hj:j<16):wL b 48 j=UU b j:=by rw[Bm b (n:=0) (by omega) (by omega)];unfold wL;rw[o_ hj]
theorem awP (b:Nat->Int){j:Nat}(h1:16<=j)(h2:j<64):wL b 48 j=apD (wL b 48 (j-16)) (wL b 48 (j-15)) (wL b 48 (j-7)) (wL b 48 (j-2)):=by
 obtain⟨n,rfl⟩: ∃ n,j=16+n:=⟨j-16,by omega⟩
 rw[Bm b (n:=n+1) (by omega) (by omega),JB,o_ rfl];rw[Bm b (n:=n) (j:=16+n-16) (by omega) (m:=48) (by omega),Bm b (n:=n) (j:=16+n-15) (by omega) (m:=48) (by omega),Bm b (n:=n) (j:=16+n-7) (by omega) (m:=48) (by omega),Bm b (n:=n) (j:=16+n-2) (by omega) (m:=48) (by omega)]
theorem apy (W B:Nat->Int)(j:Nat):(yU W B 64 j+W j)%4294967296=uK W B j:=by unfold uK;rw[Int.add_comm]
theorem apW (T:h_):(jt T).length%64=0:=by unfold jt UM UI p6;simp only[bW,cy,c_,c8];omega
def GM:List SV->Option (Prop×SV)
 | [.int .u32 F x,.int .u64 F n]=>(match avN n with
   | true=>I (0<=x/\x<=4294967295,.int .u32 F (kV x n))
   | false=>O)
 | _=>O
def Ax (s:h_)(j:Nat):Int:=ah s (j:Int)
def Lm:List SV->Option (Prop×SV)
 | [.str F s,.int .i64 F i]=>I (0<=i/\i<16/\4*i+4<=s.length,.int .u32 F (UU (Ax s) i.toNat))
 | _=>O
def Pw:List SV->Option (Prop×SV)
 | [.str F s]=>I (s.length<1152921504606846976,.str F (jt s))
 | _=>O
noncomputable def ax2 (T:h_):aN :={α:=Nat,pre:=λ_ i=>i<=p6 T,nF:=λ_ i=>p6 T-i,fresh:=0,slots:=λ_ i=>[(0,.str F (T++128::Y i 0))],mem:=λ_ _=>[]}
noncomputable def acR (T:h_):iG:={bQ with cO:=λf=>av f lM,bU:=λf=>if f=137 then [(3,always (ax2 T))] else []}
theorem auJ (T:h_):Sx.Good M (acR T):=.of bI iF aO
noncomputable def ao5:List (FuncId×PT):=(177,aI GM)::(176,aI Lm)::(137,aI Pw)::lM
def w8 (w0 w1 w2 w3 w4 w5 w6 w7:Int):Nat->Int:=M8 [w0,w1,w2,w3,w4,w5,w6,w7]
def amN (A:(Nat->Int)->aN)(st:Sx.St):Option tP:=match slot st.tmps 2 with
 | some (.str _ s)=>I (one (A (Ax s)))
 | _=>O
def acF (A:(Nat->Int)->(Nat->Int)->aN)(st:Sx.St):Option tP:=match slot st.tmps 0 with
 | some (.slc k _ _ _ _)=>(match st.m.get k with
   | some (.cells [.int _ _ w0,.int _ _ w1,.int _ _ w2,.int _ _ w3,.int _ _ w4,.int _ _ w5,.int _ _ w6,.int _ _ w7] _ _)=>amN (A (w8 w0 w1 w2 w3 w4 w5 w6 w7)) st
   | _=>O)
 | _=>O
noncomputable def aA7 (B:Nat->Int):aN :=
 {α:=Nat×Nat,pre:=λ_ x=>x.1<=64/\x.1<=x.2,nF:=λ_ x=>64-x.1,fresh:=1,slots:=λst x=>[(7,.bY st.nx 1 H 0 x.1 x.2),(8,.int .i64 F x.1)],
  mem:=λst x=>[(st.nx,.rows H x.1 [.int .u32 (wL B 48)] F x.2 167)]}
noncomputable def aA6 (W B:Nat->Int):aN :=
 {α:=Nat×Nat,pre:=λ_ x=>x.1<=64,nF:=λ_ x=>64-x.1,fresh:=1,slots:=λst x=>[(13,.slc st.nx 0 8 H x.2),(14,.int .i64 F x.1)],
  mem:=λst x=>[(st.nx,.cells [.int .u32 F (yU W B x.1 0),.int .u32 F (yU W B x.1 1),.int .u32 F (yU W B x.1 2),.int .u32 F (yU W B x.1 3),.int .u32 F (yU W B x.1 4),.int .u32 F (yU W B x.1 5),.int .u32 F (yU W B x.1 6),.int .u32 F (yU W B x.1 7)] x.2 167)]}
noncomputable def azk (W B:Nat->Int):aN :={α:=Nat,pre:=λst i=>slot st.tmps 14=I (.int .i64 F (i:Int)),nF:=λ_ _=>0,fresh:=0,slots:=λ_ i=>[(21,.int .u32 F (t1F (yU W B i) (acY i) (wL B 48 i)))],mem:=λ_ _=>[]}
noncomputable def azm (W B:Nat->Int):aN :={α:=Nat,pre:=λst i=>slot st.tmps 14=I (.int .i64 F (i:Int)),nF:=λ_ _=>0,fresh:=0,slots:=λ_ i=>[(22,.int .u32 F (t2F (yU W B i)))],mem:=λ_ _=>[]}
noncomputable def ax1 (T:h_):aN :=
 {α:=Nat×Nat,pre:=λ_ x=>x.1<=(jt T).length/64,nF:=λ_ x=>(jt T).length/64-x.1,fresh:=1,slots:=λst x=>[(3,.slc st.nx 0 8 H x.2),(6,.int .i64 F (64*(x.1:Int)))],
  mem:=λst x=>[(st.nx,.cells [.int .u32 F (dN (jt T) x.1 0),.int .u32 F (dN (jt T) x.1 1),.int .u32 F (dN (jt T) x.1 2),.int .u32 F (dN (jt T) x.1 3),.int .u32 F (dN (jt T) x.1 4),.int .u32 F (dN (jt T) x.1 5),.int .u32 F (dN (jt T) x.1 6),.int .u32 F (dN (jt T) x.1 7)] x.2 167)]}
noncomputable def acQ (T:h_):iG:={bQ with cO:=λf=>av f ao5,bU:=λf=>if f=90 then [(4,always (ax1 T))]
 else if f=138 then [(3,amN aA7),(14,acF aA6),(1017,acF azk),(1018,acF azm)] else []}
def WB:List SV->Option (Prop×SV)
 | [.str F s]=>I (s.length<1152921504606846976,.str F (bg s))
 | _=>O
section
variable (n m : Nat) (s : h_) (a b c d : Int) (x y : Nat × Nat) (o : List SV) (z : Nat × Nat-> h_) (B : Nat-> Int) (f A : Nat × Nat-> Nat × Nat-> Int) (g : Nat × Nat-> Nat-> Int) (C : Nat-> Nat × Nat-> Nat × Nat-> SV) (D : Nat-> Nat × Nat-> SV) (h : List Int)
abbrev eo:=dN (jt s) x.1 n
abbrev ag8:=w8 (eo 0 s x) (eo 1 s x) (eo 2 s x) (eo 3 s x) (eo 4 s x) (eo 5 s x) (eo 6 s x) (eo 7 s x)
abbrev GH:=SB.cells o n 167
abbrev Z6:=GH y.2 (aG (C 0 x y) (C 1 x y) (C 2 x y) (C 3 x y) (C 4 x y) (C 5 x y) (C 6 x y) (C 7 x y) J)
abbrev rO:=Ax (z x)
abbrev Z9:=aG (D 0 x) (D 1 x) (D 2 x) (D 3 x) (D 4 x) (D 5 x) (D 6 x) (D 7 x) J
abbrev x5:=jU (f x y) (A x y)
abbrev TS:=ay (jt s)/64
abbrev aan:=Sr (GH 0 J)
abbrev TT:=fL 4294967295 (f x y)
abbrev ahL:Nat->Nat×Nat->Nat×Nat->SV:=λa=>λb=>λc=>cr (yU (ag8 s b) (Ax (bT (jt s) (cc 24) (cc 26) (64*eD b) (64*eD b+64))) c.1 a)
abbrev IG:=wL (rO x z) 48 (dR (eD y-15))
abbrev IJ:=wL (rO x z) 48 (dR (eD y-2))
abbrev iy:=yU B (rO x z) y.1 n
abbrev aaA:=jv (iy 4 x y z (g x)) (iy 4 x y z (g x))
abbrev aaD:=bN x.1 x.2 167 (wH (wL (rO y z) 48) IntKind.u32)
abbrev xh:=64*eD x
abbrev BU:=iy 0 x y z (g x)
abbrev aaQ:=I (bF (eD x))=Df n
abbrev dL:=kV (f x y) a
abbrev oh:List Int:=a::b::c::d::h
abbrev yE:=fQ (NI n+NI m)
end
theorem aBQ (T:h_)(R:SV->Prop):VC.holds (eS (acQ T) 90 bn [.str F T] R)=((fun(a:Nat->SV)=>(fun(b:Nat->Nat×Nat->SV)=>(fun(c:Nat->Nat×Nat->SV)=>(fun(d:Nat->Nat×Nat->Nat×Nat->SV)=>(fun(e:Nat->Nat×Nat->Nat×Nat->SV)=>(fun(f:Nat->Nat×Nat->Nat×Nat->SV)=>(fun(g:Nat->Nat×Nat->Nat×Nat->SV)=>(fun(h:Nat->Nat×Nat->SV)=>(fun(i:Nat×Nat->Nat->Int)=>(fun(j:SB)=>(fun(k:Nat×Nat->h_)=>(fun(l:Nat×Nat->SB)=>(fun(e:Nat×Nat->Nat×Nat->SB)=>(fun(m:Nat×Nat->Nat×Nat->SB)=>(fun(n:Nat×Nat->Nat×Nat->Int)=>(fun(o:Nat×Nat->Nat×Nat->Int)=>(fun(p:Nat×Nat->Nat×Nat->Int)=>(fun(q:Nat×Nat->Nat×Nat->Int)=>(fun(r:Nat×Nat->Nat×Nat->Int)=>(fun(s:Nat×Nat->Nat×Nat->Int)=>aj (dA T) (∃(c:Nat×Nat),aC (c.1<=TS T) (aj bA (Er 8) (8=c.2)) (0=xh c) (bH 8 (GH c.2 (Z9 c b)) (aG (a 1779033703) (a 3144134277) (a 1013904242) (a 2773480762) (a 1359893119) (a 2600822924) (a 528734635) (a 1541459225) J) 167) (wX j)) (∀(a:Nat×Nat),aJ a.1 (TS T) (aM (xh a) (bx (jt T)) (az (dK (xh a) 64) (kM (xh a) (xh a) (xh a+64) (xh a+64<=bx (jt T))) (∃(b:Nat×Nat),aD (b.1<=64) (nS b) (aC (b.1=0) (mL b) (fo (aaD b a k)) (Sr (l a)) (wX j))) (∀(b:Nat×Nat),br b.1 64 (nS b)->aM (eD b) 64 (aM (eD b) 16 (az (dU (eD b) (eD b<16) (4*eD b+4<=bx (k a))) (gZ b.1 b.1 (2*jc b*4) (jc b)) (BF b) (∀(c:Nat),cN (jc b) c (kP b) (∃(d:Nat×Nat),cI (aD (d.1<=64) (nS d) (aP 64 d.1 64 b.1)) (bA/\DB c b d) True (j8 b d) (cv (jc b) (aF c) (aaD d a k) 167 (wH (λc=>if c<b.1 then wL (rO a k) 48 c else M8 [UU (rO a k) (iM b)] (c-b.1)) IntKind.u32)) (Sr (l a)) (wX j)))) (cI (iJ (eD b) 15) (Ix (eD b-15) (eD b)) (fO b.1 (eD b-15)) (iJ (eD b) 2) (Ix (eD b-2) (eD b)) (fO b.1 (eD b-2)) (aT (jv (IG a b k) (IG a b k)) (jv (IG a b k) (IG a b k)) (cz (dL 7 a b p) (dL 7 a b p) (dL 18 a b p) (dL 18 a b p)) (cz (fL (dL 7 a b p) (dL 18 a b p)) (fL (dL 7 a b p) (dL 18 a b p)) (IG a b k/8) (IG a b k/8)) (jv (IJ a b k) (IJ a b k)) (jv (IJ a b k) (IJ a b k)) (cz (dL 17 a b q) (dL 17 a b q) (dL 19 a b q) (dL 19 a b q)) (cz (fL (dL 17 a b q) (dL 19 a b q)) (fL (dL 17 a b q) (dL 19 a b q)) (IJ a b k/1024) (IJ a b k/1024)) (aT (iJ (eD b) 16) (Ix (eD b-16) (eD b)) (fO b.1 (eD b-16)) (iJ (eD b) 7) (Ix (eD b-7) (eD b)) (fO b.1 (eD b-7)) (gZ b.1 b.1 (2*jc b*4) (jc b)) (BF b) (∀(c:Nat),cN (jc b) c (kP b) (∃(d:Nat×Nat),cI (aD (d.1<=64) (nS d) (aP 64 d.1 64 b.1)) (bA/\DB c b d) True (j8 b d) (cv (jc b) (aF c) (aaD d a k) 167 (wH (λc=>if c<b.1 then wL (rO a k) 48 c else M8 [jI (jI (jI (wL (rO a k) 48 (dR (eD b-16))) (fL (fL (dL 7 a b p) (dL 18 a b p)) (IG a b k/8))) (wL (rO a k) 48 (dR (eD b-7)))) (fL (fL (dL 17 a b q) (dL 19 a b q)) (IJ a b k/1024))] (c-b.1)) IntKind.u32)) (Sr (l a)) (wX j))))))) (∀(p:Nat),cN 8 p (∃(e:Nat×Nat),az (e.1<=64) (aj bA (Er 8) (p=e.2)) (mL e) (aC (bH (aF p) (Z6 a e d) (Z9 a c) 167) aan (Sr (m b a)) (Sr (l a)) (wX j))) (∀(c:Nat×Nat),aJ c.1 64 (aM (eD c) 64 (cI (cz (iy 4 a c k (i a)) (iy 4 a c k (i a)) (iy 5 a c k (i a)) (iy 5 a c k (i a))) (aj (j9 0) (j9 4294967295) (aaA a c k i)) (cz (TT a c o) (TT a c o) (iy 6 a c k (i a)) (iy 6 a c k (i a))) (cz (jU (o a c) (iy 5 a c k (i a))) (jU (o a c) (iy 5 a c k (i a))) (jU (TT a c o) (iy 6 a c k (i a))) (jU (TT a c o) (iy 6 a c k (i a)))) (Ix (eD c) 64) (iM c<64) (aT (Ix (eD c) (eD b)) (fZ c<b.1) (aaA a c k i) (dB (m b a)) (gG j) (dB (e a c)) (aaA a c k i) (dB (m b a)) (aT (gG j) (dB (e a c)) (cz (dL 6 a c o) (dL 6 a c o) (dL 11 a c o) (dL 11 a c o)) (aaA a c k i) (dB (m b a)) (gG j) (dB (e a c)) (cz (fL (dL 6 a c o) (dL 11 a c o)) (fL (dL 6 a c o) (dL 11 a c o)) (dL 25 a c o) (dL 25 a c o)) (∃(d:Nat),cI (aaQ d c) (jI (jI (jI (jI (iy 7 a c k (i a)) (fL (fL (dL 6 a c o) (dL 11 a c o)) (dL 25 a c o))) (fL (jU (o a c) (iy 5 a c k (i a))) (jU (TT a c o) (iy 6 a c k (i a))))) (M8 (oh 1116352408 1899447441 3049323471 3921009573 (oh 961987163 1508970993 2453635748 2870763221 (oh 3624381080 310598401 607225278 1426881987 (oh 1925078388 2162078206 2614888103 3248222580 (oh 3835390401 4022224774 264347078 604807628 (oh 770255983 1249150122 1555081692 1996064986 (oh 2554220882 2821834349 2952996808 3210313671 (oh 3336571891 3584528711 113926993 338241895 (oh 666307205 773529912 1294757372 1396182291 (oh 1695183700 1986661051 2177026350 2456956037 (oh 2730485921 2820302411 3259730800 3345764771 (oh 3516065817 3600352804 4094571909 275423344 (oh 430227734 506948616 659060556 883997877 (oh 958139571 1322822218 1537002063 1747873779 (oh 1955562222 2024104815 2227730452 2361852424 (oh 2428436474 2756734187 3204031479 3329325298 J)))))))))))))))) (iM c))) (wL (rO a k) 48 (fZ c))=t1F (yU (i a) (rO a k) d) (acY d) (wL (rO a k) 48 d)) (Sr (e a c)) aan (Sr (m b a)) (Sr (l a)) (wX j))))/\(∀(d:Nat),aaQ d c->aj (jv (BU a c k i) (BU a c k i)) (jv (BU a c k i) (BU a c k i)) (aT (cz (dL 2 a c n) (dL 2 a c n) (dL 13 a c n) (dL 13 a c n)) (jv (BU a c k i) (BU a c k i)) (cz (fL (dL 2 a c n) (dL 13 a c n)) (fL (dL 2 a c n) (dL 13 a c n)) (dL 22 a c n) (dL 22 a c n)) (cz (BU a c k i) (BU a c k i) (iy 1 a c k (i a)) (iy 1 a c k (i a))) (cz (BU a c k i) (BU a c k i) (iy 2 a c k (i a)) (iy 2 a c k (i a))) (cz (x5 a c n r) (x5 a c n r) (x5 a c n s) (x5 a c n s)) (cz (iy 1 a c k (i a)) (iy 1 a c k (i a)) (iy 2 a c k (i a)) (iy 2 a c k (i a))) (cz (fL (x5 a c n r) (x5 a c n s)) (fL (x5 a c n r) (x5 a c n s)) (x5 a c r s) (x5 a c r s)) (∃(d:Nat),cI (aaQ d c) (jI (fL (fL (dL 2 a c n) (dL 13 a c n)) (dL 22 a c n)) (fL (fL (x5 a c n r) (x5 a c n s)) (x5 a c r s))=t2F (yU (i a) (rO a k) d)) (Sr (e a c)) aan (Sr (m b a)) (Sr (l a)) (wX j)))/\(∀(e:Nat),aaQ e c->kP c/\(∃(g:Nat×Nat),az (br g.1 64 (aP 64 g.1 64 c.1)) (aj bA (Er 8) (8=g.2)) (j8 c g) (aC (bH 8 (Z6 a g f) (aG (cr (jI (t1F (yU (i a) (rO a k) d) (acY d) (wL (rO a k) 48 d)) (t2F (yU (i a) (rO a k) e)))) (cr (n a c)) (cr (r a c)) (cr (s a c)) (cr (jI (iy 3 a c k (i a)) (t1F (yU (i a) (rO a k) d) (acY d) (wL (rO a k) 48 d)))) (cr (o a c)) (cr (iy 5 a c k (i a))) (cr (iy 6 a c k (i a))) J) 167) aan (Sr (m b a)) (Sr (l a)) (wX j)))))) (dK (xh a) 64/\(∃(b:Nat×Nat),k9 (br b.1 (TS T) (aP (TS T) b.1 (TS T) a.1)) (aj bA (Er 8) (ur c b)) (xh a+64=xh b) (wX j) (Z6 a c g) (GH b.2 (Z9 b h))))))))) (aT (fQ (0+NI 4)) (yE 4 4) (yE 8 4) (yE 12 4) (yE 16 4) (yE 20 4) (yE 24 4) (yE 28 4) (R (aA (k5 (k5 (k5 (k5 J (nL J (eo 0 T a) (eo 0 T a) (eo 0 T a) (eo 0 T a)) (nL J (eo 1 T a) (eo 1 T a) (eo 1 T a) (eo 1 T a))) (nL J (eo 2 T a) (eo 2 T a) (eo 2 T a) (eo 2 T a)) (nL J (eo 3 T a) (eo 3 T a) (eo 3 T a) (eo 3 T a))) (nL J (eo 4 T a) (eo 4 T a) (eo 4 T a) (eo 4 T a)) (nL J (eo 5 T a) (eo 5 T a) (eo 5 T a) (eo 5 T a))) (nL J (eo 6 T a) (eo 6 T a) (eo 6 T a) (eo 6 T a)) (nL J (eo 7 T a) (eo 7 T a) (eo 7 T a) (eo 7 T a))))))))) (λa=>λb=>iy 2 a b k (i a))) (λa=>λb=>iy 1 a b k (i a))) (λa=>λb=>IJ a b k)) (λa=>λb=>IG a b k)) (λa=>λb=>iy 4 a b k (i a))) (λa=>λb=>BU a b k i)) (λa=>λb=>aaD a b k)) (λa=>λb=>Z6 a b e)) (λa=>GH a.2 (Z9 a c))) (λa=>bT (jt T) (cc 24) (cc 26) (xh a) (xh a+64))) (GH 64 (aG (a 1116352408) (a 1899447441) (a 3049323471) (a 3921009573) (a 961987163) (a 1508970993) (a 2453635748) (a 2870763221) (aG (a 3624381080) (a 310598401) (a 607225278) (a 1426881987) (a 1925078388) (a 2162078206) (a 2614888103) (a 3248222580) (aG (a 3835390401) (a 4022224774) (a 264347078) (a 604807628) (a 770255983) (a 1249150122) (a 1555081692) (a 1996064986) (aG (a 2554220882) (a 2821834349) (a 2952996808) (a 3210313671) (a 3336571891) (a 3584528711) (a 113926993) (a 338241895) (aG (a 666307205) (a 773529912) (a 1294757372) (a 1396182291) (a 1695183700) (a 1986661051) (a 2177026350) (a 2456956037) (aG (a 2730485921) (a 2820302411) (a 3259730800) (a 3345764771) (a 3516065817) (a 3600352804) (a 4094571909) (a 275423344) (aG (a 430227734) (a 506948616) (a 659060556) (a 883997877) (a 958139571) (a 1322822218) (a 1537002063) (a 1747873779) (aG (a 1955562222) (a 2024104815) (a 2227730452) (a 2361852424) (a 2428436474) (a 2756734187) (a 3204031479) (a 3329325298) J)))))))))) (λa=>ag8 T a)) (λa=>λb=>cr (eo a T b))) (λa=>λb=>λc=>cr (jI (yU (ag8 T b) (Ax (bT (jt T) (cc 24) (cc 26) (xh b) (xh b+64))) c.1 a) (eo a T b)))) (ahL T)) (ahL T)) (ahL T)) (λa=>λb=>cr (eo a T b))) (λa=>λb=>cr (eo a T b))) avA):=by kernel_rfl
section
variable (n : Nat) (s : h_)
abbrev Fx:=s++(128:UInt8)::Y n 0
abbrev aqA:=Sr (eY 1 (kG 128 H) J 5)/\True
abbrev zO:=i7 (i7 (bB s)*8)
abbrev aa5:=cat (Fx n s) (fq (zO s/72057594037927936))
abbrev aaU:=cat (k5 (aa5 n s) (fq (zO s/281474976710656)) (fq (zO s/1099511627776))) (fq (zO s/4294967296))
abbrev ais:=fq (zO s/16777216)
abbrev arY:=cat (k5 (aaU n s) (ais s) (fq (zO s/65536))) (fq (iu (zO s)))
end
theorem aBR (x:Int)(R:SV->Prop):VC.holds (eS bQ 177 Q [.int .u32 F x,.int .u64 H 2] R)=(fG (x/4) (x/4) (L1 x) (L1 x) (R (fe (x/4) (L1 x)))):=by kernel_rfl
theorem aBS (x:Int)(R:SV->Prop):VC.holds (eS bQ 177 Q [.int .u32 F x,.int .u64 H 6] R)=(fG (x/64) (x/64) (L3 x) (L3 x) (R (fe (x/64) (L3 x)))):=by kernel_rfl
theorem aBT (x:Int)(R:SV->Prop):VC.holds (eS bQ 177 Q [.int .u32 F x,.int .u64 H 7] R)=(fG (x/128) (x/128) (L2 x) (L2 x) (R (fe (x/128) (L2 x)))):=by kernel_rfl
theorem aAw (x:Int)(R:SV->Prop):VC.holds (eS bQ 177 Q [.int .u32 F x,.int .u64 H 11] R)=(fG (x/2048) (x/2048) (L5 x) (L5 x) (R (fe (x/2048) (L5 x)))):=by kernel_rfl
theorem aAx (x:Int)(R:SV->Prop):VC.holds (eS bQ 177 Q [.int .u32 F x,.int .u64 H 13] R)=(fG (x/8192) (x/8192) (L6 x) (L6 x) (R (fe (x/8192) (L6 x)))):=by kernel_rfl
theorem aAy (x:Int)(R:SV->Prop):VC.holds (eS bQ 177 Q [.int .u32 F x,.int .u64 H 17] R)=(fG (x/131072) (x/131072) (L9 x) (L9 x) (R (fe (x/131072) (L9 x)))):=by kernel_rfl
theorem aAz (x:Int)(R:SV->Prop):VC.holds (eS bQ 177 Q [.int .u32 F x,.int .u64 H 18] R)=(fG (x/262144) (x/262144) (L8 x) (L8 x) (R (fe (x/262144) (L8 x)))):=by kernel_rfl
theorem aAA (x:Int)(R:SV->Prop):VC.holds (eS bQ 177 Q [.int .u32 F x,.int .u64 H 19] R)=(fG (x/524288) (x/524288) (Mb x) (Mb x) (R (fe (x/524288) (Mb x)))):=by kernel_rfl
theorem aAB (x:Int)(R:SV->Prop):VC.holds (eS bQ 177 Q [.int .u32 F x,.int .u64 H 22] R)=(fG (x/4194304) (x/4194304) (Ma x) (Ma x) (R (fe (x/4194304) (Ma x)))):=by kernel_rfl
theorem aAC (x:Int)(R:SV->Prop):VC.holds (eS bQ 177 Q [.int .u32 F x,.int .u64 H 25] R)=(fG (Db x) (Db x) (Md x) (Md x) (R (fe (Db x) (Md x)))):=by kernel_rfl
theorem awL (s:h_)(i:Int)(R:SV->Prop):VC.holds (eS bQ 176 b! [.str F s,.int .i64 F i] R)=(((-9223372036854775808:Int)<=(4:Int)*i/\(4:Int)*i<=(9223372036854775807:Int))/\((0:Int)<=(4:Int)*i/\(4:Int)*i<(↑s.length:Int))/\((0:Int)<=ah s ((4:Int)*i)/\ah s ((4:Int)*i)<=(4294967295:Int))/\((-9223372036854775808:Int)<=(4:Int)*i/\(4:Int)*i<=(9223372036854775807:Int))/\((-9223372036854775808:Int)<=(4:Int)*i+(1:Int)/\(4:Int)*i+(1:Int)<=(9223372036854775807:Int))/\((0:Int)<=(4:Int)*i+(1:Int)/\(4:Int)*i+(1:Int)<(↑s.length:Int))/\((0:Int)<=ah s ((4:Int)*i+(1:Int))/\ah s ((4:Int)*i+(1:Int))<=(4294967295:Int))/\((0:Int)<=ah s ((4:Int)*i)*(16777216:Int)%(4294967296:Int)/\ah s ((4:Int)*i)*(16777216:Int)%(4294967296:Int)<=(4294967295:Int)/\(0:Int)<=ah s ((4:Int)*i+(1:Int))*(65536:Int)%(4294967296:Int)/\ah s ((4:Int)*i+(1:Int))*(65536:Int)%(4294967296:Int)<=(4294967295:Int))/\((-9223372036854775808:Int)<=(4:Int)*i/\(4:Int)*i<=(9223372036854775807:Int))/\((-9223372036854775808:Int)<=(4:Int)*i+(2:Int)/\(4:Int)*i+(2:Int)<=(9223372036854775807:Int))/\((0:Int)<=(4:Int)*i+(2:Int)/\(4:Int)*i+(2:Int)<(↑s.length:Int))/\((0:Int)<=ah s ((4:Int)*i+(2:Int))/\ah s ((4:Int)*i+(2:Int))<=(4294967295:Int))/\((0:Int)<=bitsOf X (ah s ((4:Int)*i)*(16777216:Int)%(4294967296:Int)) (ah s ((4:Int)*i+(1:Int))*(65536:Int)%(4294967296:Int))/\bitsOf X (ah s ((4:Int)*i)*(16777216:Int)%(4294967296:Int)) (ah s ((4:Int)*i+(1:Int))*(65536:Int)%(4294967296:Int))<=(4294967295:Int)/\(0:Int)<=ah s ((4:Int)*i+(2:Int))*(256:Int)%(4294967296:Int)/\ah s ((4:Int)*i+(2:Int))*(256:Int)%(4294967296:Int)<=(4294967295:Int))/\((-9223372036854775808:Int)<=(4:Int)*i/\(4:Int)*i<=(9223372036854775807:Int))/\((-9223372036854775808:Int)<=(4:Int)*i+(3:Int)/\(4:Int)*i+(3:Int)<=(9223372036854775807:Int))/\((0:Int)<=(4:Int)*i+(3:Int)/\(4:Int)*i+(3:Int)<(↑s.length:Int))/\((0:Int)<=ah s ((4:Int)*i+(3:Int))/\ah s ((4:Int)*i+(3:Int))<=(4294967295:Int))/\((0:Int)<=bitsOf X (bitsOf X (ah s ((4:Int)*i)*(16777216:Int)%(4294967296:Int)) (ah s ((4:Int)*i+(1:Int))*(65536:Int)%(4294967296:Int))) (ah s ((4:Int)*i+(2:Int))*(256:Int)%(4294967296:Int))/\bitsOf X (bitsOf X (ah s ((4:Int)*i)*(16777216:Int)%(4294967296:Int)) (ah s ((4:Int)*i+(1:Int))*(65536:Int)%(4294967296:Int))) (ah s ((4:Int)*i+(2:Int))*(256:Int)%(4294967296:Int))<=(4294967295:Int)/\(0:Int)<=ah s ((4:Int)*i+(3:Int))/\ah s ((4:Int)*i+(3:Int))<=(4294967295:Int))/\R (SV.int .u32 F (bitsOf X (bitsOf X (bitsOf X (ah s ((4:Int)*i)*(16777216:Int)%(4294967296:Int)) (ah s ((4:Int)*i+(1:Int))*(65536:Int)%(4294967296:Int))) (ah s ((4:Int)*i+(2:Int))*(256:Int)%(4294967296:Int))) (ah s ((4:Int)*i+(3:Int)))))):=by kernel_rfl
theorem aAu (T:h_)(R:SV->Prop):VC.holds (eS (acR T) 137 bl [.str F T] R)=(aj (fQ (bB T+1)) (∃(a:Nat),aj (a<=p6 T) (cat T (ff (UInt8.ofNat 128))=Fx a T) aqA) (∀(a:Nat),aJ a (p6 T) (cE (dU (bx (Fx a T)) (fQ (bx (Fx a T))) ((0:Int)<64)) (fQ (bx (Fx a T)+1)/\(∃(b:Nat),aj (br b (p6 T) (aP (p6 T) b (p6 T) a)) (cat (Fx a T) Dl=Fx b T) aqA)) (aT (fQ (bx (Fx a T)+NI 1)) (lq 1 (aa5 a T)) (lq 1 (cat (aa5 a T) (fq (zO T/281474976710656)))) (lq 1 (cat (cat (aa5 a T) (fq (zO T/281474976710656))) (fq (zO T/1099511627776)))) (lq 1 (aaU a T)) (lq 1 (cat (aaU a T) (ais T))) (lq 1 (k5 (aaU a T) (ais T) (fq (zO T/65536)))) (lq 1 (arY a T)) (R (kJ (arY a T) (fq (zO T/1))))) (cJ (bx (Fx a T)%64) 56)))):=by kernel_rfl
theorem nZ {l l':Bool}{a b:Int}(h:a=b):ai (.int .u32 l a) (.int .u32 l' b):=λ_=>by subst h;rfl
theorem ak9:aq M 177 (aI GM):=by
 refine fh (U4 (n:=20) Tryz.func177 (by kernel_rfl) (by kernel_rfl) ?_);intro args p a h hp;unfold GM at h;split at h
 ·rename_i x n;split at h
  ·rename_i hn;cases h;have hx:U x:=hp;rcases UA hn with rfl | rfl | rfl | rfl | rfl | rfl | rfl | rfl | rfl | rfl
   ·exact⟨bQ,[.int .u32 F x,.int .u64 H 2],p8,λE=>rfl,rfl,rfl,(by refine au.j7 (aBR x _) (by delta aj az iN j9 cr cz fe fG L1;exact rfl) ?_;exact⟨u2 (ud hx 4 (by decide)) (um _),nZ (p9 _ _)⟩)⟩
   ·exact⟨bQ,[.int .u32 F x,.int .u64 H 6],p8,λE=>rfl,rfl,rfl,(by refine au.j7 (aBS x _) (by delta aj az iN j9 cr cz fe fG L3;exact rfl) ?_;exact⟨u2 (ud hx 64 (by decide)) (um _),nZ (p9 _ _)⟩)⟩
   ·exact⟨bQ,[.int .u32 F x,.int .u64 H 7],p8,λE=>rfl,rfl,rfl,(by refine au.j7 (aBT x _) (by delta aj az iN L2 j9 cr cz fe fG;exact rfl) ?_;exact⟨u2 (ud hx 128 (by decide)) (um _),nZ (p9 _ _)⟩)⟩
   ·exact⟨bQ,[.int .u32 F x,.int .u64 H 11],p8,λE=>rfl,rfl,rfl,(by refine au.j7 (aAw x _) (by delta aj az iN j9 cr cz fe fG L5;exact rfl) ?_;exact⟨u2 (ud hx 2048 (by decide)) (um _),nZ (p9 _ _)⟩)⟩
   ·exact⟨bQ,[.int .u32 F x,.int .u64 H 13],p8,λE=>rfl,rfl,rfl,(by refine au.j7 (aAx x _) (by delta aj az iN j9 cr cz fe fG L6;exact rfl) ?_;exact⟨u2 (ud hx 8192 (by decide)) (um _),nZ (p9 _ _)⟩)⟩
   ·exact⟨bQ,[.int .u32 F x,.int .u64 H 17],p8,λE=>rfl,rfl,rfl,(by refine au.j7 (aAy x _) (by delta aj az iN j9 cr cz fe fG L9;exact rfl) ?_;exact⟨u2 (ud hx 131072 (by decide)) (um _),nZ (p9 _ _)⟩)⟩
   ·exact⟨bQ,[.int .u32 F x,.int .u64 H 18],p8,λE=>rfl,rfl,rfl,(by refine au.j7 (aAz x _) (by delta aj az iN j9 cr cz fe fG L8;exact rfl) ?_;exact⟨u2 (ud hx 262144 (by decide)) (um _),nZ (p9 _ _)⟩)⟩
   ·exact⟨bQ,[.int .u32 F x,.int .u64 H 19],p8,λE=>rfl,rfl,rfl,(by refine au.j7 (aAA x _) (by delta aj az iN j9 cr cz fe fG Mb;exact rfl) ?_;exact⟨u2 (ud hx 524288 (by decide)) (um _),nZ (p9 _ _)⟩)⟩
   ·exact⟨bQ,[.int .u32 F x,.int .u64 H 22],p8,λE=>rfl,rfl,rfl,(by refine au.j7 (aAB x _) (by delta aj az iN j9 cr cz fe fG Ma;exact rfl) ?_;exact⟨u2 (ud hx 4194304 (by decide)) (um _),nZ (p9 _ _)⟩)⟩
   ·exact⟨bQ,[.int .u32 F x,.int .u64 H 25],p8,λE=>rfl,rfl,rfl,(by refine au.j7 (aAC x _) (by delta aj az iN j9 cr cz fe fG Md Db;exact rfl) ?_;exact⟨u2 (ud hx 33554432 (by decide)) (um _),nZ (p9 _ _)⟩)⟩
  ·cases h
 ·cases h
theorem uo {a b:Int}(ha:U a)(hb:U b):U (bitsOf .or a b):=F1 (.inr (.inl rfl)) ha hb
theorem amO (s:h_)(i:Int):U (ah s i):=by have:=e8 s i;exact⟨this.1,by omega⟩
theorem atJ:aq M 176 (aI Lm):=by
 refine iH p8 (n:=20) (fn:=b!) Tryz.func176 (by kernel_rfl) (by kernel_rfl) ?_;intro args p r h hp;unfold Lm at h;split at h
 ·rename_i s i;cases h;obtain⟨h0,h1,h2⟩:=hp;have b:=amO s;refine⟨rfl,rfl,au.of_eq (awL s i _) ⟨by omega,by omega,b _,by omega,by omega,by omega,b _,u2 (um _) (um _),by omega,by omega,by omega,b _,u2 (uo (um _) (um _)) (um _),by omega,by omega,by omega,b _,u2 (uo (uo (um _) (um _)) (um _)) (b _),nZ ?_⟩⟩;obtain⟨n,rfl⟩:=Int.eq_ofNat_of_zero_le h0;rfl
 ·cases h
theorem apV (T:h_)(x:Nat):(T++(128:UInt8)::Y x 0).length=T.length+(x+1):=by rw[bW,cy,c_]
theorem aez {T:h_}(hT:T.length<1152921504606846976):au (eS (acR T) 137 bl [.str F T] (λv=>ai v (.str F (jt T)))):=by
 refine au.j7 (aAu T _) (by delta Bk Sr NI dQ fM iu aJ fq bx bB aj aC fQ aA i7 kJ dU eY cJ aX br aP kG aT ff k5 cE lq Dl Fx aqA zO aa5 aaU ais arY;exact rfl) ?_;have hz:p6 T=(119-T.length%64)%64:=rfl;refine⟨by omega,⟨0,Nat.zero_le _,rfl,aa.refl _,trivial⟩,λx hx=> ?_⟩;have hl:=apV T x;have hc: ∀(l:h_) (b:UInt8),(cat l [b]).length=l.length+1:=λl b=>by simp[cat]
 refine⟨by omega,λa=>⟨by omega,x+1,⟨?_,?_⟩,?_,aa.refl _,trivial⟩,λa=> ?_⟩
 ·have a: ¬ (((T++(128:UInt8)::Y x 0).length:Int)%64=56):=by simpa using a
  rw[hl] at a;omega
 ·have a: ¬ (((T++(128:UInt8)::Y x 0).length:Int)%64=56):=by simpa using a
  rw[hl] at a;omega
 ·show(T++(128:UInt8)::Y x 0)++[0]=_;rw[cl,ct,← List.replicate_succ']
 ·have a:((T++(128:UInt8)::Y x 0).length:Int)%64=56:=by simpa using a
  rw[hl] at a;have e:x=p6 T:=by omega
  refine⟨by omega,by rw[hc];omega,by rw[hc,hc];omega,by rw[hc,hc,hc];omega,by rw[hc,hc,hc,hc];omega,by rw[hc,hc,hc,hc,hc];omega,by rw[hc,hc,hc,hc,hc,hc];omega,by rw[hc,hc,hc,hc,hc,hc,hc];omega,dc ?_⟩;subst e;unfold jt UM;simp only[cat,cl,ct,List.nil_append];rfl
theorem avm:aq M 137 (aI Pw):=by
 refine fh (ee (n:=20) Tryz.func137 (by kernel_rfl) (by kernel_rfl) ?_);intro args p a h hp;unfold Pw at h;split at h
 ·cases h;exact⟨_,auJ _,rfl,rfl,aez hp⟩
 ·cases h
theorem ake:aR M (λf=>av f ao5):=.cons ak9 (aE _) (.cons atJ (aE _) (.cons avm (aE _) iF))
theorem auI (T:h_):Sx.Good M (acQ T):=.of bI ake aO
theorem awS (T:h_)(q j:Nat)(hj:j<8):U (dN T q j):=by
 cases q with
 | zero =>
   have key: ∀ j,j<8->0<=YC j/\YC j<=4294967295:=by decide
   exact key j hj
 | succ q=>exact um _
theorem Sb {l l':Bool}{f g:Nat->Int}{tot tot':Nat}{ty:TypeId}(ht:tot=tot')(h: ∀ j,j<8->f j=g j):aa (.cells [.int .u32 l (f 0),.int .u32 l (f 1),.int .u32 l (f 2),.int .u32 l (f 3),.int .u32 l (f 4),.int .u32 l (f 5),.int .u32 l (f 6),.int .u32 l (f 7)] tot ty)
  (.cells [.int .u32 l' (g 0),.int .u32 l' (g 1),.int .u32 l' (g 2),.int .u32 l' (g 3),.int .u32 l' (g 4),.int .u32 l' (g 5),.int .u32 l' (g 6),.int .u32 l' (g 7)] tot' ty):=by
 subst ht;rw[h 0 (by decide),h 1 (by decide),h 2 (by decide),h 3 (by decide),h 4 (by decide),h 5 (by decide),h 6 (by decide),h 7 (by decide)];exact Sx.aa.cells (λE=>rfl) rfl
theorem asg {z:Bool}{n:Nat}{f g:Nat->Int}{tot tot':Nat}{ty:TypeId}(ht:tot=tot')(h: ∀ i,i<n->f i=g i):aa (.rows z n [.int .u32 f] F tot ty) (.rows z n [.int .u32 g] F tot' ty):=by subst ht;exact Sx.aa.agD h
theorem akQ {T:h_}(hT:T.length<1152921504606846976):au (eS (acQ T) 90 bn [.str F T] (λv=>ai v (.str F (bg T)))):=by
 refine au.j7 (aBQ T _) (by delta Fk I6 Ix Sr Er NI dQ fM iu aM aJ aF bx bF aj bH aC fQ az dK bt aA dU kM cc iJ fz dy aD dA bN aB b8 gZ cv bA aV br fo cI eD BF j8 mL kP jU wH aP cN k9 aT dR k5 aG dB gG iN j9 cr cz fL fO jI jv Df nL avA ur iM wX jc nS DB fZ eo ag8 GH Z6 rO Z9 x5 TS aan TT ahL IG IJ iy aaA aaD xh BU aaQ dL oh yE;exact rfl) ?_;dsimp only;have hl:=apW T;have hb:(jt T).length<T.length+100:=by have:=UN T;unfold jt;rw[bW];omega
 refine⟨hT,⟨(0,8),Nat.zero_le _,⟨rfl,rfl,rfl⟩,rfl,Sx.aa.cells (λE=>rfl) rfl,aa.refl _,trivial⟩,λx hx=>⟨λa=> ?_,λa=> ?_⟩⟩
 ·have a:=i_ a;have hq:64*x.1+64<=(jt T).length:=by omega
  have sl:(bT (jt T) (I (an 24)) (I (an 26)) ((64:Int)*(↑x.1:Int)) ((64:Int)*(↑x.1:Int)+(64:Int))).length=64:=by simp only[bT,List.length_take,c7];omega
  have sb: ∀ j,j<64->Ax (bT (jt T) (I (an 24)) (I (an 26)) ((64:Int)*(↑x.1:Int)) ((64:Int)*(↑x.1:Int)+(64:Int))) j=G8 (jt T) x.1 j:=λj hj=>by unfold Ax ah;rw[a!,G9];simp only[bT];rw[getD_take (by omega),cx,cx,List.getElem?_drop];rw[show(64*(x.1:Int)).toNat+j=64*x.1+j by omega]
  generalize bT (jt T) (I (an 24)) (I (an 26)) ((64:Int)*(↑x.1:Int)) ((64:Int)*(↑x.1:Int)+(64:Int))=S at sl sb ⊢;have hW: ∀ j,j<8->w8 (dN (jt T) x.1 0) (dN (jt T) x.1 1) (dN (jt T) x.1 2) (dN (jt T) x.1 3) (dN (jt T) x.1 4) (dN (jt T) x.1 5) (dN (jt T) x.1 6) (dN (jt T) x.1 7) j=dN (jt T) x.1 j:=λj hj=>by
   have:j=0∨j=1∨j=2∨j=3∨j=4∨j=5∨j=6∨j=7:=by omega
   rcases this with rfl | rfl | rfl | rfl | rfl | rfl | rfl | rfl<;>rfl
  generalize w8 (dN (jt T) x.1 0) (dN (jt T) x.1 1) (dN (jt T) x.1 2) (dN (jt T) x.1 3) (dN (jt T) x.1 4) (dN (jt T) x.1 5) (dN (jt T) x.1 6) (dN (jt T) x.1 7)=W at hW ⊢;have hU: ∀ j,j<64->U (Ax S j):=λj _=>amO S _;have hWu: ∀ j,j<8->U (W j):=λj hj=>by rw[hW j hj];exact awS _ _ _ hj
  generalize Ax S=B at sb hU ⊢;refine⟨by omega,by omega,⟨(0,0),⟨by decide,by decide⟩,rfl,rfl,rfl,aa.refl _,aa.refl _,trivial⟩,λg hg=>⟨λb=>⟨λc=> ?_,λc=> ?_⟩,λb=> ?_⟩⟩
  ·have c:=i_ c;have hg2:=hg.2;refine⟨⟨by omega,by omega,by rw[sl];omega⟩,⟨by omega,trivial,by omega,by omega⟩,by omega,λcap hcap=>⟨by omega,(g.1+1,cap),⟨⟨by show g.1+1<=64;omega,hcap⟩,by show 64-(g.1+1)<_;omega⟩,⟨rfl,rfl,rfl⟩,trivial,by show(g.1:Int)+1=((g.1+1:Nat):Int);omega,asg (Nat.mul_one cap) λj hj=> ?_,aa.refl _,aa.refl _,trivial⟩⟩;by_cases h:j<g.1
   ·rw[o_ h]
   ·have ej:j=g.1:=by omega
    subst ej;rw[p_ h,Nat.sub_self,a!,atD B (by omega)];rfl
  ·have b:=i_ b;have c:=j_ c;have e15:0+((g.1:Int)-15).toNat=g.1-15:=by omega
   have e2:0+((g.1:Int)-2).toNat=g.1-2:=by omega
   have e7:0+((g.1:Int)-7).toNat=g.1-7:=by omega
   have e16:0+((g.1:Int)-16).toNat=g.1-16:=by omega
   have u:=aAJ hU 48
   refine⟨by omega,by omega,by omega,by omega,by omega,by omega,u _,u _,u2 (Cc (u _) _) (Cc (u _) _),u2 (Jw (Cc (u _) _) (Cc (u _) _)) (ud (u _) 8 (by decide)),u _,u _,u2 (Cc (u _) _) (Cc (u _) _),u2 (Jw (Cc (u _) _) (Cc (u _) _)) (ud (u _) 1024 (by decide)),
    by omega,by omega,by omega,by omega,by omega,by omega,⟨by omega,trivial,by omega,by omega⟩,by omega,λcap hcap=>⟨by omega,(g.1+1,cap),⟨⟨by show g.1+1<=64;omega,hcap⟩,by show 64-(g.1+1)<_;omega⟩,⟨rfl,rfl,rfl⟩,trivial,by show(g.1:Int)+1=((g.1+1:Nat):Int);omega,asg (Nat.mul_one cap) λj hj=> ?_,aa.refl _,aa.refl _,trivial⟩⟩
   by_cases h:j<g.1
   ·rw[o_ h]
   ·have ej:j=g.1:=by omega
    subst ej;rw[p_ h,Nat.sub_self,e15,e2,e7,e16,awP B (j:=g.1) (by omega) (by omega)];rfl
  ·have b:=j_ b;have hg1:=hg.1;have eg:g.1=64:=by omega
   refine λcap hcap=>⟨⟨(0,cap),Nat.zero_le _,⟨rfl,rfl,rfl⟩,rfl,Sb (f:=dN (jt T) x.1) (g:=yU W B 0) (Nat.mul_one cap) λj hj=>(hW j hj).symm,aa.refl _,aa.refl _,aa.refl _,aa.refl _,trivial⟩,λy hy=>⟨λd=> ?_,λd=> ?_⟩⟩
   ·have d:=i_ d;have u:=asS (B:=B) hWu y.1;have u0:=u 0 (by decide);have u1:=u 1 (by decide);have u2':=u 2 (by decide);have u4:=u 4 (by decide);have u5:=u 5 (by decide);have u6:=u 6 (by decide);have r: ∀ {y:Int} (n:Int),U y->U (kV y n):=λn h=>Cc h n;refine⟨⟨u2 u4 u5,u2 uM u4,u2 (Jw uM u4) u6,u2 (Jr u4 u5) (Jr (Jw uM u4) u6),by omega,by omega,by omega,by omega,u4,rfl,rfl,rfl,u4,rfl,rfl,rfl,u2 (r _ u4) (r _ u4),u4,rfl,rfl,rfl,u2 (Jw (r _ u4) (r _ u4)) (r _ u4),y.1,rfl,?_,aa.refl _,aa.refl _,aa.refl _,aa.refl _,aa.refl _,trivial⟩,λi1 h1 =>⟨⟨u0,u0,u2 (r _ u0) (r _ u0),u0,u2 (Jw (r _ u0) (r _ u0)) (r _ u0),u2 u0 u1,u2 u0 u2',u2 (Jr u0 u1) (Jr u0 u2'),u2 u1 u2',u2 (Jw (Jr u0 u1) (Jr u0 u2')) (Jr u1 u2'),y.1,rfl,rfl,aa.refl _,aa.refl _,aa.refl _,aa.refl _,aa.refl _,trivial⟩,λi2 h2=>⟨by omega,(y.1+1,8),⟨by show y.1+1<=64;omega,by show 64-(y.1+1)<_;omega⟩,⟨rfl,rfl,rfl⟩,by show(y.1:Int)+1=((y.1+1:Nat):Int);omega,?_,aa.refl _,aa.refl _,aa.refl _,aa.refl _,trivial⟩⟩⟩
    ·rw[a!,Nat.zero_add];rfl
    ·injection h1 with h1;injection h1 with _ _ h1;injection h2 with h2;injection h2 with _ _ h2;have e1:i1=y.1:=by omega
     have e2:i2=y.1:=by omega
     subst e1;subst e2;exact Sx.aa.cells (λE=>rfl) rfl
   ·have d:=j_ d;have ey:y.1=64:=by omega
    refine⟨by omega,(x.1+1,y.2),⟨by show x.1+1<=_;omega,by show _-(x.1+1)<_;omega⟩,⟨rfl,rfl,rfl⟩,by show 64*(x.1:Int)+64=64*((x.1+1:Nat):Int);omega,?_,aa.refl _,trivial⟩;refine Sb (f:=λj=>(yU W B y.1 j+dN (jt T) x.1 j)%4294967296) (g:=dN (jt T) (x.1+1)) rfl λj hj=> ?_;rw[ey,Lg hW sb 64 j hj];exact apy _ _ _
 ·have a:=j_ a;have e:x.1=(jt T).length/64:=by omega
  exact⟨by omega,by omega,by omega,by omega,by omega,by omega,by omega,by omega,dc (by rw[e];rfl)⟩
theorem azL:aq M 90 (aI WB):=by
 refine fh (ee (n:=20) Tryz.func90 (by kernel_rfl) (by kernel_rfl) ?_);intro args p a h hp;unfold WB at h;split at h
 ·cases h;exact⟨_,auI _,rfl,rfl,akQ hp⟩
 ·cases h
theorem Xq {f:FuncId}{spec spec':List SV->Option (Prop×fC)}(h:aq M f (bZ spec))(hi: ∀ vs q' a',spec' vs=I (q',a')->q'->∃ q a,spec vs=I (q,a)/\q/\∀ m nx K,(a'.vc m nx K).holds->(a.vc m nx K).holds):aq M f (bZ spec'):=by
 intro args m nx K hk;refine h args m nx K ?_;unfold bZ at hk ⊢;split at hk
 ·rename_i q' a' hs;obtain⟨q,a,e,hq,g⟩:=hi _ _ _ hs hk.1;rw[e];exact⟨hq,g m nx K hk.2⟩
 ·exact hk.elim
def WY (vs:List SV):Option (Prop×fC):=match vs with
 | [.str F s]=>I (s.length<1099511627776/\bM s=H,.ret (.dr [(getD s).sv,.int .i64 H 0]))
 | _=>O
def QG (vs:List SV):Option (Prop×fC):=match vs with
 | [.str F t]=>I (t.length<9223372036854775808/\cH t=H,.ret (.dr [.str F (af t),.bool H H]))
 | _=>O
def JO:List SV->Option (Prop×SV)
 | [.str F a,.str F b]=>I (a.length<9223372036854775808/\b.length<9223372036854775808,.bool F (ag a b))
 | _=>O
noncomputable def V7:List (FuncId×PT):=(90,aI WB)::(55,aI qJ)::(139,bZ wz)::ao7
noncomputable def amo (a b:h_):aN :={α:=Nat,pre:=λ_ i=>Xy a b i,nF:=λ_ i=>a.length-i,fresh:=0,slots:=λ_ i=>[(5,.int .i64 F i)],mem:=λ_ _=>[]}
noncomputable def awW (a b:h_):iG:={bQ with cO:=λf=>av f V7,bU:=λf=>if f=96 then [(2,always (amo a b))] else []}
noncomputable def aw0 (n:Nat)(g:Nat->h_)(t:h_):iG:={bQ with cO:=λf=>av f V7,bU:=λf=>if f=143 then [(2,always (G3 5 n λi=>!decide (g i=t)))] else []}
def aBF:List E6:=[.of (.slice [.str λ_=>[]]),.of .one]
def adz (vs:List SV)(l:List Seen):Option (Prop×fC):=match vs,l with
 | [_,.str F t],[⟨_,_,_,n,_,[.str f]⟩]=>I (n<9223372036854775808,.ret (.bool F (MZ n f t)))
 | _,_=>O
noncomputable def O1:List (FuncId×PT):=(96,aI JO)::(143,bV aBF adz)::V7
noncomputable def Sd:iG:={bQ with cO:=λf=>av f O1}
def I8:List SV->Option (Prop×SV)
 | [.str F fr,.str F to,.str F p]=>I (fr.length<=1000/\to.length<=1000/\p.length<1099511627776,.bool F (hasB fr to p))
 | _=>O
def GN:List SV->Option (Prop×SV)
 | [.str F fr,.str F to,.str F p]=>I (fr.length<=1000/\to.length<=1000/\p.length<1099511627776,.bool F (dj fr to p))
 | _=>O
structure Lk where
 w:Sp
 s:Wk
 b:Bool
 hc:Nat
 c1:Nat
 c2:Nat
def Lk.vs (g:Lk)(kf kn:Nat):List SV:=[.str F g.w.fr,.str F g.w.to,.cT 0 1 g.w.z g.w.o 0 g.w.n g.w.c,.bY 1 1 H 0 g.w.n g.hc,.bY kf 2 H 0 g.s.fs.length g.c2,.bY kn 1 H 0 g.s.ns.length g.c1,.int .i64 F g.s.lk,.bool F g.b]
def Lk.hs (g:Lk):SB:=.rows H g.w.n [.str λi=>bg (g.w.f i)] F (g.hc*1) 9
def Lk.mem (g:Lk):Mem:=[(0,g.w.view),(1,g.hs),(2,kD g.s g.c2),(3,mQ g.s g.c1)]
def Wk.MW (s:Wk)(t:h_):Wk:={s with ns:=bif MZ s.ns.length (λi=>s.ns.getD i []) t then s.ns else s.ns++[t]}
def Lk.with (g:Lk)(y:Wk×Bool×Nat×Nat):Lk:={g with s:=y.1,b:=y.2.1,c1:=y.2.2.1,c2:=y.2.2.2}
structure Lk.atT (g:Lk):Prop where
 c1:g.s.ns.length<=g.c1
 c2:g.s.fs.length<=g.c2
 h:g.w.n<=g.hc
def ab1:mg :=
 {G:=Lk×h_,n:=4,N:=5,pre:=λx=>x.1.atT/\x.1.s.ns.length<=1000000,args:=λx=>[.agg (x.1.vs 2 3),.str F x.2],mem:=λx=>x.1.mem,
  Fg:=λx=>.all Nat λc=>.req ((x.1.s.MW x.2).ns.length<=c) (.ret (.agg (Lk.vs {x.1 with s:=x.1.s.MW x.2,c1:=c} 2 4)) [(1,x.1.hs),(2,kD x.1.s x.1.c2),(4,mQ (x.1.s.MW x.2) c)])}
structure aB5 (w:Sp):Prop where
 n:w.n<=200
 f: ∀ i,i<w.n->(w.f i).length<=1000
 g: ∀ i,i<w.n->bM (w.f i)=H
 fr:w.fr.length<=1000
 to:w.to.length<=1000
structure Wk.Bd (s:Wk)(c:Nat):Prop where
 ns:s.ns.length<=c
 fs:s.fs.length<=c
 lk:s.lk<=c
structure Bt where
 g:Lk
 C:Nat
 x:Nd
 p:h_
structure Bt.Pre (m:Nat)(q:Bt):Prop where
 m0:0<m
 w:aB5 q.g.w
 caps:q.g.atT
 x:aZ q.x=H
 p:q.p.length<=100000
 m1:m<=402
 go:q.g.b=F->q.g.s.Fit (q.g.s.lk+1)/\Ro q.g.w.full q.g.s/\401<=q.g.s.lk+m/\q.p.length<=13*q.g.s.lk
 bad:q.g.b=H->q.g.s.Bd q.C/\q.C<=100000
def Bt.Xs (m:Nat)(q:Bt):Bool:=!q.g.b&&lX q.g.w.full m q.g.s q.x q.p
structure Bt.Post (m:Nat)(q:Bt)(y:Wk×Bool×Nat×Nat):Prop where
 c1:y.1.ns.length<=y.2.2.1
 c2:y.1.fs.length<=y.2.2.2
 yes:q.Xs m=H->y.1=nO q.g.w.full m q.g.s q.x q.p/\y.2.1=F
 no:q.Xs m=F->y.2.1=H/\y.1.Bd (bif q.g.b then q.C+1 else 500+40*m)
def O3 (m:Nat):mg :=
 {G:=Bt,n:=4,N:=6,pre:=λq=>q.Pre m,args:=λq=>[.agg (q.g.vs 2 3),q.x.sv,.str F q.p],mem:=λq=>q.g.mem,
  Fg:=λq=>.all (Wk×Bool×Nat×Nat) λy=>.req (q.Post m y) (.ret (.agg ((q.g.with y).vs 4 5)) [(1,q.g.hs),(4,kD y.1 y.2.2.2),(5,mQ y.1 y.2.2.1)])}
noncomputable def ad5:List (FuncId×PT):=(92,dI ab1)::(54,aI I8)::(140,aI GN)::(142,bZ QG)::O1
noncomputable def azs (m:Nat):List (FuncId×PT):=(91,dI (O3 m))::(89,bZ WY)::ad5
def azA (j:Nat)(st:Sx.St):List Nat:=match st.m.get (By st j)with
 | some (.cells [_,_,_,_,.bY kf _ _ _ _ _,.bY kn _ _ _ _ _,_,_] _ _)=>[kf,kn]
 | _=>[]
def aCh (j:Nat)(st:Sx.St):List Nat:=match st.m.get (By st j)with
 | some (.cells [_,_,_,_,.bY kf _ _ _ _ _,_,_,_] _ _)=>[kf]
 | _=>[]
def azB (g:Lk)(kf kn:Nat):SB:=.cells (g.vs kf kn) 8 155
def auR (q:Bt):aN :={α:=h_,pre:=λ_ t=>oZ (cat q.p q.x.p)=H->t=cC (cat q.p q.x.p),nF:=λ_ _=>0,fresh:=0,slots:=λ_ t=>[(7,.str F t),(8,.bool F (oZ (cat q.p q.x.p)))],mem:=λ_ _=>[]}
def auT (q:Bt):aN :=
 {α:=Nat,pre:=λ_ c2=>q.g.b=F/\(q.g.s.p4 q.g.w.full q.x q.p).fs.length<=c2,nF:=λ_ _=>0,fresh:=1,slots:=λ_ _=>[],
  mem:=λst c2=>[(By st 3,azB (q.g.with (q.g.s.p4 q.g.w.full q.x q.p,F,q.g.c1,c2)) st.nx 3),(st.nx,kD (q.g.s.p4 q.g.w.full q.x q.p) c2)],drop:=aCh 3}
structure Ch (m:Nat)(q:Bt)(y:Nat×Wk×Bool×Nat×Nat):Prop where
 i:y.1<=16
 b:q.g.b=F
 c1:y.2.1.ns.length<=y.2.2.2.1
 c2:y.2.1.fs.length<=y.2.2.2.2
 go:y.2.2.1=F->eE q.g.w.full (qy q.g.w.full m) q.x q.p y.1 (q.g.s.p4 q.g.w.full q.x q.p)=I y.2.1
 bad:y.2.2.1=H->0<m/\eE q.g.w.full (qy q.g.w.full m) q.x q.p 16 (q.g.s.p4 q.g.w.full q.x q.p)=O/\y.2.1.Bd (500+40*m+2*y.1)
def at4 (m:Nat)(q:Bt):aN :=
 {α:=Nat×Wk×Bool×Nat×Nat,pre:=λ_ y=>Ch m q y,nF:=λ_ y=>16-y.1,fresh:=2,slots:=λ_ y=>[(9,.int .i64 F y.1)],
  mem:=λst y=>[(By st 3,azB (q.g.with y.2) st.nx (st.nx+1)),(st.nx,kD y.2.1 y.2.2.2.2),(st.nx+1,mQ y.2.1 y.2.2.2.1)],drop:=azA 3}
def aj8 (q:Bt)(i:Nat):aN :={α:=h_,pre:=λ_ t=>t.length<=q.p.length+13/\(q.x.r i≠[]->t=ki q.x q.p i),nF:=λ_ _=>0,fresh:=0,slots:=λ_ t=>[(10,.str F t)],mem:=λ_ _=>[]}
def YL (q:Bt)(st:Sx.St):Option tP:=match slot st.tmps 9 with
 | some (.int _ _ i)=>I (one (aj8 q i.toNat))
 | _=>O
def at2 (w:Sp)(h:h_):aN :={α:=Nat×Int,pre:=λ_ y=>y.1<=w.n/\lB (λi=>bg (w.f i)) h y.1 w.n y.2,nF:=λ_ y=>y.1,fresh:=0,slots:=λ_ y=>[(16,.int .i64 F ((y.1:Int)-1)),(15,.int .i64 F y.2)],mem:=λ_ _=>[]}
def aju (w:Sp)(st:Sx.St):Option tP:=match slot st.tmps 13 with
 | some (.str _ h)=>I (one (at2 w h))
 | _=>O
noncomputable def anh (m:Nat)(q:Bt):iG:={bQ with cO:=λf=>av f (azs m),bU:=λf=>if f=91 then [(9,always (at4 m q)),(105006,always (auR q)),(106008,always (auT q)),(112014,YL q),(21,aju q.g.w)] else []}
section
variable (s t : h_) (x : Lk × h_)
abbrev ars:=ju (SV.bool (F&&F) (decide (bB s<bB t))) (ag s t)
abbrev aeO:List h_:=bif MZ (cm x.1.s) (λa=>lT a x.1.s) x.2 then x.1.s.ns else x.1.s.ns++[x.2]
abbrev aeR:=x.1.s.ns
abbrev qa:=x.1.s
abbrev x7:=ay (aeR x)
abbrev xg:=ay (aeO x)
abbrev xj:=0+x7 x
end
theorem awd (a b:h_):dw Pl.k (jd (awW a b) 96 Tryz.f96 [.str F a,.str F b] (.ret (.bool F (ag a b)))) (cR (∀(c:Nat),Xy a b c->jH c (bB a) (jH c (bB b) (aj (fE c (bB a)) (fE c (bB b)) (aX (dx (fE c (bB a)) (fE c (bB b)) (SV.bool (F&&F) (decide (sI c a<sI c b))) (gb (ag a b))) (dF c (λd=>aD (Xy a b d) (aP (ay a) d (ay a) c) (gS c d))) (cJ (sI c a) (sI c b)))) (ars a b)) (ars a b)) (λc=>Xy a b c/\fy c)):=⟨by kernel_rfl,by kernel_rfl⟩
theorem aBN (n:Nat)(g:Nat->h_)(t:h_)(z:Bool)(o c:Nat)(key:Option Nat):dw (wO aqv (Pl.s 4 PZ)) (je (aw0 n g t) 143 Tryz.f143 [.cT 0 1 z o 0 n c,.str F t] [⟨key,z,o,n,c,[.str g]⟩] (.ret (.bool F (MZ n g t)))) (cR (∀(a:Nat),MV n (λa=>not (ew (g a) t)) a->Fk (rQ a n) (aj (mS a n) (pL o a n) (Fk (kY a g=t) (ju nM (MZ n g t)) (dF a (λb=>aD (MV n (λa=>not (ew (g a) t)) b) (aP n b n a) (gS a b))))) (ju fR (MZ n g t))) (λa=>MV n (λa=>not (ew (g a) t)) a/\fy a)):=⟨by kernel_rfl,by kernel_rfl⟩
theorem aAv (fr to p:h_):dw .t (jd Sd 54 Tryz.f54 [.str F fr,.str F to,.str F p] (.ret (.bool F (hasB fr to p)))) ((fr.length<1099511627776/\to.length<1099511627776/\(p.length<9223372036854775808/\(ak fr).length<9223372036854775808)/\((!Op.bytesLess p (ak fr))=H->((ak to).length<9223372036854775808/\p.length<9223372036854775808)/\ai (SV.bool F !Op.bytesLess (ak to) p) (SV.bool F (hasB fr to p)))/\((!Op.bytesLess p (ak fr))=F->ai (SV.bool H F) (SV.bool F (hasB fr to p))))):=⟨by kernel_rfl,by kernel_rfl⟩
theorem atk (fr to p:h_):dw Pl.t (jd Sd 140 Tryz.f140 [.str F fr,.str F to,.str F p] (.ret (.bool F (dj fr to p)))) (aj (bS fr) (bS to) (dM (bB p) (sA fr) (aj (aj nT (0<=bB p) (bB p<=sA fr)) (cW (ak to)/\cW p) (aX (Fk (bT (ak fr) O (cc 22) 0 (bB p)=p) (ai nM (Dp fr to p)) (aD (cW p) (cW (ak fr)) (ai (gb (not (uP p fr))) (Dp fr to p)))) (ai fR (Dp fr to p)) (ag (ak to) p))) (aD (cW (ak to)) (cW p) (aX (aD (cW p) (cW (ak fr)) (ai (gb (not (uP p fr))) (Dp fr to p))) (ai fR (Dp fr to p)) (ag (ak to) p))))):=⟨by kernel_rfl,by kernel_rfl⟩
theorem awB (x:Lk×h_):dw (jQ 0 (m4 11 4 Pl.k) (m4 7 4 Pl.k)) (runM Sd 92 Tryz.f92 ab1 x) (aD (aD i9 (xj x<=x7 x) uh) (dy (x7 x)) (aX (az True (xj x<=x7 x) (2*xj x*16<=281474976710656) (dy (xj x))/\(∀(a:Nat),cN (xj x) a (gL (xj x) (xj x) 2 (xj x) 16 (xj x)) (∀(a:Nat),aJ (aB (xj x)) a (∃(b:Nat),az (xg x<=b) (aK (aB (xj x)) (xg x) a b) (0<xg x) (gu b (gY (aB (xj x)) (aF a) 9 (bJ (λa=>dg a (xj x) a (xj x) (aU a (aeR x)) x.2) J)) (Wk.MW (qa x) x.2)))))) (∃(a:Nat),aj (xg x<=a) (aK (x7 x) (xg x) x.1.c1 a) (cv (x7 x) (aF x.1.c1) (mQ (Wk.MW (qa x) x.2) a) 9 [xW (aeR x)])) (MZ (x7 x) (λa=>aU a (aeR x)) x.2))):=⟨by kernel_rfl,by kernel_rfl⟩
end
end Go.Proofs.YtoibaecagklkaaaGreatDoor
