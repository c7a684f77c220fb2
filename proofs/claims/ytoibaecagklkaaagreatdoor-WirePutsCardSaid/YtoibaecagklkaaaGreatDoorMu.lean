/-
  The reference's nodes: the node that bytes are: the contract, for bytes that are few enough.
-/
import Derived.Test.YtoibaecagklkaaaGreatDoorMt
import Derived.Test.YtoibaecagklkaaaGreatDoorMo
open Bool renaming eq_false_iff->Q,false->o,true->C
open Go.BinOp renaming and->H,or->I,xor->F
open Go.IntKind renaming u32->O
open Go.Operand renaming tmp->K
open Go.Proofs.Tryz renaming f135->az,f137->Y,f141->aA,f176->aK,f177->M,f90->ag,func141->aS,prog->J
open Int renaming toNat_natCast->X
open List renaming append_assoc->a_,cons_append->a!,getD_eq_getElem?_getD->bl,length_append->an,length_cons->bn,length_drop->b5,length_nil->b6,length_replicate->b9,replicate->G
open Option renaming none->N,some->D
open UInt8 renaming ofNat->w
namespace Go.Proofs.YtoibaecagklkaaaGreatDoor
open Go Sx
variable {s:e_}{L:Nat}
section
open Go Sx
set_option maxRecDepth 20000
theorem YD {x y:Nd}(h:x.zW y):x.sv=y.sv:=by unfold Nd.sv Nd.wC BF;rw[h.k,h.p,h.v,h.r 0 (by decide),h.r 1 (by decide),h.r 2 (by decide),h.r 3 (by decide),h.r 4 (by decide),h.r 5 (by decide),h.r 6 (by decide),h.r 7 (by decide),h.r 8 (by decide),h.r 9 (by decide),h.r 10 (by decide),h.r 11 (by decide),h.r 12 (by decide),h.r 13 (by decide),h.r 14 (by decide),h.r 15 (by decide)]
def W9:SV:=.aD [cK,.bool C o]
def Nh (x:Nd):SV:=.aD [x.sv,.bool C C]
theorem xK (h:aJ s=o):(aJ s=C->aa W9 (Nh (getD s)))/\(aJ s=o->aa W9 W9) :=⟨λh'=>(by rw[h] at h';cases h'),λ_ _=>rfl⟩
theorem vH {x:Nd}{V:SV}(hr:eO L x.r)(hp:x.p.length<1152921504606846976)(hV:aa V (Nh x))(hx:aJ s=C->(getD s).zW x) :
  (eO L x.r/\x.p.length<1152921504606846976) /\
  (aI x=C->((!decide (cq x=s))=C->(aJ s=C->aa W9 (Nh (getD s)))/\(aJ s=o->aa W9 W9)) /\
    ((!decide (cq x=s))=o->(aJ s=C->aa V (Nh (getD s)))/\(aJ s=o->aa V W9))) /\
  (aI x=o->(aJ s=C->aa W9 (Nh (getD s)))/\(aJ s=o->aa W9 W9)):=by
 refine⟨⟨hr,hp⟩,λa=>⟨λb=> ?_,λb=> ?_⟩,λa=> ?_⟩
 ·have b: ¬ cq x=s:=by simpa using b
  refine xK (Q.2 λh=>b ?_);rw[← zO (hx h)];exact(rM h).2.2
 ·have b:cq x=s:=by simpa using b
  obtain⟨g1,g2⟩:=TI a b;rw[g1];exact⟨λ_=>by rw[Nh,YD g2];exact hV,λh=>by cases h⟩
 ·refine xK (Q.2 λh=> ?_);have:=(rM h).2.1;rw[om (hx h),a] at this;cases this
theorem lW {t:e_}(h:dh t=C):bt t=af t:=by rw[bt,(nY.1 h).1];rfl
theorem MK (h:aH s=0):getD s=eZ:=by unfold getD;rw[if_neg (by omega),if_neg (by omega),if_neg (by omega)]
theorem gS (h:aJ s=C):(s=[128]/\getD s=eZ)∨(s≠[128]/\bO s=C/\cy s=C/\cS (af s)=C /\
  ((au (af s)=2/\dh (aj (af s) 0)=C/\bI (af (aj (af s) 0))=C/\((cD (af (aj (af s) 0))=C/\dh (aj (af s) 1)=C/\getD s=mg s)∨(cD (af (aj (af s) 0))=o/\getD s=qR s))) ∨
   (au (af s)=17/\dh (aj (af s) 16)=C/\getD s=gP s))):=by
 have h0:=(rM h).1;by_cases e:s=[128]
 ·exact .inl ⟨e,MK (by rw[aH,if_pos e])⟩
 ·refine .inr ⟨e,?_⟩;have hk:aH s=bif bO s&&(cy s&&decide (aF s=[]))then kX (af s)else -1:=by rw[aH,if_neg e]
  cases c1:(bO s&&(cy s&&decide (aF s=[])))with
  | false=>rw[c1] at hk;rw[hk] at h0;exact absurd h0 (show ¬ (0:Int)<= -1 by decide)
  | true =>
    rw[c1] at hk;simp only[Bool.and_eq_true] at c1;have hk:aH s=kX (af s):=hk;refine⟨c1.1,c1.2.1,?_⟩;cases c2:cS (af s)with
    | false=>rw[hk,kX,c2] at h0;exact absurd h0 (show ¬ (0:Int)<= -1 by decide)
    | true =>
      refine⟨rfl,?_⟩;rw[kX,c2,cond_true] at hk;by_cases n2:au (af s)=2
      ·refine .inl ⟨n2,?_⟩;rw[if_pos n2,mW] at hk;cases c3:dh (aj (af s) 0)with
       | false=>rw[hk,c3] at h0;exact absurd h0 (show ¬ (0:Int)<= -1 by decide)
       | true =>
         cases c4:bI (af (aj (af s) 0))with
         | false=>rw[hk,c3,c4] at h0;exact absurd h0 (show ¬ (0:Int)<= -1 by decide)
         | true =>
           refine⟨rfl,rfl,?_⟩;rw[c3,c4] at hk;cases c5:cD (af (aj (af s) 0))with
           | false =>rw[c5] at hk;have hk:aH s=2:=hk;exact .inr ⟨rfl,by unfold getD;rw[if_neg (by omega),if_pos hk]⟩
           | true =>
             rw[c5] at hk;cases c6:dh (aj (af s) 1)with
             | false=>rw[c6] at hk;rw[hk] at h0;exact absurd h0 (show ¬ (0:Int)<= -1 by decide)
             | true =>rw[c6] at hk;have hk:aH s=1:=hk;exact .inl ⟨rfl,rfl,by unfold getD;rw[if_pos hk]⟩
      ·rw[if_neg n2] at hk;by_cases n17:au (af s)=17
       ·rw[if_pos n17] at hk;cases c3:dh (aj (af s) 16)with
        | false=>rw[c3] at hk;rw[hk] at h0;exact absurd h0 (show ¬ (0:Int)<= -1 by decide)
        | true =>rw[c3] at hk;have hk:aH s=3:=hk;exact .inr ⟨n17,rfl,by unfold getD;rw[if_neg (by omega),if_neg (by omega),if_pos hk]⟩
       ·rw[if_neg n17] at hk;rw[hk] at h0;exact absurd h0 (show ¬ (0:Int)<= -1 by decide)
theorem F4 (h:cy s=C):s≠[128]:=λe=>by subst e;revert h;decide
attribute [local irreducible] aj au cS af bO aF cy dh bI cD bT
theorem Ht (hs:s.length<=L/\s.length<9223372036854775808):av (dB (SH L s) 135 az [.str o s] (Vn s)):=by
 refine av.gV (YS L s) (by delta Bk Fk;exact rfl) ?_;dsimp only;by_cases big:(1000:Int)<(s.length:Int)
 ·have g:aJ s=false:=Q.2 λh=>by have:=XB h;omega
  exact⟨λ_=>xK g,λh=>absurd big (of_decide_eq_false h)⟩
 have hin:=j7 s;have hit:=nN (af s);have hl2:=λt=>j7 t;have hii: ∀ j,(bt (aj (af s) j)).length<=1000:=λj=>by
  have h1:=hit j;have h2:=hl2 (aj (af s) j);unfold bt;cases bO (aj (af s) j)
  ·simp
  ·simp only[cond_true];omega
 have hng:(bT (bt (aj (af s) 0))).length<1152921504606846976:=by
  have h1:=hii 0;have h2:=fK (bt (aj (af s) 0));have h3:(bT (bt (aj (af s) 0))).length<=(ak (bt (aj (af s) 0))).length:=by unfold bT;split<;>simp only[b5]<;>omega
  omega
 refine⟨λh=>absurd (of_decide_eq_true h) big,λ_=>⟨hs.2,λcB=> ?_,λcB=> ?_⟩⟩
 ·have hpos:0<s.length:=List.length_pos_iff.2 (eA.1 cB).1;have R0:Rel L []:=⟨.inl (by simp only[b6];omega),by simp⟩
  have RZ:eO L eZ.r:=λj hj=>by have e:eZ.r j=[]:=tS j hj;rw[e];exact R0
  have Zx:(s≠[128]->¬ aJ s=C)->aJ s=C->(getD s).zW eZ:=λhn h=>by
   rcases gS h with ⟨_,e⟩ | ⟨e,_⟩
   ·rw[e];exact⟨rfl,rfl,rfl,λ_ _=>rfl⟩
   ·exact absurd h (hn e)
  have Z:=λhn=>vH (L:=L) (s:=s) (x:=eZ) (V:=Nh eZ) RZ (by show 0<1152921504606846976;decide) (λ_=>rfl) (Zx hn)
  refine⟨by omega,λiB=>λcap hcap=>⟨λcL=>⟨λn2=> ?_,λn2=>⟨λ_=>⟨λn17=> ?_,λn17=>Z ?_⟩,λc=>absurd (cL.symm.trans c) (by decide)⟩⟩,λcL=>⟨λc=>absurd (c.symm.trans cL) (by decide),λ_=>Z ?_⟩⟩,
   λiB=>⟨λcL=>⟨λ_=>Z ?_,λ_=>Z ?_⟩,λcL=>⟨λ_=>Z ?_,λ_=>Z ?_⟩⟩⟩
  ·have n2:=of_decide_eq_true n2;have n2:au (af s)=2:=by omega
   have i0:=hit 0;have i1:=hit 1;have j0:=hii 0;have hlt:=FQ cB cL;have RI: ∀ j,Rel L (aj (af s) j):=λj=>⟨.inl (by have:=hit j;omega),by have:=hit j;omega⟩
   have no17: ∀ {P:Prop},decide ((↑(au (af s)):Int)=(17:Int))=C->P:=λh=>by have:=of_decide_eq_true h;omega
   have noL: ∀ {P:Prop},cy s=o->P:=λh=>absurd (cL.symm.trans h) (by decide);refine⟨by omega,by omega,by omega,by omega,λgB=>⟨λlf=>⟨by omega,by omega,by omega,λ_=>⟨no17,λ_=> ?_⟩,noL⟩,λlf=>⟨by omega,by omega,λ_=>⟨no17,λ_=> ?_⟩,noL⟩⟩,λgB=>xK ?_⟩
   ·refine vH (x:={k:=1,p:=bT (bt (aj (af s) 0)),v:=bt (aj (af s) 1),r:=cc}) RZ hng (λ_=>rfl) λh=> ?_;rcases gS h with ⟨e,_⟩ | ⟨_,_,_,_,⟨_,p0,_,⟨_,p1,e⟩ | ⟨e,_⟩⟩ | ⟨n,_⟩⟩
    ·exact absurd e (F4 cL)
    ·rw[e];exact⟨rfl,by rw[lW p0];rfl,by rw[lW p1];rfl,λ_ _=>rfl⟩
    ·rw[lW p0,e] at lf;cases lf
    ·omega
   ·refine vH (x:={k:=2,p:=bT (bt (aj (af s) 0)),v:=[],r:=bN (aj (af s) 1)}) (λj hj=> ?_) hng (λ_=>rfl) λh=> ?_
    ·have e:bN (aj (af s) 1) j=if j=0 then aj (af s) 1 else []:=eE (λi=>if i=0 then aj (af s) 1 else []) j hj
     show Rel L (bN (aj (af s) 1) j);rw[e];split
     ·exact RI 1
     ·exact R0
    ·rcases gS h with ⟨e,_⟩ | ⟨_,_,_,_,⟨_,p0,_,⟨e,_,_⟩ | ⟨_,e⟩⟩ | ⟨n,_⟩⟩
     ·exact absurd e (F4 cL)
     ·rw[lW p0,e] at lf;cases lf
     ·rw[e];exact⟨rfl,by rw[lW p0];rfl,rfl,λ_ _=>rfl⟩
     ·omega
   ·refine Q.2 λh=> ?_;rcases gS h with ⟨e,_⟩ | ⟨_,_,_,_,⟨_,p0,g,_⟩ | ⟨n,_⟩⟩
    ·exact absurd e (F4 cL)
    ·rw[lW p0,g] at gB;cases gB
    ·omega
  ·have n17:=of_decide_eq_true n17;have n17:au (af s)=17:=by omega
   have i16:=hit 16;have hlt:=FQ cB cL;have RI: ∀ j,Rel L (aj (af s) j):=λj=>⟨.inl (by have:=hit j;omega),by have:=hit j;omega⟩
   refine⟨⟨0,by omega,rfl,Sx.ah.cells (λE=>rfl) rfl,ah.refl _,ah.refl _,trivial⟩,λi hi=>⟨λh=> ?_,λh=> ?_⟩⟩
   ·have h:=of_decide_eq_true h;rw[X,Nat.zero_add];refine⟨by omega,by omega,by omega,rfl,λk=>⟨by omega,by omega,by omega,by omega,by omega,i+1,⟨by omega,by omega⟩,by omega,?_,ah.refl _,ah.refl _,trivial⟩,λk=>⟨by omega,i+1,⟨by omega,by omega⟩,by omega,?_,ah.refl _,ah.refl _,trivial⟩⟩
    ·have k: ¬ aj (af s) i=[128]:=by
      have:decide (aj (af s) i=aq [])=false:=by simpa using k
      exact of_decide_eq_false this
     exact Gk (f:=λj=>if i=j then aj (af s) i else fO (af s) i j) λj _=>Jc k j
    ·have k:aj (af s) i=[128]:=by
      have:decide (aj (af s) i=aq [])=true:=by simpa using k
      exact of_decide_eq_true this
     exact Gk λj _=>Jb k j
   ·have h:=of_decide_eq_false h;have ei:i=16:=by omega
    subst ei;refine⟨by omega,by omega,by omega,vH (x:={k:=3,p:=[],v:=bt (aj (af s) 16),r:=dR (fO (af s) 16)}) (λj hj=> ?_) (by show 0<1152921504606846976;decide) (λ_=>rfl) λh=> ?_⟩
    ·have e:dR (fO (af s) 16) j=fO (af s) 16 j:=eE (fO (af s) 16) j hj;show Rel L (dR (fO (af s) 16) j);rw[e,fO,if_pos hj,cF];split
     ·exact R0
     ·exact RI j
    ·rcases gS h with ⟨e,_⟩ | ⟨_,_,_,_,⟨n,_⟩ | ⟨_,p16,e⟩⟩
     ·exact absurd e (F4 cL)
     ·omega
     ·rw[e];refine⟨rfl,rfl,by rw[lW p16];rfl,λj hj=> ?_⟩;show dR (cF (af s)) j=dR (fO (af s) 16) j;have e1:dR (fO (af s) 16) j=fO (af s) 16 j:=eE (fO (af s) 16) j hj;have e2:dR (cF (af s)) j=cF (af s) j:=eE (cF (af s)) j hj;rw[e1,e2,fO,if_pos hj]
  ·intro e h;have n2:=of_decide_eq_false n2;have n17:=of_decide_eq_false n17;rcases gS h with ⟨e',_⟩ | ⟨_,_,_,_,⟨n,_⟩ | ⟨n,_⟩⟩
   ·exact e e'
   ·omega
   ·omega
  all_goals
   intro e h;rcases gS h with ⟨e',_⟩ | ⟨_,_,l,i,_⟩
   ·exact e e'
   ·first
    | exact absurd (l.symm.trans cL) (by decide)
    | exact absurd (i.symm.trans iB) (by decide)
 ·have g:aJ s=false:=QO cB;exact⟨by omega,λ_ _ _=>xK g,λ_=>xK g⟩
theorem Tl (hI:ax J 141 (bw (dZ L))):ax J 135 (bw (xW L)):=by
 refine cn (n:=20) (fn:=az) Tryz.func135 (by kernel_rfl) (by kernel_rfl) ?_;intro args p a h hp;unfold xW at h;split at h
 ·cases h;exact⟨SH L _,.of bz (Dn hI) aU,rfl,λb=>by cases b<;>exact rfl,Ht hp⟩
 ·cases h
theorem xx (hI:ax J 141 (bw (dZ L))):aQ J (λf=>ay f (Lt L)):=.cons (Tl hI) (aZ _) (Dn hI)
end
section
open Go Sx
set_option maxRecDepth 20000
theorem EY (hI:ax J 141 (bw (dZ L))):ax J 141 (bw (dZ (L+1))):=by
 refine cn (n:=20) (fn:=aA) aS (by kernel_rfl) (by kernel_rfl) ?_;intro args p a h hp;unfold dZ at h;split at h
 ·rename_i t;cases h;refine⟨Nq L,.of bz (xx hI) aU,rfl,λb=>by cases b<;>exact rfl,av.gV (Rk L t) (by delta Bk Fk;exact rfl) ?_⟩
  have hp:Rel (L+1) t:=hp;have hN:aa (SV.aD [cK,.bool C o]) (.aD [cK,.bool C o]):=λ_=>rfl;refine⟨λa=>⟨λb=> ?_,λ_=>hN⟩,λa=>⟨⟨?_,hp.2⟩,λb=>⟨λc=>⟨λd=> ?_,λ_=>hN⟩,λc=>⟨λd=>λ_=>rfl,λd=> ?_⟩⟩,λb=>⟨λd=> ?_,λ_=>hN⟩⟩⟩
  ·have a:=of_decide_eq_true a;have:=mN b;omega
  ·have a:=of_decide_eq_false a;rcases hp.1 with h | h<;>omega
  ·rw[qy,c] at d;simp at d
  ·have a:=of_decide_eq_false a;rw[qy,b,c,decide_eq_true (show t.length<32 by omega)] at d;simp at d
  ·rw[qy,b] at d;simp at d
 ·cases h
theorem XE:Sx.Good J Ks:=.of bz (aQ.cons (λ_ _ _ _ h=>h.elim) (λ_ _ _ _ _ _ h=>h) xu) aU
theorem O6:ax J 141 (bw (dZ 0)):=by
 refine cn (n:=20) (fn:=aA) aS (by kernel_rfl) (by kernel_rfl) ?_;intro args p a h hp;unfold dZ at h;split at h
 ·rename_i t;cases h;have hp:Rel 0 t:=hp;have h32:32<=t.length:=by rcases hp.1 with h | h;exact absurd h (Nat.not_lt_zero _);exact h
  refine⟨Ks,XE,rfl,λb=>by cases b<;>exact rfl,av.gV (M4 t) (by delta Bk Fk;exact rfl) ?_⟩
  have hN:aa (SV.aD [cK,.bool C o]) (.aD [cK,.bool C o]):=λ_=>rfl;refine⟨λa=>⟨λb=> ?_,λ_=>hN⟩,λa=> ?_⟩
  ·have:=mN b;omega
  ·have a:=of_decide_eq_false a;omega
 ·cases h
theorem qm: ∀ L,ax J 141 (bw (dZ L))
 | 0=>O6
 | L+1=>EY (qm L)
theorem Nx:ax J 89 (bw (kg 9223372036854775808)):=by
 refine cn (n:=20) (fn:=Tryz.f89) Tryz.func89 (by kernel_rfl) (by kernel_rfl) ?_;intro args p a h hp;unfold kg at h;split at h
 ·rename_i s;cases h;have hp:s.length<=9223372036854775808/\s.length<1099511627776:=hp;refine⟨Nq 9223372036854775808,.of bz (xx (qm _)) aU,rfl,λb=>by cases b<;>exact rfl,av.gV (ab2 9223372036854775808 s) (by delta Bk;exact rfl) ?_⟩
  exact⟨⟨hp.1,by omega⟩,λa=>⟨λ_ _=>rfl,λb=>absurd (a.symm.trans b) (by decide)⟩,λa=>⟨λb=>absurd (b.symm.trans a) (by decide),λ_ _=>rfl⟩⟩
 ·cases h
noncomputable def Um:List (FuncId×PT):=(89,bw (kg 9223372036854775808))::Lt 9223372036854775808
theorem PB:aQ J (λf=>ay f Um):=.cons Nx (aZ _) (xx (qm _))
theorem iA (a b:Int):bitsOf .or a b=bitsOf .or b a:=by
 show((a.toNat ||| b.toNat:Nat):Int)=((b.toNat ||| a.toNat:Nat):Int)
 rw[Nat.or_comm]
theorem pL (b:Nat->Int){n j:Nat}(hj:j<16+n): ∀ {m:Nat},n<=m->wL b m j=wL b n j
 | 0,h=>by obtain rfl:n=0:=by omega
           rfl
 | m+1,h=>by
   by_cases e:n=m+1
   ·subst e;rfl
   ·rw[wu,if_neg (by omega)];exact pL b hj (by omega)
theorem WK (b:Nat->Int){j:Nat}(hj:j<16):wL b 48 j=El b j:=by rw[pL b (n:=0) (by omega) (by omega)];unfold wL;rw[if_pos hj]
theorem Zk (b:Nat->Int){j:Nat}(h1:16<=j)(h2:j<64):wL b 48 j=UO (wL b 48 (j - 16)) (wL b 48 (j - 15)) (wL b 48 (j - 7)) (wL b 48 (j - 2)):=by
 obtain⟨n,rfl⟩: ∃ n,j=16+n:=⟨j - 16,by omega⟩
 rw[pL b (n:=n+1) (by omega) (by omega),wu,if_pos rfl];rw[pL b (n:=n) (j:=16+n - 16) (by omega) (m:=48) (by omega),pL b (n:=n) (j:=16+n - 15) (by omega) (m:=48) (by omega),pL b (n:=n) (j:=16+n - 7) (by omega) (m:=48) (by omega),pL b (n:=n) (j:=16+n - 2) (by omega) (m:=48) (by omega)]
theorem UJ (W B:Nat->Int)(j:Nat):(cj W B 64 j+W j)% 4294967296=kz W B j:=by unfold kz;rw[Int.add_comm]
theorem U5 (T:e_):(bA T).length% 64=0:=by unfold bA Ee Eb iw;simp only[an,bn,b9,b6];omega
def ug:List SV->Option (Prop×SV)
 | [.int .u32 o x,.int .u64 o n]=>(match Yy n with
   | true=>D (0<=x/\x<=4294967295,.int .u32 o (bU x n))
   | false=>N)
 | _=>N
def aR (s:e_)(j:Nat):Int:=ai s (j:Int)
def yh:List SV->Option (Prop×SV)
 | [.str o s,.int .i64 o i]=>D (0<=i/\i<16/\4*i+4<=s.length,.int .u32 o (El (aR s) i.toNat))
 | _=>N
def Bt:List SV->Option (Prop×SV)
 | [.str o s]=>D (s.length<1152921504606846976,.str o (bA s))
 | _=>N
noncomputable def aae (T:e_):aX :={α:=Nat,pre:=λ_ i=>i<=iw T,jx:=λ_ i=>iw T - i,fresh:=0,slots:=λ_ i=>[(0,.str o (T++128::G i 0))],mem:=λ_ _=>[]}
noncomputable def Ku (T:e_):dK:={bE with cm:=λf=>ay f dW,bh:=λf=>if f=137 then [(3,always (aae T))] else []}
theorem XI (T:e_):Sx.Good J (Ku T):=.of bz cW aU
noncomputable def Uk:List (FuncId×PT):=(177,aM ug)::(176,aM yh)::(137,aM Bt)::dW
def w8 (w0 w1 w2 w3 w4 w5 w6 w7:Int):Nat->Int:=zu [w0,w1,w2,w3,w4,w5,w6,w7]
def So (A:(Nat->Int)->aX)(st:Sx.St):Option ja:=match slot st.tmps 2 with
 | some (.str _ s)=>D (one (A (aR s)))
 | _=>N
def Ko (A:(Nat->Int)->(Nat->Int)->aX)(st:Sx.St):Option ja:=match slot st.tmps 0 with
 | some (.slc k _ _ _ _)=>(match st.m.get k with
   | some (.cells [.int _ _ w0,.int _ _ w1,.int _ _ w2,.int _ _ w3,.int _ _ w4,.int _ _ w5,.int _ _ w6,.int _ _ w7] _ _)=>So (A (w8 w0 w1 w2 w3 w4 w5 w6 w7)) st
   | _=>N)
 | _=>N
noncomputable def acN (B:Nat->Int):aX :=
 {α:=Nat×Nat,pre:=λ_ x=>x.1<=64/\x.1<=x.2,jx:=λ_ x=>64 - x.1,fresh:=1,slots:=λst x=>[(7,.bx st.nx 1 C 0 x.1 x.2),(8,.int .i64 o x.1)],
  mem:=λst x=>[(st.nx,.rows C x.1 [.int .u32 (wL B 48)] o x.2 167)]}
noncomputable def acM (W B:Nat->Int):aX :=
 {α:=Nat×Nat,pre:=λ_ x=>x.1<=64,jx:=λ_ x=>64 - x.1,fresh:=1,slots:=λst x=>[(13,.slc st.nx 0 8 C x.2),(14,.int .i64 o x.1)],
  mem:=λst x=>[(st.nx,.cells [.int .u32 o (cj W B x.1 0),.int .u32 o (cj W B x.1 1),.int .u32 o (cj W B x.1 2),.int .u32 o (cj W B x.1 3),.int .u32 o (cj W B x.1 4),.int .u32 o (cj W B x.1 5),.int .u32 o (cj W B x.1 6),.int .u32 o (cj W B x.1 7)] x.2 167)]}
noncomputable def abf (W B:Nat->Int):aX :={α:=Nat,pre:=λst i=>slot st.tmps 14=D (.int .i64 o (i:Int)),jx:=λ_ _=>0,fresh:=0,slots:=λ_ i=>[(21,.int .u32 o (RL (cj W B i) (ER i) (wL B 48 i)))],mem:=λ_ _=>[]}
noncomputable def abh (W B:Nat->Int):aX :={α:=Nat,pre:=λst i=>slot st.tmps 14=D (.int .i64 o (i:Int)),jx:=λ_ _=>0,fresh:=0,slots:=λ_ i=>[(22,.int .u32 o (ZZ (cj W B i)))],mem:=λ_ _=>[]}
noncomputable def aad (T:e_):aX :=
 {α:=Nat×Nat,pre:=λ_ x=>x.1<=(bA T).length / 64,jx:=λ_ x=>(bA T).length / 64 - x.1,fresh:=1,slots:=λst x=>[(3,.slc st.nx 0 8 C x.2),(6,.int .i64 o (64*(x.1:Int)))],
  mem:=λst x=>[(st.nx,.cells [.int .u32 o (aC (bA T) x.1 0),.int .u32 o (aC (bA T) x.1 1),.int .u32 o (aC (bA T) x.1 2),.int .u32 o (aC (bA T) x.1 3),.int .u32 o (aC (bA T) x.1 4),.int .u32 o (aC (bA T) x.1 5),.int .u32 o (aC (bA T) x.1 6),.int .u32 o (aC (bA T) x.1 7)] x.2 167)]}
noncomputable def Kt (T:e_):dK:={bE with cm:=λf=>ay f Uk,bh:=λf=>if f=90 then [(4,always (aad T))]
 else if f=138 then [(3,So acN),(14,Ko acM),(1017,Ko abf),(1018,Ko abh)] else []}
def F7:List SV->Option (Prop×SV)
 | [.str o s]=>D (s.length<1152921504606846976,.str o (b7 s))
 | _=>N
theorem adu (T:e_)(R:SV->Prop):VC.holds (cA (Kt T) 90 ag [.str o T] R)=((λe:Nat->SV=>((λP:Nat->(Nat×Nat)->SV=>((λM:Nat->(Nat×Nat)->SV=>((λQ:Nat->(Nat×Nat)->(Nat×Nat)->SV=>((λS:Nat->(Nat×Nat)->(Nat×Nat)->SV=>((λU:Nat->(Nat×Nat)->(Nat×Nat)->SV=>((λV:Nat->(Nat×Nat)->(Nat×Nat)->SV=>((λW:Nat->(Nat×Nat)->SV=>((λf:(Nat×Nat)->(Nat->Int)=>((λg:SB=>((λd:(Nat×Nat)->e_=>((λk:(Nat×Nat)->SB=>((λm:(Nat×Nat)->(Nat×Nat)->SB=>((λl:(Nat×Nat)->(Nat×Nat)->SB=>((λh:(Nat×Nat)->(Nat×Nat)->Int=>((λj:(Nat×Nat)->(Nat×Nat)->Int=>((λn:(Nat×Nat)->(Nat×Nat)->Int=>((λp:(Nat×Nat)->(Nat×Nat)->Int=>((λq:(Nat×Nat)->(Nat×Nat)->Int=>((λr:(Nat×Nat)->(Nat×Nat)->Int=>((T.length<1152921504606846976/\(∃(x:Nat×Nat),x.1<=(bA T).length / 64/\((0:Nat)=(0:Nat)/\(8:Nat)=(8:Nat)/\8=x.2)/\(0:Int)=64*(x.1:Int)/\ah (SB.cells [e 1779033703,e 3144134277,e 1013904242,e 2773480762,e 1359893119,e 2600822924,e 528734635,e 1541459225] 8 167) (SB.cells (K8 (λi=>P i x) []) x.2 167)/\ah g g/\True)/\∀(a:Nat×Nat),a.1<=(bA T).length / 64->Fk (64*(a.1:Int)<(↑(bA T).length:Int)) (I6 (64*(a.1:Int)+64)/\((0:Int)<=64*(a.1:Int)/\64*(a.1:Int)<=64*(a.1:Int)+64/\64*(a.1:Int)+64<=(↑(bA T).length:Int))/\(∃(y:Nat×Nat),(y.1<=64/\y.1<=y.2)/\y.1=0/\0=(y.1:Int)/\(SB.rows C y.1 [aE.int O (wL (aR (d a)) 48)] o y.2 167).no=C/\ah (k a) (k a)/\ah g g/\True)/\∀(c:Nat×Nat),c.1<=64/\c.1<=c.2->Fk ((c.1:Int)<64) (Fk ((c.1:Int)<16) ((0<=(c.1:Int)/\(c.1:Int)<16/\4*(c.1:Int)+4<=(↑(d a).length:Int))/\(0+c.1<=c.1/\True/\2*(c.1+1)*4<=(281474976710656:Nat)/\c.1+1<(9223372036854775808:Nat))/\c.2=c.2*1/\∀(E:Nat),c.1+1<=E->I6 ((c.1:Int)+1)/\∃(s:Nat×Nat),((s.1<=64/\s.1<=s.2)/\64 - s.1<64 - c.1)/\((0:Nat)=(0:Nat)/\c.1+1=s.1/\E=s.2)/\True/\(c.1:Int)+1=(s.1:Int)/\ah (SB.rows C (c.1+1) [aE.int O fun(G:Nat)=>if G<c.1 then wL (aR (d a)) 48 G else zu [El (aR (d a)) (c.1:Int).toNat] (G - c.1)] o (E*1) 167) (SB.rows C s.1 [aE.int O (wL (aR (d a)) 48)] o s.2 167)/\ah (k a) (k a)/\ah g g/\True) (I6 ((c.1:Int) - 15)/\(0<=(c.1:Int) - 15 /\(c.1:Int) - 15<(c.1:Int))/\0+((c.1:Int) - 15).toNat<c.1/\I6 ((c.1:Int) - 2)/\(0<=(c.1:Int) - 2/\(c.1:Int) - 2<(c.1:Int))/\0+((c.1:Int) - 2).toNat<c.1/\(0<=wL (aR (d a)) 48 (0+((c.1:Int) - 15).toNat)/\wL (aR (d a)) 48 (0+((c.1:Int) - 15).toNat)<=4294967295)/\(0<=wL (aR (d a)) 48 (0+((c.1:Int) - 15).toNat)/\wL (aR (d a)) 48 (0+((c.1:Int) - 15).toNat)<=4294967295)/\(0<=bU (n a c) 7/\bU (n a c) 7<=(4294967295:Int)/\0<=bU (n a c) 18/\bU (n a c) 18<=(4294967295:Int))/\(0<=bitsOf F (bU (n a c) 7) (bU (n a c) 18)/\bitsOf F (bU (n a c) 7) (bU (n a c) 18)<=4294967295/\0<=wL (aR (d a)) 48 (0+((c.1:Int) - 15).toNat) / 8/\wL (aR (d a)) 48 (0+((c.1:Int) - 15).toNat) / 8<=(4294967295:Int))/\(0<=wL (aR (d a)) 48 (0+((c.1:Int) - 2).toNat)/\wL (aR (d a)) 48 (0+((c.1:Int) - 2).toNat)<=4294967295) /\(0<=wL (aR (d a)) 48 (0+((c.1:Int) - 2).toNat)/\wL (aR (d a)) 48 (0+((c.1:Int) - 2).toNat)<=4294967295)/\(0<=bU (p a c) 17/\bU (p a c) 17<=(4294967295:Int)/\0<=bU (p a c) 19/\bU (p a c) 19<=(4294967295:Int))/\(0<=bitsOf F (bU (p a c) 17) (bU (p a c) 19)/\bitsOf F (bU (p a c) 17) (bU (p a c) 19)<=4294967295/\0<=wL (aR (d a)) 48 (0+((c.1:Int) - 2).toNat) / 1024/\wL (aR (d a)) 48 (0+((c.1:Int) - 2).toNat) / 1024<=(4294967295:Int))/\I6 ((c.1:Int) - 16)/\(0<=(c.1:Int) - 16/\(c.1:Int) - 16<(c.1:Int))/\0+((c.1:Int) - 16).toNat<c.1/\I6 ((c.1:Int) - 7)/\(0<=(c.1:Int) - 7/\(c.1:Int) - 7<(c.1:Int))/\0+((c.1:Int) - 7).toNat<c.1/\(0+c.1<=c.1/\True/\2*(c.1+1)*4<=(281474976710656:Nat)/\c.1+1<(9223372036854775808:Nat))/\c.2=c.2*1 /\∀(I:Nat),c.1+1<=I->I6 ((c.1:Int)+1)/\∃(t:Nat×Nat),((t.1<=64/\t.1<=t.2)/\64 - t.1<64 - c.1)/\((0:Nat)=(0:Nat)/\c.1+1=t.1/\I=t.2)/\True/\(c.1:Int)+1=(t.1:Int)/\ah (SB.rows C (c.1+1) [aE.int O fun(J:Nat)=>if J<c.1 then wL (aR (d a)) 48 J else zu [(((wL (aR (d a)) 48 (0+((c.1:Int) - 16).toNat)+bitsOf F (bitsOf F (bU (n a c) 7) (bU (n a c) 18)) (wL (aR (d a)) 48 (0+((c.1:Int) - 15).toNat) / 8))% 4294967296+wL (aR (d a)) 48 (0+((c.1:Int) - 7).toNat))% 4294967296+bitsOf F (bitsOf F (bU (p a c) 17) (bU (p a c) 19)) (wL (aR (d a)) 48 (0+((c.1:Int) - 2).toNat) / 1024))% 4294967296] (J - c.1)] o (I*1) 167) (SB.rows C t.1 [aE.int O (wL (aR (d a)) 48)] o t.2 167)/\ah (k a) (k a)/\ah g g/\True)) (∀(L:Nat),8<=L ->(∃(z:Nat×Nat),z.1<=64/\((0:Nat)=(0:Nat)/\(8:Nat)=(8:Nat)/\L=z.2)/\0=(z.1:Int)/\ah (SB.cells (K8 (λi=>M i a) []) (L*1) 167) (SB.cells (K8 (λi=>Q i a z) []) z.2 167)/\ah (SB.cells [] 0 167) (SB.cells [] 0 167)/\ah (l c a) (l c a)/\ah (k a) (k a)/\ah g g/\True)/\∀(b:Nat×Nat),b.1<=64->Fk ((b.1:Int)<64) (((0<=cj (f a) (aR (d a)) b.1 4/\cj (f a) (aR (d a)) b.1 4<=4294967295/\0<=cj (f a) (aR (d a)) b.1 5/\cj (f a) (aR (d a)) b.1 5<=4294967295)/\((0:Int)<=(4294967295:Int)/\(4294967295:Int)<=(4294967295:Int)/\0<=cj (f a) (aR (d a)) b.1 4/\cj (f a) (aR (d a)) b.1 4<=4294967295)/\(0<=bitsOf F 4294967295 (j a b)/\bitsOf F 4294967295 (j a b)<=4294967295/\0<=cj (f a) (aR (d a)) b.1 6/\cj (f a) (aR (d a)) b.1 6<=4294967295) /\(0<=bitsOf H (j a b) (cj (f a) (aR (d a)) b.1 5)/\bitsOf H (j a b) (cj (f a) (aR (d a)) b.1 5)<=4294967295/\0<=bitsOf H (bitsOf F 4294967295 (j a b)) (cj (f a) (aR (d a)) b.1 6)/\bitsOf H (bitsOf F 4294967295 (j a b)) (cj (f a) (aR (d a)) b.1 6)<=4294967295)/\(0<=(b.1:Int)/\(b.1:Int)<64)/\(b.1:Int).toNat<64/\(0<=(b.1:Int)/\(b.1:Int)<(c.1:Int))/\0+(b.1:Int).toNat<c.1/\(0<=cj (f a) (aR (d a)) b.1 4/\cj (f a) (aR (d a)) b.1 4<=4294967295)/\D (l c a)=D (l c a)/\D g=D g/\D (m a b)=D (m a b)/\(0<=cj (f a) (aR (d a)) b.1 4/\cj (f a) (aR (d a)) b.1 4<=4294967295)/\D (l c a)=D (l c a)/\D g=D g/\D (m a b)=D (m a b)/\(0<=bU (j a b) 6/\bU (j a b) 6<=(4294967295:Int)/\0<=bU (j a b) 11/\bU (j a b) 11<=(4294967295:Int))/\(0<=cj (f a) (aR (d a)) b.1 4/\cj (f a) (aR (d a)) b.1 4<=4294967295) /\D (l c a)=D (l c a)/\D g=D g/\D (m a b)=D (m a b)/\(0<=bitsOf F (bU (j a b) 6) (bU (j a b) 11)/\bitsOf F (bU (j a b) 6) (bU (j a b) 11)<=4294967295/\0<=bU (j a b) 25/\bU (j a b) 25<=(4294967295:Int))/\∃(B:Nat),D (SV.int .i64 o (b.1:Int))=D (SV.int .i64 o (B:Int)) /\((((cj (f a) (aR (d a)) b.1 7+bitsOf F (bitsOf F (bU (j a b) 6) (bU (j a b) 11)) (bU (j a b) 25))% 4294967296+bitsOf F (bitsOf H (j a b) (cj (f a) (aR (d a)) b.1 5)) (bitsOf H (bitsOf F 4294967295 (j a b)) (cj (f a) (aR (d a)) b.1 6)))% 4294967296+zu [(1116352408:Int),(1899447441:Int),(3049323471:Int),(3921009573:Int),(961987163:Int),(1508970993:Int),(2453635748:Int),(2870763221:Int),(3624381080:Int),(310598401:Int),(607225278:Int),(1426881987:Int),(1925078388:Int),(2162078206:Int),(2614888103:Int),(3248222580:Int),(3835390401:Int),(4022224774:Int),(264347078:Int),(604807628:Int),(770255983:Int),(1249150122:Int),(1555081692:Int),(1996064986:Int),(2554220882:Int),(2821834349:Int),(2952996808:Int),(3210313671:Int),(3336571891:Int),(3584528711:Int),(113926993:Int),(338241895:Int),(666307205:Int),(773529912:Int),(1294757372:Int),(1396182291:Int),(1695183700:Int),(1986661051:Int),(2177026350:Int),(2456956037:Int),(2730485921:Int),(2820302411:Int),(3259730800:Int),(3345764771:Int),(3516065817:Int),(3600352804:Int),(4094571909:Int),(275423344:Int),(430227734:Int),(506948616:Int),(659060556:Int),(883997877:Int),(958139571:Int),(1322822218:Int),(1537002063:Int),(1747873779:Int),(1955562222:Int),(2024104815:Int),(2227730452:Int),(2361852424:Int),(2428436474:Int),(2756734187:Int),(3204031479:Int),(3329325298:Int)] (b.1:Int).toNat)% 4294967296+wL (aR (d a)) 48 (0+(b.1:Int).toNat))% 4294967296=RL (cj (f a) (aR (d a)) B) (ER B) (wL (aR (d a)) 48 B) /\ah (m a b) (m a b)/\ah (SB.cells [] 0 167) (SB.cells [] 0 167)/\ah (l c a) (l c a)/\ah (k a) (k a)/\ah g g/\True)/\∀(A:Nat),D (SV.int .i64 o (b.1:Int))=D (SV.int .i64 o (A:Int))->((0<=cj (f a) (aR (d a)) b.1 0/\cj (f a) (aR (d a)) b.1 0<=4294967295)/\(0<=cj (f a) (aR (d a)) b.1 0/\cj (f a) (aR (d a)) b.1 0<=4294967295)/\(0<=bU (h a b) 2/\bU (h a b) 2<=(4294967295:Int)/\0<=bU (h a b) 13/\bU (h a b) 13<=(4294967295:Int))/\(0<=cj (f a) (aR (d a)) b.1 0/\cj (f a) (aR (d a)) b.1 0<=4294967295)/\(0<=bitsOf F (bU (h a b) 2) (bU (h a b) 13)/\bitsOf F (bU (h a b) 2) (bU (h a b) 13)<=4294967295/\0<=bU (h a b) 22/\bU (h a b) 22<=(4294967295:Int))/\(0<=cj (f a) (aR (d a)) b.1 0/\cj (f a) (aR (d a)) b.1 0<=4294967295/\0<=cj (f a) (aR (d a)) b.1 1/\cj (f a) (aR (d a)) b.1 1<=4294967295)/\(0<=cj (f a) (aR (d a)) b.1 0 /\cj (f a) (aR (d a)) b.1 0<=4294967295/\0<=cj (f a) (aR (d a)) b.1 2/\cj (f a) (aR (d a)) b.1 2<=4294967295)/\(0<=bitsOf H (h a b) (q a b)/\bitsOf H (h a b) (q a b)<=4294967295/\0<=bitsOf H (h a b) (r a b)/\bitsOf H (h a b) (r a b)<=4294967295)/\(0<=cj (f a) (aR (d a)) b.1 1/\cj (f a) (aR (d a)) b.1 1<=4294967295/\0<=cj (f a) (aR (d a)) b.1 2/\cj (f a) (aR (d a)) b.1 2<=4294967295)/\(0<=bitsOf F (bitsOf H (h a b) (q a b)) (bitsOf H (h a b) (r a b))/\bitsOf F (bitsOf H (h a b) (q a b)) (bitsOf H (h a b) (r a b))<=4294967295/\0<=bitsOf H (q a b) (r a b)/\bitsOf H (q a b) (r a b)<=4294967295)/\∃(N:Nat),D (SV.int .i64 o (b.1:Int))=D (SV.int .i64 o (N:Int)) /\(bitsOf F (bitsOf F (bU (h a b) 2) (bU (h a b) 13)) (bU (h a b) 22)+bitsOf F (bitsOf F (bitsOf H (h a b) (q a b)) (bitsOf H (h a b) (r a b))) (bitsOf H (q a b) (r a b)))% 4294967296=ZZ (cj (f a) (aR (d a)) N)/\ah (m a b) (m a b)/\ah (SB.cells [] 0 167) (SB.cells [] 0 167)/\ah (l c a) (l c a)/\ah (k a) (k a)/\ah g g/\True)/\∀(u2:Nat),D (SV.int .i64 o (b.1:Int))=D (SV.int .i64 o (u2:Int))->I6 ((b.1:Int)+1)/\∃(u:Nat×Nat),(u.1<=64/\64 - u.1<64 - b.1)/\((0:Nat)=(0:Nat)/\(8:Nat)=(8:Nat)/\8=u.2)/\(b.1:Int)+1=(u.1:Int) /\ah (SB.cells [SV.int .u32 o ((RL (cj (f a) (aR (d a)) A) (ER A) (wL (aR (d a)) 48 A)+ZZ (cj (f a) (aR (d a)) u2))% 4294967296),SV.int .u32 o (h a b),SV.int .u32 o (q a b),SV.int .u32 o (r a b),SV.int .u32 o ((cj (f a) (aR (d a)) b.1 3+RL (cj (f a) (aR (d a)) A) (ER A) (wL (aR (d a)) 48 A))% 4294967296),SV.int .u32 o (j a b),SV.int .u32 o (cj (f a) (aR (d a)) b.1 5),SV.int .u32 o (cj (f a) (aR (d a)) b.1 6)] 8 167) (SB.cells (K8 (λi=>U i a u) []) u.2 167)/\ah (SB.cells [] 0 167) (SB.cells [] 0 167)/\ah (l c a) (l c a)/\ah (k a) (k a)/\ah g g/\True) (I6 (64*(a.1:Int)+64)/\∃(v:Nat×Nat),(v.1<=(bA T).length / 64/\(bA T).length / 64 - v.1<(bA T).length / 64 - a.1)/\((0:Nat)=(0:Nat)/\(8:Nat)=(8:Nat)/\b.2=v.2) /\64*(a.1:Int)+64=64*(v.1:Int)/\ah (SB.cells (K8 (λi=>V i a b) []) b.2 167) (SB.cells (K8 (λi=>W i v) []) v.2 167)/\ah g g/\True))) (0+(↑(4:Nat):Int)<=9223372036854775807/\(↑(4:Nat):Int)+(↑(4:Nat):Int)<=9223372036854775807/\(↑(8:Nat):Int)+(↑(4:Nat):Int)<=9223372036854775807/\(↑(12:Nat):Int)+(↑(4:Nat):Int)<=9223372036854775807/\(↑(16:Nat):Int)+(↑(4:Nat):Int)<=9223372036854775807/\(↑(20:Nat):Int)+(↑(4:Nat):Int)<=9223372036854775807/\(↑(24:Nat):Int)+(↑(4:Nat):Int)<=9223372036854775807/\(↑(28:Nat):Int)+(↑(4:Nat):Int)<=9223372036854775807 /\R (SV.str o (cat (cat (cat (cat (cat (cat (cat (cat [] [w (aC (bA T) a.1 0 / 16777216% (256:Int)).toNat,w (aC (bA T) a.1 0 / 65536% (256:Int)).toNat,w (aC (bA T) a.1 0 / 256% (256:Int)).toNat,w (aC (bA T) a.1 0% 256).toNat]) [w (aC (bA T) a.1 1 / 16777216% (256:Int)).toNat,w (aC (bA T) a.1 1 / 65536% (256:Int)).toNat,w (aC (bA T) a.1 1 / 256% (256:Int)).toNat,w (aC (bA T) a.1 1% 256).toNat]) [w (aC (bA T) a.1 2 / 16777216% (256:Int)).toNat,w (aC (bA T) a.1 2 / 65536% (256:Int)).toNat,w (aC (bA T) a.1 2 / 256% (256:Int)).toNat,w (aC (bA T) a.1 2% 256).toNat]) [w (aC (bA T) a.1 3 / 16777216% (256:Int)).toNat,w (aC (bA T) a.1 3 / 65536% (256:Int)).toNat,w (aC (bA T) a.1 3 / 256% (256:Int)).toNat,w (aC (bA T) a.1 3% 256).toNat]) [w (aC (bA T) a.1 4 / 16777216% (256:Int)).toNat,w (aC (bA T) a.1 4 / 65536% (256:Int)).toNat,w (aC (bA T) a.1 4 / 256% (256:Int)).toNat,w (aC (bA T) a.1 4% 256).toNat]) [w (aC (bA T) a.1 5 / 16777216% (256:Int)).toNat,w (aC (bA T) a.1 5 / 65536% (256:Int)).toNat,w (aC (bA T) a.1 5 / 256% (256:Int)).toNat,w (aC (bA T) a.1 5% 256).toNat]) [w (aC (bA T) a.1 6 / 16777216% (256:Int)).toNat,w (aC (bA T) a.1 6 / 65536% (256:Int)).toNat,w (aC (bA T) a.1 6 / 256% (256:Int)).toNat,w (aC (bA T) a.1 6% 256).toNat]) [w (aC (bA T) a.1 7 / 16777216% (256:Int)).toNat,w (aC (bA T) a.1 7 / 65536% (256:Int)).toNat,w (aC (bA T) a.1 7 / 256% (256:Int)).toNat,w (aC (bA T) a.1 7% 256).toNat])))))) (fun(a:Nat×Nat) (b:Nat×Nat)=>(cj (f a) (aR (d a)) b.1 2)))) (fun(a:Nat×Nat) (b:Nat×Nat)=>(cj (f a) (aR (d a)) b.1 1)))) (fun(a:Nat×Nat) (c:Nat×Nat)=>(wL (aR (d a)) 48 (0+((c.1:Int) - 2).toNat))))) (fun(a:Nat×Nat) (c:Nat×Nat)=>(wL (aR (d a)) 48 (0+((c.1:Int) - 15).toNat))))) (fun(a:Nat×Nat) (b:Nat×Nat)=>(cj (f a) (aR (d a)) b.1 4)))) (fun(a:Nat×Nat) (b:Nat×Nat)=>(cj (f a) (aR (d a)) b.1 0)))) (fun(c:Nat×Nat) (a:Nat×Nat)=>(SB.rows C c.1 [aE.int O (wL (aR (d a)) 48)] o c.2 167)))) (fun(a:Nat×Nat) (b:Nat×Nat)=>(SB.cells (K8 (λi=>S i a b) []) b.2 167)))) (fun(a:Nat×Nat)=>(SB.cells (K8 (λi=>M i a) []) a.2 167)))) (fun(a:Nat×Nat)=>(aB (bA T) (D (K 24)) (D (K 26)) (64*(a.1:Int)) (64*(a.1:Int)+64))))) (SB.cells [e 1116352408,e 1899447441,e 3049323471,e 3921009573,e 961987163,e 1508970993,e 2453635748,e 2870763221,e 3624381080,e 310598401,e 607225278,e 1426881987,e 1925078388,e 2162078206,e 2614888103,e 3248222580,e 3835390401,e 4022224774,e 264347078,e 604807628,e 770255983,e 1249150122,e 1555081692,e 1996064986,e 2554220882,e 2821834349,e 2952996808,e 3210313671,e 3336571891,e 3584528711,e 113926993,e 338241895,e 666307205,e 773529912,e 1294757372,e 1396182291,e 1695183700,e 1986661051,e 2177026350,e 2456956037,e 2730485921,e 2820302411,e 3259730800,e 3345764771,e 3516065817,e 3600352804,e 4094571909,e 275423344,e 430227734,e 506948616,e 659060556,e 883997877,e 958139571,e 1322822218,e 1537002063,e 1747873779,e 1955562222,e 2024104815,e 2227730452,e 2361852424,e 2428436474,e 2756734187,e 3204031479,e 3329325298] 64 167))) (fun(a:Nat×Nat)=>(w8 (aC (bA T) a.1 0) (aC (bA T) a.1 1) (aC (bA T) a.1 2) (aC (bA T) a.1 3) (aC (bA T) a.1 4) (aC (bA T) a.1 5) (aC (bA T) a.1 6) (aC (bA T) a.1 7))))) (fun(n0:Nat) (v:Nat×Nat)=>SV.int .u32 o (aC (bA T) v.1 n0)))) (fun(n0:Nat) (a:Nat×Nat) (b:Nat×Nat)=>SV.int .u32 o ((cj (w8 (aC (bA T) a.1 0) (aC (bA T) a.1 1) (aC (bA T) a.1 2) (aC (bA T) a.1 3) (aC (bA T) a.1 4) (aC (bA T) a.1 5) (aC (bA T) a.1 6) (aC (bA T) a.1 7)) (aR (aB (bA T) (D (K 24)) (D (K 26)) (64*(a.1:Int)) (64*(a.1:Int)+64))) b.1 n0+aC (bA T) a.1 n0)% 4294967296)))) (fun(n0:Nat) (a:Nat×Nat) (u:Nat×Nat)=>SV.int .u32 o (cj (w8 (aC (bA T) a.1 0) (aC (bA T) a.1 1) (aC (bA T) a.1 2) (aC (bA T) a.1 3) (aC (bA T) a.1 4) (aC (bA T) a.1 5) (aC (bA T) a.1 6) (aC (bA T) a.1 7)) (aR (aB (bA T) (D (K 24)) (D (K 26)) (64*(a.1:Int)) (64*(a.1:Int)+64))) u.1 n0)))) (fun(n0:Nat) (a:Nat×Nat) (b:Nat×Nat)=>SV.int .u32 o (cj (w8 (aC (bA T) a.1 0) (aC (bA T) a.1 1) (aC (bA T) a.1 2) (aC (bA T) a.1 3) (aC (bA T) a.1 4) (aC (bA T) a.1 5) (aC (bA T) a.1 6) (aC (bA T) a.1 7)) (aR (aB (bA T) (D (K 24)) (D (K 26)) (64*(a.1:Int)) (64*(a.1:Int)+64))) b.1 n0)))) (fun(n0:Nat) (a:Nat×Nat) (z:Nat×Nat)=>SV.int .u32 o (cj (w8 (aC (bA T) a.1 0) (aC (bA T) a.1 1) (aC (bA T) a.1 2) (aC (bA T) a.1 3) (aC (bA T) a.1 4) (aC (bA T) a.1 5) (aC (bA T) a.1 6) (aC (bA T) a.1 7)) (aR (aB (bA T) (D (K 24)) (D (K 26)) (64*(a.1:Int)) (64*(a.1:Int)+64))) z.1 n0)))) (fun(n0:Nat) (a:Nat×Nat)=>SV.int .u32 o (aC (bA T) a.1 n0)))) (fun(n0:Nat) (x:Nat×Nat)=>SV.int .u32 o (aC (bA T) x.1 n0)))) (fun(n0:Nat)=>SV.int .u32 C n0)):=by kernel_rfl
theorem adv (x:Int)(R:SV->Prop):VC.holds (cA bE 177 M [.int .u32 o x,.int .u64 C 2] R)=(((0:Int)<=x / (4:Int) /\x / (4:Int)<=(4294967295:Int) /\(0:Int)<=x*(1073741824:Int)% 4294967296 /\x*(1073741824:Int)% 4294967296<=(4294967295:Int)) /\R (SV.int .u32 o (bitsOf I (x / (4:Int)) (x*(1073741824:Int)% 4294967296)))):=by kernel_rfl
theorem adw (x:Int)(R:SV->Prop):VC.holds (cA bE 177 M [.int .u32 o x,.int .u64 C 6] R)=(((0:Int)<=x / (64:Int) /\x / (64:Int)<=(4294967295:Int) /\(0:Int)<=x*(67108864:Int)% 4294967296 /\x*(67108864:Int)% 4294967296<=(4294967295:Int)) /\R (SV.int .u32 o (bitsOf I (x / (64:Int)) (x*(67108864:Int)% 4294967296)))):=by kernel_rfl
theorem adx (x:Int)(R:SV->Prop):VC.holds (cA bE 177 M [.int .u32 o x,.int .u64 C 7] R)=(((0:Int)<=x / (128:Int) /\x / (128:Int)<=(4294967295:Int) /\(0:Int)<=x*(33554432:Int)% 4294967296 /\x*(33554432:Int)% 4294967296<=(4294967295:Int)) /\R (SV.int .u32 o (bitsOf I (x / (128:Int)) (x*(33554432:Int)% 4294967296)))):=by kernel_rfl
theorem acm (x:Int)(R:SV->Prop):VC.holds (cA bE 177 M [.int .u32 o x,.int .u64 C 11] R)=(((0:Int)<=x / (2048:Int) /\x / (2048:Int)<=(4294967295:Int) /\(0:Int)<=x*(2097152:Int)% 4294967296 /\x*(2097152:Int)% 4294967296<=(4294967295:Int)) /\R (SV.int .u32 o (bitsOf I (x / (2048:Int)) (x*(2097152:Int)% 4294967296)))):=by kernel_rfl
theorem acn (x:Int)(R:SV->Prop):VC.holds (cA bE 177 M [.int .u32 o x,.int .u64 C 13] R)=(((0:Int)<=x / (8192:Int) /\x / (8192:Int)<=(4294967295:Int) /\(0:Int)<=x*(524288:Int)% 4294967296 /\x*(524288:Int)% 4294967296<=(4294967295:Int)) /\R (SV.int .u32 o (bitsOf I (x / (8192:Int)) (x*(524288:Int)% 4294967296)))):=by kernel_rfl
theorem aco (x:Int)(R:SV->Prop):VC.holds (cA bE 177 M [.int .u32 o x,.int .u64 C 17] R)=(((0:Int)<=x / (131072:Int) /\x / (131072:Int)<=(4294967295:Int) /\(0:Int)<=x*(32768:Int)% 4294967296 /\x*(32768:Int)% 4294967296<=(4294967295:Int)) /\R (SV.int .u32 o (bitsOf I (x / (131072:Int)) (x*(32768:Int)% 4294967296)))):=by kernel_rfl
theorem acp (x:Int)(R:SV->Prop):VC.holds (cA bE 177 M [.int .u32 o x,.int .u64 C 18] R)=(((0:Int)<=x / (262144:Int) /\x / (262144:Int)<=(4294967295:Int) /\(0:Int)<=x*(16384:Int)% 4294967296 /\x*(16384:Int)% 4294967296<=(4294967295:Int)) /\R (SV.int .u32 o (bitsOf I (x / (262144:Int)) (x*(16384:Int)% 4294967296)))):=by kernel_rfl
theorem acq (x:Int)(R:SV->Prop):VC.holds (cA bE 177 M [.int .u32 o x,.int .u64 C 19] R)=(((0:Int)<=x / (524288:Int) /\x / (524288:Int)<=(4294967295:Int) /\(0:Int)<=x*(8192:Int)% 4294967296 /\x*(8192:Int)% 4294967296<=(4294967295:Int)) /\R (SV.int .u32 o (bitsOf I (x / (524288:Int)) (x*(8192:Int)% 4294967296)))):=by kernel_rfl
theorem acr (x:Int)(R:SV->Prop):VC.holds (cA bE 177 M [.int .u32 o x,.int .u64 C 22] R)=(((0:Int)<=x / (4194304:Int) /\x / (4194304:Int)<=(4294967295:Int) /\(0:Int)<=x*(1024:Int)% 4294967296 /\x*(1024:Int)% 4294967296<=(4294967295:Int)) /\R (SV.int .u32 o (bitsOf I (x / (4194304:Int)) (x*(1024:Int)% 4294967296)))):=by kernel_rfl
theorem acs (x:Int)(R:SV->Prop):VC.holds (cA bE 177 M [.int .u32 o x,.int .u64 C 25] R)=(((0:Int)<=x / (33554432:Int) /\x / (33554432:Int)<=(4294967295:Int) /\(0:Int)<=x*(128:Int)% 4294967296 /\x*(128:Int)% 4294967296<=(4294967295:Int)) /\R (SV.int .u32 o (bitsOf I (x / (33554432:Int)) (x*(128:Int)% 4294967296)))):=by kernel_rfl
theorem Zh (s:e_)(i:Int)(R:SV->Prop):VC.holds (cA bE 176 aK [.str o s,.int .i64 o i] R)=(((-9223372036854775808:Int)<=(4:Int)*i /\(4:Int)*i<=(9223372036854775807:Int)) /\((0:Int)<=(4:Int)*i /\(4:Int)*i<(↑s.length:Int)) /\((0:Int)<=ai s ((4:Int)*i) /\ai s ((4:Int)*i)<=(4294967295:Int)) /\((-9223372036854775808:Int)<=(4:Int)*i /\(4:Int)*i<=(9223372036854775807:Int)) /\((-9223372036854775808:Int)<=(4:Int)*i+(1:Int) /\(4:Int)*i+(1:Int)<=(9223372036854775807:Int)) /\((0:Int)<=(4:Int)*i+(1:Int) /\(4:Int)*i+(1:Int)<(↑s.length:Int)) /\((0:Int)<=ai s ((4:Int)*i+(1:Int)) /\ai s ((4:Int)*i+(1:Int))<=(4294967295:Int)) /\((0:Int)<=ai s ((4:Int)*i)*(16777216:Int)% 4294967296 /\ai s ((4:Int)*i)*(16777216:Int)% 4294967296<=(4294967295:Int) /\(0:Int)<=ai s ((4:Int)*i+(1:Int))*(65536:Int)% 4294967296 /\ai s ((4:Int)*i+(1:Int))*(65536:Int)% 4294967296<=(4294967295:Int)) /\((-9223372036854775808:Int)<=(4:Int)*i /\(4:Int)*i<=(9223372036854775807:Int)) /\((-9223372036854775808:Int)<=(4:Int)*i+(2:Int) /\(4:Int)*i+(2:Int)<=(9223372036854775807:Int)) /\((0:Int)<=(4:Int)*i+(2:Int) /\(4:Int)*i+(2:Int)<(↑s.length:Int)) /\((0:Int)<=ai s ((4:Int)*i+(2:Int)) /\ai s ((4:Int)*i+(2:Int))<=(4294967295:Int)) /\((0:Int)<=bitsOf I (ai s ((4:Int)*i)*(16777216:Int)% 4294967296) (ai s ((4:Int)*i+(1:Int))*(65536:Int)% 4294967296) /\bitsOf I (ai s ((4:Int)*i)*(16777216:Int)% 4294967296) (ai s ((4:Int)*i+(1:Int))*(65536:Int)% 4294967296)<=(4294967295:Int) /\(0:Int)<=ai s ((4:Int)*i+(2:Int))*(256:Int)% 4294967296 /\ai s ((4:Int)*i+(2:Int))*(256:Int)% 4294967296<=(4294967295:Int)) /\((-9223372036854775808:Int)<=(4:Int)*i /\(4:Int)*i<=(9223372036854775807:Int)) /\((-9223372036854775808:Int)<=(4:Int)*i+(3:Int) /\(4:Int)*i+(3:Int)<=(9223372036854775807:Int)) /\((0:Int)<=(4:Int)*i+(3:Int) /\(4:Int)*i+(3:Int)<(↑s.length:Int)) /\((0:Int)<=ai s ((4:Int)*i+(3:Int)) /\ai s ((4:Int)*i+(3:Int))<=(4294967295:Int)) /\((0:Int)<=bitsOf I (bitsOf I (ai s ((4:Int)*i)*(16777216:Int)% 4294967296) (ai s ((4:Int)*i+(1:Int))*(65536:Int)% 4294967296)) (ai s ((4:Int)*i+(2:Int))*(256:Int)% 4294967296) /\bitsOf I (bitsOf I (ai s ((4:Int)*i)*(16777216:Int)% 4294967296) (ai s ((4:Int)*i+(1:Int))*(65536:Int)% 4294967296)) (ai s ((4:Int)*i+(2:Int))*(256:Int)% 4294967296)<=(4294967295:Int) /\(0:Int)<=ai s ((4:Int)*i+(3:Int)) /\ai s ((4:Int)*i+(3:Int))<=(4294967295:Int)) /\R (SV.int .u32 o (bitsOf I (bitsOf I (bitsOf I (ai s ((4:Int)*i)*(16777216:Int)% 4294967296) (ai s ((4:Int)*i+(1:Int))*(65536:Int)% 4294967296)) (ai s ((4:Int)*i+(2:Int))*(256:Int)% 4294967296)) (ai s ((4:Int)*i+(3:Int)))))):=by kernel_rfl
theorem acj (T:e_)(R:SV->Prop):VC.holds (cA (Ku T) 137 Y [.str o T] R)=((↑T.length:Int)+(1:Int)<=(9223372036854775807:Int) /\(∃(y:Nat),y<=iw T /\cat T [w 128]=T++(128:UInt8)::G y (0:UInt8) /\ah (SB.cells [SV.int .u8 C 128] 1 5) (SB.cells [SV.int .u8 C 128] 1 5) /\True) /\∀(x:Nat),x<=iw T ->((0:Int)<=(↑(T++(128:UInt8)::G x (0:UInt8)).length:Int) /\(↑(T++(128:UInt8)::G x (0:UInt8)).length:Int)<=(9223372036854775807:Int) /\(0:Int)<(64:Int)) /\Bk (!decide ((↑(T++(128:UInt8)::G x (0:UInt8)).length:Int)% (64:Int)=(56:Int))) ((↑(T++(128:UInt8)::G x (0:UInt8)).length:Int)+(1:Int)<=(9223372036854775807:Int) /\∃(y:Nat),(y<=iw T /\iw T - y<iw T - x) /\cat (T++(128:UInt8)::G x (0:UInt8)) [w 0]=T++(128:UInt8)::G y (0:UInt8) /\ah (SB.cells [SV.int .u8 C 128] 1 5) (SB.cells [SV.int .u8 C 128] 1 5) /\True) ((↑(T++(128:UInt8)::G x (0:UInt8)).length:Int)+(↑(1:Nat):Int)<=(9223372036854775807:Int) /\(↑(cat (T++(128:UInt8)::G x (0:UInt8)) [w ((↑T.length:Int)% (18446744073709551616:Int)*(8:Int)% (18446744073709551616:Int) / (72057594037927936:Int)% (256:Int)).toNat]).length:Int)+(↑(1:Nat):Int)<=(9223372036854775807:Int) /\(↑(cat (cat (T++(128:UInt8)::G x (0:UInt8)) [w ((↑T.length:Int)% (18446744073709551616:Int)*(8:Int)% (18446744073709551616:Int) / (72057594037927936:Int)% (256:Int)).toNat]) [w ((↑T.length:Int)% (18446744073709551616:Int)*(8:Int)% (18446744073709551616:Int) / (281474976710656:Int)% (256:Int)).toNat]).length:Int)+(↑(1:Nat):Int)<=(9223372036854775807:Int) /\(↑(cat (cat (cat (T++(128:UInt8)::G x (0:UInt8)) [w ((↑T.length:Int)% (18446744073709551616:Int)*(8:Int)% (18446744073709551616:Int) / (72057594037927936:Int)% (256:Int)).toNat]) [w ((↑T.length:Int)% (18446744073709551616:Int)*(8:Int)% (18446744073709551616:Int) / (281474976710656:Int)% (256:Int)).toNat]) [w ((↑T.length:Int)% (18446744073709551616:Int)*(8:Int)% (18446744073709551616:Int) / (1099511627776:Int)% (256:Int)).toNat]).length:Int)+(↑(1:Nat):Int)<=(9223372036854775807:Int) /\(↑(cat (cat (cat (cat (T++(128:UInt8)::G x (0:UInt8)) [w ((↑T.length:Int)% (18446744073709551616:Int)*(8:Int)% (18446744073709551616:Int) / (72057594037927936:Int)% (256:Int)).toNat]) [w ((↑T.length:Int)% (18446744073709551616:Int)*(8:Int)% (18446744073709551616:Int) / (281474976710656:Int)% (256:Int)).toNat]) [w ((↑T.length:Int)% (18446744073709551616:Int)*(8:Int)% (18446744073709551616:Int) / (1099511627776:Int)% (256:Int)).toNat]) [w ((↑T.length:Int)% (18446744073709551616:Int)*(8:Int)% (18446744073709551616:Int) / (4294967296:Int)% (256:Int)).toNat]).length:Int)+(↑(1:Nat):Int)<=(9223372036854775807:Int) /\(↑(cat (cat (cat (cat (cat (T++(128:UInt8)::G x (0:UInt8)) [w ((↑T.length:Int)% (18446744073709551616:Int)*(8:Int)% (18446744073709551616:Int) / (72057594037927936:Int)% (256:Int)).toNat]) [w ((↑T.length:Int)% (18446744073709551616:Int)*(8:Int)% (18446744073709551616:Int) / (281474976710656:Int)% (256:Int)).toNat]) [w ((↑T.length:Int)% (18446744073709551616:Int)*(8:Int)% (18446744073709551616:Int) / (1099511627776:Int)% (256:Int)).toNat]) [w ((↑T.length:Int)% (18446744073709551616:Int)*(8:Int)% (18446744073709551616:Int) / (4294967296:Int)% (256:Int)).toNat]) [w ((↑T.length:Int)% (18446744073709551616:Int)*(8:Int)% (18446744073709551616:Int) / (16777216:Int)% (256:Int)).toNat]).length:Int)+(↑(1:Nat):Int)<=(9223372036854775807:Int) /\(↑(cat (cat (cat (cat (cat (cat (T++(128:UInt8)::G x (0:UInt8)) [w ((↑T.length:Int)% (18446744073709551616:Int)*(8:Int)% (18446744073709551616:Int) / (72057594037927936:Int)% (256:Int)).toNat]) [w ((↑T.length:Int)% (18446744073709551616:Int)*(8:Int)% (18446744073709551616:Int) / (281474976710656:Int)% (256:Int)).toNat]) [w ((↑T.length:Int)% (18446744073709551616:Int)*(8:Int)% (18446744073709551616:Int) / (1099511627776:Int)% (256:Int)).toNat]) [w ((↑T.length:Int)% (18446744073709551616:Int)*(8:Int)% (18446744073709551616:Int) / (4294967296:Int)% (256:Int)).toNat]) [w ((↑T.length:Int)% (18446744073709551616:Int)*(8:Int)% (18446744073709551616:Int) / (16777216:Int)% (256:Int)).toNat]) [w ((↑T.length:Int)% (18446744073709551616:Int)*(8:Int)% (18446744073709551616:Int) / (65536:Int)% (256:Int)).toNat]).length:Int)+(↑(1:Nat):Int)<=(9223372036854775807:Int) /\(↑(cat (cat (cat (cat (cat (cat (cat (T++(128:UInt8)::G x (0:UInt8)) [w ((↑T.length:Int)% (18446744073709551616:Int)*(8:Int)% (18446744073709551616:Int) / (72057594037927936:Int)% (256:Int)).toNat]) [w ((↑T.length:Int)% (18446744073709551616:Int)*(8:Int)% (18446744073709551616:Int) / (281474976710656:Int)% (256:Int)).toNat]) [w ((↑T.length:Int)% (18446744073709551616:Int)*(8:Int)% (18446744073709551616:Int) / (1099511627776:Int)% (256:Int)).toNat]) [w ((↑T.length:Int)% (18446744073709551616:Int)*(8:Int)% (18446744073709551616:Int) / (4294967296:Int)% (256:Int)).toNat]) [w ((↑T.length:Int)% (18446744073709551616:Int)*(8:Int)% (18446744073709551616:Int) / (16777216:Int)% (256:Int)).toNat]) [w ((↑T.length:Int)% (18446744073709551616:Int)*(8:Int)% (18446744073709551616:Int) / (65536:Int)% (256:Int)).toNat]) [w ((↑T.length:Int)% (18446744073709551616:Int)*(8:Int)% (18446744073709551616:Int) / (256:Int)% (256:Int)).toNat]).length:Int)+(↑(1:Nat):Int)<=(9223372036854775807:Int) /\R (SV.str o (cat (cat (cat (cat (cat (cat (cat (cat (T++(128:UInt8)::G x (0:UInt8)) [w ((↑T.length:Int)% (18446744073709551616:Int)*(8:Int)% (18446744073709551616:Int) / (72057594037927936:Int)% (256:Int)).toNat]) [w ((↑T.length:Int)% (18446744073709551616:Int)*(8:Int)% (18446744073709551616:Int) / (281474976710656:Int)% (256:Int)).toNat]) [w ((↑T.length:Int)% (18446744073709551616:Int)*(8:Int)% (18446744073709551616:Int) / (1099511627776:Int)% (256:Int)).toNat]) [w ((↑T.length:Int)% (18446744073709551616:Int)*(8:Int)% (18446744073709551616:Int) / (4294967296:Int)% (256:Int)).toNat]) [w ((↑T.length:Int)% (18446744073709551616:Int)*(8:Int)% (18446744073709551616:Int) / (16777216:Int)% (256:Int)).toNat]) [w ((↑T.length:Int)% (18446744073709551616:Int)*(8:Int)% (18446744073709551616:Int) / (65536:Int)% (256:Int)).toNat]) [w ((↑T.length:Int)% (18446744073709551616:Int)*(8:Int)% (18446744073709551616:Int) / (256:Int)% (256:Int)).toNat]) [w ((↑T.length:Int)% (18446744073709551616:Int)*(8:Int)% (18446744073709551616:Int) / (1:Int)% (256:Int)).toNat])))):=by kernel_rfl
theorem gG {l l':Bool}{a b:Int}(h:a=b):aa (.int .u32 l a) (.int .u32 l' b):=λ_=>by subst h;rfl
theorem QC:ax J 177 (aM ug):=by
 refine cM (Eu (n:=20) (fn:=M) Tryz.func177 (by kernel_rfl) (by kernel_rfl) ?_);intro args p a h hp;unfold ug at h;split at h
 ·rename_i x n;split at h
  ·rename_i hn;cases h;have hx:U x:=hp;rcases D6 hn with rfl | rfl | rfl | rfl | rfl | rfl | rfl | rfl | rfl | rfl
   ·exact⟨bE,[.int .u32 o x,.int .u64 C 2],fZ,λE=>rfl,rfl,rfl,av.of_eq (adv x _) ⟨u2 (ud hx 4 (by decide)) (um _),gG (iA _ _)⟩⟩
   ·exact⟨bE,[.int .u32 o x,.int .u64 C 6],fZ,λE=>rfl,rfl,rfl,av.of_eq (adw x _) ⟨u2 (ud hx 64 (by decide)) (um _),gG (iA _ _)⟩⟩
   ·exact⟨bE,[.int .u32 o x,.int .u64 C 7],fZ,λE=>rfl,rfl,rfl,av.of_eq (adx x _) ⟨u2 (ud hx 128 (by decide)) (um _),gG (iA _ _)⟩⟩
   ·exact⟨bE,[.int .u32 o x,.int .u64 C 11],fZ,λE=>rfl,rfl,rfl,av.of_eq (acm x _) ⟨u2 (ud hx 2048 (by decide)) (um _),gG (iA _ _)⟩⟩
   ·exact⟨bE,[.int .u32 o x,.int .u64 C 13],fZ,λE=>rfl,rfl,rfl,av.of_eq (acn x _) ⟨u2 (ud hx 8192 (by decide)) (um _),gG (iA _ _)⟩⟩
   ·exact⟨bE,[.int .u32 o x,.int .u64 C 17],fZ,λE=>rfl,rfl,rfl,av.of_eq (aco x _) ⟨u2 (ud hx 131072 (by decide)) (um _),gG (iA _ _)⟩⟩
   ·exact⟨bE,[.int .u32 o x,.int .u64 C 18],fZ,λE=>rfl,rfl,rfl,av.of_eq (acp x _) ⟨u2 (ud hx 262144 (by decide)) (um _),gG (iA _ _)⟩⟩
   ·exact⟨bE,[.int .u32 o x,.int .u64 C 19],fZ,λE=>rfl,rfl,rfl,av.of_eq (acq x _) ⟨u2 (ud hx 524288 (by decide)) (um _),gG (iA _ _)⟩⟩
   ·exact⟨bE,[.int .u32 o x,.int .u64 C 22],fZ,λE=>rfl,rfl,rfl,av.of_eq (acr x _) ⟨u2 (ud hx 4194304 (by decide)) (um _),gG (iA _ _)⟩⟩
   ·exact⟨bE,[.int .u32 o x,.int .u64 C 25],fZ,λE=>rfl,rfl,rfl,av.of_eq (acs x _) ⟨u2 (ud hx 33554432 (by decide)) (um _),gG (iA _ _)⟩⟩
  ·cases h
 ·cases h
theorem uo {a b:Int}(ha:U a)(hb:U b):U (bitsOf .or a b):=tc (.inr (.inl rfl)) ha hb
theorem Sq (s:e_)(i:Int):U (ai s i):=by have:=cg s i;exact⟨this.1,by omega⟩
theorem WS:ax J 176 (aM yh):=by
 refine dL fZ (n:=20) (fn:=aK) Tryz.func176 (by kernel_rfl) (by kernel_rfl) ?_;intro args p r h hp;unfold yh at h;split at h
 ·rename_i s i;cases h;obtain⟨h0,h1,h2⟩:=hp;have b:=Sq s;refine⟨rfl,rfl,av.of_eq (Zh s i _) ⟨by omega,by omega,b _,by omega,by omega,by omega,b _,u2 (um _) (um _),by omega,by omega,by omega,b _,u2 (uo (um _) (um _)) (um _),by omega,by omega,by omega,b _,u2 (uo (uo (um _) (um _)) (um _)) (b _),gG ?_⟩⟩;obtain⟨n,rfl⟩:=Int.eq_ofNat_of_zero_le h0;rfl
 ·cases h
theorem U4 (T:e_)(x:Nat):(T++(128:UInt8)::G x 0).length=T.length+(x+1):=by rw[an,bn,b9]
theorem Mb {T:e_}(hT:T.length<1152921504606846976):av (cA (Ku T) 137 Y [.str o T] (λv=>aa v (.str o (bA T)))):=by
 refine av.gV (acj T _) (by delta Bk;exact rfl) ?_;have hz:iw T=(119 - T.length% 64)% 64:=rfl;refine⟨by omega,⟨0,Nat.zero_le _,rfl,ah.refl _,trivial⟩,λx hx=> ?_⟩;have hl:=U4 T x;have hc: ∀(l:e_) (b:UInt8),(cat l [b]).length=l.length+1:=λl b=>by simp[cat]
 refine⟨by omega,λa=>⟨by omega,x+1,⟨?_,?_⟩,?_,ah.refl _,trivial⟩,λa=> ?_⟩
 ·have a: ¬ (((T++(128:UInt8)::G x 0).length:Int)% 64=56):=by simpa using a
  rw[hl] at a;omega
 ·have a: ¬ (((T++(128:UInt8)::G x 0).length:Int)% 64=56):=by simpa using a
  rw[hl] at a;omega
 ·show(T++(128:UInt8)::G x 0)++[0]=_;rw[a_,a!,← List.replicate_succ']
 ·have a:((T++(128:UInt8)::G x 0).length:Int)% 64=56:=by simpa using a
  rw[hl] at a;have e:x=iw T:=by omega
  refine⟨by omega,by rw[hc];omega,by rw[hc,hc];omega,by rw[hc,hc,hc];omega,by rw[hc,hc,hc,hc];omega,by rw[hc,hc,hc,hc,hc];omega,by rw[hc,hc,hc,hc,hc,hc];omega,by rw[hc,hc,hc,hc,hc,hc,hc];omega,cv ?_⟩;subst e;unfold bA Ee;simp only[cat,a_,a!,List.nil_append];rfl
theorem Yd:ax J 137 (aM Bt):=by
 refine cM (cn (n:=20) (fn:=Y) Tryz.func137 (by kernel_rfl) (by kernel_rfl) ?_);intro args p a h hp;unfold Bt at h;split at h
 ·cases h;exact⟨_,XI _,rfl,rfl,Mb hp⟩
 ·cases h
theorem Pz:aQ J (λf=>ay f Uk):=.cons QC (aG _) (.cons WS (aG _) (.cons Yd (aG _) cW))
theorem XH (T:e_):Sx.Good J (Kt T):=.of bz Pz aU
theorem Zm (T:e_)(q j:Nat)(hj:j<8):U (aC T q j):=by
 cases q with
 | zero =>
   have key: ∀ j,j<8->0<=HL j/\HL j<=4294967295:=by decide
   exact key j hj
 | succ q=>exact um _
theorem CN {l l':Bool}{f g:Nat->Int}{tot tot':Nat}{ty:TypeId}(ht:tot=tot')(h: ∀ j,j<8->f j=g j):ah (.cells [.int .u32 l (f 0),.int .u32 l (f 1),.int .u32 l (f 2),.int .u32 l (f 3),.int .u32 l (f 4),.int .u32 l (f 5),.int .u32 l (f 6),.int .u32 l (f 7)] tot ty)
  (.cells [.int .u32 l' (g 0),.int .u32 l' (g 1),.int .u32 l' (g 2),.int .u32 l' (g 3),.int .u32 l' (g 4),.int .u32 l' (g 5),.int .u32 l' (g 6),.int .u32 l' (g 7)] tot' ty):=by
 subst ht;rw[h 0 (by decide),h 1 (by decide),h 2 (by decide),h 3 (by decide),h 4 (by decide),h 5 (by decide),h 6 (by decide),h 7 (by decide)];exact Sx.ah.cells (λE=>rfl) rfl
theorem Vu {z:Bool}{n:Nat}{f g:Nat->Int}{tot tot':Nat}{ty:TypeId}(ht:tot=tot')(h: ∀ i,i<n->f i=g i):ah (.rows z n [.int .u32 f] o tot ty) (.rows z n [.int .u32 g] o tot' ty):=by subst ht;exact Sx.ah.NP h
theorem Qm {T:e_}(hT:T.length<1152921504606846976):av (cA (Kt T) 90 ag [.str o T] (λv=>aa v (.str o (b7 T)))):=by
 refine av.gV (adu T _) (by delta Fk;exact rfl) ?_;dsimp only;have hl:=U5 T;have hb:(bA T).length<T.length+100:=by have:=Ef T;unfold bA;rw[an];omega
 refine⟨hT,⟨(0,8),Nat.zero_le _,⟨rfl,rfl,rfl⟩,rfl,Sx.ah.cells (λE=>rfl) rfl,ah.refl _,trivial⟩,λx hx=>⟨λa=> ?_,λa=> ?_⟩⟩
 ·have a:=of_decide_eq_true a;have hq:64*x.1+64<=(bA T).length:=by omega
  have sl:(aB (bA T) (D (K 24)) (D (K 26)) ((64:Int)*(↑x.1:Int)) ((64:Int)*(↑x.1:Int)+(64:Int))).length=64:=by simp only[aB,List.length_take,b5];omega
  have sb: ∀ j,j<64->aR (aB (bA T) (D (K 24)) (D (K 26)) ((64:Int)*(↑x.1:Int)) ((64:Int)*(↑x.1:Int)+(64:Int))) j=uJ (bA T) x.1 j:=λj hj=>by unfold aR ai;rw[X,uK];simp only[aB];rw[getD_take (by omega),bl,bl,List.getElem?_drop];rw[show(64*(x.1:Int)).toNat+j=64*x.1+j by omega]
  generalize aB (bA T) (D (K 24)) (D (K 26)) ((64:Int)*(↑x.1:Int)) ((64:Int)*(↑x.1:Int)+(64:Int))=S at sl sb ⊢;have hW: ∀ j,j<8->w8 (aC (bA T) x.1 0) (aC (bA T) x.1 1) (aC (bA T) x.1 2) (aC (bA T) x.1 3) (aC (bA T) x.1 4) (aC (bA T) x.1 5) (aC (bA T) x.1 6) (aC (bA T) x.1 7) j=aC (bA T) x.1 j:=λj hj=>by
   have:j=0∨j=1∨j=2∨j=3∨j=4∨j=5∨j=6∨j=7:=by omega
   rcases this with rfl | rfl | rfl | rfl | rfl | rfl | rfl | rfl<;>rfl
  generalize w8 (aC (bA T) x.1 0) (aC (bA T) x.1 1) (aC (bA T) x.1 2) (aC (bA T) x.1 3) (aC (bA T) x.1 4) (aC (bA T) x.1 5) (aC (bA T) x.1 6) (aC (bA T) x.1 7)=W at hW ⊢;have hU: ∀ j,j<64->U (aR S j):=λj _=>Sq S _;have hWu: ∀ j,j<8->U (W j):=λj hj=>by rw[hW j hj];exact Zm _ _ _ hj
  generalize aR S=B at sb hU ⊢;refine⟨by omega,by omega,⟨(0,0),⟨by decide,by decide⟩,rfl,rfl,rfl,ah.refl _,ah.refl _,trivial⟩,λg hg=>⟨λb=>⟨λc=> ?_,λc=> ?_⟩,λb=> ?_⟩⟩
  ·have c:=of_decide_eq_true c;have hg2:=hg.2;refine⟨⟨by omega,by omega,by rw[sl];omega⟩,⟨by omega,trivial,by omega,by omega⟩,by omega,λcap hcap=>⟨by omega,(g.1+1,cap),⟨⟨by show g.1+1<=64;omega,hcap⟩,by show 64 - (g.1+1)<_;omega⟩,⟨rfl,rfl,rfl⟩,trivial,by show(g.1:Int)+1=((g.1+1:Nat):Int);omega,Vu (Nat.mul_one cap) λj hj=> ?_,ah.refl _,ah.refl _,trivial⟩⟩;by_cases h:j<g.1
   ·rw[if_pos h]
   ·have ej:j=g.1:=by omega
    subst ej;rw[if_neg h,Nat.sub_self,X,WK B (by omega)];rfl
  ·have b:=of_decide_eq_true b;have c:=of_decide_eq_false c;have e15:0+((g.1:Int) - 15).toNat=g.1 - 15:=by omega
   have e2:0+((g.1:Int) - 2).toNat=g.1 - 2:=by omega
   have e7:0+((g.1:Int) - 7).toNat=g.1 - 7:=by omega
   have e16:0+((g.1:Int) - 16).toNat=g.1 - 16:=by omega
   have u:=acy hU 48
   refine⟨by omega,by omega,by omega,by omega,by omega,by omega,u _,u _,u2 (pZ (u _) _) (pZ (u _) _),u2 (wm (pZ (u _) _) (pZ (u _) _)) (ud (u _) 8 (by decide)),u _,u _,u2 (pZ (u _) _) (pZ (u _) _),u2 (wm (pZ (u _) _) (pZ (u _) _)) (ud (u _) 1024 (by decide)),
    by omega,by omega,by omega,by omega,by omega,by omega,⟨by omega,trivial,by omega,by omega⟩,by omega,λcap hcap=>⟨by omega,(g.1+1,cap),⟨⟨by show g.1+1<=64;omega,hcap⟩,by show 64 - (g.1+1)<_;omega⟩,⟨rfl,rfl,rfl⟩,trivial,by show(g.1:Int)+1=((g.1+1:Nat):Int);omega,Vu (Nat.mul_one cap) λj hj=> ?_,ah.refl _,ah.refl _,trivial⟩⟩
   by_cases h:j<g.1
   ·rw[if_pos h]
   ·have ej:j=g.1:=by omega
    subst ej;rw[if_neg h,Nat.sub_self,e15,e2,e7,e16,Zk B (j:=g.1) (by omega) (by omega)];rfl
  ·have b:=of_decide_eq_false b;have hg1:=hg.1;have eg:g.1=64:=by omega
   refine λcap hcap=>⟨⟨(0,cap),Nat.zero_le _,⟨rfl,rfl,rfl⟩,rfl,CN (f:=aC (bA T) x.1) (g:=cj W B 0) (Nat.mul_one cap) λj hj=>(hW j hj).symm,ah.refl _,ah.refl _,ah.refl _,ah.refl _,trivial⟩,λy hy=>⟨λd=> ?_,λd=> ?_⟩⟩
   ·have d:=of_decide_eq_true d;have u:=VY (B:=B) hWu y.1;have u0:=u 0 (by decide);have u1:=u 1 (by decide);have u2':=u 2 (by decide);have u4:=u 4 (by decide);have u5:=u 5 (by decide);have u6:=u 6 (by decide);have r: ∀ {y:Int} (n:Int),U y->U (bU y n):=λn h=>pZ h n;refine⟨⟨u2 u4 u5,u2 uM u4,u2 (wm uM u4) u6,u2 (wg u4 u5) (wg (wm uM u4) u6),by omega,by omega,by omega,by omega,u4,rfl,rfl,rfl,u4,rfl,rfl,rfl,u2 (r _ u4) (r _ u4),u4,rfl,rfl,rfl,u2 (wm (r _ u4) (r _ u4)) (r _ u4),y.1,rfl,?_,ah.refl _,ah.refl _,ah.refl _,ah.refl _,ah.refl _,trivial⟩,λi1 h1 =>⟨⟨u0,u0,u2 (r _ u0) (r _ u0),u0,u2 (wm (r _ u0) (r _ u0)) (r _ u0),u2 u0 u1,u2 u0 u2',u2 (wg u0 u1) (wg u0 u2'),u2 u1 u2',u2 (wm (wg u0 u1) (wg u0 u2')) (wg u1 u2'),y.1,rfl,rfl,ah.refl _,ah.refl _,ah.refl _,ah.refl _,ah.refl _,trivial⟩,λi2 h2=>⟨by omega,(y.1+1,8),⟨by show y.1+1<=64;omega,by show 64 - (y.1+1)<_;omega⟩,⟨rfl,rfl,rfl⟩,by show(y.1:Int)+1=((y.1+1:Nat):Int);omega,?_,ah.refl _,ah.refl _,ah.refl _,ah.refl _,trivial⟩⟩⟩
    ·rw[X,Nat.zero_add];rfl
    ·injection h1 with h1;injection h1 with _ _ h1;injection h2 with h2;injection h2 with _ _ h2;have e1:i1=y.1:=by omega
     have e2:i2=y.1:=by omega
     subst e1;subst e2;exact Sx.ah.cells (λE=>rfl) rfl
   ·have d:=of_decide_eq_false d;have ey:y.1=64:=by omega
    refine⟨by omega,(x.1+1,y.2),⟨by show x.1+1<=_;omega,by show _ - (x.1+1)<_;omega⟩,⟨rfl,rfl,rfl⟩,by show 64*(x.1:Int)+64=64*((x.1+1:Nat):Int);omega,?_,ah.refl _,trivial⟩;refine CN (f:=λj=>(cj W B y.1 j+aC (bA T) x.1 j)% 4294967296) (g:=aC (bA T) (x.1+1)) rfl λj hj=> ?_;rw[ey,yf hW sb 64 j hj];exact UJ _ _ _
 ·have a:=of_decide_eq_false a;have e:x.1=(bA T).length / 64:=by omega
  exact⟨by omega,by omega,by omega,by omega,by omega,by omega,by omega,by omega,cv (by rw[e];rfl)⟩
theorem abB:ax J 90 (aM F7):=by
 refine cM (cn (n:=20) (fn:=ag) Tryz.func90 (by kernel_rfl) (by kernel_rfl) ?_);intro args p a h hp;unfold F7 at h;split at h
 ·cases h;exact⟨_,XH _,rfl,rfl,Qm hp⟩
 ·cases h
end
end Go.Proofs.YtoibaecagklkaaaGreatDoor
