/- A part of the proof. -/
import Derived.Test.YtoibaecagklkaaaGreatDoorMj
open Bool renaming and_eq_true->bY,false->K,true->L
open Decidable renaming decide->M
open Go.Proofs.Tryz renaming f151->b_,f169->c6,f170->c7,f184->b!,f185->c8,f186->cj,f189->c_,f190->cl,f191->ct,f192->cx,f207->c!,f208->cy,f210->cB,f217->cL,f58->d_,prog->P
open Int renaming toNat->d!,toNat_natCast->X
open List renaming drop_append_of_le_length->ag,drop_succ_cons->cT,drop_zero->ec,getElem?_cons_zero->ef,length->a!,length_append->Y,length_cons->W,length_drop->Z,length_nil->c4,length_pos_iff->ek,length_take->an,mem_range->c5,nil->V,range->bf,take_append_drop->en,take_append_of_le_length->a_
open Nat renaming le_refl->ep,le_trans->S,not_lt_zero->bl,zero_add->er,zero_le->bn
open Option renaming none->Q,some->N
namespace Go.Proofs.YtoibaecagklkaaaGreatDoor
open Go Sx
variable {z:Bool}{a b p s t:h_}{i n tot:Nat}{ty:TypeId}
section
open Go Sx
set_option maxRecDepth 20000
theorem bL {l:Bool}{a b:Bool}(h:a=b):ai (.bool l a) (.bool K b):=λE=>by subst h;rfl
theorem iC.next {t:Nat->Bool}(h:iC n t i)(hi:(i:Int)<(n:Int))(ht:t i=L):iC n t (i+1) :=
 ⟨by omega,λj hj=>by
  by_cases e:j=i
  ·subst e;exact ht
  ·exact h.all j (by omega)⟩
theorem iC.zero (n:Nat)(t:Nat->Bool):iC n t 0:=⟨bn _,λ_j hj=>absurd hj (bl _)⟩
theorem iC.done {t:Nat->Bool}(h:iC n t i)(hi: ¬ (i:Int)<(n:Int)):(bf n).all t=true:=by rw[List.all_eq_true];intro j hj;have:=c5.1 hj;exact h.all j (by omega)
theorem all_none {t:Nat->Bool}(hi:(i:Int)<(n:Int))(ht:t i=K):(bf n).all t=false:=by rw[List.all_eq_false];exact⟨i,c5.2 (by omega),by rw[ht];decide⟩
theorem WA (hp:p.length<1152921504606846976):au (eS (ann p) 169 c6 [.str K p] (λv=>ai v (.bool K (ig p)))):=by
 refine au.j7 (atd p _) (by delta Fk I6 Ix NI aM bx bB aj bt fR aP nM gS fy sI i5 ij cR jH fE dF aiq;exact rfl) ?_;refine⟨⟨0,iC.zero _ _,rfl,trivial⟩,λx hx=>⟨λh=> ?_,λh=> ?_⟩⟩
 ·have h:(x:Int)<(p.length:Int):=i_ h;refine⟨by omega,λg=>bL ?_,λg=>⟨by omega,x+1,⟨hx.next h ?_,by omega⟩,by omega,trivial⟩⟩
  ·exact(all_none h (by rw[HW,g];rfl)).symm
  ·rw[HW,g];rfl
 ·have h: ¬ (x:Int)<(p.length:Int):=j_ h;exact bL (hx.done h).symm
def oa:List SV->Option (Prop×SV)
 | [.str K p]=>N (p.length<1152921504606846976,.bool K (ig p))
 | _=>Q
theorem To:aq P 169 (aI oa):=by
 refine fh (ee (n:=20) Tryz.func169 (by kernel_rfl) (by kernel_rfl) ?_);intro args p a h hp;unfold oa at h;split at h
 ·cases h;exact⟨_,ayU _,rfl,rfl,WA hp⟩
 ·cases h
theorem aAZ {b:Int}(h0:0<=b)(h1:b<256):bitsOf .and b 15=b%16:=by obtain⟨n,rfl⟩:=Int.eq_ofNat_of_zero_le h0;show(((n:Int).toNat &&& (15:Int).toNat:Nat):Int)=_;have:n &&& 15=n%16:=Nat.and_two_pow_sub_one_eq_mod n 4;simp only[X];rw[show(15:Int).toNat=15 from rfl,this];omega
theorem abk {z':Bool}{n':Nat}{f g:Nat->Int}{tot':Nat}(hz:z=z')(hn:n=n')(ht:tot=tot')(h: ∀ i,i<n->f i=g i):aa (.rows z n [.int .u8 f] K tot ty) (.rows z' n' [.int .u8 g] K tot' ty):=by
 subst hz;refine Sx.aa.UC hn ht rfl λi k c' hi hk=>⟨.int .u8 f,?_,?_⟩
 ·match k,hk with
  | 0,_=>rfl
 ·match k,hk with
  | 0,hk =>simp only[ef,Option.some.injEq] at hk;subst hk;simp only[bh.at,h i hi]
theorem ale {tot':Nat}{ay:List bh}(h:tot=tot'):aa (.cells [] tot ty) (.rows z 0 ay K tot' ty):=by subst h;refine aa.of rfl rfl λ_=> ?_;refine⟨rfl,λE o ⟨c,fr,h1,h2,_,h4⟩=>⟨c,fr,h1,λ_=>h2,by omega,h4,λi k col hi=>absurd hi (bl _)⟩,λ_=>rfl⟩
theorem aeq (k:h_)(x i:Nat)(hi:i<2*x+2)(h1: ¬ i<2*x):M8 [ah k (x:Int)/16,bitsOf .and (ah k (x:Int)) 15] (i-2*x)=jO k i:=by
 have hb:=e8 k (x:Int);rw[aAZ hb.1 hb.2];unfold jO;by_cases e:i=2*x
 ·subst e;have e2:2*x/2=x:=by omega
  rw[o_ (by omega),show((2*x:Nat):Int)/2=(x:Int)by omega,Nat.sub_self];rfl
 ·have e:i=2*x+1:=by omega
  subst e;rw[p_ (by omega),show((2*x+1:Nat):Int)/2=(x:Int)by omega,show 2*x+1-2*x=1 by omega];rfl
theorem ZE {k:h_}(hk:k.length<1099511627776):au (eS (anl k) 58 d_ [.str K k] (λv=>ai v (.str K (ak k)))):=by
 refine au.j7 (awv k _) (by delta Fk I6 Ix Er NI aM aJ aF bx bB aj bH aC fQ az bt aA dU dy aD b8 gZ bA br nG fN cK eD BF sJ j8 mL fF aih kP jU wH aP cN gY A6 k9 A7;exact rfl) ?_;refine⟨by omega,by omega,⟨(0,2*k.length),⟨bn _,bn _⟩,rfl,⟨rfl,rfl,by omega⟩,trivial,ale (by omega),trivial⟩,λx hx=>⟨λh=> ?_,λh=> ?_⟩⟩
 ·have h:(x.1:Int)<(k.length:Int):=i_ h;have hb:=e8 k (x.1:Int);refine⟨by omega,by omega,by omega,⟨by omega,trivial,by omega,by omega⟩,by omega,λc hc=>⟨by omega,(x.1+1,c),⟨⟨by show x.1+1<=_;omega,by show 2*(x.1+1)<=c;omega⟩,by show _-(x.1+1)<_;omega⟩,by show(x.1:Int)+1=((x.1+1:Nat):Int);omega,⟨rfl,rfl,rfl⟩,trivial,abk rfl rfl (Nat.mul_one c) λi hi=> ?_,trivial⟩⟩;by_cases h1:i<2*x.1
  ·rw[o_ h1]
  ·rw[p_ h1];exact aeq k x.1 i hi h1
 ·have h: ¬ (x.1:Int)<(k.length:Int):=j_ h;have e:x.1=k.length:=by have:=hx.1;omega
  exact⟨by omega,dc (by rw[e];rfl)⟩
def qJ:List SV->Option (Prop×SV)
 | [.str K k]=>N (k.length<1099511627776,.str K (ak k))
 | _=>Q
theorem ZF:aq P 58 (aI qJ):=by
 refine fh (ee (n:=20) Tryz.func58 (by kernel_rfl) (by kernel_rfl) ?_);intro args p a h hp;unfold qJ at h;split at h
 ·cases h;exact⟨_,ayS _,rfl,rfl,ZE hp⟩
 ·cases h
theorem Wx (hp:p.length<1099511627776):au (eS (anm p) 170 c7 [.str K p] (λv=>ai v (.str K (cC p)))):=by
 refine au.j7 (atc p _) (by delta Fk I6 Ix Er NI dQ aM aF bx bB aj aC fQ az dK dD bt aA dU cw br wH aP gY A6 A7 oD ahl Iw zS xe BY aT cX og dR lS pY;exact rfl) ?_;have e:((p.length:Int)/2).toNat=p.length/2:=by omega
 rw[e];refine⟨by omega,⟨rfl,by omega,by omega,by omega⟩,⟨(0,λ_=>0),⟨bn _,λj hj=>absurd hj (bl _)⟩,rfl,aa.refl _,trivial⟩,λx hx=>⟨λh=> ?_,λh=> ?_⟩⟩
 ·have h:(x.1:Int)<((p.length/2:Nat):Int):=i_ h;have b1:=e8 p (2*(x.1:Int));have b2:=e8 p (2*(x.1:Int)+1);refine⟨by omega,by omega,by omega,by omega,by omega,by omega,by omega,by omega,by omega,(x.1+1,λj=>if j=x.1 then pP p x.1 else x.2 j),⟨⟨by show x.1+1<=_;omega,λj hj=> ?_⟩,by show _-(x.1+1)<_;omega⟩,by show(x.1:Int)+1=((x.1+1:Nat):Int);omega,?_,trivial⟩
  ·show(if j=x.1 then pP p x.1 else x.2 j)=pP p j
   by_cases ej:j=x.1
   ·rw[o_ ej,ej]
   ·rw[p_ ej];exact hx.2 j (by have:j<x.1+1:=hj;omega)
  ·refine abk rfl rfl rfl λi hi=> ?_;simp only[er,X];rfl
 ·have h: ¬ (x.1:Int)<((p.length/2:Nat):Int):=j_ h;have e1:x.1=p.length/2:=by have:=hx.1;omega
  refine⟨by omega,dc ?_⟩;unfold cC b7;apply List.map_congr_left;intro j hj;rw[c5] at hj;rw[er,hx.2 j (by omega)]
def AS:List SV->Option (Prop×SV)
 | [.str K p]=>N (p.length<1099511627776,.str K (cC p))
 | _=>Q
theorem Tn:aq P 170 (aI AS):=by
 refine fh (ee (n:=20) Tryz.func170 (by kernel_rfl) (by kernel_rfl) ?_);intro args p a h hp;unfold AS at h;split at h
 ·cases h;exact⟨_,ayT _,rfl,rfl,Wx hp⟩
 ·cases h
def KE:List SV->Option (Prop×SV)
 | [.bool K a,.bool K b]=>N (True,.int .u8 K (mR a b))
 | _=>Q
theorem apE:aq P 220 (aI KE):=by
 refine iH aBg (n:=20) Tryz.func220 (by kernel_rfl) (by kernel_rfl) ?_;intro args p r h hp;unfold KE at h;split at h
 ·rename_i a b;cases h;refine⟨rfl,rfl,au.j7 (awu a b _) (by delta Bk kG gH;exact rfl) ?_⟩;cases a<;>cases b<;>simp[ai,SV.val,mR]
 ·cases h
noncomputable def apa:List (FuncId×PT):=(169,aI oa)::(58,aI qJ)::(170,aI AS)::(220,aI KE)::Bw
theorem akk:aR P (λf=>av f apa):=.cons To (aE _) (.cons ZF (aE _) (.cons Tn (aE _) (.cons apE (aE _) n7)))
noncomputable def XZ:iG:={bQ with cO:=λf=>av f apa}
theorem aor:Sx.Good P XZ:=.of bI akk aO
def gN (p:h_)(leaf:Bool):h_:=cC (UInt8.ofNat (mR leaf (M ((p.length:Int)%2=1))).toNat::(bif M ((p.length:Int)%2=1)then p else 0::p))
def ZG (p:h_)(leaf:Bool):fC:=.fork (ig p) λb=>match b with
 | true=>.ret (.dr [.str K (gN p leaf),.bool L L])
 | false=>.ret (.dr [.str L [],.bool L K])
def gU (s:h_):Bool:=M (ak s≠[])&&M (ah (ak s) 0<=3)&&(M (ah (ak s) 0%2=1)||decide (ah (ak s) 1=0))
def fc (s:h_):Bool:=M (2<=ah (ak s) 0)
def gM (s:h_):h_:=if ah (ak s) 0%2=1 then(ak s).drop 1 else(ak s).drop 2
def Tk (s:h_):fC:=.fork (gU s) λb=>match b with
 | true=>.ret (.dr [.str K (gM s),.bool K (fc s),.bool L L])
 | false=>.ret (.dr [.str L [],.bool L K,.bool L K])
section
variable (s t u : h_) (p q r : Prop) (v : SV) (x : Bool) (y : UInt8)
abbrev pZ:List SV:=[SV.bool L L]
abbrev jl:=cP fu fR V
abbrev ff:h_:=[y]
abbrev Qb:=ff (UInt8.ofNat (d! (mR x (cJ (bB s%2) 1))))
abbrev bS:=a! s<1099511627776
abbrev k5:=cat (cat s t) u
abbrev gI:=cU v pZ
abbrev cE:=p/\aX q r x
abbrev iI:=gI (aA s)
abbrev sA:=bx (ak s)
abbrev nu:List SV:=[fR]
abbrev FF:=aj uk (1<=sA s) (sA s<=sA s)
abbrev aaZ:=ai (cP (SV.str uv s) fR pZ) v
abbrev aa0:=ai (cP (SV.str uv s) nM pZ) v
end
theorem aAr (p:h_)(leaf:Bool):VC.holds (jd XZ 210 cB [.str K p,.bool K leaf] (ZG p leaf))=(cE (dA p) (bP jl (iI (gN p leaf)) jl jl (ig p)) (az (zS p) True (zS p) (aX (az (lU 1 1) (lU 2 (bB p)) (bS (k5 (Qb p leaf) (ff 0) p)) (bP (iI (cC (k5 (Qb p leaf) (ff 0) p))) (iI (gN p leaf)) (iI (cC (k5 (Qb p leaf) (ff 0) p))) jl (ig p))) (aj (lU 1 (bB p)) (bS (cat (Qb p leaf) p)) (bP (iI (cC (cat (Qb p leaf) p))) (iI (gN p leaf)) (iI (cC (cat (Qb p leaf) p))) jl (ig p))) (cJ (bB p%2) 1))) (ig p)):=by kernel_rfl
theorem aAq (s:h_):VC.holds (jd XZ 217 cL [.str K s] (Tk s))=((fun(a:SV)=>(fun(b:SV)=>(fun(c:h_)=>(fun(d:h_)=>bS s/\ja (ak s) (gC a b a (gU s)) (Ix 0 (sA s)/\bE (ah (ak s) 0) 3 (aY (FF s) (aa0 c b) (aa0 c a) (gU s)) (bE (ah (ak s) 0) 2 (cE (Ix 1 (sA s)) (gC a b a (gU s)) (aY (kM 2 2 (sA s) (sA s<=sA s)) (aa0 d b) (aa0 d a) (gU s)) (cJ (ah (ak s) 1) 0)) (bE (ah (ak s) 0) 1 (aY (FF s) (aaZ c b) (aaZ c a) (gU s)) (bE (ah (ak s) 0) 0 (cE (Ix 1 (sA s)) (gC a b a (gU s)) (aY (kM 2 2 (sA s) (sA s<=sA s)) (aaZ d b) (aaZ d a) (gU s)) (cJ (ah (ak s) 1) 0)) (gC a b a (gU s))))))) (bT (ak s) (N (Operand.const (Value.int IntKind.i64 2))) Q 2 (sA s))) (bT (ak s) BA Q 1 (sA s))) (cP (aA (gM s)) (gb (fc s)) pZ)) (cP fu fR nu)):=by kernel_rfl
theorem HX {i:Int}(h:i<=a.length):part (a++b) i=part a i:=by
 unfold part;by_cases h1:1<=i
 ·have hl:1<=a.length:=by omega
  rw[ag hl,a_ (by simp only[Z];omega)]
 ·have:(i-1).toNat=0:=by omega
  rw[this];rfl
theorem aoU {i:Int}(h2:2<=i)(h:zu a i=L):zu (a++b) i=true:=by
 obtain⟨h1,h3,h4,h5⟩:=n6.1 h;refine n6.2 ⟨by simp only[Y];omega,?_,?_,?_⟩
 ·rw[tR (by omega) (by omega)];exact h3
 ·rw[HX h1];exact h4
 ·rw[HX h1];exact h5
theorem Vp (h:c9 a=L)(b:h_):c9 (a++b)=L/\e9 (a++b)=e9 a/\af (a++b)=af a/\aH (a++b)=aH a++b:=by
 obtain⟨h0,hc⟩:=jL.1 h;have hl:=ek.2 h0;have e0:ah (a++b) 0=ah a 0:=tR (Int.le_refl _) (by omega);have el:lead (a++b)=lead a:=by unfold lead;rw[e0]
 have eL:e9 (a++b)=e9 a:=by unfold e9;rw[e0]
 have hne:a++b≠[]:=by simp[h0]
 refine⟨?_,eL,?_⟩
 ·refine jL.2 ⟨hne,?_⟩;rw[e0,el];rcases hc with hA | ⟨hA,hB,hC,hD⟩ | ⟨hA,hB,hC,hD⟩
  ·exact .inl hA
  ·have hq:=(n6.1 hC).1;exact .inr (.inl ⟨hA,hB,aoU (by omega) hC,by rw[HX hq];simp only[Y];omega⟩)
  ·exact .inr (.inr ⟨hA,hB,by simp only[Y];omega,fun⟨x,y,z⟩=>hD ⟨x,y,by rwa [tR (by omega) (by omega)] at z⟩⟩)
 ·rcases hc with hA | ⟨hA,hB,hC,hD⟩ | ⟨hA,hB,hC,hD⟩
  ·obtain⟨_,k2,k3⟩:=vF hA;obtain⟨_,j2,j3⟩:=vF (s:=a++b) (by rw[e0];exact hA);rw[k2,k3,j2,j3];exact⟨a_ (by omega),ag (by omega)⟩
  ·have hq:=(n6.1 hC).1;have hp:=AW a (lead a-54);obtain⟨k2,k3⟩:=vY hA hB;obtain⟨j2,j3⟩:=vY (s:=a++b) (by rw[e0];exact hA) (by rw[el];exact hB);rw[k2,k3,j2,j3,el,HX hq];constructor
   ·rw[ag (by omega),a_ (by simp only[Z];omega)]
   ·rw[ag (by omega)]
  ·have hn:=HM hA;obtain⟨k2,k3⟩:=Az hA hB;obtain⟨j2,j3⟩:=Az (s:=a++b) (by rw[e0];exact hA) (by rw[el];exact hB);rw[k2,k3,j2,j3,el];have e1:(1:Int).toNat=1:=rfl;rw[e1];constructor
   ·rw[ag (by omega),a_ (by simp only[Z];omega)]
   ·rw[ag (by omega)]
theorem adA (h:c9 a=L)(b:h_):CL (a++b)=CL a:=by
 unfold CL;rw[(Vp h b).2.2.2,Y,Y];have:a.length+b.length-((aH a).length+b.length)=a.length-(aH a).length:=by omega
 rw[this,a_ (by omega)]
theorem Walk.app (b:h_): ∀ {k:Nat},Walk a k->cu (a++b) k=cu a k++b
 | 0,_=>by simp only[cu]
 | k+1,h=>by have h1:=Walk.app b (k:=k) (λj hj=>h j (by omega));simp only[cu];rw[h1,(Vp (h k (by omega)).2 b).2.2.2]
theorem Walk.take {k j:Nat}(h:Walk a k)(hj:j<=k):Walk a j:=λi hi=>h i (by omega)
theorem Walk.join (b:h_){k:Nat}(h:Walk a k):Walk (a++b) k:=λj hj=>by rw[(h.take (j:=j) (by omega)).app b];obtain⟨h1,h2⟩:=h j hj;exact⟨by simp[h1],(Vp h2 b).1⟩
theorem Walk.item (b:h_){k j:Nat}(h:Walk a k)(hj:j<k):ax (a++b) j=ax a j:=by unfold ax;rw[(h.take (j:=j) (by omega)).app b,adA (h j hj).2]
theorem adE (n:Nat): ∀(s:h_),s.length<=n->ga s=L->Walk s (ck s)/\cu s (ck s)=[]:=by
 have nil: ∀ s:h_,s=[]->Walk s (ck s)/\cu s (ck s)=[]:=by intro s hs;rw[hs,oY.2];exact⟨λj hj=>absurd hj (bl _),by simp only[cu]⟩
 induction n with
 | zero=>exact λs h _=>nil s (List.length_eq_zero_iff.1 (by omega))
 | succ n ih =>
   intro s h hb;by_cases hne:s=[]
   ·exact nil s hne
   ·have hc:c9 s=true:=by
     cases hc:c9 s with
     | false=>rw[Kc hne hc] at hb;cases hb
     | true=>rfl
    obtain⟨h1,h2⟩:=Ke hne hc;have hl:=J0 hc;obtain⟨h3,h4⟩:=ih (aH s) (by omega) (by rw[← h1];exact hb);rw[h2];refine⟨λj hj=> ?_,by rw[uB];exact h4⟩;cases j with
    | zero=>simp only[cu];exact⟨hne,hc⟩
    | succ j=>rw[uB];exact h3 j (by omega)
theorem QF (s:h_)(k:Nat): ∀ j,cu s (k+j)=cu (cu s k) j
 | 0=>by simp only[cu,Nat.add_zero]
 | j+1=>by rw[← Nat.add_assoc,cu,QF s k j];simp only[cu]
theorem adD (h:ga a=L)(b:h_):ga (a++b)=ga b/\ck (a++b)=ck a+ck b/\
  (∀ j,j<ck a->ax (a++b) j=ax a j)/\∀ j,ax (a++b) (ck a+j)=ax b j:=by
 obtain⟨h1,h2⟩:=adE a.length a (ep _) h;have h3:=h1.app b;rw[h2,List.nil_append] at h3;obtain⟨h4,h5⟩:=(h1.join b).items;rw[h3] at h4 h5;refine⟨h4,by omega,λj hj=>h1.item b hj,λj=> ?_⟩;unfold ax;rw[QF,h3]
theorem apS (h:c9 s=L)(h2:aH s=[]):ga s=L/\ck s=1/\ax s 0=s:=by have hne:=(jL.1 h).1;obtain⟨g1,g2⟩:=Ke hne h;rw[h2] at g1 g2;refine⟨by rw[g1];exact oY.1,by rw[g2,oY.2],?_⟩;unfold ax CL;simp only[cu];rw[h2,c4,Nat.sub_zero,List.take_length]
theorem ajU (a:h_)(r:List h_):flat (a::r)=a++flat r:=by simp[flat]
theorem Ol: ∀(l:List h_),(∀ x∈ l,c9 x=L/\aH x=[])->ga (flat l)=L/\ck (flat l)=l.length/\∀(j:Nat) (x:h_),l[j]?=N x->ax (flat l) j=x
 | [],_=>⟨oY.1,oY.2,λj x h=>by simp at h⟩
 | a::r,h=>by
   obtain⟨h1,h2⟩:=h a (by simp);obtain⟨o1,o2,o3⟩:=apS h1 h2;obtain⟨g1,g2,g3⟩:=Ol r λx hx=>h x (by simp[hx]);obtain⟨j1,j2,j3,j4⟩:=adD o1 (flat r);rw[ajU];refine⟨by rw[j1];exact g1,by rw[j2,o2,g2,W];omega,λj x hx=> ?_⟩;cases j with
   | zero =>simp only[ef,Option.some.injEq] at hx;rw[j3 0 (by omega),o3,hx]
   | succ j =>have:=j4 j;rw[o2] at this;rw[Nat.add_comm j 1,this];exact g3 j x (by simpa using hx)
theorem Y5 {l:List h_}(hl:(flat l).length<=1048576)(rest:h_) :
  c9 (di 192 (flat l).length++flat l++rest)=L/\e9 (di 192 (flat l).length++flat l++rest)=L/\af (di 192 (flat l).length++flat l++rest)=flat l/\aH (di 192 (flat l).length++flat l++rest)=rest:=by
 obtain⟨h1,h2,h3,h4⟩:=agm (.inr rfl) hl (λh=>by omega) rest;exact⟨h1,by rw[h2];rfl,h3,h4⟩
theorem ac0 (s:h_):(aH s).length<=s.length:=by unfold aH;rw[Z];omega
theorem Ux (s:h_): ∀ k,(cu s k).length<=s.length
 | 0=>by simp only[cu];exact ep _
 | k+1=>by simp only[cu];exact S (ac0 _) (Ux s k)
theorem Kb (s:h_)(k:Nat):(ax s k).length<=s.length:=by have:=Ux s k;unfold ax CL;rw[an];omega
theorem Hl (s:h_):(af s).length<=s.length:=by unfold af;simp only[an,Z];omega
def kE (l:List h_):h_:=di 192 (flat l).length++flat l
theorem Lz (c:UInt8)(t:h_):ah (c::t) 1=ah t 0:=by cases t<;>rfl
def mb (l:Bool)(b:h_):h_:=bif l then di 192 b.length++b else aS b
theorem toNat_eq {a b:UInt8}(h:a.toNat=b.toNat):a=b:=UInt8.toNat_inj.1 h
theorem Ve (h:s≠[]): ∃ b t,s=b::t/\ah s 0=(b.toNat:Int):=by
 cases s with
 | nil=>exact absurd rfl h
 | cons b t=>exact⟨b,t,rfl,rfl⟩
theorem Ho (h:c9 s=L):mb (e9 s) (af s)++aH s=s:=by
 obtain⟨h0,h⟩:=jL.1 h;obtain⟨b,t,rfl,hb⟩:=Ve h0;have hb8:=b.toNat_lt;rcases h with hA | ⟨hA,hL,hB,hP⟩ | ⟨hA,hL,hP,hN⟩
 ·obtain⟨k1,k2,k3⟩:=vF hA;rw[k1,k2,k3];simp only[mb,cond_false,List.take_succ_cons,List.take_zero,cT,ec];rw[Q8 ⟨rfl,by rw[hb] at hA;exact hA⟩];rfl
 ·obtain⟨k1,k2⟩:=vY hA hL;obtain⟨g1,g2,g3,g4⟩:=n6.1 hB;have hl:=g1;simp only[W] at hl g1 hP;have hlead:lead (b::t)<64/\0<=lead (b::t):=by unfold lead;split<;>omega
  have hpn:=AW (b::t) (lead (b::t)-54);have elen:(af (b::t)).length=(part (b::t) (lead (b::t)-54)).toNat:=by rw[k1];simp only[an,Z,W];omega
  have hd:digits (part (b::t) (lead (b::t)-54))=t.take (lead (b::t)-55).toNat:=by
   have e:part (b::t) (lead (b::t)-54)=num (t.take (lead (b::t)-55).toNat):=by unfold part;simp only[cT,ec];congr 2;omega
   rw[e];refine ajN (by simp only[an];omega) (.inr ?_);intro h;apply g2;rw[Lz];have:ah (t.take (lead (b::t)-55).toNat) 0=ah t 0:=by
    obtain⟨m,hm⟩: ∃ m,(lead (b::t)-55).toNat=m+1:=⟨(lead (b::t)-55).toNat-1,by omega⟩
    rw[hm];cases t<;>rfl
   rw[← this];exact h
  have hhead: ∀ base:Int,lead (b::t)=ah (b::t) 0-base->0<=base->di base (af (b::t)).length=b::t.take (lead (b::t)-55).toNat:=by
   intro base hbase hb0;rw[SG (by rw[elen];omega),elen,show(((part (b::t) (lead (b::t)-54)).toNat:Nat):Int)=part (b::t) (lead (b::t)-54)by omega,hd];congr 1;apply toNat_eq;have:(base+55+((t.take (lead (b::t)-55).toNat).length:Int)).toNat=b.toNat:=by rw[hb] at hbase;simp only[an];omega
   rw[this];simp
  have hcat: ∀ base:Int,lead (b::t)=ah (b::t) 0-base->0<=base->di base (af (b::t)).length++af (b::t)++aH (b::t)=b::t:=by
   intro base hbase hb0;rw[hhead base hbase hb0,k1,k2,List.append_assoc];have e1:(lead (b::t)-54).toNat=(lead (b::t)-55).toNat+1:=by omega
   have e2:(lead (b::t)-54+part (b::t) (lead (b::t)-54)).toNat=(lead (b::t)-55).toNat+1+(part (b::t) (lead (b::t)-54)).toNat:=by omega
   rw[e1,e2];generalize (lead (b::t)-55).toNat=k;generalize (part (b::t) (lead (b::t)-54)).toNat=p;rw[show k+1+p=(k+p)+1 by omega];simp only[cT,List.cons_append];rw[← List.drop_drop,en,en]
  by_cases hC:ah (b::t) 0<192
  ·have e3:e9 (b::t)=false:=by simp[e9];omega
   rw[e3,mb,cond_false,tD (by rw[elen];omega)];exact hcat 128 (HL hC) (by omega)
  ·have e3:e9 (b::t)=true:=by simp[e9];omega
   rw[e3,mb,cond_true];exact hcat 192 (HK hC) (by omega)
 ·obtain⟨k1,k2⟩:=Az hA hL;simp only[W] at hP;have hlead:=HM hA;have elen:(af (b::t)).length=(lead (b::t)).toNat:=by rw[k1];simp only[an,Z,W];omega
  have ein:af (b::t)=t.take (lead (b::t)).toNat:=by rw[k1];rfl
  have hcat: ∀ base:Int,lead (b::t)=ah (b::t) 0-base->0<=base->di base (af (b::t)).length++af (b::t)++aH (b::t)=b::t:=by
   intro base hbase hb0;rw[OA (by rw[elen];omega),elen,ein,k2];have:(base+((lead (b::t)).toNat:Int)).toNat=b.toNat:=by rw[hb] at hbase;omega
   rw[this,show(1+lead (b::t)).toNat=(lead (b::t)).toNat+1 by omega];simp
  by_cases hC:ah (b::t) 0<192
  ·have e3:e9 (b::t)=false:=by simp[e9];omega
   rw[e3,mb,cond_false,tD ?_]
   ·exact hcat 128 (HL hC) (by omega)
   ·rintro⟨h1,h2⟩;rw[elen] at h1;apply hN;refine⟨hC,by omega,?_⟩;rw[Lz];rw[ein,h1] at h2;cases t with
    | nil=>exact h2
    | cons c u=>exact h2
  ·have e3:e9 (b::t)=true:=by simp[e9];omega
   rw[e3,mb,cond_true];exact hcat 192 (HK hC) (by omega)
theorem ajr {l:Bool}(hb:b.length<=1048576)(rest:h_):c9 (mb l b++rest)=L/\e9 (mb l b++rest)=l/\af (mb l b++rest)=b/\aH (mb l b++rest)=rest:=by
 cases l with
 | false=>exact Q7 hb rest
 | true =>
   have:=Y5 (l:=[b]) (by simpa [flat] using hb) rest;have e:flat [b]=b:=by simp[flat]
   rw[e] at this;exact this
theorem tH (f:Nat->Int)(i n:Nat):(b7 f i n).length=n:=by simp[b7]
theorem jD (k:h_):(ak k).length=2*k.length:=tH _ _ _
theorem Gy (p:h_):(cC p).length=p.length/2:=tH _ _ _
theorem qW {l:Bool}{l1 l2 x:Bool}(h:a=b):ai (.dr [.str l a,.bool l1 x]) (.dr [.str K b,.bool l2 x]):=λE=>by subst h;rfl
theorem aev (leaf:Bool)(hp:p.length<1073741824):au (jd XZ 210 cB [.str K p,.bool K leaf] (ZG p leaf)):=by
 refine au.j7 (aAr p leaf) (by delta Bk NI fu bx bB cP aj fQ az cU aA lU fR dU cJ bP dA aX zS pZ jl ff Qb bS k5 gI cE iI;exact rfl) ?_;cases ig p with
 | false=>exact⟨by omega,λ_=>⟨(λh=>by cases h),λ_ _=>rfl⟩,λh=>by cases h⟩
 | true =>
   refine⟨by omega,(λh=>by cases h),λ_=>⟨by omega,trivial,by omega,λh=> ?_,λh=> ?_⟩⟩
   ·have ho:M ((p.length:Int)%2=1)=false:=by simpa using h
    refine⟨by omega,by omega,by simp only[cat,Y,W,c4];omega,λ_=>qW ?_,λh=>by cases h⟩;rw[gN,ho];rfl
   ·have ho:M ((p.length:Int)%2=1)=true:=by simpa using h
    refine⟨by omega,by simp only[cat,Y,W,c4];omega,λ_=>qW ?_,λh=>by cases h⟩;rw[gN,ho];rfl
def wB:List SV->Option (Prop×fC)
 | [.str K p,.bool K leaf]=>N (p.length<1073741824,ZG p leaf)
 | _=>Q
theorem avf:aq P 210 (bZ wB):=by
 refine ee (n:=20) Tryz.func210 (by kernel_rfl) (by kernel_rfl) ?_;intro args p a h hp;unfold wB at h;split at h
 ·cases h;exact⟨_,aor,rfl,λb=>by cases b<;>exact rfl,aev _ hp⟩
 ·cases h
theorem Ag {l:Bool}{l1 l2 l3 l4 x y:Bool}(h:a=b)(h2:x=y):ai (.dr [.str l a,.bool l1 x,.bool l2 z]) (.dr [.str K b,.bool l3 y,.bool l4 z]):=λE=>by subst h;subst h2;rfl
theorem zB :gU s=L↔ak s≠[]/\ah (ak s) 0<=3/\(ah (ak s) 0%2=1∨ah (ak s) 1=0):=by simp only[gU,bY,Bool.or_eq_true,m_,and_assoc]
theorem aep (hs:s.length<1099511627776):au (jd XZ 217 cL [.str K s] (Tk s)):=by
 refine au.j7 (aAq s) (by delta Fk Bk Ix NI fu gO bx cP aj bE aA fR BA uk uv dU kM gb cJ ja aY aX gC nM pZ bS cE sA nu FF aaZ aa0;exact rfl) ?_;have hl:=jD s;have b0:=e8 (ak s) 0;have F: ∀ {p:Prop},¬ (ak s≠[]/\ah (ak s) 0<=3/\(ah (ak s) 0%2=1∨ah (ak s) 1=0))->gU s=L->p:=λh h'=>absurd (zB.1 h') h;have T: ∀ {p:Prop},(ak s≠[]/\ah (ak s) 0<=3/\(ah (ak s) 0%2=1∨ah (ak s) 1=0))->gU s=K->p:=λh h'=>by rw[zB.2 h] at h';cases h'
 have none':ai (.dr [.str L [],.bool L K,.bool L K]) (.dr [.str L [],.bool L K,.bool L K]):=λ_=>rfl;have O:ah (ak s) 0%2=1->(ak s).drop 1=gM s:=λh=>(o_ h).symm;have Ev: ¬ ah (ak s) 0%2=1->(ak s).drop 2=gM s:=λh=>(p_ h).symm;refine⟨hs,λh=>⟨F (by simp at h;simp[h]),λ_=>none'⟩,λh=> ?_⟩;have h:ak s≠[]:=j_ h;have hp:=ek.2 h;refine⟨by omega,λa=> ?_,λa=>⟨λb=> ?_,λb=>⟨λc=> ?_,λc=>⟨λd=> ?_,λd=> ?_⟩⟩⟩⟩
 ·have a:=i_ a;refine⟨by omega,λ_=>Ag (O (by omega)) (by simp[fc,a]),T ⟨h,by omega,.inl (by omega)⟩⟩
 ·have b:=i_ b;refine⟨by omega,λg=> ?_,λg=>⟨by omega,λ_=>Ag (Ev (by omega)) (by simp[fc,b]),?_⟩⟩
  ·have g: ¬ ah (ak s) 1=0:=by simpa using g
   exact⟨F (by rintro⟨_,_,e | e⟩;omega;exact g e),λ_=>none'⟩
  ·have g:ah (ak s) 1=0:=by simpa using g
   exact T ⟨h,by omega,.inr g⟩
 ·have c:=i_ c;refine⟨by omega,λ_=>Ag (O (by omega)) (by simp[fc,c]),T ⟨h,by omega,.inl (by omega)⟩⟩
 ·have d:=i_ d;refine⟨by omega,λg=> ?_,λg=>⟨by omega,λ_=>Ag (Ev (by omega)) (by simp[fc,d]),?_⟩⟩
  ·have g: ¬ ah (ak s) 1=0:=by simpa using g
   exact⟨F (by rintro⟨_,_,e | e⟩;omega;exact g e),λ_=>none'⟩
  ·have g:ah (ak s) 1=0:=by simpa using g
   exact T ⟨h,by omega,.inr g⟩
 ·have a:=j_ a;have b:=j_ b;have c:=j_ c;have d:=j_ d;exact⟨F (by rintro⟨_,e,_⟩;omega),λ_=>none'⟩
def Pg:List SV->Option (Prop×fC)
 | [.str K s]=>N (s.length<1099511627776,Tk s)
 | _=>Q
theorem avc:aq P 217 (bZ Pg):=by
 refine ee (n:=20) Tryz.func217 (by kernel_rfl) (by kernel_rfl) ?_;intro args p a h hp;unfold Pg at h;split at h
 ·cases h;exact⟨_,aor,rfl,λb=>by cases b<;>exact rfl,aep hp⟩
 ·cases h
noncomputable def V4:List (FuncId×PT):=(169,aI oa)::(210,bZ wB)::(217,bZ Pg)::Bw
theorem Kr:aR P (λf=>av f V4):=.cons To (aE _) (.cons avf (bK _) (.cons avc (bK _) n7))
noncomputable def N2:iG:={bQ with cO:=λf=>av f V4}
theorem No:Sx.Good P N2:=.of bI Kr aO
structure Nd where
 k:Int
 p:h_
 v:h_
 r:Nat->h_
def Qy (r:Nat->h_):List SV:=[.str K (r 0),.str K (r 1),.str K (r 2),.str K (r 3),.str K (r 4),.str K (r 5),.str K (r 6),.str K (r 7),.str K (r 8),.str K (r 9),.str K (r 10),.str K (r 11),.str K (r 12),.str K (r 13),.str K (r 14),.str K (r 15)]
def Nd.JI (x:Nd)(l:Bool)(k:Int):SV:=.agg (.int .i64 l k::.str K x.p::.str K x.v::Qy x.r)
def Nd.sv (x:Nd):SV:=x.JI K x.k
def jm:SV:=.agg [.int .i64 L 0,.str L [],.str L [],.str L [],.str L [],.str L [],.str L [],.str L [],.str L [],.str L [],.str L [],.str L [],.str L [],.str L [],.str L [],.str L [],.str L [],.str L [],.str L []]
def aem:List SV->Option Nd
 | [.int .i64 K k,.str K p,.str K v,.str K r0,.str K r1,.str K r2,.str K r3,.str K r4,.str K r5,.str K r6,.str K r7,.str K r8,.str K r9,.str K r10,.str K r11,.str K r12,.str K r13,.str K r14,.str K r15]=>N ⟨k,p,v,λi=>[r0,r1,r2,r3,r4,r5,r6,r7,r8,r9,r10,r11,r12,r13,r14,r15].getD i []⟩
 | _=>Q
theorem HV {l:List SV}{x:Nd}(h:aem l=N x):SV.agg l=x.sv:=by
 unfold aem at h;split at h
 ·cases h;rfl
 ·cases h
def gk (t:h_):Bool:=c9 t&& !e9 t&&M (aH t=[])
def cH (t:h_):Bool:=gk t&&M (((af t).length:Int)=32)
def aeC (t:h_):fC:=.fork (gk t) λb=>match b with
 | true=>.ret (.dr [.str K (af t),.bool L L])
 | false=>.ret (.dr [.str L [],.bool L K])
def SE (t:h_):fC:=.fork (cH t) λb=>match b with
 | true=>.ret (.dr [.str K (af t),.bool L L])
 | false=>.ret (.dr [.str L [],.bool L K])
def pF (x:Nd)(least:Int):Bool:=M (least<=(x.p.length:Int))&&M ((x.p.length:Int)<=12)&&ig x.p
def dG (r:Nat->h_):Nat->Int
 | 0=>0
 | i+1=>if r i=[] then dG r i else(i:Int)+1
noncomputable def ajt (x:Nd):aN :=
 {α:=Nat,pre:=λ_ i=>i<=16,nF:=λ_ i=>16-i,fresh:=0,slots:=λ_ i=>[(7,.int .i64 K i)],
  mem:=λ_ i=>[(1,.cells [.int .i64 K (dG x.r i)] 1 3)]}
noncomputable def ank (x:Nd):iG:={bQ with cO:=λf=>av f V4,bU:=λf=>if f=201 then [(1,always (ajt x))] else []}
theorem ayR (x:Nd):Sx.Good P (ank x):=.of bI Kr aO
section
variable (n m : Nat) (s t u g h o A B : h_) (v w C E F G H I : SV) (x : Nd) (D : SB) (y : List SV) (J : TypeId) (z : Nat-> SV) (f : List h_)
abbrev zW:=gI (aA (af s))
abbrev dS:List h_:=s::t::u::g::h::o::A::B::f
abbrev B9:=dS (x.r 0) (x.r 1) (x.r 2) (x.r 3) (x.r 4) (x.r 5) (x.r 6) (x.r 7) (dS (x.r 8) (x.r 9) (x.r 10) (x.r 11) (x.r 12) (x.r 13) (x.r 14) (x.r 15) V)
abbrev lu:=d! (NI n)
abbrev aG:=fz v w C E (fz F G H I y)
abbrev KU:=aG (z 0) (z 1) (z 2) (z 3) (z 4) (z 5) (z 6) (z 7) (aG (z 8) (z 9) (z 10) (z 11) (z 12) (z 13) (z 14) (z 15) V)
abbrev pH:=br n 16 (aP 16 n 16 m)
abbrev LY:=dU (NI n) (NI n<16) (NI n<NI 16)
abbrev qN:=NI n<16
abbrev mJ:=n<=16
abbrev aae:=eY 1 (bF (dG x.r n)) V 3
abbrev mF:=l9 (B9 x) n
abbrev qc:=mF (lu n) x
abbrev nJ:=SB.cells y 19 J
abbrev Qa:=aj (Sr D) (Sr (nJ (SV.cells (Nd.sv x)) 238)) True
abbrev k7:=SV.agg (v::y)
abbrev Ua:=gW 19 (k7 (bF x.k) (aA x.p::aA x.v::KU z)) 238
abbrev DH:=not (M (qc n x=[]))
abbrev jj:=aA (x.r n)
end
theorem awy (t:h_):VC.holds (jd N2 184 b! [.str K t] (aeC t))=((fun(a:SV)=>aY (cW t) (Bk (e9 t) (Bk (gk t) (ai a (zW t)) (ai a a)) (gE (aH t) (Bk (gk t) (ai a (zW t)) (ai a a)) (bP (zW t) (zW t) (zW t) a (gk t)))) (Bk (gk t) (ai a (zW t)) (ai a a)) (c9 t)) jl):=by kernel_rfl
theorem aAm (t:h_):VC.holds (jd N2 151 b_ [.str K t] (SE t))=((fun(a:SV)=>(fun(b:SV)=>aY (cW t) (Bk (e9 t) (gC a b a (cH t)) (gE (aH t) (gC a b a (cH t)) (aX (gC a b a (cH t)) (Bk (cH t) (ai b b) (ai b a)) (cJ (LS t) 32)))) (gC a b a (cH t)) (c9 t)) (zW t)) jl):=by kernel_rfl
theorem atf (x:Nd)(least:Int)(R:SV->Prop):VC.holds (eS N2 207 c! [x.sv,.int .i64 K least] R)=(((M (least<=(x.p.length:Int))=L->(M ((x.p.length:Int)<=12)=L->x.p.length<1152921504606846976/\R (SV.bool K (ig x.p)))/\(M ((x.p.length:Int)<=12)=K->R (SV.bool L K)))/\(M (least<=(x.p.length:Int))=K->R (SV.bool L K)))):=by kernel_rfl
theorem asW (x:Nd)(R:SV->Prop):VC.holds (eS (ank x) 208 cy [x.sv] R)=((fun(a:Nat->SV)=>(fun(a:SB)=>∀(b:Loop),cR (∀(c:Nat),mJ c->Fk (qN c) (aY (LY c) (az (Er b) (i5 c) (i5 c) (∃(d:Nat),aC (pH d c) (gS c d) (bH 1 (aae d x) [bF (NI c+1)] 3) (nQ b) (Qa x a))) (dF c (λd=>aC (pH d c) (gS c d) (aa (aae c x) (aae d x)) (nQ b) (Qa x a))) (DH c x)) (R (bF (dG x.r c)))) (λc=>aC (mJ c) (fy c) (bH 1 (aae c x) qd 3) (nQ b) (Qa x a))) (Ua x a)) (λa=>jj a x)):=by kernel_rfl
theorem ate (x:Nd)(R:SV->Prop):VC.holds (eS N2 185 c8 [x.sv] R)=((R (SV.bool (K&&L&&(K&&L&&(K&&L&&(K&&L&&(K&&L&&(K&&L&&(K&&L&&(K&&L&&(K&&L&&(K&&L&&(K&&L&&(K&&L&&(K&&L&&(K&&L&&(K&&L&&(K&&L&&(K&&L&&(K&&L&&(K&&L&&L)))))))))))))))&&L)))) (M (x.k=0)&&(M (x.p=[])&&(M (x.v=[])&&(M (x.r 0=[])&&(M (x.r 1=[])&&(M (x.r 2=[])&&(M (x.r 3=[])&&(M (x.r 4=[])&&(M (x.r 5=[])&&(M (x.r 6=[])&&(M (x.r 7=[])&&(M (x.r 8=[])&&(M (x.r 9=[])&&(M (x.r 10=[])&&(M (x.r 11=[])&&(M (x.r 12=[])&&(M (x.r 13=[])&&(M (x.r 14=[])&&(M (x.r 15=[])&&L)))))))))))))))&&L))))))):=by kernel_rfl
theorem zD :gk t=L↔c9 t=L/\e9 t=K/\aH t=[]:=by simp only[gk,bY,Bool.not_eq_true',m_,and_assoc]
theorem wm :cH t=L↔(c9 t=L/\e9 t=K/\aH t=[])/\(af t).length=32:=by simp only[cH,bY,zD,m_];constructor<;>rintro⟨h1,h2⟩<;>exact⟨h1,by omega⟩
theorem ZT (ht:t.length<9223372036854775808):au (jd N2 184 b! [.str K t] (aeC t)):=by
 refine au.j7 (awy t) (by delta Bk fu cP cU aA fR dy bP cW aY aX gE pZ jl gI zW;exact rfl) ?_;have no:ai (.dr [.str L [],.bool L K]) (.dr [.str L [],.bool L K]):=λ_=>rfl;have F: ∀ {p:Prop},¬ (c9 t=L/\e9 t=K/\aH t=[])->gk t=L->p:=λh h'=>absurd (zD.1 h') h;refine⟨ht,λa=>⟨λb=>⟨F (by simp[b]),λ_=>no⟩,λb=>⟨λc=>⟨F (by simp at c;simp[c]),λ_=>no⟩,λc=> ?_⟩⟩,λa=>⟨F (by simp[a]),λ_=>no⟩⟩;have c:aH t=[]:=by simpa using c
 have hB:=zD.2 ⟨a,b,c⟩;exact⟨λ_ _=>rfl,λh=>by rw[hB] at h;cases h⟩
theorem adp (ht:t.length<9223372036854775808):au (jd N2 151 b_ [.str K t] (SE t)):=by
 refine au.j7 (aAm t) (by delta Bk NI fu cP cU aA fR cJ dy cW aY DE LS aX gC gE pZ jl gI zW;exact rfl) ?_;have no:ai (.dr [.str L [],.bool L K]) (.dr [.str L [],.bool L K]):=λ_=>rfl;have F: ∀ {p:Prop},¬ ((c9 t=L/\e9 t=K/\aH t=[])/\(af t).length=32)->cH t=L->p:=λh h'=>absurd (wm.1 h') h;refine⟨ht,λa=>⟨λb=>⟨F (by simp[b]),λ_=>no⟩,λb=>⟨λc=>⟨F (by simp at c;simp[c]),λ_=>no⟩,λc=>⟨λd=>⟨F (by simp at d;omega),λ_=>no⟩,λd=> ?_⟩⟩⟩,λa=>⟨F (by simp[a]),λ_=>no⟩⟩;have c:aH t=[]:=by simpa using c
 have d:((af t).length:Int)=32:=by simpa using d
 have hB:=wm.2 ⟨⟨a,b,c⟩,by omega⟩;exact⟨λ_ _=>rfl,λh=>by rw[hB] at h;cases h⟩
def KO:List SV->Option (Prop×fC)
 | [.str K t]=>N (t.length<9223372036854775808,aeC t)
 | _=>Q
def wk:List SV->Option (Prop×fC)
 | [.str K t]=>N (t.length<9223372036854775808,SE t)
 | _=>Q
theorem ap0:aq P 184 (bZ KO):=by
 refine ee (n:=20) (fn:=b!) Tryz.func184 (by kernel_rfl) (by kernel_rfl) ?_;intro args p a h hp;unfold KO at h;split at h
 ·cases h;exact⟨_,No,rfl,λb=>by cases b<;>exact rfl,ZT hp⟩
 ·cases h
theorem agv:aq P 151 (bZ wk):=by
 refine ee (n:=20) Tryz.func151 (by kernel_rfl) (by kernel_rfl) ?_;intro args p a h hp;unfold wk at h;split at h
 ·cases h;exact⟨_,No,rfl,λb=>by cases b<;>exact rfl,adp hp⟩
 ·cases h
def Gs:List SV->Option (Prop×SV)
 | [.agg l,.int .i64 K least]=>(match aem l with
   | some x=>N (True,.bool K (pF x least))
   | none=>Q)
 | _=>Q
theorem akF:aq P 207 (aI Gs):=by
 refine iH No (n:=20) (fn:=c!) Tryz.func207 (by kernel_rfl) (by kernel_rfl) ?_;intro args p r h hp;unfold Gs at h;split at h
 ·split at h
  ·rename_i l least _ x hx;cases h;rw[HV hx];refine⟨rfl,rfl,au.of_eq (atf x least _) ⟨λa=>⟨λb=>⟨?_,bL ?_⟩,λb=>bL ?_⟩,λa=>bL ?_⟩⟩
   ·have:=i_ b;omega
   ·rw[pF,a,b];rfl
   ·rw[pF,a,b];rfl
   ·rw[pF,a];rfl
  ·cases h
 ·cases h
theorem B5 (r:Nat->h_)(h:i<16):l9 [r 0,r 1,r 2,r 3,r 4,r 5,r 6,r 7,r 8,r 9,r 10,r 11,r 12,r 13,r 14,r 15] i=r i:=by
 have:i=0∨i=1∨i=2∨i=3∨i=4∨i=5∨i=6∨i=7∨i=8∨i=9∨i=10∨i=11∨i=12∨i=13∨i=14∨i=15:=by omega
 rcases this with rfl | rfl | rfl | rfl | rfl | rfl | rfl | rfl | rfl | rfl | rfl | rfl | rfl | rfl | rfl | rfl<;>rfl
theorem N0 {l l':Bool}{a b:Int}(h:a=b):aa (.cells [.int .i64 l a] tot ty) (.cells [.int .i64 l' b] tot ty):=by subst h;exact aa.cells (λ_=>rfl) rfl
theorem U8 (x:Nd):au (eS (ank x) 208 cy [x.sv] (λv=>ai v (.int .i64 K (dG x.r 16)))):=by
 refine au.j7 (asW x _) (by delta Fk Bk I6 Sr Er NI bF bq aj qd bH aC az bt aA dU eY fz aY nQ gW br aP gS fy i5 cR dF dS B9 lu aG KU pH LY qN mJ aae mF qc nJ Qa k7 Ua DH jj;exact rfl) ?_;intro R;refine⟨⟨0,by omega,rfl,N0 rfl,aa.refl _,aa.refl _,aa.refl _,trivial⟩,λi hi=>⟨λa=> ?_,λa=> ?_⟩⟩
 ·have a:=i_ a;have ei:i<16:=by omega
  rw[X,B5 x.r ei];refine⟨by omega,λb=>⟨rfl,by omega,by omega,i+1,by omega,by omega,N0 ?_,aa.refl _,aa.refl _,aa.refl _,trivial⟩,λb=>⟨by omega,i+1,by omega,by omega,N0 ?_,aa.refl _,aa.refl _,aa.refl _,trivial⟩⟩
  ·have b: ¬ x.r i=[]:=by simpa using b
   rw[dG,p_ b]
  ·have b:x.r i=[]:=by simpa using b
   rw[dG,o_ b]
 ·have a:=j_ a;have e:i=16:=by omega
  rw[e];exact λ_=>rfl
def F7:List SV->Option (Prop×SV)
 | [.agg l]=>(match aem l with
   | some x=>N (True,.int .i64 K (dG x.r 16))
   | none=>Q)
 | _=>Q
theorem ajz:aq P 208 (aI F7):=by
 refine fh (ee (n:=20) Tryz.func208 (by kernel_rfl) (by kernel_rfl) ?_);intro args p a h hp;unfold F7 at h;split at h
 ·split at h
  ·rename_i l x hx;cases h;rw[HV hx];exact⟨_,ayR x,rfl,rfl,U8 x⟩
  ·cases h
 ·cases h
def wA (x:Nd):Bool:=M (x.k=0)&&(M (x.p=[])&&(M (x.v=[])&&(bf 16).all λi=>decide (x.r i=[])))
def Gr:List SV->Option (Prop×SV)
 | [.agg l]=>(match aem l with
   | some x=>N (True,.bool K (wA x))
   | none=>Q)
 | _=>Q
theorem akE:aq P 185 (aI Gr):=by
 refine iH No (n:=20) Tryz.func185 (by kernel_rfl) (by kernel_rfl) ?_;intro args p r h hp;unfold Gr at h;split at h
 ·split at h
  ·rename_i l x hx;cases h;rw[HV hx];refine⟨rfl,rfl,au.of_eq (ate x _) (bL ?_)⟩;rw[wA,show bf 16=[0,1,2,3,4,5,6,7,8,9,10,11,12,13,14,15] from by decide]
   simp only[List.all_cons,List.all_nil,Bool.and_true]
  ·cases h
 ·cases h
noncomputable def V5:List (FuncId×PT):=(184,bZ KO)::(151,bZ wk)::(207,aI Gs)::(208,aI F7)::(185,aI Gr)::V4
theorem Kt:aR P (λf=>av f V5):=.cons ap0 (bK _) (.cons agv (bK _) (.cons akF (aE _) (.cons ajz (aE _) (.cons akE (aE _) Kr))))
noncomputable def LC:iG:={bQ with cO:=λf=>av f V5}
theorem VL:Sx.Good P LC:=.of bI Kt aO
def sD (x:Nd):Bool:=pF x 0&&(!decide (x.v=[])&&(M ((x.v.length:Int)<=80)&&M (dG x.r 16=0)))
def fB (x:Nd)(leaf:Bool):h_:=bif ig x.p then gN x.p leaf else []
def sE (x:Nd):h_:=kE [aS (fB x L),aS x.v]
def B8 (x:Nd):h_:=kE [aS (fB x K),x.r 0]
def dX (r:Nat->h_)(i j:Nat):h_:=if j<i then(if r j=[] then [128] else r j)else [128]
def K7 (f:Nat->h_):List SV:=[.str K (f 0),.str K (f 1),.str K (f 2),.str K (f 3),.str K (f 4),.str K (f 5),.str K (f 6),.str K (f 7),.str K (f 8),.str K (f 9),.str K (f 10),.str K (f 11),.str K (f 12),.str K (f 13),.str K (f 14),.str K (f 15),.str K (f 16)]
def mc (x:Nd):h_:=kE [dX x.r 16 0,dX x.r 16 1,dX x.r 16 2,dX x.r 16 3,dX x.r 16 4,dX x.r 16 5,dX x.r 16 6,dX x.r 16 7,dX x.r 16 8,dX x.r 16 9,dX x.r 16 10,dX x.r 16 11,dX x.r 16 12,dX x.r 16 13,dX x.r 16 14,dX x.r 16 15,aS x.v]
def eM (x:Nd):h_:=if x.k=0 then [128] else if x.k=1 then sE x else if x.k=2 then B8 x else mc x
structure Nd.An (x:Nd):Prop where
 p:x.p.length<=1000
 v:x.v.length<=1000
 r: ∀ j,j<16->(x.r j).length<=1000
noncomputable def aA0 (x:Nd):aN :={α:=Nat,pre:=λ_ i=>i<=16,nF:=λ_ i=>16-i,fresh:=0,slots:=λ_ i=>[(7,.int .i64 K i)],mem:=λ_ i=>[(1,.cells (K7 (dX x.r i)) 17 9)]}
noncomputable def amZ (x:Nd):iG:={bQ with cO:=λf=>av f V5,bU:=λf=>if f=201 then [(1,always (aA0 x))] else []}
theorem ayz (x:Nd):Sx.Good P (amZ x):=.of bI Kt aO
section
variable (n m : Nat) (s : h_) (a : Int) (v : SV) (h : Nat-> h_) (x : Nd) (B D : SB) (z : Bool) (f : List SV) (o : Nat-> Nat-> SV) (g : Loop) (y : List h_)
abbrev kH:=dX x.r n m
abbrev IQ:List h_:=[aS x.v]
abbrev aeQ:=flat (dS (kH n 0 x) (kH n 1 x) (kH n 2 x) (kH n 3 x) (kH n 4 x) (kH n 5 x) (kH n 6 x) (kH n 7 x) (dS (kH n 8 x) (kH n 9 x) (kH n 10 x) (kH n 11 x) (kH n 12 x) (kH n 13 x) (kH n 14 x) (kH n 15 x) (IQ x)))
abbrev oN:=0<1152921504606846976
abbrev ak4:=eY 17 (o 0 n) (aG (o 1 n) (o 2 n) (o 3 n) (o 4 n) (o 5 n) (o 6 n) (o 7 n) (o 8 n) (aG (o 9 n) (o 10 n) (o 11 n) (o 12 n) (o 13 n) (o 14 n) (o 15 n) (o 16 n) V)) 9
abbrev jX:=aS V
abbrev qL:=SV.str L jX
abbrev dB:=Er (N B)
abbrev gG:=dB B
abbrev aai:Nat->Nat->SV:=λa=>λb=>aA (kH b a x)
abbrev L7:=(0:Int)<=192/\(192:Int)<=192
abbrev MB:=aj (nQ g) (Sr B) (Qa x D)
abbrev fk:=a! s<=n
abbrev pT:=cA f n (SV.cells v)
abbrev yG:=n<=140737488355328
abbrev Ic:List h_:=[aS x.v]
abbrev FB:=a! x.p
abbrev ahv:=aS (gN x.p L)
abbrev TU:=cQ 2 (2<=2)
abbrev T2:=nJ (SV.cells (Nd.sv x)) 238
abbrev aaJ:=bx (flat (jX::Ic x))
abbrev aaL:=bx (flat (ahv x::Ic x))
abbrev Fu:=bx x.v
abbrev mZ:=Nd.mk a x.p s h
abbrev aU:=List.getD y n V
abbrev Mh:=mZ x.v x.k (λa=>aU a (B9 x)) x
abbrev rR:Nat->h_:=λa=>aU a (B9 x)
abbrev nH:=SV.bool gO z
abbrev oH:=x.r 0
abbrev td:=a! (flat y)
abbrev T8:=td [jX,oH x]
abbrev T9:=td [aS (gN x.p K),oH x]
abbrev lq:=fQ (bx s+NI n)
end
theorem aAp (x:Nd)(R:SV->Prop):VC.holds (eS LC 186 cj [x.sv] R)=(aY True (gE x.v (dM (Fu x) 80 (True/\R (nH (cJ (dG (rR x) 16) 0))) (ij R)) (ij R)) (ij R) (pF (Mh x) 0)):=by kernel_rfl
theorem afz (x:Nd)(R:SV->Prop):VC.holds (eS LC 190 cl [x.sv] R)=(aY (FB x<1073741824) (cI (dA (gN x.p L)) (dB (T2 x)) (dA x.v) (aj TU (yG 2) (fk 140737488355328 (flat (ahv x::Ic x)))) (L7/\GC (aaL x)) (fQ (bx (pR 192 (aaL x))+aaL x)) (R (kJ (pR 192 (aaL x)) (flat (ahv x::Ic x))))) (cI oN (dB (T2 x)) (dA x.v) (aj TU (yG 2) (fk 140737488355328 (flat (jX::Ic x)))) (L7/\GC (aaJ x)) (fQ (bx (pR 192 (aaJ x))+aaJ x)) (R (kJ (pR 192 (aaJ x)) (flat (jX::Ic x))))) (ig x.p)):=by kernel_rfl
theorem alT (x:Nd)(R:SV->Prop):VC.holds (eS LC 191 ct [x.sv] R)=(aY (FB x<1073741824) (cK (dA (gN x.p K)) (dB (T2 x)) (aj TU (yG 2) (yG (T9 x))) (L7/\fE (T9 x) 1152921504606846976) (lq (T9 x) (pR 192 (NI (T9 x)))) (R (kJ (pR 192 (NI (T9 x))) (flat [aS (gN x.p K),oH x])))) (cK oN (dB (T2 x)) (aj TU (yG 2) (yG (T8 x))) (L7/\fE (T8 x) 1152921504606846976) (lq (T8 x) (pR 192 (NI (T8 x)))) (R (kJ (pR 192 (NI (T8 x))) (flat [jX,oH x])))) (ig x.p)):=by kernel_rfl
theorem afA (x:Nd)(R:SV->Prop):VC.holds (eS LC 189 c_ [x.sv] R)=(oN/\R qL):=by kernel_rfl
theorem Xn (x:Nd)(R:SV->Prop):VC.holds (eS (amZ x) 192 cx [x.sv] R)=((fun(a:Nat->Nat->SV)=>(fun(b:Nat->SV)=>(fun(c:Nat->Nat->SV)=>(fun(d:Nat->Nat->SV)=>(fun(e:Nat->Nat->SV)=>(fun(f:Nat->Nat->SV)=>(fun(g:SB)=>(fun(b:SB)=>aj oN (gG g) (aT oN (gG g) oN (gG g) oN (gG g) oN (gG g) (aT oN (gG g) oN (gG g) oN (gG g) oN (gG g) (aT oN (gG g) oN (gG g) oN (gG g) oN (gG g) (aT oN (gG g) oN (gG g) oN (gG g) oN (gG g) (∀(h:Loop),cR (∀(a:Nat),mJ a->Fk (qN a) (aY (LY a) (aC (Er h) (fE a 17) (lu a<17) (i5 a) (∃(e:Nat),cX (pH e a) (gS a e) (MB x b g h) (ak4 a c) (ak4 e d))) (dF a (λc=>cX (pH c a) (gS a c) (MB x b g h) (ak4 a e) (ak4 c f))) (DH a x)) (cK (dA x.v) (gG g) (aj (cQ 17 (17<=17)) (yG 17) (fk 140737488355328 (aeQ a x))) (L7/\GC (bx (aeQ a x))) (fQ (bx (pR 192 (bx (aeQ a x)))+bx (aeQ a x))) (R (kJ (pR 192 (bx (aeQ a x))) (aeQ a x))))) (λc=>az (mJ c) (fy c) (bH 17 (ak4 c a) (qL::aG qL qL qL qL qL qL qL qL (aG qL qL qL qL qL qL qL qL V)) 9) (MB x b g h)))))))) (Ua x b)) (SB.cells (pT 0 (SV.slc (aB 0) 0 17 L 17) (SV.cells SV.bW)) 1 29)) (aai x)) (aai x)) (aai x)) (λa=>λb=>aA (if lu b=a then qc b x else kH b a x))) (λa=>jj a x)) (aai x)):=by kernel_rfl
def QA (r0 r1 r2 r3 r4 r5 r6 r7 r8 r9 r10 r11 r12 r13 r14 r15:h_):Nat->h_:=λi=>[r0,r1,r2,r3,r4,r5,r6,r7,r8,r9,r10,r11,r12,r13,r14,r15].getD i []
def iq (r:Nat->h_):Nat->h_:=QA (r 0) (r 1) (r 2) (r 3) (r 4) (r 5) (r 6) (r 7) (r 8) (r 9) (r 10) (r 11) (r 12) (r 13) (r 14) (r 15)
def bX:Nat->h_:=QA [] [] [] [] [] [] [] [] [] [] [] [] [] [] [] []
def cV (t:h_):Nat->h_:=QA t [] [] [] [] [] [] [] [] [] [] [] [] [] [] []
def fV (s:h_)(j:Nat):h_:=if ax s j=[128] then [] else ax s j
def Cd (s:h_)(i j:Nat):h_:=if j<i then fV s j else []
def iL:Nd:=⟨0,[],[],bX⟩
def xk (s:h_):Nd:=⟨1,gM (af (ax (af s) 0)),af (ax (af s) 1),bX⟩
def DJ (s:h_):Nd:=⟨2,gM (af (ax (af s) 0)),[],cV (ax (af s) 1)⟩
def oO (s:h_):Nd:=⟨3,[],af (ax (af s) 16),iq (fV (af s))⟩
def xY (s:h_):Int:=bif gk (ax s 0)&&gU (af (ax s 0))then(bif fc (af (ax s 0))then(bif gk (ax s 1)then 1 else -1)else 2)else -1
def u9 (s:h_):Int:=bif ga s then(if ck s=2 then xY s else if ck s=17 then(bif gk (ax s 16)then 3 else -1)else -1)else -1
def bO (s:h_):Int:=if s=[128] then 0 else bif c9 s&&(e9 s&&M (aH s=[]))then u9 (af s)else -1
def getD (s:h_):Nd:=if bO s=1 then xk s else if bO s=2 then DJ s else if bO s=3 then oO s else iL
def ar3 (s:h_):fC:=.fork (M (bO s=0)) λb=>match b with
 | true=>.ret (.dr [jm,.bool L L])
 | false=>.fork (M (bO s=1)) λb=>match b with
   | true=>.ret (.dr [(xk s).JI L 1,.bool L L])
   | false=>.fork (M (bO s=2)) λb=>match b with
     | true=>.ret (.dr [(DJ s).JI L 2,.bool L L])
     | false=>.fork (M (bO s=3)) λb=>match b with
       | true=>.ret (.dr [(oO s).JI L 3,.bool L L])
       | false=>.all Nd λx=>.ret (.dr [x.sv,.bool L K])
def jN (inl:h_->Bool)(t:h_):Bool:=cH t||inl t
def yu (inl:h_->Bool)(x:Nd):Bool:=pF x 1&&(M (x.v=[])&&(M (dG x.r 16=1)&&(cH (x.r 0)||(inl (x.r 0)&&M ((getD (x.r 0)).k=3)))))
def fH (r:Nat->h_):Nat->Int
 | 0=>0
 | i+1=>if r i=[] then fH r i else fH r i+1
def rC (inl:h_->Bool)(r:Nat->h_):Nat->Bool
 | 0=>L
 | i+1=>rC inl r i&&(M (r i=[])||jN inl (r i))
def iS (inl:h_->Bool)(x:Nd):Bool:=M (x.p=[])&&(M ((x.v.length:Int)<=80)&&(rC inl x.r 16&&M (2<=min (x.v.length:Int) 1+fH x.r 16)))
def mN (inl:h_->Bool)(x:Nd):Bool:=if x.k=0 then wA x else if x.k=1 then sD x else if x.k=2 then yu inl x else if x.k=3 then iS inl x else K
def Oo (inl:h_->Bool)(s:h_):Bool:=M (0<=bO s)&&(mN inl (getD s)&&M (eM (getD s)=s))
def OD:Nat->h_->Bool
 | 0,_=>K
 | n+1,t=>decide (t.length<32)&&(Oo (OD n) t&& !decide ((getD t).k=0))
def cS (t:h_):Bool:=OD 32 t
def aZ (x:Nd):Bool:=mN cS x
def bM (s:h_):Bool:=Oo cS s
theorem CJ (b:Int)(n:Nat):(di b n).length<=9:=by
 unfold di;split
 ·simp
 ·have:=Nk 8 n;show(UInt8.ofNat _::digits n).length<=9;rw[W];have:(digits n).length<=8:=Nk 8 n;omega
theorem pn (b:h_):(aS b).length<=b.length+9:=by
 unfold aS;split
 ·omega
 ·have:=CJ 128 b.length;rw[Y];omega
theorem lN {r r':Nat->h_}: ∀ {n:Nat},(∀ j,j<n->r j=r' j)->dG r n=dG r' n
 | 0,_=>rfl
 | n+1,h=>by unfold dG;rw[h n (by omega),lN (λj hj=>h j (by omega))]
theorem jr (r:Nat->h_)(j:Nat)(h:j<16):[r 0,r 1,r 2,r 3,r 4,r 5,r 6,r 7,r 8,r 9,r 10,r 11,r 12,r 13,r 14,r 15].getD j []=r j:=B5 r h
theorem adL (x:Nd):au (eS LC 186 cj [x.sv] (λv=>ai v (.bool K (sD x)))):=by
 refine au.j7 (aAp x _) (by delta Fk Bk NI gO bx dM fR cJ aY aX gE ij dS B9 Fu mZ aU Mh rR nH;exact rfl) ?_;have e:pF {k:=x.k,p:=x.p,v:=x.v,r:=fun(i:Nat)=>[x.r 0,x.r 1,x.r 2,x.r 3,x.r 4,x.r 5,x.r 6,x.r 7,x.r 8,x.r 9,x.r 10,x.r 11,x.r 12,x.r 13,x.r 14,x.r 15].getD i []:Nd} 0=pF x 0:=rfl;rw[e,lN (jr x.r)];unfold sD;refine⟨trivial,λa=>⟨λb=>⟨λc=>⟨trivial,bL ?_⟩,λc=>bL ?_⟩,λb=>bL ?_⟩,λa=>bL ?_⟩
 ·rw[a,b,c];rfl
 ·rw[a,b,c];rfl
 ·rw[a,b];rfl
 ·rw[a];rfl
def js (g:Nd->Option (Prop×SV)):List SV->Option (Prop×SV)
 | [.agg l]=>(match aem l with
   | some x=>g x
   | none=>Q)
 | _=>Q
theorem vO {g:Nd->Option (Prop×SV)}{args:List SV}{p:Prop}{v:SV}(h:js g args=N (p,v)): ∃ x,args=[x.sv]/\g x=N (p,v):=by
 unfold js at h;split at h
 ·split at h
  ·rename_i x hx;exact⟨x,by rw[HV hx],h⟩
  ·cases h
 ·cases h
theorem Zv (x:Nd):SV.lY 0 [x.sv]=true:=rfl
theorem au1:aq P 186 (aI (js λx=>N (True,.bool K (sD x)))):=by refine iH VL (n:=20) Tryz.func186 (by kernel_rfl) (by kernel_rfl) ?_;intro args p r h hp;obtain⟨x,hx,hg⟩:=vO h;subst hx;cases hg;exact⟨Zv x,rfl,adL x⟩
theorem wg :(flat [a,b]).length=a.length+b.length:=by simp[flat]
theorem wD {x:Nd}{leaf:Bool}:(fB x leaf).length<=x.p.length+2:=by
 unfold fB;cases ig x.p with
 | false=>simp
 | true =>simp only[cond_true,gN,Gy,W];cases M ((x.p.length:Int)%2=1)<;>simp only[cond_true,cond_false,W]<;>omega
theorem OS {x:Nd}(hx:x.An):au (eS LC 190 cl [x.sv] (λv=>ai v (.str K (sE x)))):=by
 refine au.j7 (afz x _) (by delta Bk Ix Er NI cQ bx aj aC fQ aA kJ aY GC pR dA cI nJ oN jX dB L7 fk yG Ic FB ahv TU T2 aaJ aaL;exact rfl) ?_;have h1:=hx.p;have h2:=hx.v;have h3:=wD (x:=x) (leaf:=L);have h4:=pn (fB x L);have h5:=pn x.v;have h6:=wg (a:=aS (fB x L)) (b:=aS x.v);have h7:=CJ 192 (((flat [aS (fB x L),aS x.v]).length:Nat):Int).toNat;refine⟨by omega,λa=> ?_,λa=> ?_⟩
 ·have e:gN x.p L=fB x true:=by rw[fB,a];rfl
  rw[e];exact⟨by omega,rfl,by omega,by omega,by omega,by omega,λE=>by rw[sE,kE,X];rfl⟩
 ·have e:[]=fB x true:=by rw[fB,a];rfl
  rw[e];exact⟨by omega,rfl,by omega,by omega,by omega,by omega,λE=>by rw[sE,kE,X];rfl⟩
theorem Rv {x:Nd}(hx:x.An):au (eS LC 191 ct [x.sv] (λv=>ai v (.str K (B8 x)))):=by
 refine au.j7 (alT x _) (by delta Bk Ix Er NI cQ bx aj aC fQ aA kJ aY pR dA cK fE nJ oN jX dB L7 yG FB TU T2 oH td T8 T9 lq;exact rfl) ?_;have h1:=hx.p;have h2:=hx.r 0 (by decide);have h3:=wD (x:=x) (leaf:=K);have h4:=pn (fB x K);have h6:=wg (a:=aS (fB x K)) (b:=x.r 0);have h7:=CJ 192 (((flat [aS (fB x K),x.r 0]).length:Nat):Int).toNat;refine⟨by omega,λa=> ?_,λa=> ?_⟩
 ·have e:gN x.p K=fB x false:=by rw[fB,a];rfl
  rw[e];exact⟨by omega,rfl,by omega,by omega,by omega,λE=>by rw[B8,kE,X];rfl⟩
 ·have e:[]=fB x false:=by rw[fB,a];rfl
  rw[e];exact⟨by omega,rfl,by omega,by omega,by omega,λE=>by rw[B8,kE,X];rfl⟩
theorem UK {f g:Nat->h_}(h: ∀ j,j<17->f j=g j):aa (.cells (K7 f) tot ty) (.cells (K7 g) tot ty):=by
 have e:K7 f=K7 g:=by unfold K7;rw[h 0 (by decide),h 1 (by decide),h 2 (by decide),h 3 (by decide),h 4 (by decide),h 5 (by decide),h 6 (by decide),h 7 (by decide),h 8 (by decide),h 9 (by decide),h 10 (by decide),h 11 (by decide),h 12 (by decide),h 13 (by decide),h 14 (by decide),h 15 (by decide),h 16 (by decide)]
 rw[e];exact aa.refl _
theorem amL {r:Nat->h_}(_hi:i<16)(h:r i≠[])(j:Nat):(if i=j then r i else dX r i j)=dX r (i+1) j:=by
 unfold dX;by_cases e:i=j
 ·subst e;rw[o_ rfl,o_ (by omega),p_ h]
 ·rw[p_ e];by_cases e1:j<i
  ·rw[o_ e1,o_ (show j<i+1 by omega)]
  ·rw[p_ e1,p_ (show ¬ j<i+1 by omega)]
theorem amK {r:Nat->h_}(h:r i=[])(j:Nat):dX r i j=dX r (i+1) j:=by
 unfold dX;by_cases e:i=j
 ·subst e;rw[p_ (by omega),o_ (by omega),o_ h]
 ·by_cases e1:j<i
  ·rw[o_ e1,o_ (show j<i+1 by omega)]
  ·rw[p_ e1,p_ (show ¬ j<i+1 by omega)]
theorem VB {l:List h_}{m:Nat}(h: ∀ x∈ l,x.length<=m):(flat l).length<=l.length*m:=by
 induction l with
 | nil=>simp[flat]
 | cons a r ih =>
   have h1:=h a (List.mem_cons_self ..);have h2:=ih λx hx=>h x (List.mem_cons_of_mem _ hx);have e:(flat (a::r)).length=a.length+(flat r).length:=by simp[flat]
   rw[e,W,Nat.succ_mul];omega
theorem amJ {x:Nd}(hx:x.An)(i j:Nat)(h:j<16):(dX x.r i j).length<=1000:=by
 have:=hx.r j h;unfold dX;split
 ·split
  ·simp
  ·exact this
 ·simp
theorem JU {x:Nd}(hx:x.An):au (eS (amZ x) 192 cx [x.sv] (λv=>ai v (.str K (mc x)))):=by
 refine au.j7 (Xn x _) (by delta Fk Bk I6 Ix Sr Er NI cQ bx bF aj bH aC fQ az bt aA kJ dU eY fz aY GC pR dA nQ aB gW br cK aP gS fy i5 cR fE dF aT cX dS B9 lu aG KU pH LY qN mJ mF qc nJ Qa k7 Ua DH jj kH IQ aeQ oN ak4 jX qL dB gG aai L7 MB fk pT yG;exact rfl) ?_;dsimp only;refine⟨by omega,rfl,by omega,rfl,by omega,rfl,by omega,rfl,by omega,rfl,by omega,rfl,by omega,rfl,by omega,rfl,by omega,rfl,by omega,rfl,by omega,rfl,by omega,rfl,by omega,rfl,by omega,rfl,by omega,rfl,by omega,rfl,by omega,rfl,λR=>⟨⟨0,by omega,rfl,Sx.aa.cells (λE=>rfl) rfl,aa.refl _,aa.refl _,aa.refl _,aa.refl _,trivial⟩,λi hi=>⟨λa=> ?_,λa=> ?_⟩⟩⟩
 ·have a:=i_ a;have ei:i<16:=by omega
  have es:=B5 x.r ei;rw[X,es];refine⟨by omega,λb=>⟨rfl,by omega,by omega,by omega,i+1,by omega,by omega,?_,aa.refl _,aa.refl _,aa.refl _,aa.refl _,trivial⟩,λb=>⟨by omega,i+1,by omega,by omega,?_,aa.refl _,aa.refl _,aa.refl _,aa.refl _,trivial⟩⟩
  ·have b: ¬ x.r i=[]:=by simpa using b
   exact UK (f:=λj=>if i=j then x.r i else dX x.r i j) (g:=dX x.r (i+1)) λj hj=>amL ei b j
  ·have b:x.r i=[]:=by simpa using b
   exact UK λj hj=>amK b j
 ·have a:=j_ a;have e:i=16:=by omega
  subst e;have h1:=hx.v;have h2:=pn x.v;have hb:=amJ hx 16;have h6:(flat [dX x.r 16 0,dX x.r 16 1,dX x.r 16 2,dX x.r 16 3,dX x.r 16 4,dX x.r 16 5,dX x.r 16 6,dX x.r 16 7,dX x.r 16 8,dX x.r 16 9,dX x.r 16 10,dX x.r 16 11,dX x.r 16 12,dX x.r 16 13,dX x.r 16 14,dX x.r 16 15,aS x.v]).length<=17*2000:=by
   refine VB (m:=2000) λy hy=> ?_;simp only[List.mem_cons,List.not_mem_nil,or_false] at hy;rcases hy with rfl | rfl | rfl | rfl | rfl | rfl | rfl | rfl | rfl | rfl | rfl | rfl | rfl | rfl | rfl | rfl | rfl
   ·exact S (hb 0 (by decide)) (by decide)
   ·exact S (hb 1 (by decide)) (by decide)
   ·exact S (hb 2 (by decide)) (by decide)
   ·exact S (hb 3 (by decide)) (by decide)
   ·exact S (hb 4 (by decide)) (by decide)
   ·exact S (hb 5 (by decide)) (by decide)
   ·exact S (hb 6 (by decide)) (by decide)
   ·exact S (hb 7 (by decide)) (by decide)
   ·exact S (hb 8 (by decide)) (by decide)
   ·exact S (hb 9 (by decide)) (by decide)
   ·exact S (hb 10 (by decide)) (by decide)
   ·exact S (hb 11 (by decide)) (by decide)
   ·exact S (hb 12 (by decide)) (by decide)
   ·exact S (hb 13 (by decide)) (by decide)
   ·exact S (hb 14 (by decide)) (by decide)
   ·exact S (hb 15 (by decide)) (by decide)
   ·omega
  have h7:=CJ 192 (((flat [dX x.r 16 0,dX x.r 16 1,dX x.r 16 2,dX x.r 16 3,dX x.r 16 4,dX x.r 16 5,dX x.r 16 6,dX x.r 16 7,dX x.r 16 8,dX x.r 16 9,dX x.r 16 10,dX x.r 16 11,dX x.r 16 12,dX x.r 16 13,dX x.r 16 14,dX x.r 16 15,aS x.v]).length:Nat):Int).toNat;have e:mc x=cat (di 192 (((flat [dX x.r 16 0,dX x.r 16 1,dX x.r 16 2,dX x.r 16 3,dX x.r 16 4,dX x.r 16 5,dX x.r 16 6,dX x.r 16 7,dX x.r 16 8,dX x.r 16 9,dX x.r 16 10,dX x.r 16 11,dX x.r 16 12,dX x.r 16 13,dX x.r 16 14,dX x.r 16 15,aS x.v]).length:Nat):Int).toNat) (flat [dX x.r 16 0,dX x.r 16 1,dX x.r 16 2,dX x.r 16 3,dX x.r 16 4,dX x.r 16 5,dX x.r 16 6,dX x.r 16 7,dX x.r 16 8,dX x.r 16 9,dX x.r 16 10,dX x.r 16 11,dX x.r 16 12,dX x.r 16 13,dX x.r 16 14,dX x.r 16 15,aS x.v]):=by rw[mc,kE,X];rfl
  generalize flat [dX x.r 16 0,dX x.r 16 1,dX x.r 16 2,dX x.r 16 3,dX x.r 16 4,dX x.r 16 5,dX x.r 16 6,dX x.r 16 7,dX x.r 16 8,dX x.r 16 9,dX x.r 16 10,dX x.r 16 11,dX x.r 16 12,dX x.r 16 13,dX x.r 16 14,dX x.r 16 15,aS x.v]=F at *;exact⟨by omega,rfl,by omega,by omega,by omega,λE=>by rw[e]⟩
theorem ZD:aq P 189 (aI (js λ_=>N (True,.str K [128]))):=by refine iH VL (n:=20) Tryz.func189 (by kernel_rfl) (by kernel_rfl) ?_;intro args p r h hp;obtain⟨x,hx,hg⟩:=vO h;subst hx;cases hg;exact⟨Zv x,rfl,(by refine au.j7 (afA x _) (by delta oN jX qL;exact rfl) ?_;exact⟨by omega,λE=>rfl⟩)⟩
theorem YY:aq P 190 (aI (js λx=>N (x.An,.str K (sE x)))):=by refine iH VL (n:=20) Tryz.func190 (by kernel_rfl) (by kernel_rfl) ?_;intro args p r h hp;obtain⟨x,hx,hg⟩:=vO h;subst hx;cases hg;exact⟨Zv x,rfl,OS hp⟩
theorem ac9:aq P 191 (aI (js λx=>N (x.An,.str K (B8 x)))):=by refine iH VL (n:=20) Tryz.func191 (by kernel_rfl) (by kernel_rfl) ?_;intro args p r h hp;obtain⟨x,hx,hg⟩:=vO h;subst hx;cases hg;exact⟨Zv x,rfl,Rv hp⟩
theorem Rq:aq P 192 (aI (js λx=>N (x.An,.str K (mc x)))):=by refine fh (ee (n:=20) Tryz.func192 (by kernel_rfl) (by kernel_rfl) ?_);intro args p a h hp;obtain⟨⟨p0,v0⟩,hq,hpa⟩:=Option.map_eq_some_iff.1 h;obtain⟨x,hx,hg⟩:=vO hq;subst hx;cases hg;injection hpa with h1 h2;subst h1;subst h2;exact⟨_,ayz x,Zv x,rfl,JU hp⟩
noncomputable def V6:List (FuncId×PT):=(186,aI (js λx=>N (True,.bool K (sD x))))::(189,aI (js λ_=>N (True,.str K [128]))) ::
 (190,aI (js λx=>N (x.An,.str K (sE x))))::(191,aI (js λx=>N (x.An,.str K (B8 x))))::(192,aI (js λx=>N (x.An,.str K (mc x))))::V5
theorem Ku:aR P (λf=>av f V6):=.cons au1 (aE _) (.cons ZD (aE _) (.cons YY (aE _) (.cons ac9 (aE _) (.cons Rq (aE _) Kt))))
noncomputable def Hi:iG:={bQ with cO:=λf=>av f V6}
theorem VM:Sx.Good P Hi:=.of bI Ku aO
def aiS (s:h_)(i:Nat):List SV:=[.int .i64 K 3,.str K [],.str K [],.str K (Cd s i 0),.str K (Cd s i 1),.str K (Cd s i 2),.str K (Cd s i 3),.str K (Cd s i 4),.str K (Cd s i 5),.str K (Cd s i 6),.str K (Cd s i 7),.str K (Cd s i 8),.str K (Cd s i 9),.str K (Cd s i 10),.str K (Cd s i 11),.str K (Cd s i 12),.str K (Cd s i 13),.str K (Cd s i 14),.str K (Cd s i 15)]
noncomputable def aA5 (s:h_):aN :=
 {α:=Nat,pre:=λ_ i=>i<=16,nF:=λ_ i=>16-i,fresh:=0,slots:=λ_ i=>[(9,.int .i64 K i)],
  mem:=λst i=>match slot st.tmps 4 with
   | some (.ptr k _ _)=>[(k,.cells (aiS (af s) i) 19 138)]
   | _=>[]}
noncomputable def ant (s:h_):iG:={bQ with cO:=λf=>av f V6,bU:=λf=>if f=200 then [(3,always (aA5 s))] else []}
theorem ay0 (s:h_):Sx.Good P (ant s):=.of bI Ku aO
section
variable (n m : Nat) (s t : h_) (v w z f o : SV) (g : Nat-> h_) (B : SB) (x : Nat-> Nat-> SV) (h : Nat-> SV) (y : Nat-> SB)
abbrev kO:=SV.str L V
abbrev tu:List SV:=kO::kO::kO::fz kO kO kO kO (aG kO kO kO kO kO kO kO kO V)
abbrev T5:List SV:=x 1 n::x 2 n::x 3 n::fz (x 4 n) (x 5 n) (x 6 n) (x 7 n) (aG (x 8 n) (x 9 n) (x 10 n) (x 11 n) (x 12 n) (x 13 n) (x 14 n) (x 15 n) V)
abbrev GI:=nJ (fz (bF 3) (aA V) (aA V) (x 0 n) (T5 n x)) 138
abbrev lg:=ax (af s) n
abbrev sG:=lg 1 s
abbrev uc:=aA V
abbrev mw:=Cd (af s) n m
abbrev pG:Nat->Nat->SV:=λa=>λb=>aA (mw b a s)
abbrev rN:=NI (ck (af s))
abbrev vb:=ck (af s)
abbrev vf:=lg 0 s
abbrev Di:=aj (Sr (y n)) (Sr B) True
abbrev mT:=dB (y n)
abbrev BN:=Fk (bO s=0) (ai v w) (Fk (bO s=1) (ai v z) (Fk (bO s=2) (ai v f) (Fk (bO s=3) (ai v o) (∃(a:Nd),ai v (cP (Nd.sv a) fR V)))))
abbrev lI:=SV.agg (fz (bq 0) fu fu fu tu)
abbrev iD:=0+lu n
abbrev Ql:Nat->Nat->SV:=λa=>λb=>aA (if lu b=a then lg (iD b) s else mw b a s)
abbrev arM:=Fk (bO s=0) (ai (h n) v) (Fk (bO s=1) (ai (h n) w) (Fk (bO s=2) (ai (h n) z) (Fk (bO s=3) (ai (h n) f) (∃(a:Nd),ai (h n) (cU (Nd.sv a) nu)))))
abbrev z6:=cU lI nu
abbrev My:=eY 19 (bq 3) (fu::fu::fu::tu) 138
abbrev ew:=M (s=t)
abbrev yF:=bh.at n (bh.str g)
abbrev tn:=n<1099511627776
end
theorem aAD (s:h_):VC.holds (jd (ant s) 167 Tryz.f167 [.str K s] (ar3 s))=((fun(a:Nat->Nat->SV)=>(fun(b:Nat->Nat->SV)=>(fun(c:Nat->Nat->SV)=>(fun(d:Nat->Nat->SV)=>(fun(e:Nat->Nat->SV)=>(fun(f:SV)=>(fun(g:SB)=>(fun(h:SV)=>(fun(i:SV)=>(fun(j:SV)=>(fun(k:SV)=>(fun(l:Nat->SV)=>(fun(m:Nat->SV)=>(fun(n:SV)=>(fun(o:SV)=>(fun(p:SV)=>(fun(q:Nat->SB)=>(fun(r:SV)=>oN/\Fk (s=jX) (BN s k r o p n) (aY (cW s) (aX (BN s f r o p n) (gE (aH s) (BN s f r o p n) (aY (tn (DE s)) (∀(k:Nat),aJ (vb s) k (bE (rN s) 2 (cK (Ix 0 (rN s)) (0<vb s) (Ix 1 (rN s)) (1<vb s) (cW (vf s)) (Bk (gk (vf s)) (aY (bS (af (vf s))) (aX (BN s i r o p n) (aY (cW (sG s)) (BN s h r o p n) (BN s j r o p n) (gk (sG s))) (fc (af (vf s)))) (BN s f r o p n) (gU (af (vf s)))) (BN s f r o p n))) (bE (rN s) 17 (cR (∀(a:Nat),mJ a->Fk (qN a) (aC (fE a (rN s)) (iD a<vb s) oN (mT k q) (aX (cK (fE a (rN s)) (iD a<vb s) (fE a 16) (lu a<16) (i5 a) (∃(d:Nat),aC (pH d a) (gS a d) (aa (GI a b) (GI d c)) (Sr g) (Di k g q))) (dF a (λb=>aC (pH b a) (gS a b) (aa (GI a d) (GI b e)) (Sr g) (Di k g q))) (ew (lg (iD a) s) jX))) (az (Ix 16 (rN s)) (16<vb s) (cW (lg 16 s)) (Bk (gk (lg 16 s)) (arM a s r o p n l) (arM a s r o p n m)))) (λb=>aC (mJ b) (fy b) (aa My (GI b a)) (Sr g) (Di k g q))) (BN s f r o p n)))) (BN s f r o p n) (ga (af s)))) (e9 s)) (BN s f r o p n) (c9 s))) (gI jm)) (λa=>cY (vb s) a (ax (af s)) 9)) (gI (Nd.JI (DJ s) L 2))) (gI (Nd.JI (xk s) L 1))) (gI (Nd.JI (oO s) L 3))) (λa=>cU (k7 (bF 3) (uc::fu::d 0 a::T5 a d)) nu)) (λa=>gI (k7 (bF 3) (uc::aA (af (lg 16 s))::d 0 a::T5 a d)))) (gI lI)) (cU (SV.agg (fz kI (aA (gM (af (vf s)))) fu fu tu)) nu)) (gI (SV.agg (fz (bq 2) (aA (gM (af (vf s)))) fu (yF 1 (ax (af s))) tu)))) (gI (SV.agg (fz kI (aA (gM (af (vf s)))) (aA (af (sG s))) fu tu)))) (gW 19 lI 138)) z6) (pG s)) (pG s)) (pG s)) (Ql s)) (pG s)):=by kernel_rfl
end
end Go.Proofs.YtoibaecagklkaaaGreatDoor
