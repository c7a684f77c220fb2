/-
  Node: nibbles: the contracts of Valid, Path, pairs, flag; Put, Get: the set-up.
-/
import Derived.Test.YtpaaiebohjjieaaGreatDoorMj
import Derived.Test.YtpaaiebohjjieaaGreatDoorMi
namespace Go.Proofs.YtpaaiebohjjieaaGreatDoor
open Go Sx
set_option maxRecDepth 20000
theorem cX {l:Bool}{a b:Bool}(h:a=b):ah (.bool l a) (.bool false b):=fun E=>by subst h;rfl
theorem gd.next {n:Nat}{t:Nat->Bool}{i:Nat}(h:gd n t i)(hi:(i:Int)<(n:Int))(ht:t i=true):gd n t (i+1) :=
 ⟨by omega,fun j hj=>by
  by_cases e:j=i
  ·subst e;exact ht
  ·exact h.all j (by omega)⟩
theorem gd.zero (n:Nat)(t:Nat->Bool):gd n t 0:=⟨Nat.zero_le _,fun _j hj=>absurd hj (Nat.not_lt_zero _)⟩
theorem gd.done {n:Nat}{t:Nat->Bool}{i:Nat}(h:gd n t i)(hi: ¬ (i:Int)<(n:Int)):(List.range n).all t=true:=by rw[List.all_eq_true];intro j hj;have:=List.mem_range.1 hj;exact h.all j (by omega)
theorem all_none {n i:Nat}{t:Nat->Bool}(hi:(i:Int)<(n:Int))(ht:t i=false):(List.range n).all t=false:=by rw[List.all_eq_false];exact⟨i,List.mem_range.2 (by omega),by rw[ht];decide⟩
theorem Qw {p:List UInt8}(hp:p.length<1152921504606846976):aq (fS (ad8 p) 252 Tryz.f252 [.str false p] (fun v=>ah v (.bool false (oB p)))):=by
 refine aq.j7 (aiZ p _) (by delta Fk I6 Ix NI bf bh bP ak fK cg mz gU fh jb qq jh fN;exact rfl) ?_;refine⟨⟨0,gd.zero _ _,rfl,trivial⟩,fun x hx=>⟨fun h=> ?_,fun h=> ?_⟩⟩
 ·have h:(x:Int)<(p.length:Int):=of_decide_eq_true h;refine⟨by omega,fun g=>cX ?_,fun g=>⟨by omega,x+1,⟨hx.next h ?_,by omega⟩,by omega,trivial⟩⟩
  ·exact(all_none h (by rw[Qr,g];rfl)).symm
  ·rw[Qr,g];rfl
 ·have h: ¬ (x:Int)<(p.length:Int):=of_decide_eq_false h;exact cX (hx.done h).symm
def vL:List SV->Option (Prop×SV)
 | [.str false p]=>some (p.length<1152921504606846976,.bool false (oB p))
 | _=>none
theorem Np:au Tryz.prog 252 (aT vL):=by
 refine gz (fE (n:=20) (fn:=Tryz.f252) Tryz.func252 (by kernel_rfl) (by kernel_rfl) ?_);intro args p a h hp;unfold vL at h;split at h
 ·injection h with h;injection h with h1 h2;subst h1;subst h2;exact⟨_,anP _,rfl,rfl,Qw hp⟩
 ·cases h
theorem apy {b:Int}(h0:0<=b)(h1:b<256):bitsOf .and b 15=b% 16:=by obtain⟨n,rfl⟩:=Int.eq_ofNat_of_zero_le h0;show(((n:Int).toNat &&& (15:Int).toNat:Nat):Int)=_;have:n &&& 15=n% 16:=Nat.and_two_pow_sub_one_eq_mod n 4;simp only[Int.toNat_natCast];rw[show(15:Int).toNat=15 from rfl,this];omega
theorem UO {z z':Bool}{n n':Nat}{f g:Nat->Int}{tot tot':Nat}{ty:TypeId}(hz:z=z')(hn:n=n')(ht:tot=tot')(h: ∀ i,i<n->f i=g i):af (.rows z n [.int .u8 f] false tot ty) (.rows z' n' [.int .u8 g] false tot' ty):=by
 subst hz;refine Sx.af.On hn ht rfl fun i k c' hi hk=>⟨.int .u8 f,?_,?_⟩
 ·match k,hk with
  | 0,_=>rfl
 ·match k,hk with
  | 0,hk =>simp only[List.getElem?_cons_zero,Option.some.injEq] at hk;subst hk;simp only[aK.at,h i hi]
theorem acv {tot tot':Nat}{ty:TypeId}{av:List aK}{z:Bool}(h:tot=tot'):af (.cells [] tot ty) (.rows z 0 av false tot' ty):=by subst h;refine af.of rfl rfl fun _=> ?_;refine⟨rfl,fun E o ⟨c,fr,h1,h2,_,h4⟩=>⟨c,fr,h1,fun _=>h2,by omega,h4,fun i k col hi=>absurd hi (Nat.not_lt_zero _)⟩,fun _=>rfl⟩
theorem W0 (k:List UInt8)(x i:Nat)(hi:i<2*x+2)(h1: ¬ i<2*x):LR [ai k (x:Int) / 16,bitsOf .and (ai k (x:Int)) 15] (i - 2*x)=pF k i:=by
 have hb:=eO k (x:Int);rw[apy hb.1 hb.2];unfold pF;by_cases e:i=2*x
 ·subst e;have e2:2*x / 2=x:=by omega
  rw[if_pos (by omega),show((2*x:Nat):Int) / 2=(x:Int)by omega,Nat.sub_self];rfl
 ·have e:i=2*x+1:=by omega
  subst e;rw[if_neg (by omega),show((2*x+1:Nat):Int) / 2=(x:Int)by omega,show 2*x+1 - 2*x=1 by omega];rfl
theorem Tj {k:List UInt8}(hk:k.length<1099511627776):aq (fS (ad6 k) 31 Tryz.f31 [.str false k] (fun v=>ah v (.str false (ay k)))):=by
 refine aq.j7 (alP k _) (by delta Fk I6 Ix Er NI bf aX bh bP ak aI aL eI bH dG lV oe ax cr aW jd bT dn fW cI fJ mN C4 mP mQ qn cB Dg cg gB eY gp;exact rfl) ?_;refine⟨by omega,by omega,⟨(0,2*k.length),⟨Nat.zero_le _,Nat.zero_le _⟩,rfl,⟨rfl,rfl,by omega⟩,trivial,acv (by omega),trivial⟩,fun x hx=>⟨fun h=> ?_,fun h=> ?_⟩⟩
 ·have h:(x.1:Int)<(k.length:Int):=of_decide_eq_true h;have hb:=eO k (x.1:Int);refine⟨by omega,by omega,by omega,⟨by omega,trivial,by omega,by omega⟩,by omega,fun c hc=>⟨by omega,(x.1+1,c),⟨⟨by show x.1+1<=_;omega,by show 2*(x.1+1)<=c;omega⟩,by show _ - (x.1+1)<_;omega⟩,by show(x.1:Int)+1=((x.1+1:Nat):Int);omega,⟨rfl,rfl,rfl⟩,trivial,UO rfl rfl (Nat.mul_one c) fun i hi=> ?_,trivial⟩⟩;by_cases h1:i<2*x.1
  ·rw[if_pos h1]
  ·rw[if_neg h1];exact W0 k x.1 i hi h1
 ·have h: ¬ (x.1:Int)<(k.length:Int):=of_decide_eq_false h;have e:x.1=k.length:=by have:=hx.1;omega
  exact⟨by omega,kP (by rw[e];rfl)⟩
def uo:List SV->Option (Prop×SV)
 | [.str false k]=>some (k.length<1099511627776,.str false (ay k))
 | _=>none
theorem Jy:au Tryz.prog 31 (aT uo):=by
 refine gz (fE (n:=20) (fn:=Tryz.f31) Tryz.func31 (by kernel_rfl) (by kernel_rfl) ?_);intro args p a h hp;unfold uo at h;split at h
 ·injection h with h;injection h with h1 h2;subst h1;subst h2;exact⟨_,anN _,rfl,rfl,Tj hp⟩
 ·cases h
theorem Qv {p:List UInt8}(hp:p.length<1099511627776):aq (fS (ad7 p) 253 Tryz.f253 [.str false p] (fun v=>ah v (.str false (dJ p)))):=by
 refine aq.j7 (aiY p _) (by delta Fk I6 Ix Er NI jc bf bh bP ak aI iS aL eI dG lV ax fo bT cB Dg cg gB Au Zw rP Kc wQ bl cZ fA sV fM;exact rfl) ?_;have e:((p.length:Int) / 2).toNat=p.length / 2:=by omega
 rw[e];refine⟨by omega,⟨rfl,by omega,by omega,by omega⟩,⟨(0,fun _=>0),⟨Nat.zero_le _,fun j hj=>absurd hj (Nat.not_lt_zero _)⟩,rfl,af.refl _,trivial⟩,fun x hx=>⟨fun h=> ?_,fun h=> ?_⟩⟩
 ·have h:(x.1:Int)<((p.length / 2:Nat):Int):=of_decide_eq_true h;have b1:=eO p (2*(x.1:Int));have b2:=eO p (2*(x.1:Int)+1);refine⟨by omega,by omega,by omega,by omega,by omega,by omega,by omega,by omega,by omega,(x.1+1,fun j=>if j=x.1 then ny p x.1 else x.2 j),⟨⟨by show x.1+1<=_;omega,fun j hj=> ?_⟩,by show _ - (x.1+1)<_;omega⟩,by show(x.1:Int)+1=((x.1+1:Nat):Int);omega,?_,trivial⟩
  ·show(if j=x.1 then ny p x.1 else x.2 j)=ny p j
   by_cases ej:j=x.1
   ·rw[if_pos ej,ej]
   ·rw[if_neg ej];exact hx.2 j (by have:j<x.1+1:=hj;omega)
  ·refine UO rfl rfl rfl fun i hi=> ?_;simp only[Nat.zero_add,Int.toNat_natCast];rfl
 ·have h: ¬ (x.1:Int)<((p.length / 2:Nat):Int):=of_decide_eq_false h;have e1:x.1=p.length / 2:=by have:=hx.1;omega
  refine⟨by omega,kP ?_⟩;unfold dJ eP;apply List.map_congr_left;intro j hj;rw[List.mem_range] at hj;rw[Nat.zero_add,hx.2 j (by omega)]
def vK:List SV->Option (Prop×SV)
 | [.str false p]=>some (p.length<1099511627776,.str false (dJ p))
 | _=>none
theorem No:au Tryz.prog 253 (aT vK):=by
 refine gz (fE (n:=20) (fn:=Tryz.f253) Tryz.func253 (by kernel_rfl) (by kernel_rfl) ?_);intro args p a h hp;unfold vK at h;split at h
 ·injection h with h;injection h with h1 h2;subst h1;subst h2;exact⟨_,anO _,rfl,rfl,Qv hp⟩
 ·cases h
def EL:List SV->Option (Prop×SV)
 | [.bool false a,.bool false b]=>some (True,.int .u8 false (mF a b))
 | _=>none
theorem aga:au Tryz.prog 320 (aT EL):=by
 refine kU apX (n:=20) (fn:=Tryz.f320) Tryz.func320 (by kernel_rfl) (by kernel_rfl) ?_;intro args p r h hp;unfold EL at h;split at h
 ·rename_i a b;injection h with h;injection h with h1 h2;subst h1;subst h2;refine⟨rfl,rfl,aq.j7 (alO a b _) (by delta Bk GD dz;exact rfl) ?_⟩;cases a<;>cases b<;>simp[ah,SV.val,mF]
 ·cases h
noncomputable def afJ:List (FuncId×PT):=(252,aT vL)::(31,aT uo)::(253,aT vK)::(320,aT EL)::Cz
theorem abI:aU Tryz.prog (fun f=>aA f afJ):=.cons Np (aN _) (.cons Jy (aN _) (.cons No (aN _) (.cons aga (aN _) pz)))
noncomputable def Rz:gF:={cF with cM:=fun f=>aA f afJ}
theorem ae6:Sx.Good Tryz.prog Rz:=.of bO abI bt
def iE (p:List UInt8)(leaf:Bool):List UInt8:=dJ (UInt8.ofNat (mF leaf (decide ((p.length:Int)% 2=1))).toNat::(bif decide ((p.length:Int)% 2=1)then p else 0::p))
def agh (p:List UInt8)(leaf:Bool):b7:=.fork (oB p) fun b=>match b with
 | true=>.ret (.bL [.str false (iE p leaf),.bool true true])
 | false=>.ret (.bL [.str true [],.bool true false])
def nu (s:List UInt8):Bool:=decide (ay s≠[])&&decide (ai (ay s) 0<=3)&&(decide (ai (ay s) 0% 2=1)||decide (ai (ay s) 1=0))
def fH (s:List UInt8):Bool:=decide (2<=ai (ay s) 0)
def gP (s:List UInt8):List UInt8:=if ai (ay s) 0% 2=1 then(ay s).drop 1 else(ay s).drop 2
def agb (s:List UInt8):b7:=.fork (nu s) fun b=>match b with
 | true=>.ret (.bL [.str false (gP s),.bool false (fH s),.bool true true])
 | false=>.ret (.bL [.str true [],.bool true false,.bool true false])
section
variable (s : List UInt8) (p q r : Prop) (a b c d : Int) (v : SV) (x : Bool)
abbrev lK:=bh (ay s)
abbrev i9:List SV:=[mz]
abbrev pL:List SV:=[fK]
abbrev Ux:=ah (cQ (SV.str (fI&&false) s) fK i9) v
abbrev Uy:=ah (cQ (SV.str (fI&&false) s) mz i9) v
abbrev dS:=List.length s<1099511627776
abbrev cH:=p/\bn q r x
abbrev gA:=cS p (cS q r c d) a b
abbrev lP:=cQ cn fK List.nil
abbrev J':List UInt8:=[UInt8.ofNat (Int.toNat (mF x (eX (bP s% 2) 1)))]
abbrev lu:=cY v i9
end
theorem apc (p:List UInt8)(leaf:Bool):VC.holds (jy Rz 284 Tryz.f284 [.str false p,.bool false leaf] (agh p leaf))=(cH (ij p) (dY (ah lP (lu (ax (iE p leaf)))) lP lP (oB p)) (fW (Kc p) (Kc p) (bn (aL (eI (1+1)) (eI (2+bP p)) (dS (cat (cat (J' p leaf) [0]) p)) (Bk (oB p) (gi (ax (dJ (cat (cat (J' p leaf) [0]) p))) (lu (ax (iE p leaf))) i9) (gi (ax (dJ (cat (cat (J' p leaf) [0]) p))) lP i9))) (ak (eI (1+bP p)) (dS (cat (J' p leaf) p)) (Bk (oB p) (gi (ax (dJ (cat (J' p leaf) p))) (lu (ax (iE p leaf))) i9) (gi (ax (dJ (cat (J' p leaf) p))) lP i9))) (eX (bP p% 2) 1))) (oB p)):=by kernel_rfl
theorem apb (s:List UInt8):VC.holds (jy Rz 286 Tryz.f286 [.str false s] (agb s))=((fun(a:SV)=>(fun(b:SV)=>(fun(c:List UInt8)=>(fun(d:List UInt8)=>dS s/\Fk (ay s=[]) (jx (fj a) a b (nu s)) (Ix 0 (lK s)/\gA (aS (pU 1 1 (lK s) (lK s) (lK s)) (Uy c b) (Uy c a) (nu s)) (cH (Ix 1 (lK s)) (jx (fj a) a b (nu s)) (aS (pU 2 2 (lK s) (lK s) (lK s)) (Uy d b) (Uy d a) (nu s)) (eX (ai (ay s) 1) 0)) (gA (aS (pU 1 1 (lK s) (lK s) (lK s)) (Ux c b) (Ux c a) (nu s)) (cH (Ix 1 (lK s)) (jx (fj a) a b (nu s)) (aS (pU 2 2 (lK s) (lK s) (lK s)) (Ux d b) (Ux d a) (nu s)) (eX (ai (ay s) 1) 0)) (jx (fj a) a b (nu s)) (iV (ay s)) 1 (iV (ay s)) 0) (iV (ay s)) 3 (iV (ay s)) 2)) (eK (ay s) (some (Operand.const (Value.int IntKind.i64 2))) none 2 (lK s))) (eK (ay s) J2 none 1 (lK s))) (cQ (ax (gP s)) (dM (fH s)) i9)) (cQ cn fK pL)):=by kernel_rfl
theorem CJ {a b:List UInt8}{i:Int}(h:i<=a.length):part (a++b) i=part a i:=by
 unfold part;by_cases h1:1<=i
 ·have hl:1<=a.length:=by omega
  rw[List.drop_append_of_le_length hl,List.take_append_of_le_length (by simp only[List.length_drop];omega)]
 ·have:(i - 1).toNat=0:=by omega
  rw[this];rfl
theorem afy {a b:List UInt8}{i:Int}(h2:2<=i)(h:uc a i=true):uc (a++b) i=true:=by
 obtain⟨h1,h3,h4,h5⟩:=lI.1 h;refine lI.2 ⟨by simp only[List.length_append];omega,?_,?_,?_⟩
 ·rw[oY (by omega) (by omega)];exact h3
 ·rw[CJ h1];exact h4
 ·rw[CJ h1];exact h5
theorem Pg {a:List UInt8}(h:cA a=true)(b:List UInt8):cA (a++b)=true/\dD (a++b)=dD a/\aa (a++b)=aa a/\aC (a++b)=aC a++b:=by
 obtain⟨h0,hc⟩:=gZ.1 h;have hl:=List.length_pos_iff.2 h0;have e0:ai (a++b) 0=ai a 0:=oY (Int.le_refl _) (by omega);have el:lead (a++b)=lead a:=by unfold lead;rw[e0]
 have eL:dD (a++b)=dD a:=by unfold dD;rw[e0]
 have hne:a++b≠[]:=by simp[h0]
 refine⟨?_,eL,?_⟩
 ·refine gZ.2 ⟨hne,?_⟩;rw[e0,el];rcases hc with hA | ⟨hA,hB,hC,hD⟩ | ⟨hA,hB,hC,hD⟩
  ·exact .inl hA
  ·have hq:=(lI.1 hC).1;exact .inr (.inl ⟨hA,hB,afy (by omega) hC,by rw[CJ hq];simp only[List.length_append];omega⟩)
  ·exact .inr (.inr ⟨hA,hB,by simp only[List.length_append];omega,fun⟨x,y,z⟩=>hD ⟨x,y,by rwa [oY (by omega) (by omega)] at z⟩⟩)
 ·rcases hc with hA | ⟨hA,hB,hC,hD⟩ | ⟨hA,hB,hC,hD⟩
  ·obtain⟨_,k2,k3⟩:=qQ hA;obtain⟨_,j2,j3⟩:=qQ (s:=a++b) (by rw[e0];exact hA);rw[k2,k3,j2,j3];exact⟨List.take_append_of_le_length (by omega),List.drop_append_of_le_length (by omega)⟩
  ·have hq:=(lI.1 hC).1;have hp:=zA a (lead a - 54);obtain⟨k2,k3⟩:=rq hA hB;obtain⟨j2,j3⟩:=rq (s:=a++b) (by rw[e0];exact hA) (by rw[el];exact hB);rw[k2,k3,j2,j3,el,CJ hq];constructor
   ·rw[List.drop_append_of_le_length (by omega),List.take_append_of_le_length (by simp only[List.length_drop];omega)]
   ·rw[List.drop_append_of_le_length (by omega)]
  ·have hn:=P7 hA;obtain⟨k2,k3⟩:=vn hA hB;obtain⟨j2,j3⟩:=vn (s:=a++b) (by rw[e0];exact hA) (by rw[el];exact hB);rw[k2,k3,j2,j3,el];have e1:(1:Int).toNat=1:=rfl;rw[e1];constructor
   ·rw[List.drop_append_of_le_length (by omega),List.take_append_of_le_length (by simp only[List.length_drop];omega)]
   ·rw[List.drop_append_of_le_length (by omega)]
theorem Wm {a:List UInt8}(h:cA a=true)(b:List UInt8):Bj (a++b)=Bj a:=by
 unfold Bj;rw[(Pg h b).2.2.2,List.length_append,List.length_append];have:a.length+b.length - ((aC a).length+b.length)=a.length - (aC a).length:=by omega
 rw[this,List.take_append_of_le_length (by omega)]
theorem Walk.app {a:List UInt8}(b:List UInt8): ∀ {k:Nat},Walk a k->bN (a++b) k=bN a k++b
 | 0,_=>by simp only[bN]
 | k+1,h=>by have h1:=Walk.app b (k:=k) (fun j hj=>h j (by omega));simp only[bN];rw[h1,(Pg (h k (by omega)).2 b).2.2.2]
theorem Walk.take {a:List UInt8}{k j:Nat}(h:Walk a k)(hj:j<=k):Walk a j:=fun i hi=>h i (by omega)
theorem Walk.join {a:List UInt8}(b:List UInt8){k:Nat}(h:Walk a k):Walk (a++b) k:=fun j hj=>by rw[(h.take (j:=j) (by omega)).app b];obtain⟨h1,h2⟩:=h j hj;exact⟨by simp[h1],(Pg h2 b).1⟩
theorem Walk.item {a:List UInt8}(b:List UInt8){k j:Nat}(h:Walk a k)(hj:j<k):aj (a++b) j=aj a j:=by unfold aj;rw[(h.take (j:=j) (by omega)).app b,Wm (h j hj).2]
theorem IQ (n:Nat): ∀(s:List UInt8),s.length<=n->dU s=true->Walk s (aH s)/\bN s (aH s)=[]:=by
 have nil: ∀ s:List UInt8,s=[]->Walk s (aH s)/\bN s (aH s)=[]:=by intro s hs;rw[hs,oy.2];exact⟨fun j hj=>absurd hj (Nat.not_lt_zero _),by simp only[bN]⟩
 induction n with
 | zero=>exact fun s h _=>nil s (List.length_eq_zero_iff.1 (by omega))
 | succ n ih =>
   intro s h hb;by_cases hne:s=[]
   ·exact nil s hne
   ·have hc:cA s=true:=by
     cases hc:cA s with
     | false=>rw[MG hne hc] at hb;cases hb
     | true=>rfl
    obtain⟨h1,h2⟩:=Ek hne hc;have hl:=Ih hc;obtain⟨h3,h4⟩:=ih (aC s) (by omega) (by rw[← h1];exact hb);rw[h2];refine⟨fun j hj=> ?_,by rw[pZ];exact h4⟩;cases j with
    | zero=>simp only[bN];exact⟨hne,hc⟩
    | succ j=>rw[pZ];exact h3 j (by omega)
theorem KM (s:List UInt8)(k:Nat): ∀ j,bN s (k+j)=bN (bN s k) j
 | 0=>by simp only[bN,Nat.add_zero]
 | j+1=>by rw[← Nat.add_assoc,bN,KM s k j];simp only[bN]
theorem Wo {a:List UInt8}(h:dU a=true)(b:List UInt8):dU (a++b)=dU b/\aH (a++b)=aH a+aH b /\
  (∀ j,j<aH a->aj (a++b) j=aj a j)/\∀ j,aj (a++b) (aH a+j)=aj b j:=by
 obtain⟨h1,h2⟩:=IQ a.length a (Nat.le_refl _) h;have h3:=h1.app b;rw[h2,List.nil_append] at h3;obtain⟨h4,h5⟩:=(h1.join b).items;rw[h3] at h4 h5;refine⟨h4,by omega,fun j hj=>h1.item b hj,fun j=> ?_⟩;unfold aj;rw[KM,h3]
theorem abt {s:List UInt8}(h:dU s=true):aH s<=s.length:=by have:=(IQ s.length s (Nat.le_refl _) h).1.len;omega
theorem agr {s:List UInt8}(h:cA s=true)(h2:aC s=[]):dU s=true/\aH s=1/\aj s 0=s:=by have hne:=(gZ.1 h).1;obtain⟨g1,g2⟩:=Ek hne h;rw[h2] at g1 g2;refine⟨by rw[g1];exact oy.1,by rw[g2,oy.2],?_⟩;unfold aj Bj;simp only[bN];rw[h2,List.length_nil,Nat.sub_zero,List.take_length]
theorem aiC {b:List UInt8}(hb:b.length<=1048576):cA (aB b)=true/\dD (aB b)=false/\aC (aB b)=[]:=by obtain⟨h1,h2,_,h4⟩:=yM hb [];rw[List.append_nil] at h1 h2 h4;exact⟨h1,h2,h4⟩
theorem abd (a:List UInt8)(r:List (List UInt8)):flat (a::r)=a++flat r:=by simp[flat]
theorem Ba: ∀(l:List (List UInt8)),(∀ x∈ l,cA x=true/\aC x=[])->dU (flat l)=true/\aH (flat l)=l.length/\∀(j:Nat) (x:List UInt8),l[j]?=some x->aj (flat l) j=x
 | [],_=>⟨oy.1,oy.2,fun j x h=>by simp at h⟩
 | a::r,h=>by
   obtain⟨h1,h2⟩:=h a (by simp);obtain⟨o1,o2,o3⟩:=agr h1 h2;obtain⟨g1,g2,g3⟩:=Ba r fun x hx=>h x (by simp[hx]);obtain⟨j1,j2,j3,j4⟩:=Wo o1 (flat r);rw[abd];refine⟨by rw[j1];exact g1,by rw[j2,o2,g2,List.length_cons];omega,fun j x hx=> ?_⟩;cases j with
   | zero =>simp only[List.getElem?_cons_zero,Option.some.injEq] at hx;rw[j3 0 (by omega),o3,hx]
   | succ j =>have:=j4 j;rw[o2] at this;rw[Nat.add_comm j 1,this];exact g3 j x (by simpa using hx)
theorem SO {l:List (List UInt8)}(hl:(flat l).length<=1048576)(rest:List UInt8) :
  cA (cP 192 (flat l).length++flat l++rest)=true/\dD (cP 192 (flat l).length++flat l++rest)=true/\aa (cP 192 (flat l).length++flat l++rest)=flat l/\aC (cP 192 (flat l).length++flat l++rest)=rest:=by
 obtain⟨h1,h2,h3,h4⟩:=YD (.inr rfl) hl (fun h=>by omega) rest;exact⟨h1,by rw[h2];rfl,h3,h4⟩
theorem VU (s:List UInt8):(aC s).length<=s.length:=by unfold aC;rw[List.length_drop];omega
theorem Oi (s:List UInt8): ∀ k,(bN s k).length<=s.length
 | 0=>by simp only[bN];exact Nat.le_refl _
 | k+1=>by simp only[bN];exact Nat.le_trans (VU _) (Oi s k)
theorem zg (s:List UInt8)(k:Nat):(aj s k).length<=s.length:=by have:=Oi s k;unfold aj Bj;rw[List.length_take];omega
theorem tR (s:List UInt8):(aa s).length<=s.length:=by unfold aa;simp only[List.length_take,List.length_drop];omega
def ee (l:List (List UInt8)):List UInt8:=cP 192 (flat l).length++flat l
theorem FD (c:UInt8)(t:List UInt8):ai (c::t) 1=ai t 0:=by cases t<;>rfl
theorem aeZ {n:Int}(h0:0<=n)(h:n<18446744073709551616):qF (aB (digits n))=true/\aa (aB (digits n))=digits n:=by
 have hl:=ru n;obtain⟨h1,h2,h3,h4⟩:=yM (b:=digits n) (by omega) [];rw[List.append_nil] at h1 h2 h3 h4;refine⟨Cn.2 ⟨h1,h2,h4,by rw[h3];exact hl,?_⟩,h3⟩;rw[h3];by_cases hp:0<n
 ·exact .inr (FK hp h).2
 ·have:n=0:=by omega
  subst this;exact .inl RM
def sy (l:Bool)(b:List UInt8):List UInt8:=bif l then cP 192 b.length++b else aB b
theorem toNat_eq {a b:UInt8}(h:a.toNat=b.toNat):a=b:=UInt8.toNat_inj.1 h
theorem OY {s:List UInt8}(h:s≠[]): ∃ b t,s=b::t/\ai s 0=(b.toNat:Int):=by
 cases s with
 | nil=>exact absurd rfl h
 | cons b t=>exact⟨b,t,rfl,rfl⟩
theorem RI {s:List UInt8}(h:cA s=true):sy (dD s) (aa s)++aC s=s:=by
 obtain⟨h0,h⟩:=gZ.1 h;obtain⟨b,t,rfl,hb⟩:=OY h0;have hb8:=b.toNat_lt;rcases h with hA | ⟨hA,hL,hB,hP⟩ | ⟨hA,hL,hP,hN⟩
 ·obtain⟨k1,k2,k3⟩:=qQ hA;rw[k1,k2,k3];simp only[sy,cond_false,List.take_succ_cons,List.take_zero,List.drop_succ_cons,List.drop_zero];rw[BQ ⟨rfl,by rw[hb] at hA;exact hA⟩];rfl
 ·obtain⟨k1,k2⟩:=rq hA hL;obtain⟨g1,g2,g3,g4⟩:=lI.1 hB;have hl:=g1;simp only[List.length_cons] at hl g1 hP;have hlead:lead (b::t)<64/\0<=lead (b::t):=by unfold lead;split<;>omega
  have hpn:=zA (b::t) (lead (b::t) - 54);have elen:(aa (b::t)).length=(part (b::t) (lead (b::t) - 54)).toNat:=by rw[k1];simp only[List.length_take,List.length_drop,List.length_cons];omega
  have hd:digits (part (b::t) (lead (b::t) - 54))=t.take (lead (b::t) - 55).toNat:=by
   have e:part (b::t) (lead (b::t) - 54)=num (t.take (lead (b::t) - 55).toNat):=by unfold part;simp only[List.drop_succ_cons,List.drop_zero];congr 2;omega
   rw[e];refine aa7 (by simp only[List.length_take];omega) (.inr ?_);intro h;apply g2;rw[FD];have:ai (t.take (lead (b::t) - 55).toNat) 0=ai t 0:=by
    obtain⟨m,hm⟩: ∃ m,(lead (b::t) - 55).toNat=m+1:=⟨(lead (b::t) - 55).toNat - 1,by omega⟩
    rw[hm];cases t<;>rfl
   rw[← this];exact h
  have hhead: ∀ base:Int,lead (b::t)=ai (b::t) 0 - base->0<=base->cP base (aa (b::t)).length=b::t.take (lead (b::t) - 55).toNat:=by
   intro base hbase hb0;rw[MC (by rw[elen];omega),elen,show(((part (b::t) (lead (b::t) - 54)).toNat:Nat):Int)=part (b::t) (lead (b::t) - 54)by omega,hd];congr 1;apply toNat_eq;have:(base+55+((t.take (lead (b::t) - 55).toNat).length:Int)).toNat=b.toNat:=by rw[hb] at hbase;simp only[List.length_take];omega
   rw[this];simp
  have hcat: ∀ base:Int,lead (b::t)=ai (b::t) 0 - base->0<=base->cP base (aa (b::t)).length++aa (b::t)++aC (b::t)=b::t:=by
   intro base hbase hb0;rw[hhead base hbase hb0,k1,k2,List.append_assoc];have e1:(lead (b::t) - 54).toNat=(lead (b::t) - 55).toNat+1:=by omega
   have e2:(lead (b::t) - 54+part (b::t) (lead (b::t) - 54)).toNat=(lead (b::t) - 55).toNat+1+(part (b::t) (lead (b::t) - 54)).toNat:=by omega
   rw[e1,e2];generalize (lead (b::t) - 55).toNat=k;generalize (part (b::t) (lead (b::t) - 54)).toNat=p;rw[show k+1+p=(k+p)+1 by omega];simp only[List.drop_succ_cons,List.cons_append];rw[← List.drop_drop,List.take_append_drop,List.take_append_drop]
  by_cases hC:ai (b::t) 0<192
  ·have e3:dD (b::t)=false:=by simp[dD];omega
   rw[e3,sy,cond_false,q7 (by rw[elen];omega)];exact hcat 128 (Hz hC) (by omega)
  ·have e3:dD (b::t)=true:=by simp[dD];omega
   rw[e3,sy,cond_true];exact hcat 192 (Hy hC) (by omega)
 ·obtain⟨k1,k2⟩:=vn hA hL;simp only[List.length_cons] at hP;have hlead:=P7 hA;have elen:(aa (b::t)).length=(lead (b::t)).toNat:=by rw[k1];simp only[List.length_take,List.length_drop,List.length_cons];omega
  have ein:aa (b::t)=t.take (lead (b::t)).toNat:=by rw[k1];rfl
  have hcat: ∀ base:Int,lead (b::t)=ai (b::t) 0 - base->0<=base->cP base (aa (b::t)).length++aa (b::t)++aC (b::t)=b::t:=by
   intro base hbase hb0;rw[IK (by rw[elen];omega),elen,ein,k2];have:(base+((lead (b::t)).toNat:Int)).toNat=b.toNat:=by rw[hb] at hbase;omega
   rw[this,show(1+lead (b::t)).toNat=(lead (b::t)).toNat+1 by omega];simp
  by_cases hC:ai (b::t) 0<192
  ·have e3:dD (b::t)=false:=by simp[dD];omega
   rw[e3,sy,cond_false,q7 ?_]
   ·exact hcat 128 (Hz hC) (by omega)
   ·rintro⟨h1,h2⟩;rw[elen] at h1;apply hN;refine⟨hC,by omega,?_⟩;rw[FD];rw[ein,h1] at h2;cases t with
    | nil=>exact h2
    | cons c u=>exact h2
  ·have e3:dD (b::t)=true:=by simp[dD];omega
   rw[e3,sy,cond_true];exact hcat 192 (Hy hC) (by omega)
theorem Ab (f:Nat->Int)(i n:Nat):(eP f i n).length=n:=by simp[eP]
theorem zB (k:List UInt8):(ay k).length=2*k.length:=Ab _ _ _
theorem JI (p:List UInt8):(dJ p).length=p.length / 2:=Ab _ _ _
theorem OB {l:Bool}{a b:List UInt8}{l1 l2 x:Bool}(h:a=b):ah (.bL [.str l a,.bool l1 x]) (.bL [.str false b,.bool l2 x]):=fun E=>by subst h;rfl
theorem W3 {p:List UInt8}(leaf:Bool)(hp:p.length<1073741824):aq (jy Rz 284 Tryz.f284 [.str false p,.bool false leaf] (agh p leaf)):=by
 refine aq.j7 (apc p leaf) (by delta Bk NI cn aF bh bP ak cY aL eI gi fK ax eX dY bn cQ k8 ij fW mz Kc i9 dS cH lP J' lu;exact rfl) ?_;cases oB p with
 | false=>exact⟨by omega,fun _=>⟨(fun h=>by cases h),fun _ _=>rfl⟩,fun h=>by cases h⟩
 | true =>
   refine⟨by omega,(fun h=>by cases h),fun _=>⟨by omega,trivial,by omega,fun h=> ?_,fun h=> ?_⟩⟩
   ·have ho:decide ((p.length:Int)% 2=1)=false:=by simpa using h
    refine⟨by omega,by omega,by simp only[cat,List.length_append,List.length_cons,List.length_nil];omega,fun _=>OB ?_,fun h=>by cases h⟩;rw[iE,ho];rfl
   ·have ho:decide ((p.length:Int)% 2=1)=true:=by simpa using h
    refine⟨by omega,by simp only[cat,List.length_append,List.length_cons,List.length_nil];omega,fun _=>OB ?_,fun h=>by cases h⟩;rw[iE,ho];rfl
def Jz:List SV->Option (Prop×b7)
 | [.str false p,.bool false leaf]=>some (p.length<1073741824,agh p leaf)
 | _=>none
theorem akJ:au Tryz.prog 284 (bW Jz):=by
 refine fE (n:=20) (fn:=Tryz.f284) Tryz.func284 (by kernel_rfl) (by kernel_rfl) ?_;intro args p a h hp;unfold Jz at h;split at h
 ·injection h with h;injection h with h1 h2;subst h1;subst h2;exact⟨_,ae6,rfl,fun b=>by cases b<;>exact rfl,W3 _ hp⟩
 ·cases h
theorem zN {l:Bool}{a b:List UInt8}{l1 l2 l3 l4 x y z:Bool}(h:a=b)(h2:x=y):ah (.bL [.str l a,.bool l1 x,.bool l2 z]) (.bL [.str false b,.bool l3 y,.bool l4 z]):=fun E=>by subst h;subst h2;rfl
theorem CF {s:List UInt8}:nu s=true↔ay s≠[]/\ai (ay s) 0<=3/\(ai (ay s) 0% 2=1∨ai (ay s) 1=0):=by simp only[nu,Bool.and_eq_true,Bool.or_eq_true,decide_eq_true_eq,and_assoc]
theorem WZ {s:List UInt8}(hs:s.length<1099511627776):aq (jy Rz 286 Tryz.f286 [.str false s] (agb s)):=by
 refine aq.j7 (apb s) (by delta Fk Bk Ix NI cn jV fI aF bh ak cS fK iV J2 oe pU jx ax dM eX fj aS bn cQ mz lK i9 pL Ux Uy dS cH gA;exact rfl) ?_;have hl:=zB s;have b0:=eO (ay s) 0;have F: ∀ {p:Prop},¬ (ay s≠[]/\ai (ay s) 0<=3/\(ai (ay s) 0% 2=1∨ai (ay s) 1=0))->nu s=true->p:=fun h h'=>absurd (CF.1 h') h;have T: ∀ {p:Prop},(ay s≠[]/\ai (ay s) 0<=3/\(ai (ay s) 0% 2=1∨ai (ay s) 1=0))->nu s=false->p:=fun h h'=>by rw[CF.2 h] at h';cases h'
 have none':ah (.bL [.str true [],.bool true false,.bool true false]) (.bL [.str true [],.bool true false,.bool true false]):=fun _=>rfl;have O:ai (ay s) 0% 2=1->(ay s).drop 1=gP s:=fun h=>(if_pos h).symm;have Ev: ¬ ai (ay s) 0% 2=1->(ay s).drop 2=gP s:=fun h=>(if_neg h).symm;refine⟨hs,fun h=>⟨F (by simp at h;simp[h]),fun _=>none'⟩,fun h=> ?_⟩;have h:ay s≠[]:=of_decide_eq_false h;have hp:=List.length_pos_iff.2 h;refine⟨by omega,fun a=> ?_,fun a=>⟨fun b=> ?_,fun b=>⟨fun c=> ?_,fun c=>⟨fun d=> ?_,fun d=> ?_⟩⟩⟩⟩
 ·have a:=of_decide_eq_true a;refine⟨by omega,fun _=>zN (O (by omega)) (by simp[fH,a]),T ⟨h,by omega,.inl (by omega)⟩⟩
 ·have b:=of_decide_eq_true b;refine⟨by omega,fun g=> ?_,fun g=>⟨by omega,fun _=>zN (Ev (by omega)) (by simp[fH,b]),?_⟩⟩
  ·have g: ¬ ai (ay s) 1=0:=by simpa using g
   exact⟨F (by rintro⟨_,_,e | e⟩;omega;exact g e),fun _=>none'⟩
  ·have g:ai (ay s) 1=0:=by simpa using g
   exact T ⟨h,by omega,.inr g⟩
 ·have c:=of_decide_eq_true c;refine⟨by omega,fun _=>zN (O (by omega)) (by simp[fH,c]),T ⟨h,by omega,.inl (by omega)⟩⟩
 ·have d:=of_decide_eq_true d;refine⟨by omega,fun g=> ?_,fun g=>⟨by omega,fun _=>zN (Ev (by omega)) (by simp[fH,d]),?_⟩⟩
  ·have g: ¬ ai (ay s) 1=0:=by simpa using g
   exact⟨F (by rintro⟨_,_,e | e⟩;omega;exact g e),fun _=>none'⟩
  ·have g:ai (ay s) 1=0:=by simpa using g
   exact T ⟨h,by omega,.inr g⟩
 ·have a:=of_decide_eq_false a;have b:=of_decide_eq_false b;have c:=of_decide_eq_false c;have d:=of_decide_eq_false d;exact⟨F (by rintro⟨_,e,_⟩;omega),fun _=>none'⟩
def Jv:List SV->Option (Prop×b7)
 | [.str false s]=>some (s.length<1099511627776,agb s)
 | _=>none
theorem akG:au Tryz.prog 286 (bW Jv):=by
 refine fE (n:=20) (fn:=Tryz.f286) Tryz.func286 (by kernel_rfl) (by kernel_rfl) ?_;intro args p a h hp;unfold Jv at h;split at h
 ·injection h with h;injection h with h1 h2;subst h1;subst h2;exact⟨_,ae6,rfl,fun b=>by cases b<;>exact rfl,WZ hp⟩
 ·cases h
noncomputable def Qc:List (FuncId×PT):=(252,aT vL)::(284,bW Jz)::(286,bW Jv)::Cz
theorem Ew:aU Tryz.prog (fun f=>aA f Qc):=.cons Np (aN _) (.cons akJ (bX _) (.cons akG (bX _) pz))
noncomputable def H7:gF:={cF with cM:=fun f=>aA f Qc}
theorem Ht:Sx.Good Tryz.prog H7:=.of bO Ew bt
structure Nd where
 k:Int
 p:List UInt8
 v:List UInt8
 r:Nat->List UInt8
def UD (r:Nat->List UInt8):List SV:=[.str false (r 0),.str false (r 1),.str false (r 2),.str false (r 3),.str false (r 4),.str false (r 5),.str false (r 6),.str false (r 7),.str false (r 8),.str false (r 9),.str false (r 10),.str false (r 11),.str false (r 12),.str false (r 13),.str false (r 14),.str false (r 15)]
def Nd.Fh (x:Nd)(l:Bool)(k:Int):SV:=.agg (.int .i64 l k::.str false x.p::.str false x.v::UD x.r)
def Nd.sv (x:Nd):SV:=x.Fh false x.k
def jB:SV:=.agg [.int .i64 true 0,.str true [],.str true [],.str true [],.str true [],.str true [],.str true [],.str true [],.str true [],.str true [],.str true [],.str true [],.str true [],.str true [],.str true [],.str true [],.str true [],.str true [],.str true []]
def LF:List SV->Option Nd
 | [.int .i64 false k,.str false p,.str false v,.str false r0,.str false r1,.str false r2,.str false r3,.str false r4,.str false r5,.str false r6,.str false r7,.str false r8,.str false r9,.str false r10,.str false r11,.str false r12,.str false r13,.str false r14,.str false r15]=>some ⟨k,p,v,fun i=>[r0,r1,r2,r3,r4,r5,r6,r7,r8,r9,r10,r11,r12,r13,r14,r15].getD i []⟩
 | _=>none
theorem vG {l:List SV}{x:Nd}(h:LF l=some x):SV.agg l=x.sv:=by
 unfold LF at h;split at h
 ·injection h with h;subst h;rfl
 ·cases h
def fy (t:List UInt8):Bool:=cA t&& !dD t&&decide (aC t=[])
def eA (t:List UInt8):Bool:=fy t&&decide (((aa t).length:Int)=32)
def Xc (t:List UInt8):b7:=.fork (fy t) fun b=>match b with
 | true=>.ret (.bL [.str false (aa t),.bool true true])
 | false=>.ret (.bL [.str true [],.bool true false])
def afb (t:List UInt8):b7:=.fork (eA t) fun b=>match b with
 | true=>.ret (.bL [.str false (aa t),.bool true true])
 | false=>.ret (.bL [.str true [],.bool true false])
def lJ (x:Nd)(least:Int):Bool:=decide (least<=(x.p.length:Int))&&decide ((x.p.length:Int)<=12)&&oB x.p
def dg (r:Nat->List UInt8):Nat->Int
 | 0=>0
 | i+1=>if r i=[] then dg r i else(i:Int)+1
noncomputable def aaO (x:Nd):bp :=
 {α:=Nat,pre:=fun _ i=>i<=16,sM:=fun _ i=>16 - i,fresh:=0,slots:=fun _ i=>[(7,.int .i64 false i)],
  mem:=fun _ i=>[(1,.cells [.int .i64 false (dg x.r i)] 1 3)]}
noncomputable def ad5 (x:Nd):gF:={cF with cM:=fun f=>aA f Qc,aR:=fun f=>if f=259 then [(1,always (aaO x))] else []}
theorem anM (x:Nd):Sx.Good Tryz.prog (ad5 x):=.of bO Ew bt
section
variable (n m : Nat) (s t u g h o A B : List UInt8) (p q : Prop) (v w C E F G H I : SV) (D : SB) (x : Nd) (y : List SV) (z : Nat -> SV) (f : List (List UInt8))
abbrev Dd:=lu (ax (aa s))
abbrev iH:=Bk (eA s) p q
abbrev fU:List (List UInt8):=s::t::u::g::h::o::A::B::f
abbrev CV:=fU (x.r 0) (x.r 1) (x.r 2) (x.r 3) (x.r 4) (x.r 5) (x.r 6) (x.r 7) (fU (x.r 8) (x.r 9) (x.r 10) (x.r 11) (x.r 12) (x.r 13) (x.r 14) (x.r 15) List.nil)
abbrev lF:=Int.toNat (NI n)
abbrev aD:=aF v w (aF C E (aF F G (aF H I y)))
abbrev EX:=aD (z 0) (z 1) (z 2) (z 3) (z 4) (z 5) (z 6) (z 7) (aD (z 8) (z 9) (z 10) (z 11) (z 12) (z 13) (z 14) (z 15) List.nil)
abbrev JQ:=jh (Sr D) (Sr (c8 19 (Nd.sv x) 366))
abbrev sS:=bT n 16 (16 - n<16 - m)
abbrev wP:=NI n<16
abbrev F5:=ak (0<=NI n) (wP n) (wP n)
abbrev TN:=cR 1 (bC (dg x.r n)) List.nil 3
abbrev nM:=lZ (CV x) n
abbrev lO:=nM (lF n) x
abbrev gj:=SV.agg (v::y)
abbrev NS:=c8 19 (gj (bC x.k) (aF (ax x.p) (ax x.v) (EX z))) 366
abbrev je:=ax (x.r n)
end
theorem alS (t:List UInt8):VC.holds (jy H7 239 Tryz.f239 [.str false t] (Xc t))=((fun(a:SV)=>aS (dj t) (Bk (dD t) (Bk (fy t) (ah a (Dd t)) (fj a)) (bn (Bk (fy t) (ah a (Dd t)) (fj a)) (dY (ah (Dd t) (Dd t)) (Dd t) a (fy t)) (dX (aC t)))) (Bk (fy t) (ah a (Dd t)) (fj a)) (cA t)) lP):=by kernel_rfl
theorem ao7 (t:List UInt8):VC.holds (jy H7 188 Tryz.f188 [.str false t] (afb t))=((fun(a:SV)=>(fun(b:SV)=>aS (dj t) (Bk (dD t) (iH t (ah a b) (fj a)) (bn (iH t (ah a b) (fj a)) (bn (iH t (ah a b) (fj a)) (iH t (fj b) (ah b a)) (eX (F3 t) 32)) (dX (aC t)))) (iH t (ah a b) (fj a)) (cA t)) (Dd t)) lP):=by kernel_rfl
theorem ai1 (x:Nd)(least:Int)(R:SV->Prop):VC.holds (fS H7 281 Tryz.f281 [x.sv,.int .i64 false least] R)=((decide (least<=(↑(List.length x.p):Int))=true->(decide ((↑(List.length x.p):Int)<=12)=true->List.length x.p<1152921504606846976/\R (SV.bool false (oB x.p)))/\(decide ((↑(List.length x.p):Int)<=12)=false->R (SV.bool true false)))/\(decide (least<=(↑(List.length x.p):Int))=false->R (SV.bool true false))):=by kernel_rfl
theorem aiQ (x:Nd)(R:SV->Prop):VC.holds (fS (ad5 x) 282 Tryz.f282 [x.sv] R)=((fun(a:Nat->SV)=>(fun(a:SB)=>∀(b:Loop),(∃(c:Nat),aI (c<=16) (fh c) (bH 1 (TN c x) k6 3) (oG b) (JQ a x))/\(∀(c:Nat),aX c 16 (Fk (wP c) (cH (F5 c) (aL (Er b) (jb c) (jb c) (∃(d:Nat),aI (sS d c) (gU c d) (bH 1 (TN d x) [bC (NI c+1)] 3) (oG b) (JQ a x))) (fN c (fun d=>aI (sS d c) (gU c d) (af (TN c x) (TN d x)) (oG b) (JQ a x))) (dX (lO c x))) (R (bC (dg x.r c)))))) (NS x a)) (fun a=>je a x)):=by kernel_rfl
theorem ai0 (x:Nd)(R:SV->Prop):VC.holds (fS H7 240 Tryz.f240 [x.sv] R)=(R (SV.bool (false&&true&&(false&&true&&(false&&true&&(false&&true&&(false&&true&&(false&&true&&(false&&true&&(false&&true&&(false&&true&&(false&&true&&(false&&true&&(false&&true&&(false&&true&&(false&&true&&(false&&true&&(false&&true&&(false&&true&&(false&&true&&(false&&true&&true)))))))))))))))&&true)))) (decide (x.k=0)&&(decide (x.p=List.nil)&&(decide (x.v=List.nil)&&(decide (x.r 0=List.nil)&&(decide (x.r 1=List.nil)&&(decide (x.r 2=List.nil)&&(decide (x.r 3=List.nil)&&(decide (x.r 4=List.nil)&&(decide (x.r 5=List.nil)&&(decide (x.r 6=List.nil)&&(decide (x.r 7=List.nil)&&(decide (x.r 8=List.nil)&&(decide (x.r 9=List.nil)&&(decide (x.r 10=List.nil)&&(decide (x.r 11=List.nil)&&(decide (x.r 12=List.nil)&&(decide (x.r 13=List.nil)&&(decide (x.r 14=List.nil)&&(decide (x.r 15=List.nil)&&true)))))))))))))))&&true)))))):=by kernel_rfl
theorem zD {t:List UInt8}:fy t=true↔cA t=true/\dD t=false/\aC t=[]:=by simp only[fy,Bool.and_eq_true,Bool.not_eq_true',decide_eq_true_eq,and_assoc]
theorem xC {t:List UInt8}:eA t=true↔(cA t=true/\dD t=false/\aC t=[])/\(aa t).length=32:=by simp only[eA,Bool.and_eq_true,zD,decide_eq_true_eq];constructor<;>rintro⟨h1,h2⟩<;>exact⟨h1,by omega⟩
theorem TA {t:List UInt8}(ht:t.length<9223372036854775808):aq (jy H7 239 Tryz.f239 [.str false t] (Xc t)):=by
 refine aq.j7 (alS t) (by delta Bk cn aF cY fK ax fj cr aS dj dY bn cQ dX mz i9 lP lu Dd;exact rfl) ?_;have no:ah (.bL [.str true [],.bool true false]) (.bL [.str true [],.bool true false]):=fun _=>rfl;have F: ∀ {p:Prop},¬ (cA t=true/\dD t=false/\aC t=[])->fy t=true->p:=fun h h'=>absurd (zD.1 h') h;refine⟨ht,fun a=>⟨fun b=>⟨F (by simp[b]),fun _=>no⟩,fun b=>⟨fun c=>⟨F (by simp at c;simp[c]),fun _=>no⟩,fun c=> ?_⟩⟩,fun a=>⟨F (by simp[a]),fun _=>no⟩⟩;have c:aC t=[]:=by simpa using c
 have hB:=zD.2 ⟨a,b,c⟩;exact⟨fun _ _=>rfl,fun h=>by rw[hB] at h;cases h⟩
theorem Wf {t:List UInt8}(ht:t.length<9223372036854775808):aq (jy H7 188 Tryz.f188 [.str false t] (afb t)):=by
 refine aq.j7 (ao7 t) (by delta Bk NI cn aF cY fK ax eX fj cr aS dj yq F3 bn cQ dX mz i9 lP lu Dd iH;exact rfl) ?_;have no:ah (.bL [.str true [],.bool true false]) (.bL [.str true [],.bool true false]):=fun _=>rfl;have F: ∀ {p:Prop},¬ ((cA t=true/\dD t=false/\aC t=[])/\(aa t).length=32)->eA t=true->p:=fun h h'=>absurd (xC.1 h') h;refine⟨ht,fun a=>⟨fun b=>⟨F (by simp[b]),fun _=>no⟩,fun b=>⟨fun c=>⟨F (by simp at c;simp[c]),fun _=>no⟩,fun c=>⟨fun d=>⟨F (by simp at d;omega),fun _=>no⟩,fun d=> ?_⟩⟩⟩,fun a=>⟨F (by simp[a]),fun _=>no⟩⟩;have c:aC t=[]:=by simpa using c
 have d:((aa t).length:Int)=32:=by simpa using d
 have hB:=xC.2 ⟨⟨a,b,c⟩,by omega⟩;exact⟨fun _ _=>rfl,fun h=>by rw[hB] at h;cases h⟩
def ET:List SV->Option (Prop×b7)
 | [.str false t]=>some (t.length<9223372036854775808,Xc t)
 | _=>none
def rA:List SV->Option (Prop×b7)
 | [.str false t]=>some (t.length<9223372036854775808,afb t)
 | _=>none
theorem agy:au Tryz.prog 239 (bW ET):=by
 refine fE (n:=20) (fn:=Tryz.f239) Tryz.func239 (by kernel_rfl) (by kernel_rfl) ?_;intro args p a h hp;unfold ET at h;split at h
 ·injection h with h;injection h with h1 h2;subst h1;subst h2;exact⟨_,Ht,rfl,fun b=>by cases b<;>exact rfl,TA hp⟩
 ·cases h
theorem Hu:au Tryz.prog 188 (bW rA):=by
 refine fE (n:=20) (fn:=Tryz.f188) Tryz.func188 (by kernel_rfl) (by kernel_rfl) ?_;intro args p a h hp;unfold rA at h;split at h
 ·injection h with h;injection h with h1 h2;subst h1;subst h2;exact⟨_,Ht,rfl,fun b=>by cases b<;>exact rfl,Wf hp⟩
 ·cases h
def Bs:List SV->Option (Prop×SV)
 | [.agg l,.int .i64 false least]=>(match LF l with
   | some x=>some (True,.bool false (lJ x least))
   | none=>none)
 | _=>none
theorem ab2:au Tryz.prog 281 (aT Bs):=by
 refine kU Ht (n:=20) (fn:=Tryz.f281) Tryz.func281 (by kernel_rfl) (by kernel_rfl) ?_;intro args p r h hp;unfold Bs at h;split at h
 ·split at h
  ·rename_i l least _ x hx;injection h with h;injection h with h1 h2;subst h1;subst h2;rw[vG hx];refine⟨rfl,rfl,aq.of_eq (ai1 x least _) ⟨fun a=>⟨fun b=>⟨?_,cX ?_⟩,fun b=>cX ?_⟩,fun a=>cX ?_⟩⟩
   ·have:=of_decide_eq_true b;omega
   ·rw[lJ,a,b];rfl
   ·rw[lJ,a,b];rfl
   ·rw[lJ,a];rfl
  ·cases h
 ·cases h
theorem GK (r:Nat->List UInt8){i:Nat}(h:i<16):lZ [r 0,r 1,r 2,r 3,r 4,r 5,r 6,r 7,r 8,r 9,r 10,r 11,r 12,r 13,r 14,r 15] i=r i:=by
 have:i=0∨i=1∨i=2∨i=3∨i=4∨i=5∨i=6∨i=7∨i=8∨i=9∨i=10∨i=11∨i=12∨i=13∨i=14∨i=15:=by omega
 rcases this with rfl | rfl | rfl | rfl | rfl | rfl | rfl | rfl | rfl | rfl | rfl | rfl | rfl | rfl | rfl | rfl<;>rfl
theorem HZ {l l':Bool}{a b:Int}{tot:Nat}{ty:TypeId}(h:a=b):af (.cells [.int .i64 l a] tot ty) (.cells [.int .i64 l' b] tot ty):=by subst h;exact af.cells (fun _=>rfl) rfl
theorem OV (x:Nd):aq (fS (ad5 x) 282 Tryz.f282 [x.sv] (fun v=>ah v (.int .i64 false (dg x.r 16)))):=by
 refine aq.j7 (aiQ x _) (by delta Fk Bk I6 Sr Er NI aX aF bC bx ak k6 cR aI aL bH ax bn dX wO oG c8 bT gU fh jb jh fN cH fU CV lF aD EX JQ sS wP F5 TN nM lO gj NS je;exact rfl) ?_;intro R;refine⟨⟨0,by omega,rfl,HZ rfl,af.refl _,af.refl _,af.refl _,trivial⟩,fun i hi=>⟨fun a=> ?_,fun a=> ?_⟩⟩
 ·have a:=of_decide_eq_true a;have ei:i<16:=by omega
  rw[Int.toNat_natCast,GK x.r ei];refine⟨by omega,fun b=>⟨rfl,by omega,by omega,i+1,by omega,by omega,HZ ?_,af.refl _,af.refl _,af.refl _,trivial⟩,fun b=>⟨by omega,i+1,by omega,by omega,HZ ?_,af.refl _,af.refl _,af.refl _,trivial⟩⟩
  ·have b: ¬ x.r i=[]:=by simpa using b
   rw[dg,if_neg b]
  ·have b:x.r i=[]:=by simpa using b
   rw[dg,if_pos b]
 ·have a:=of_decide_eq_false a;have e:i=16:=by omega
  rw[e];exact fun _=>rfl
def A5:List SV->Option (Prop×SV)
 | [.agg l]=>(match LF l with
   | some x=>some (True,.int .i64 false (dg x.r 16))
   | none=>none)
 | _=>none
theorem aaV:au Tryz.prog 282 (aT A5):=by
 refine gz (fE (n:=20) (fn:=Tryz.f282) Tryz.func282 (by kernel_rfl) (by kernel_rfl) ?_);intro args p a h hp;unfold A5 at h;split at h
 ·split at h
  ·rename_i l x hx;injection h with h;injection h with h1 h2;subst h1;subst h2;rw[vG hx];exact⟨_,anM x,rfl,rfl,OV x⟩
  ·cases h
 ·cases h
def wA (x:Nd):Bool:=decide (x.k=0)&&(decide (x.p=[])&&(decide (x.v=[])&&(List.range 16).all fun i=>decide (x.r i=[])))
def Br:List SV->Option (Prop×SV)
 | [.agg l]=>(match LF l with
   | some x=>some (True,.bool false (wA x))
   | none=>none)
 | _=>none
theorem ab1:au Tryz.prog 240 (aT Br):=by
 refine kU Ht (n:=20) (fn:=Tryz.f240) Tryz.func240 (by kernel_rfl) (by kernel_rfl) ?_;intro args p r h hp;unfold Br at h;split at h
 ·split at h
  ·rename_i l x hx;injection h with h;injection h with h1 h2;subst h1;subst h2;rw[vG hx];refine⟨rfl,rfl,aq.of_eq (ai0 x _) (cX ?_)⟩;rw[wA,show List.range 16=[0,1,2,3,4,5,6,7,8,9,10,11,12,13,14,15] from by decide]
   simp only[List.all_cons,List.all_nil,Bool.and_true]
  ·cases h
 ·cases h
noncomputable def Qd:List (FuncId×PT):=(239,bW ET)::(188,bW rA)::(281,aT Bs)::(282,aT A5)::(240,aT Br)::Qc
theorem Ey:aU Tryz.prog (fun f=>aA f Qd):=.cons agy (bX _) (.cons Hu (bX _) (.cons ab2 (aN _) (.cons aaV (aN _) (.cons ab1 (aN _) Ew))))
noncomputable def FH:gF:={cF with cM:=fun f=>aA f Qd}
theorem PL:Sx.Good Tryz.prog FH:=.of bO Ey bt
def pn (x:Nd):Bool:=lJ x 0&&(!decide (x.v=[])&&(decide ((x.v.length:Int)<=80)&&decide (dg x.r 16=0)))
def dy (x:Nd)(leaf:Bool):List UInt8:=bif oB x.p then iE x.p leaf else []
def n8 (x:Nd):List UInt8:=ee [aB (dy x true),aB x.v]
def wX (x:Nd):List UInt8:=ee [aB (dy x false),x.r 0]
def bY (r:Nat->List UInt8)(i j:Nat):List UInt8:=if j<i then(if r j=[] then [128] else r j)else [128]
def Fg (f:Nat->List UInt8):List SV:=[.str false (f 0),.str false (f 1),.str false (f 2),.str false (f 3),.str false (f 4),.str false (f 5),.str false (f 6),.str false (f 7),.str false (f 8),.str false (f 9),.str false (f 10),.str false (f 11),.str false (f 12),.str false (f 13),.str false (f 14),.str false (f 15),.str false (f 16)]
def iI (x:Nd):List UInt8:=ee [bY x.r 16 0,bY x.r 16 1,bY x.r 16 2,bY x.r 16 3,bY x.r 16 4,bY x.r 16 5,bY x.r 16 6,bY x.r 16 7,bY x.r 16 8,bY x.r 16 9,bY x.r 16 10,bY x.r 16 11,bY x.r 16 12,bY x.r 16 13,bY x.r 16 14,bY x.r 16 15,aB x.v]
def dQ (x:Nd):List UInt8:=if x.k=0 then [128] else if x.k=1 then n8 x else if x.k=2 then wX x else iI x
structure Nd.th (x:Nd):Prop where
 p:x.p.length<=1000
 v:x.v.length<=1000
 r: ∀ j,j<16->(x.r j).length<=1000
noncomputable def apA (x:Nd):bp :={α:=Nat,pre:=fun _ i=>i<=16,sM:=fun _ i=>16 - i,fresh:=0,slots:=fun _ i=>[(7,.int .i64 false i)],mem:=fun _ i=>[(1,.cells (Fg (bY x.r i)) 17 9)]}
noncomputable def adT (x:Nd):gF:={cF with cM:=fun f=>aA f Qd,aR:=fun f=>if f=259 then [(1,always (apA x))] else []}
theorem anv (x:Nd):Sx.Good Tryz.prog (adT x):=.of bO Ey bt
section
variable (n m : Nat) (s : List UInt8) (a : Int) (v : SV) (B D : SB) (x : Nd) (g : Nat -> List UInt8) (f : Loop) (z : List SV) (h : Nat -> Nat -> SV) (y : List (List UInt8))
abbrev Ar:=List.length x.v
abbrev c9:=List.getD y n List.nil
abbrev oa:Nat->List UInt8:=fun a=>c9 a (CV x)
abbrev pT:=Nd.mk a x.p s g
abbrev uG:=pT x.v x.k x (oa x)
abbrev sR:=x.r 0
abbrev iP:=k8 0
abbrev NA:=c8 19 (Nd.sv x) 366
abbrev yb:=gk ((192:Int)<=192) 192
abbrev NN:=Er 2/\2<=2
abbrev NU:=List.length (flat [aB List.nil,sR x])
abbrev NW:=List.length (flat [aB (iE x.p false),sR x])
abbrev dW:=Er (some B)
abbrev uL:=n<=140737488355328
abbrev nL:=cP 192 (Int.toNat a)
abbrev mM:=SV.str true (aB List.nil)
abbrev nJ:=bY x.r n m
abbrev Xq:=flat (nJ n 0 x::fU (nJ n 1 x) (nJ n 2 x) (nJ n 3 x) (nJ n 4 x) (nJ n 5 x) (nJ n 6 x) (nJ n 7 x) (nJ n 8 x) (fU (nJ n 9 x) (nJ n 10 x) (nJ n 11 x) (nJ n 12 x) (nJ n 13 x) (nJ n 14 x) (nJ n 15 x) (aB x.v) List.nil))
abbrev acq:=cR 17 (h 0 n) (aD (h 1 n) (h 2 n) (h 3 n) (h 4 n) (h 5 n) (h 6 n) (h 7 n) (h 8 n) (aD (h 9 n) (h 10 n) (h 11 n) (h 12 n) (h 13 n) (h 14 n) (h 15 n) (h 16 n) List.nil)) 9
abbrev dK:=dW B
abbrev TQ:Nat->Nat->SV:=fun a=>fun b=>ax (nJ b a x)
abbrev Gv:=ak (oG f) (Sr B) (JQ D x)
abbrev uN:=bz z n (SV.cells v)
abbrev GA:=List.length s<=140737488355328
abbrev JT:List (List UInt8):=[aB x.v]
abbrev ZE:=aB (iE x.p true)
abbrev Uf:=bh (flat (aB List.nil::JT x))
abbrev Ug:=bh (flat (ZE x::JT x))
end
theorem apa (x:Nd)(R:SV->Prop):VC.holds (fS FH 241 Tryz.f241 [x.sv] R)=(aS True (Bk (not (dX x.v)) (Fk (NI (Ar x)<=80) (True/\R (SV.bool fI (eX (dg (oa x) 16) 0))) (R fK)) (R fK)) (R fK) (lJ (uG x) 0)):=by kernel_rfl
theorem X7 (x:Nd)(R:SV->Prop):VC.holds (fS FH 245 Tryz.f245 [x.sv] R)=(aS (List.length x.p<1073741824) (ak (ij (iE x.p true)) (dW (NA x)) (aI (k8 (Ar x)) (ak NN (uL 2) (GA (flat (ZE x::JT x)))) (yb/\uH (Ug x)) (eI (bh (nL (Ug x))+Ug x)) (R (ax (cat (nL (Ug x)) (flat (ZE x::JT x))))))) (ak iP (dW (NA x)) (aI (k8 (Ar x)) (ak NN (uL 2) (GA (flat (aB List.nil::JT x)))) (yb/\uH (Uf x)) (eI (bh (nL (Uf x))+Uf x)) (R (ax (cat (nL (Uf x)) (flat (aB List.nil::JT x))))))) (oB x.p)):=by kernel_rfl
theorem ac3 (x:Nd)(R:SV->Prop):VC.holds (fS FH 246 Tryz.f246 [x.sv] R)=(aS (List.length x.p<1073741824) (gp (ij (iE x.p false)) (dW (NA x)) (ak NN (uL 2) (uL (NW x))) (yb/\uH (NI (NW x))) (eI (bh (nL (NI (NW x)))+NI (NW x))) (R (ax (cat (nL (NI (NW x))) (flat [aB (iE x.p false),sR x]))))) (gp iP (dW (NA x)) (ak NN (uL 2) (uL (NU x))) (yb/\uH (NI (NU x))) (eI (bh (nL (NI (NU x)))+NI (NU x))) (R (ax (cat (nL (NI (NU x))) (flat [aB List.nil,sR x]))))) (oB x.p)):=by kernel_rfl
theorem X8 (x:Nd)(R:SV->Prop):VC.holds (fS FH 244 Tryz.f244 [x.sv] R)=(iP/\R mM):=by kernel_rfl
theorem Rh (x:Nd)(R:SV->Prop):VC.holds (fS (adT x) 247 Tryz.f247 [x.sv] R)=((fun(a:Nat->Nat->SV)=>(fun(b:Nat->SV)=>(fun(c:Nat->Nat->SV)=>(fun(d:Nat->Nat->SV)=>(fun(e:Nat->Nat->SV)=>(fun(f:Nat->Nat->SV)=>(fun(g:SB)=>(fun(b:SB)=>ak iP (dK g) (bl iP (dK g) iP (dK g) iP (dK g) iP (dK g) (bl iP (dK g) iP (dK g) iP (dK g) iP (dK g) (bl iP (dK g) iP (dK g) iP (dK g) iP (dK g) (bl iP (dK g) iP (dK g) iP (dK g) iP (dK g) (∀(h:Loop),(∃(c:Nat),aL (c<=16) (fh c) (bH 17 (acq c a) (mM::aD mM mM mM mM mM mM mM mM (aD mM mM mM mM mM mM mM mM List.nil)) 9) (Gv b g x h))/\(∀(a:Nat),aX a 16 (Fk (wP a) (cH (F5 a) (aI (Er h) (qq a 17) (lF a<17) (jb a) (∃(e:Nat),cZ (sS e a) (gU a e) (Gv b g x h) (acq a c) (acq e d))) (fN a (fun c=>cZ (sS c a) (gU a c) (Gv b g x h) (acq a e) (acq c f))) (dX (lO a x))) (gp (k8 (Ar x)) (dK g) (ak (Er 17/\17<=17) (uL 17) (GA (Xq a x))) (yb/\uH (bh (Xq a x))) (eI (bh (nL (bh (Xq a x)))+bh (Xq a x))) (R (ax (cat (nL (bh (Xq a x))) (Xq a x))))))))))))) (NS x b)) (SB.cells (uN 0 (SV.slc (aP 0) 0 17 true 17) (SV.cells SV.aO)) 1 28)) (TQ x)) (TQ x)) (TQ x)) (fun a=>fun b=>ax (if lF b=a then lO b x else nJ b a x))) (fun a=>je a x)) (TQ x)):=by kernel_rfl
def KF (r0 r1 r2 r3 r4 r5 r6 r7 r8 r9 r10 r11 r12 r13 r14 r15:List UInt8):Nat->List UInt8:=fun i=>[r0,r1,r2,r3,r4,r5,r6,r7,r8,r9,r10,r11,r12,r13,r14,r15].getD i []
def fu (r:Nat->List UInt8):Nat->List UInt8:=KF (r 0) (r 1) (r 2) (r 3) (r 4) (r 5) (r 6) (r 7) (r 8) (r 9) (r 10) (r 11) (r 12) (r 13) (r 14) (r 15)
def bg:Nat->List UInt8:=KF [] [] [] [] [] [] [] [] [] [] [] [] [] [] [] []
def bM (t:List UInt8):Nat->List UInt8:=KF t [] [] [] [] [] [] [] [] [] [] [] [] [] [] []
def dB (s:List UInt8)(j:Nat):List UInt8:=if aj s j=[128] then [] else aj s j
def G8 (s:List UInt8)(i j:Nat):List UInt8:=if j<i then dB s j else []
def gV:Nd:=⟨0,[],[],bg⟩
def tA (s:List UInt8):Nd:=⟨1,gP (aa (aj (aa s) 0)),aa (aj (aa s) 1),bg⟩
def AN (s:List UInt8):Nd:=⟨2,gP (aa (aj (aa s) 0)),[],bM (aj (aa s) 1)⟩
def lW (s:List UInt8):Nd:=⟨3,[],aa (aj (aa s) 16),fu (dB (aa s))⟩
def uu (s:List UInt8):Int:=bif fy (aj s 0)&&nu (aa (aj s 0))then(bif fH (aa (aj s 0))then(bif fy (aj s 1)then 1 else -1)else 2)else -1
def wz (s:List UInt8):Int:=bif dU s then(if aH s=2 then uu s else if aH s=17 then(bif fy (aj s 16)then 3 else -1)else -1)else -1
def aY (s:List UInt8):Int:=if s=[128] then 0 else bif cA s&&(dD s&&decide (aC s=[]))then wz (aa s)else -1
def getD (s:List UInt8):Nd:=if aY s=1 then tA s else if aY s=2 then AN s else if aY s=3 then lW s else gV
def ah4 (s:List UInt8):b7:=.fork (decide (aY s=0)) fun b=>match b with
 | true=>.ret (.bL [jB,.bool true true])
 | false=>.fork (decide (aY s=1)) fun b=>match b with
   | true=>.ret (.bL [(tA s).Fh true 1,.bool true true])
   | false=>.fork (decide (aY s=2)) fun b=>match b with
     | true=>.ret (.bL [(AN s).Fh true 2,.bool true true])
     | false=>.fork (decide (aY s=3)) fun b=>match b with
       | true=>.ret (.bL [(lW s).Fh true 3,.bool true true])
       | false=>.all Nd fun x=>.ret (.bL [x.sv,.bool true false])
def mu (inl:List UInt8->Bool)(t:List UInt8):Bool:=eA t||inl t
def tj (inl:List UInt8->Bool)(x:Nd):Bool:=lJ x 1&&(decide (x.v=[])&&(decide (dg x.r 16=1)&&(eA (x.r 0)||(inl (x.r 0)&&decide ((getD (x.r 0)).k=3)))))
def gy (r:Nat->List UInt8):Nat->Int
 | 0=>0
 | i+1=>if r i=[] then gy r i else gy r i+1
def qJ (inl:List UInt8->Bool)(r:Nat->List UInt8):Nat->Bool
 | 0=>true
 | i+1=>qJ inl r i&&(decide (r i=[])||mu inl (r i))
def fe (inl:List UInt8->Bool)(x:Nd):Bool:=decide (x.p=[])&&(decide ((x.v.length:Int)<=80)&&(qJ inl x.r 16&&decide (2<=min (x.v.length:Int) 1+gy x.r 16)))
def mB (inl:List UInt8->Bool)(x:Nd):Bool:=if x.k=0 then wA x else if x.k=1 then pn x else if x.k=2 then tj inl x else if x.k=3 then fe inl x else false
def Lw (inl:List UInt8->Bool)(s:List UInt8):Bool:=decide (0<=aY s)&&(mB inl (getD s)&&decide (dQ (getD s)=s))
def IM:Nat->List UInt8->Bool
 | 0,_=>false
 | n+1,t=>decide (t.length<32)&&(Lw (IM n) t&& !decide ((getD t).k=0))
def cG (t:List UInt8):Bool:=IM 32 t
def bB (x:Nd):Bool:=mB cG x
def ey (s:List UInt8):Bool:=Lw cG s
theorem xG (b:Int)(n:Nat):(cP b n).length<=9:=by
 unfold cP;split
 ·simp
 ·have:=Pn 8 n;show(UInt8.ofNat _::digits n).length<=9;rw[List.length_cons];have:(digits n).length<=8:=Pn 8 n;omega
theorem nX (b:List UInt8):(aB b).length<=b.length+9:=by
 unfold aB;split
 ·omega
 ·have:=xG 128 b.length;rw[List.length_append];omega
theorem iu {r r':Nat->List UInt8}: ∀ {n:Nat},(∀ j,j<n->r j=r' j)->dg r n=dg r' n
 | 0,_=>rfl
 | n+1,h=>by unfold dg;rw[h n (by omega),iu (fun j hj=>h j (by omega))]
theorem gT (r:Nat->List UInt8)(j:Nat)(h:j<16):[r 0,r 1,r 2,r 3,r 4,r 5,r 6,r 7,r 8,r 9,r 10,r 11,r 12,r 13,r 14,r 15].getD j []=r j:=GK r h
theorem Wv (x:Nd):aq (fS FH 241 Tryz.f241 [x.sv] (fun v=>ah v (.bool false (pn x)))):=by
 refine aq.j7 (apa x _) (by delta Fk Bk NI jV fI fK eX aS dX fU CV Ar c9 oa pT uG;exact rfl) ?_;have e:lJ {k:=x.k,p:=x.p,v:=x.v,r:=fun(i:Nat)=>[x.r 0,x.r 1,x.r 2,x.r 3,x.r 4,x.r 5,x.r 6,x.r 7,x.r 8,x.r 9,x.r 10,x.r 11,x.r 12,x.r 13,x.r 14,x.r 15].getD i []:Nd} 0=lJ x 0:=rfl;rw[e,iu (gT x.r)];unfold pn;refine⟨trivial,fun a=>⟨fun b=>⟨fun c=>⟨trivial,cX ?_⟩,fun c=>cX ?_⟩,fun b=>cX ?_⟩,fun a=>cX ?_⟩
 ·rw[a,b,c];rfl
 ·rw[a,b,c];rfl
 ·rw[a,b];rfl
 ·rw[a];rfl
def gI (g:Nd->Option (Prop×SV)):List SV->Option (Prop×SV)
 | [.agg l]=>(match LF l with
   | some x=>g x
   | none=>none)
 | _=>none
theorem qW {g:Nd->Option (Prop×SV)}{args:List SV}{p:Prop}{v:SV}(h:gI g args=some (p,v)): ∃ x,args=[x.sv]/\g x=some (p,v):=by
 unfold gI at h;split at h
 ·split at h
  ·rename_i x hx;exact⟨x,by rw[vG hx],h⟩
  ·cases h
 ·cases h
theorem Td (x:Nd):SV.gM 0 [x.sv]=true:=rfl
theorem akA:au Tryz.prog 241 (aT (gI fun x=>some (True,.bool false (pn x)))):=by refine kU PL (n:=20) (fn:=Tryz.f241) Tryz.func241 (by kernel_rfl) (by kernel_rfl) ?_;intro args p r h hp;obtain⟨x,hx,hg⟩:=qW h;subst hx;injection hg with hg;injection hg with h1 h2;subst h1;subst h2;exact⟨Td x,rfl,Wv x⟩
theorem tT {a b:List UInt8}:(flat [a,b]).length=a.length+b.length:=by simp[flat]
theorem uv {x:Nd}{leaf:Bool}:(dy x leaf).length<=x.p.length+2:=by
 unfold dy;cases oB x.p with
 | false=>simp
 | true =>simp only[cond_true,iE,JI,List.length_cons];cases decide ((x.p.length:Int)% 2=1)<;>simp only[cond_true,cond_false,List.length_cons]<;>omega
theorem I5 {x:Nd}(hx:x.th):aq (fS FH 245 Tryz.f245 [x.sv] (fun v=>ah v (.str false (n8 x)))):=by
 refine aq.j7 (X7 x _) (by delta Bk Ix Er NI bh ak aI eI ax aS gk uH k8 ij c8 Ar iP NA yb NN dW uL nL GA JT ZE Uf Ug;exact rfl) ?_;have h1:=hx.p;have h2:=hx.v;have h3:=uv (x:=x) (leaf:=true);have h4:=nX (dy x true);have h5:=nX x.v;have h6:=tT (a:=aB (dy x true)) (b:=aB x.v);have h7:=xG 192 (((flat [aB (dy x true),aB x.v]).length:Nat):Int).toNat;refine⟨by omega,fun a=> ?_,fun a=> ?_⟩
 ·have e:iE x.p true=dy x true:=by rw[dy,a];rfl
  rw[e];exact⟨by omega,rfl,by omega,by omega,by omega,by omega,fun E=>by rw[n8,ee,Int.toNat_natCast];rfl⟩
 ·have e:[]=dy x true:=by rw[dy,a];rfl
  rw[e];exact⟨by omega,rfl,by omega,by omega,by omega,by omega,fun E=>by rw[n8,ee,Int.toNat_natCast];rfl⟩
theorem Lu {x:Nd}(hx:x.th):aq (fS FH 246 Tryz.f246 [x.sv] (fun v=>ah v (.str false (wX x)))):=by
 refine aq.j7 (ac3 x _) (by delta Bk Ix Er NI bh ak aI eI ax aS gk uH k8 ij c8 gp sR iP NA yb NN NU NW dW uL nL;exact rfl) ?_;have h1:=hx.p;have h2:=hx.r 0 (by decide);have h3:=uv (x:=x) (leaf:=false);have h4:=nX (dy x false);have h6:=tT (a:=aB (dy x false)) (b:=x.r 0);have h7:=xG 192 (((flat [aB (dy x false),x.r 0]).length:Nat):Int).toNat;refine⟨by omega,fun a=> ?_,fun a=> ?_⟩
 ·have e:iE x.p false=dy x false:=by rw[dy,a];rfl
  rw[e];exact⟨by omega,rfl,by omega,by omega,by omega,fun E=>by rw[wX,ee,Int.toNat_natCast];rfl⟩
 ·have e:[]=dy x false:=by rw[dy,a];rfl
  rw[e];exact⟨by omega,rfl,by omega,by omega,by omega,fun E=>by rw[wX,ee,Int.toNat_natCast];rfl⟩
theorem Ox {f g:Nat->List UInt8}{tot:Nat}{ty:TypeId}(h: ∀ j,j<17->f j=g j):af (.cells (Fg f) tot ty) (.cells (Fg g) tot ty):=by
 have e:Fg f=Fg g:=by unfold Fg;rw[h 0 (by decide),h 1 (by decide),h 2 (by decide),h 3 (by decide),h 4 (by decide),h 5 (by decide),h 6 (by decide),h 7 (by decide),h 8 (by decide),h 9 (by decide),h 10 (by decide),h 11 (by decide),h 12 (by decide),h 13 (by decide),h 14 (by decide),h 15 (by decide),h 16 (by decide)]
 rw[e];exact af.refl _
theorem adP {r:Nat->List UInt8}{i:Nat}(_hi:i<16)(h:r i≠[])(j:Nat):(if i=j then r i else bY r i j)=bY r (i+1) j:=by
 unfold bY;by_cases e:i=j
 ·subst e;rw[if_pos rfl,if_pos (by omega),if_neg h]
 ·rw[if_neg e];by_cases e1:j<i
  ·rw[if_pos e1,if_pos (show j<i+1 by omega)]
  ·rw[if_neg e1,if_neg (show ¬ j<i+1 by omega)]
theorem adO {r:Nat->List UInt8}{i:Nat}(h:r i=[])(j:Nat):bY r i j=bY r (i+1) j:=by
 unfold bY;by_cases e:i=j
 ·subst e;rw[if_neg (by omega),if_pos (by omega),if_pos h]
 ·by_cases e1:j<i
  ·rw[if_pos e1,if_pos (show j<i+1 by omega)]
  ·rw[if_neg e1,if_neg (show ¬ j<i+1 by omega)]
theorem YO {l:List (List UInt8)}{m:Nat}(h: ∀ x∈ l,x.length<=m):(flat l).length<=l.length*m:=by
 induction l with
 | nil=>simp[flat]
 | cons a r ih =>
   have h1:=h a (List.mem_cons_self ..);have h2:=ih fun x hx=>h x (List.mem_cons_of_mem _ hx);have e:(flat (a::r)).length=a.length+(flat r).length:=by simp[flat]
   rw[e,List.length_cons,Nat.succ_mul];omega
theorem anc {x:Nd}(hx:x.th)(i j:Nat)(h:j<16):(bY x.r i j).length<=1000:=by
 have:=hx.r j h;unfold bY;split
 ·split
  ·simp
  ·exact this
 ·simp
theorem D0 {x:Nd}(hx:x.th):aq (fS (adT x) 247 Tryz.f247 [x.sv] (fun v=>ah v (.str false (iI x)))):=by
 refine aq.j7 (Rh x _) (by delta Fk Bk I6 Ix Sr Er NI aX aF bC bh ak cR aI aL eI bH ax gk uH bn dX k8 wO oG aP c8 bT gp gU fh jb qq jh fN bl cZ cH fU CV lF aD EX JQ sS wP F5 nM lO gj NS je Ar iP yb dW uL nL mM nJ Xq acq dK TQ Gv uN GA;exact rfl) ?_;dsimp only;refine⟨by omega,rfl,by omega,rfl,by omega,rfl,by omega,rfl,by omega,rfl,by omega,rfl,by omega,rfl,by omega,rfl,by omega,rfl,by omega,rfl,by omega,rfl,by omega,rfl,by omega,rfl,by omega,rfl,by omega,rfl,by omega,rfl,by omega,rfl,fun R=>⟨⟨0,by omega,rfl,Sx.af.cells (fun E=>rfl) rfl,af.refl _,af.refl _,af.refl _,af.refl _,trivial⟩,fun i hi=>⟨fun a=> ?_,fun a=> ?_⟩⟩⟩
 ·have a:=of_decide_eq_true a;have ei:i<16:=by omega
  have es:=GK x.r ei;rw[Int.toNat_natCast,es];refine⟨by omega,fun b=>⟨rfl,by omega,by omega,by omega,i+1,by omega,by omega,?_,af.refl _,af.refl _,af.refl _,af.refl _,trivial⟩,fun b=>⟨by omega,i+1,by omega,by omega,?_,af.refl _,af.refl _,af.refl _,af.refl _,trivial⟩⟩
  ·have b: ¬ x.r i=[]:=by simpa using b
   exact Ox (f:=fun j=>if i=j then x.r i else bY x.r i j) (g:=bY x.r (i+1)) fun j hj=>adP ei b j
  ·have b:x.r i=[]:=by simpa using b
   exact Ox fun j hj=>adO b j
 ·have a:=of_decide_eq_false a;have e:i=16:=by omega
  subst e;have h1:=hx.v;have h2:=nX x.v;have hb:=anc hx 16;have h6:(flat [bY x.r 16 0,bY x.r 16 1,bY x.r 16 2,bY x.r 16 3,bY x.r 16 4,bY x.r 16 5,bY x.r 16 6,bY x.r 16 7,bY x.r 16 8,bY x.r 16 9,bY x.r 16 10,bY x.r 16 11,bY x.r 16 12,bY x.r 16 13,bY x.r 16 14,bY x.r 16 15,aB x.v]).length<=17*2000:=by
   refine YO (m:=2000) fun y hy=> ?_;simp only[List.mem_cons,List.not_mem_nil,or_false] at hy;rcases hy with rfl | rfl | rfl | rfl | rfl | rfl | rfl | rfl | rfl | rfl | rfl | rfl | rfl | rfl | rfl | rfl | rfl
   ·exact Nat.le_trans (hb 0 (by decide)) (by decide)
   ·exact Nat.le_trans (hb 1 (by decide)) (by decide)
   ·exact Nat.le_trans (hb 2 (by decide)) (by decide)
   ·exact Nat.le_trans (hb 3 (by decide)) (by decide)
   ·exact Nat.le_trans (hb 4 (by decide)) (by decide)
   ·exact Nat.le_trans (hb 5 (by decide)) (by decide)
   ·exact Nat.le_trans (hb 6 (by decide)) (by decide)
   ·exact Nat.le_trans (hb 7 (by decide)) (by decide)
   ·exact Nat.le_trans (hb 8 (by decide)) (by decide)
   ·exact Nat.le_trans (hb 9 (by decide)) (by decide)
   ·exact Nat.le_trans (hb 10 (by decide)) (by decide)
   ·exact Nat.le_trans (hb 11 (by decide)) (by decide)
   ·exact Nat.le_trans (hb 12 (by decide)) (by decide)
   ·exact Nat.le_trans (hb 13 (by decide)) (by decide)
   ·exact Nat.le_trans (hb 14 (by decide)) (by decide)
   ·exact Nat.le_trans (hb 15 (by decide)) (by decide)
   ·omega
  have h7:=xG 192 (((flat [bY x.r 16 0,bY x.r 16 1,bY x.r 16 2,bY x.r 16 3,bY x.r 16 4,bY x.r 16 5,bY x.r 16 6,bY x.r 16 7,bY x.r 16 8,bY x.r 16 9,bY x.r 16 10,bY x.r 16 11,bY x.r 16 12,bY x.r 16 13,bY x.r 16 14,bY x.r 16 15,aB x.v]).length:Nat):Int).toNat;have e:iI x=cat (cP 192 (((flat [bY x.r 16 0,bY x.r 16 1,bY x.r 16 2,bY x.r 16 3,bY x.r 16 4,bY x.r 16 5,bY x.r 16 6,bY x.r 16 7,bY x.r 16 8,bY x.r 16 9,bY x.r 16 10,bY x.r 16 11,bY x.r 16 12,bY x.r 16 13,bY x.r 16 14,bY x.r 16 15,aB x.v]).length:Nat):Int).toNat) (flat [bY x.r 16 0,bY x.r 16 1,bY x.r 16 2,bY x.r 16 3,bY x.r 16 4,bY x.r 16 5,bY x.r 16 6,bY x.r 16 7,bY x.r 16 8,bY x.r 16 9,bY x.r 16 10,bY x.r 16 11,bY x.r 16 12,bY x.r 16 13,bY x.r 16 14,bY x.r 16 15,aB x.v]):=by rw[iI,ee,Int.toNat_natCast];rfl
  generalize flat [bY x.r 16 0,bY x.r 16 1,bY x.r 16 2,bY x.r 16 3,bY x.r 16 4,bY x.r 16 5,bY x.r 16 6,bY x.r 16 7,bY x.r 16 8,bY x.r 16 9,bY x.r 16 10,bY x.r 16 11,bY x.r 16 12,bY x.r 16 13,bY x.r 16 14,bY x.r 16 15,aB x.v]=F at *;exact⟨by omega,rfl,by omega,by omega,by omega,fun E=>by rw[e]⟩
theorem Ti:au Tryz.prog 244 (aT (gI fun _=>some (True,.str false [128]))):=by refine kU PL (n:=20) (fn:=Tryz.f244) Tryz.func244 (by kernel_rfl) (by kernel_rfl) ?_;intro args p r h hp;obtain⟨x,hx,hg⟩:=qW h;subst hx;injection hg with hg;injection hg with h1 h2;subst h1;subst h2;exact⟨Td x,rfl,(by refine aq.j7 (X8 x _) (by delta k8 iP mM;exact rfl) ?_;exact⟨by omega,fun E=>rfl⟩)⟩
theorem SG:au Tryz.prog 245 (aT (gI fun x=>some (x.th,.str false (n8 x)))):=by refine kU PL (n:=20) (fn:=Tryz.f245) Tryz.func245 (by kernel_rfl) (by kernel_rfl) ?_;intro args p r h hp;obtain⟨x,hx,hg⟩:=qW h;subst hx;injection hg with hg;injection hg with h1 h2;subst h1;subst h2;exact⟨Td x,rfl,I5 hp⟩
theorem V3:au Tryz.prog 246 (aT (gI fun x=>some (x.th,.str false (wX x)))):=by refine kU PL (n:=20) (fn:=Tryz.f246) Tryz.func246 (by kernel_rfl) (by kernel_rfl) ?_;intro args p r h hp;obtain⟨x,hx,hg⟩:=qW h;subst hx;injection hg with hg;injection hg with h1 h2;subst h1;subst h2;exact⟨Td x,rfl,Lu hp⟩
theorem Ln:au Tryz.prog 247 (aT (gI fun x=>some (x.th,.str false (iI x)))):=by refine gz (fE (n:=20) (fn:=Tryz.f247) Tryz.func247 (by kernel_rfl) (by kernel_rfl) ?_);intro args p a h hp;obtain⟨⟨p0,v0⟩,hq,hpa⟩:=Option.map_eq_some_iff.1 h;obtain⟨x,hx,hg⟩:=qW hq;subst hx;injection hg with hg;injection hg with g1 g2;subst g1;subst g2;injection hpa with h1 h2;subst h1;subst h2;exact⟨_,anv x,Td x,rfl,D0 hp⟩
noncomputable def Qe:List (FuncId×PT):=(241,aT (gI fun x=>some (True,.bool false (pn x))))::(244,aT (gI fun _=>some (True,.str false [128]))) ::
 (245,aT (gI fun x=>some (x.th,.str false (n8 x))))::(246,aT (gI fun x=>some (x.th,.str false (wX x))))::(247,aT (gI fun x=>some (x.th,.str false (iI x))))::Qd
theorem Ez:aU Tryz.prog (fun f=>aA f Qe):=.cons akA (aN _) (.cons Ti (aN _) (.cons SG (aN _) (.cons V3 (aN _) (.cons Ln (aN _) Ey))))
noncomputable def Cb:gF:={cF with cM:=fun f=>aA f Qe}
theorem PM:Sx.Good Tryz.prog Cb:=.of bO Ez bt
def ale (s:List UInt8)(i:Nat):List SV:=[.int .i64 false 3,.str false [],.str false [],.str false (G8 s i 0),.str false (G8 s i 1),.str false (G8 s i 2),.str false (G8 s i 3),.str false (G8 s i 4),.str false (G8 s i 5),.str false (G8 s i 6),.str false (G8 s i 7),.str false (G8 s i 8),.str false (G8 s i 9),.str false (G8 s i 10),.str false (G8 s i 11),.str false (G8 s i 12),.str false (G8 s i 13),.str false (G8 s i 14),.str false (G8 s i 15)]
noncomputable def apI (s:List UInt8):bp :=
 {α:=Nat,pre:=fun _ i=>i<=16,sM:=fun _ i=>16 - i,fresh:=0,slots:=fun _ i=>[(9,.int .i64 false i)],
  mem:=fun st i=>match slot st.tmps 4 with
   | some (.ptr k _ _)=>[(k,.cells (ale (aa s) i) 19 246)]
   | _=>[]}
noncomputable def aee (s:List UInt8):gF:={cF with cM:=fun f=>aA f Qe,aR:=fun f=>if f=258 then [(3,always (apI s))] else []}
theorem anW (s:List UInt8):Sx.Good Tryz.prog (aee s):=.of bO Ez bt
section
variable (n : Nat) (s t : List UInt8) (p q r : Prop) (v w y z o : SV) (B D : SB) (f : Nat -> List UInt8) (h : Nat -> SV) (x : Nat -> Nat -> SV) (g : Nat -> SB)
abbrev ja:=SV.str true List.nil
abbrev zY:=aD ja ja ja ja ja ja ja ja (aD ja ja ja ja ja ja ja ja List.nil)
abbrev G6:=gA (ah v w) (ah v y) (gA (ah v z) (ah v o) (∃(a:Nd),ah v (cQ (Nd.sv a) (SV.bool true false) List.nil)) (aY s) 2 (aY s) 3) (aY s) 0 (aY s) 1
abbrev ak8:=aD (x 0 n) (x 1 n) (x 2 n) (x 3 n) (x 4 n) (x 5 n) (x 6 n) (x 7 n) (aD (x 8 n) (x 9 n) (x 10 n) (x 11 n) (x 12 n) (x 13 n) (x 14 n) (x 15 n) List.nil)
abbrev dV:=dW (g n)
abbrev uz:=ax List.nil
abbrev lN:=aH (aa s)
abbrev c6:=p/\True
abbrev wH:=c6 (Sr B)
abbrev dA:=aj (aa s) n
abbrev uA:=aa (dA 0 s)
abbrev TS:Nat->Nat->SV:=fun a=>fun b=>ax (G8 (aa s) b a)
abbrev Gb:=aa (dA 16 s)
abbrev bS:=0+lF n
abbrev lQ:=gj (bx 0) (aF cn cn zY)
abbrev NV:=cR 19 (bC 3) (aF uz uz (ak8 n x)) 246
abbrev rQ:=NI (lN s)
abbrev Kj:=eC (lN s) n 9 (bD (aj (aa s)))
abbrev ahK:=gA (ah (h n) v) (ah (h n) w) (gA (ah (h n) y) (ah (h n) z) (∃(a:Nd),ah (h n) (cY (Nd.sv a) pL)) (aY s) 2 (aY s) 3) (aY s) 0 (aY s) 1
abbrev eV:=decide (s=t)
abbrev uJ:=aK.at n (aK.str f)
abbrev iY:=aI p q (Sr B) (Sr D) r
end
theorem apg (s:List UInt8):VC.holds (jy (aee s) 203 Tryz.f203 [.str false s] (ah4 s))=((fun(a:Nat->Nat->SV)=>(fun(b:Nat->Nat->SV)=>(fun(c:Nat->Nat->SV)=>(fun(d:Nat->Nat->SV)=>(fun(e:Nat->Nat->SV)=>(fun(f:SV)=>(fun(g:SB)=>(fun(h:SV)=>(fun(i:SV)=>(fun(j:SV)=>(fun(k:SV)=>(fun(l:Nat->SV)=>(fun(m:Nat->SV)=>(fun(n:SV)=>(fun(o:SV)=>(fun(p:SV)=>(fun(q:Nat->SB)=>(fun(r:SV)=>iP/\Fk (s=aB List.nil) (G6 s k r o p n) (aS (dj s) (bn (G6 s f r o p n) (bn (G6 s f r o p n) (aS (yq s<1099511627776) (∀(k:Nat),aX (lN s) k (gA (gp (Ix 0 (rQ s)) (0<lN s) (Ix 1 (rQ s)) (1<lN s) (dj (dA 0 s)) (Bk (fy (dA 0 s)) (aS (dS (uA s)) (bn (G6 s i r o p n) (aS (dj (dA 1 s)) (G6 s h r o p n) (G6 s j r o p n) (fy (dA 1 s))) (fH (uA s))) (G6 s f r o p n) (nu (uA s))) (G6 s f r o p n))) ((∃(b:Nat),bT b 16 (iY (fh b) (bH 19 (NV b a) (bx 3::aF cn cn zY) 246) (wH g) g (q k)))/\(∀(a:Nat),aX a 16 (Fk (wP a) (aI (qq a (rQ s)) (bS a<lN s) iP (dV k q) (bn (gp (qq a (rQ s)) (bS a<lN s) (qq a 16) (lF a<16) (jb a) (∃(d:Nat),sS d a/\iY (gU a d) (af (NV a b) (NV d c)) (wH g) g (q k))) (fN a (fun b=>sS b a/\iY (gU a b) (af (NV a d) (NV b e)) (wH g) g (q k))) (eV (dA (bS a) s) (aB List.nil)))) (aL (Ix 16 (rQ s)) (16<lN s) (dj (dA 16 s)) (Bk (fy (dA 16 s)) (ahK a s r o p n l) (ahK a s r o p n m)))))) (G6 s f r o p n) (rQ s) 2 (rQ s) 17)) (G6 s f r o p n) (dU (aa s))) (dX (aC s))) (dD s)) (G6 s f r o p n) (cA s))) (lu jB)) (fun a=>Kj a s)) (lu (Nd.Fh (AN s) true 2))) (lu (Nd.Fh (tA s) true 1))) (lu (Nd.Fh (lW s) true 3))) (fun a=>cY (gj (bC 3) (aF uz cn (ak8 a d))) pL)) (fun a=>lu (gj (bC 3) (aF uz (ax (Gb s)) (ak8 a d))))) (lu lQ)) (cY (gj (bx 1) (aF (ax (gP (uA s))) cn zY)) pL)) (lu (gj vT (aF (ax (gP (uA s))) cn (aD (uJ 1 (aj (aa s))) cn cn cn cn cn cn cn (aD cn cn cn cn cn cn cn cn List.nil)))))) (lu (gj (bx 1) (aF (ax (gP (uA s))) (ax (aa (dA 1 s))) zY)))) (c8 19 lQ 246)) (cY lQ pL)) (TS s)) (TS s)) (TS s)) (fun a=>fun b=>ax (if lF b=a then dA (bS b) s else G8 (aa s) b a))) (TS s)):=by kernel_rfl
end Go.Proofs.YtpaaiebohjjieaaGreatDoor
