/-
  Canon: plain laws: the nodes of rows may be.
-/
import Derived.Test.YtoibaecagklkaaaGreatDoorMq
import Derived.Test.YtoibaecagklkaaaGreatDoorMo
import Derived.Test.YtoibaecagklkaaaGreatDoorMl
open And renaming intro->K
open Bool renaming and_eq_true->b_,false->d,false_or->S,true->A,true_and->b!
open Decidable renaming decide->G
open Go.IntKind renaming i64->D
open Go.LoopState renaming ready->J
open Go.Op renaming bytesLess->M
open Go.Proofs.Tryz renaming f51->V,f84->P,func84->cl,prog->N
open Int renaming toNat_natCast->W
open List renaming all_eq_true->ct,cons_ne_nil->X,drop_zero->cx,getElem?_cons_zero->cy,getLastD_cons->Y,length_append->Z,length_cons->an,map_congr_left->cR,map_cons->a_,map_map->a!,mem_cons->c4,mem_cons_self->H,mem_flatMap->c5,mem_range->O,range->Q,range_succ_eq_map->bf
open Nat renaming not_lt_zero->L,zero_add->bW,zero_le->c_
open Option renaming none->C,some->F
open UInt8 renaming lt_iff_toNat_lt->b7,ofNat->I,toNat_ofNat'->c!
namespace Go.Proofs.YtoibaecagklkaaaGreatDoor
open Go Sx
variable {l:List Rw}{t:List UInt8}{i k m n:Nat}{x:Nd}{p:Prop}{ty:TypeId}{s:Wk}
section
open Go Sx
set_option maxRecDepth 20000
theorem gA {s:List UInt8}(h:s.length<32):dZ s=s:=if_pos h
theorem gJ {s:List UInt8}(h: ¬ s.length<32):aQ (dZ s)=A/\ai (dZ s)=aG s/\(dZ s).length=33:=by
 have e:dZ s=aA (aG s)++[]:=by rw[dZ,if_neg h,List.append_nil]
 obtain⟨h1,h2,h3,h4⟩:=J9 (b:=aG s) (by rw[wj];decide) [];rw[← e] at h1 h2 h3 h4;have hb:aQ (dZ s)=true:=qR.2 ⟨⟨h1,h2,h4⟩,by rw[h3];exact wj s⟩;exact⟨hb,h3,kH hb⟩
theorem n7 (h:aX x=A)(hk:x.k≠0)(hl:(cS x).length<32):bp (cS x)=A/\(getD (cS x)).Fa x:=by obtain⟨g1,g2⟩:=gr h;refine⟨?_,g2⟩;rw[xx,decide_eq_true hl,g1,decide_eq_false (by rw[g2.k];exact hk)];rfl
theorem vE (h:aX x=A)(hk:x.k≠0):iV bp (dZ (cS x))=A/\dZ (cS x)≠[]:=by
 by_cases hl:(cS x).length<32
 ·have e:=gA hl;refine⟨?_,?_⟩
  ·rw[e,iV,(n7 h hk hl).1];simp
  ·rw[e];have:=(Oc h).1;intro e0;rw[e0] at this;simp at this
 ·obtain⟨h1,_,h3⟩:=gJ hl;refine⟨by rw[iV,h1];rfl,λe0=> ?_⟩;rw[e0] at h3;simp at h3
theorem L0 {p:List UInt8}(h: ∀ b,b∈ p->b.toNat<16):ij p=true:=by
 unfold ij;rw[ct];intro i hi;have hi:=O.1 hi;have:ah p (i:Int)=((p[i]).toNat:Int):=by unfold ah;simp[List.getElem?_eq_getElem hi]
 have hb:=h p[i] (List.getElem_mem hi);rw[Gr,this,decide_eq_false (by omega)];rfl
theorem H6 (r:Nat->List UInt8): ∀ n,0<=dz r n
 | 0=>Int.le_refl _
 | n+1=>by have:=H6 r n;unfold dz;split<;>omega
theorem xu {r:Nat->List UInt8}{i:Nat}(hr:r i≠[]): ∀ {n},i<n->1<=dz r n
 | 0,h=>absurd h (L _)
 | n+1,h=>by
   unfold dz;by_cases e:i=n
   ·subst e;rw[if_neg hr];have:=H6 r i;omega
   ·have:=xu hr (n:=n) (by omega);split<;>omega
theorem xw {r:Nat->List UInt8}{i j:Nat}(hij:i<j)(hi:r i≠[])(hj:r j≠[]): ∀ {n},j<n->2<=dz r n
 | 0,h=>absurd h (L _)
 | n+1,h=>by
   unfold dz;by_cases e:j=n
   ·subst e;rw[if_neg hj];have:=xu hi (n:=j) hij;omega
   ·have:=xw hij hi hj (n:=n) (by omega);split<;>omega
theorem N0 {r:Nat->List UInt8}: ∀ {n},(∀ i,i<n->r i=[]∨iV bp (r i)=A)->jE bp r n=A
 | 0,_=>rfl
 | n+1,h=>by
   unfold jE;rw[N0 λi hi=>h i (by omega)];rcases h n (Nat.lt_succ_self n)with e | e
   ·rw[decide_eq_true e];rfl
   ·rw[e];simp
theorem KA (ht:t≠[]):cD (bL t) 16=1:=by
 have key: ∀ n,n<16->cD (bL t) (n+1)=1:=by
  intro n;induction n with
  | zero=>intro _;unfold cD;rw[pN t 0 (by decide),if_pos rfl,if_neg ht];rfl
  | succ n ih =>
    intro hn;have e:bL t (n+1)=[]:=by rw[pN t (n+1) hn,if_neg (by omega)]
    unfold cD;rw[if_pos e];exact ih (by omega)
 exact key 15 (by decide)
theorem O7 {a b:UInt8}{p q:List UInt8}(h: ¬ 0<bP (a::p) (b::q)):a≠b:=λe=>by subst e;unfold bP at h;rw[if_pos rfl] at h;exact h (Nat.succ_pos _)
theorem TM {r s:Rw}{t:List Rw}(hl:l=r::s::t)(hc: ¬ 0<bP r.1 ((s::t).getLastD r).1){b:UInt8}{q v:List UInt8}(hx:(b::q,v)∈ l):aB l b.toNat≠[]:=by subst hl;rw[cC,if_neg hc];intro e;have:(q,v)∈ cq 1 (bI b.toNat (r::s::t)):=List.mem_map.2 ⟨(b::q,v),List.mem_filter.2 ⟨hx,by simp[k7]⟩,rfl⟩;rw[e] at this;cases this
theorem qI {r s:Rw}{t:List Rw}(k:Nat):(cq k (r::s::t))=(r.1.drop k,r.2)::(s.1.drop k,s.2)::cq k t:=rfl
theorem xH (k:Nat): ∀(r:Rw) (l:List Rw),(cq k l).getLastD (r.1.drop k,r.2)=((l.getLastD r).1.drop k,(l.getLastD r).2)
 | r,[]=>rfl
 | r,s::l=>by
   rw[show cq k (s::l)=(s.1.drop k,s.2)::cq k l from rfl,Y,Y]
   exact xH k s l
theorem xj: ∀(a b:List UInt8),bP (a.drop (bP a b)) (b.drop (bP a b))=0
 | [],b=>by simp[bP]
 | a::p,[]=>by simp[bP]
 | a::p,b::q=>by
   by_cases e:a=b
   ·have:bP (a::p) (b::q)=bP p q+1:=by simp only[bP,if_pos e]
    rw[this];simp only[List.drop_succ_cons];exact xj p q
   ·have:bP (a::p) (b::q)=0:=by simp only[bP,if_neg e]
    rw[this,cx,cx,this]
theorem SN (hl:l≠[]):(bn (m+1) l).k≠0/\((bn (m+1) l).k=3↔∃ r s t,l=r::s::t/\¬ 0<bP r.1 ((s::t).getLastD r).1):=by
 match l,hl with
 | [r],_=>exact⟨by show(1:Int)≠0;decide,⟨λh=>absurd h (by show ¬ (1:Int)=3;decide),fun⟨_,_,_,h,_⟩=>by cases h⟩⟩
 | r::s::t,_ =>
   have e:bn (m+1) (r::s::t)=ga (λl'=>if l'=[] then [] else dZ (cS (bn m l'))) (r::s::t):=rfl
   rw[e];unfold ga;dsimp only;by_cases hk:0<bP r.1 ((s::t).getLastD r).1
   ·rw[if_pos hk];exact⟨by show(2:Int)≠0;decide,⟨λh=>absurd h (by show ¬ (2:Int)=3;decide),fun⟨r',s',t',h,h2⟩=>by injection h with h1 h;injection h with h3 h4;subst h1;subst h3;subst h4;exact absurd hk h2⟩⟩
   ·rw[if_neg hk];exact⟨by show(3:Int)≠0;decide,⟨λ_=>⟨r,s,t,rfl,hk⟩,λ_=>rfl⟩⟩
theorem abD (hk:x.k=3):aX x=dQ bp x:=by unfold aX iX;rw[hk];rfl
theorem dg: ∀ {m:Nat} {l:List Rw},m<=13->bV m l->l≠[]->aX (bn m l)=A
 | 0,[],_,_,h=>absurd rfl h
 | 0,r::_,_,h,_=>absurd (h.len r (H ..)) (L _)
 | m+1,[],_,_,h=>absurd rfl h
 | m+1,[r],hm,h,_=>by have h1:=h.len r (H ..);exact Lx (by omega) (L0 (h.Kv r (H ..))) (h.val r (H ..))
 | m+1,r::s::t,hm,h,_=>by
   have kid: ∀ i,aB (r::s::t) i≠[]->iV bp (dZ (ctext m (aB (r::s::t) i)))=A/\dZ (ctext m (aB (r::s::t) i))≠[]:=λi hi=>by
    have hv:=dg (m:=m) (by omega) (fD h i) hi;have hk:(bn m (aB (r::s::t) i)).k≠0:=by
     match m,fD h i with
     | 0,ho =>
       cases hkr:aB (r::s::t) i with
       | nil=>exact absurd hkr hi
       | cons x y=>rw[hkr] at ho;exact absurd (ho.len x (H ..)) (L _)
     | m+1,_=>exact(SN hi).1
    exact vE hv hk
   have hr:=h.len r (H ..);by_cases hk:0<bP r.1 ((s::t).getLastD r).1
   ·have e:bn (m+1) (r::s::t)=⟨2,r.1.take (bP r.1 ((s::t).getLastD r).1),[],bL (dZ (ctext m (aB (r::s::t) 0)))⟩:=by
     show ga _ (r::s::t)=_;unfold ga;dsimp only;rw[if_pos hk];have:aB (r::s::t) 0≠[]:=by rw[cC,if_pos hk,if_pos rfl,qI];exact X _ _
     rw[if_neg this];rfl
    have hk0:aB (r::s::t) 0=cq (bP r.1 ((s::t).getLastD r).1) (r::s::t):=by rw[cC,if_pos hk,if_pos rfl]
    have hne:aB (r::s::t) 0≠[]:=by rw[hk0,qI];exact X _ _
    obtain⟨g1,g2⟩:=kid 0 hne;have hle:=(zO r.1 ((s::t).getLastD r).1).1;rw[e];show ny bp _=A;unfold ny gW;dsimp only;have e0:bL (dZ (ctext m (aB (r::s::t) 0))) 0=dZ (ctext m (aB (r::s::t) 0)):=by rw[pN _ 0 (by decide)];exact if_pos rfl
    simp only[e0];rw[L0 (λb hb=>h.Kv r (H ..) b (List.mem_of_mem_take hb)),KA g2];rw[List.length_take,Nat.min_eq_left hle,decide_eq_true (show(1:Int)<=(bP r.1 ((s::t).getLastD r).1:Int)by omega),decide_eq_true (show(bP r.1 ((s::t).getLastD r).1:Int)<=12 by omega)];simp only[decide_true,b!,Bool.and_self];rcases Bool.eq_false_or_eq_true (aQ (dZ (ctext m (aB (r::s::t) 0))))with hh | hh
    ·rw[hh];rfl
    ·rw[iV,hh,S] at g1;rw[hh,g1,S,b!];have hlt:(ctext m (aB (r::s::t) 0)).length<32:=by
      by_cases hlt:(ctext m (aB (r::s::t) 0)).length<32
      ·exact hlt
      ·rw[(gJ hlt).1] at hh;cases hh
     rw[gA hlt];have ho:=fD h 0;have hv:=dg (m:=m) (by omega) ho hne;rw[show getD (ctext m (aB (r::s::t) 0))=bn m (aB (r::s::t) 0)from eD hv]
     match m,ho with
     | 0,ho =>
       cases hkr:aB (r::s::t) 0 with
       | nil=>exact absurd hkr hne
       | cons x y=>rw[hkr] at ho;exact absurd (ho.len x (H ..)) (L _)
     | m+1,_ =>refine decide_eq_true ((SN hne).2.2 ⟨_,_,_,hk0.trans (qI _),?_⟩);have:((s.1.drop (bP r.1 ((s::t).getLastD r).1),s.2)::cq (bP r.1 ((s::t).getLastD r).1) t).getLastD (r.1.drop (bP r.1 ((s::t).getLastD r).1),r.2)=_:=xH (bP r.1 ((s::t).getLastD r).1) r (s::t);rw[this,xj];exact Nat.lt_irrefl 0
   ·have e:bn (m+1) (r::s::t)=⟨3,[],if r.1=[] then r.2 else [],dB λi=>if aB (r::s::t) i=[] then [] else dZ (ctext m (aB (r::s::t) i))⟩:=by show ga _ (r::s::t)=_;unfold ga;dsimp only;rw[if_neg hk];rfl
    have hget: ∀ i,i<16->(dB λi=>if aB (r::s::t) i=[] then [] else dZ (ctext m (aB (r::s::t) i))) i=if aB (r::s::t) i=[] then [] else dZ (ctext m (aB (r::s::t) i)):=λi hi=>BK _ i hi
    have full: ∀ i,i<16->aB (r::s::t) i≠[]->(dB λi=>if aB (r::s::t) i=[] then [] else dZ (ctext m (aB (r::s::t) i))) i≠[]:=λi hi hne=>by rw[hget i hi,if_neg hne];exact(kid i hne).2
    have hrv:=h.val r (H ..);have hlast:(s::t).getLastD r∈ r::s::t:=n9 r (s::t);have hls:M r.1 ((s::t).getLastD r).1=true:=by have hp:=h.yb;unfold tO at hp;rw[List.pairwise_cons] at hp;refine hp.1 _ ?_;rw[Y];exact n9 s t
    rw[e,abD rfl];unfold dQ;dsimp only;have hcount:(2:Int)<=min ((if r.1=[] then r.2 else []).length:Int) 1+dz (dB λi=>if aB (r::s::t) i=[] then [] else dZ (ctext m (aB (r::s::t) i))) 16:=by
     generalize hz:(s::t).getLastD r=z at hk hlast hls;obtain⟨rp,rv⟩:=r;obtain⟨zp,zv⟩:=z;cases zp with
     | nil=>cases rp<;>simp[M] at hls
     | cons b q =>
       have hb:b.toNat<16:=h.Kv _ hlast b (H ..);have hkb:aB ((rp,rv)::s::t) b.toNat≠[]:=TM rfl (by rw[hz];exact hk) hlast;cases rp with
       | nil =>have:=xu (full _ hb hkb) (n:=16) hb;simp only[if_true];have h1:0<rv.length:=hrv.1;omega
       | cons a p =>
         have ha:a.toNat<16:=h.Kv _ (H ..) a (H ..);have hka:aB ((a::p,rv)::s::t) a.toNat≠[]:=TM rfl (by rw[hz];exact hk) (H ..);have hab:a.toNat≠b.toNat:=λe=>O7 hk (UInt8.toNat_inj.1 e);rw[if_neg (X _ _)];have:2<=dz (dB λi=>if aB ((a::p,rv)::s::t) i=[] then [] else dZ (ctext m (aB ((a::p,rv)::s::t) i))) 16:=by
          rcases Nat.lt_or_gt_of_ne hab with hlt | hgt
          ·exact xw hlt (full _ ha hka) (full _ hb hkb) hb
          ·exact xw hgt (full _ hb hkb) (full _ ha hka) ha
         show(2:Int)<=min ((0:Nat):Int) 1+_;omega
    have hvl:((if r.1=[] then r.2 else []).length:Int)<=80:=by
     split
     ·have:=hrv.2;omega
     ·show((0:Nat):Int)<=80;omega
    rw[decide_eq_true hcount,decide_eq_true hvl,N0 λi hi=> ?_]
    ·rfl
    ·rw[hget i hi];by_cases hn:aB (r::s::t) i=[]
     ·exact .inl (if_pos hn)
     ·rw[if_neg hn];exact .inr (kid i hn).1
theorem AE (h:bV m l)(hl:l≠[]):(bn m l).k≠0:=by
 match m,h with
 | 0,ho =>
   cases l with
   | nil=>exact absurd rfl hl
   | cons x y=>exact absurd (ho.len x (H ..)) (L _)
 | m+1,_=>exact(SN hl).1
theorem lM (hi:i<16)(hk:aB l i≠[])(ht:t∈ cr m (aB l i)):t∈ cr (m+1) l:=by unfold cr;refine c5.2 ⟨i,O.2 hi,?_⟩;rw[if_neg hk];exact List.mem_append_right _ ht
theorem oR (hi:i<16)(hk:aB l i≠[])(hl: ¬ (ctext m (aB l i)).length<32):ctext m (aB l i)∈ cr (m+1) l:=by unfold cr;refine c5.2 ⟨i,O.2 hi,?_⟩;rw[if_neg hk,if_neg hl];exact List.mem_append_left _ (H ..)
theorem mz (b:UInt8)(k:List UInt8):aj (b::k)=I (b.toNat / 16)::I (b.toNat% 16)::aj k:=by
 have hb:ah (b::k) 0=(b.toNat:Int):=rfl;have e0:kM (b::k) 0=(b.toNat:Int) / 16:=by unfold kM;rw[if_pos rfl];rfl
 have e1:kM (b::k) 1=(b.toNat:Int)% 16:=by unfold kM;rw[if_neg (by decide)];rfl
 have e2: ∀ j:Nat,kM (b::k) (j+2)=kM k j:=λj=>by
  unfold kM;have:(((j+2:Nat):Int) / 2)=((j / 2+1:Nat):Int):=by omega
  have h2:((j:Int) / 2)=((j / 2:Nat):Int):=by omega
  have h3:(j+2)% 2=j% 2:=by omega
  rw[h3,this,ck,h2]
 have hn:2*(b::k).length=2*k.length+1+1:=by rw[an];omega
 unfold aj dw;rw[hn,bf,a_,a!,bf,a_,a!];simp only[bW,Function.comp,e0,e1,Nat.succ_eq_add_one];refine congr (congrArg _ ?_) (congr (congrArg _ ?_) ?_)
 ·congr 1
 ·congr 1
 ·refine cR λj _=> ?_;show I (kM (b::k) (j+2)).toNat=_;rw[e2]
theorem Jf (a b:UInt8)(p:List UInt8)(ha:a.toNat<16)(hb:b.toNat<16):bl (a::b::p)=I (a.toNat*16+b.toNat)::bl p:=by
 have e0:iz (a::b::p) 0=(a.toNat:Int)*16+(b.toNat:Int):=by have h1:ah (a::b::p) (2*((0:Nat):Int))=(a.toNat:Int):=rfl;have h2:ah (a::b::p) (2*((0:Nat):Int)+1)=(b.toNat:Int):=rfl;unfold iz;rw[h1,h2,Oa ⟨by omega,by omega⟩ ⟨by omega,by omega⟩]
 have e2: ∀ j:Nat,iz (a::b::p) (j+1)=iz p j:=λj=>by
  unfold iz
  rw[show(2*((j+1:Nat):Int))=((2*j+1+1:Nat):Int)by push_cast;omega,ck,ck,
   show(((2*j+1+1:Nat):Int)+1)=((2*j+1+1+1:Nat):Int)by push_cast;omega,ck,ck]
  rw[show((2*j+1:Nat):Int)=2*(j:Int)+1 by push_cast;omega,show((2*j:Nat):Int)=2*(j:Int)by push_cast;omega]
 have hn:(a::b::p).length / 2=p.length / 2+1:=by rw[an,an];omega
 unfold bl dw;rw[hn,bf,a_,a!];simp only[bW,e0];refine congr (congrArg _ ?_) (cR λj _=>by show I (iz (a::b::p) (j+1)).toNat=_;rw[e2])
 congr 1
theorem sJ (b:UInt8):(I (b.toNat / 16)).toNat=b.toNat / 16/\(I (b.toNat% 16)).toNat=b.toNat% 16:=by
 have:=b.toNat_lt;constructor
 ·rw[c!];omega
 ·rw[c!];omega
theorem mw: ∀(k:List UInt8),bl (aj k)=k
 | []=>rfl
 | b::k=>by have hb:=b.toNat_lt;obtain⟨h1,h2⟩:=sJ b;rw[mz,Jf _ _ _ (by rw[h1];omega) (by rw[h2];omega),mw k,h1,h2];congr 1;rw[show b.toNat / 16*16+b.toNat% 16=b.toNat by omega,UInt8.ofNat_toNat]
theorem mA: ∀(k:List UInt8) (b:UInt8),b∈ aj k->b.toNat<16
 | [],b,h=>by cases h
 | c::k,b,h=>by
   have hc:=c.toNat_lt;obtain⟨h1,h2⟩:=sJ c;rw[mz] at h;rcases c4.1 h with rfl | h
   ·rw[h1];omega
   ·rcases c4.1 h with rfl | h
    ·rw[h2];omega
    ·exact mA k b h
theorem Ji (k:List UInt8):k8 (aj k)=true:=by unfold k8;rw[L0 (mA k),ow,decide_eq_true (by omega)];rfl
theorem od (a b:UInt8)(p q:List UInt8):M (a::p) (b::q)=(G (a<b)||(G (a=b)&&M p q)):=by
 show(G (a<b)||(a==b&&M p q))=_;by_cases e:a=b
 ·subst e;simp
 ·simp[e]
theorem sA: ∀ {a b:List UInt8},M a b=A->M (aj a) (aj b)=A
 | [],[],h=>by cases h
 | [],b::q,_=>by rw[mz];rfl
 | a::p,[],h=>by cases h
 | a::p,b::q,h=>by
   have ha:=a.toNat_lt;have hb:=b.toNat_lt;obtain⟨a1,a2⟩:=sJ a;obtain⟨b1,b2⟩:=sJ b;rw[od,Bool.or_eq_true,b_,decide_eq_true_eq,decide_eq_true_eq] at h;rw[mz,mz,od,od];rcases h with h | ⟨rfl,h⟩
   ·have hlt:a.toNat<b.toNat:=b7.1 h;by_cases h1:a.toNat / 16<b.toNat / 16
    ·have:I (a.toNat / 16)<I (b.toNat / 16):=b7.2 (by rw[a1,b1];exact h1);rw[decide_eq_true this];rfl
    ·have e1:I (a.toNat / 16)=I (b.toNat / 16):=by congr 1;omega
     have:I (a.toNat% 16)<I (b.toNat% 16):=b7.2 (by rw[a2,b2];omega);rw[decide_eq_true e1,decide_eq_true this];simp
   ·rw[decide_eq_true rfl,decide_eq_true rfl,sA h];simp
theorem Km (m:Nat)(x:yK×Nd×List UInt8):VC.holds (runM (SF m x.1 x.2.1 x.2.2) 84 P (J' (m+1)) x)=((λP0:SB=>((λP1:SB=>((λP2:SB=>((λP3:SB=>((λP4:SB=>((λP5:(yK×List UInt8)->Nd=>((λP6:SB=>((λP7:SB=>((λP8:SB=>((λP9:(Nat×Wk×Nat×Nat)->SB=>((λP10:(Nat×Wk×Nat×Nat)->SB=>(((G (400<=(x.1.s.lk:Int))=A->(dj x.1.w (m+1) x.1.s x.2.1 x.2.2=A->∃(u52:Nat×Nat),((bz x.1.w (m+1) x.1.s x.2.1 x.2.2).ns.length<=u52.1/\(bz x.1.w (m+1) x.1.s x.2.1 x.2.2).fs.length<=u52.2)/\False)/\(dj x.1.w (m+1) x.1.s x.2.1 x.2.2=d->∃(u51:List UInt8×List UInt8),(0:Nat)=(0:Nat)/\aa (SB.cells [SV.str A [(116:UInt8),(111:UInt8),(111:UInt8),(32:UInt8),(109:UInt8),(97:UInt8),(110:UInt8),(121:UInt8),(32:UInt8),(110:UInt8),(111:UInt8),(100:UInt8),(101:UInt8),(115:UInt8)],SV.str A []] 2 207) (SB.cells [SV.str d u51.1,SV.str d u51.2] 2 207)/\True))/\(G (400<=(x.1.s.lk:Int))=d->I6 ((x.1.s.lk:Int)+1)/\((x.2.2.length:Int)+(x.2.1.p.length:Int)<=9223372036854775807/\((!decide (x.2.1.v=[]))=A->(x.1.w.fr.length<=1000/\x.1.w.to.length<=1000)/\(hasB x.1.w.fr x.1.w.to (cat x.2.2 x.2.1.p)=A->(cat x.2.2 x.2.1.p).length<1099511627776 /\(k8 (cat x.2.2 x.2.1.p)=A->F P8=F P8/\F P1=F P1/\F P1=F P1/\(0+x.1.s.fs.length<=x.1.s.fs.length/\True/\2*(x.1.s.fs.length+1)*32<=(281474976710656:Nat)/\x.1.s.fs.length+1<(9223372036854775808:Nat))/\x.1.c2*2=x.1.c2*2/\∀(u50:Nat),x.1.s.fs.length+1<=u50->F P1=F P1/\∃(u49:Nat),(if eS x.1.w x.2.1 x.2.2=A then x.1.s.fs++[(bl (cat x.2.2 x.2.1.p),x.2.1.v)] else x.1.s.fs).length<=u49/\(7:Nat)=(7:Nat)/\x.1.w.fr=x.1.w.fr/\x.1.w.to=x.1.w.to/\(0:Nat)=(0:Nat)/\(0:Nat)=(0:Nat)/\((0:Nat)=(0:Nat)/\x.1.s.ns.length=x.1.s.ns.length/\x.1.c1=x.1.c1)/\True/\(x.1.s.lk:Int)+1=(↑(x.1.s.lk+1):Int)/\((0:Nat)=(0:Nat)/\x.1.s.fs.length+1=(if eS x.1.w x.2.1 x.2.2=A then x.1.s.fs++[(bl (cat x.2.2 x.2.1.p),x.2.1.v)] else x.1.s.fs).length/\u50=u49)/\True /\aa (SB.rows A (x.1.s.fs.length+1) [ak.str λu48=>if u48<x.1.s.fs.length then(x.1.s.fs.getD u48 ([],[])).1 else bT [bl (cat x.2.2 x.2.1.p)] (u48 - x.1.s.fs.length),ak.str λu47=>if u47<x.1.s.fs.length then(x.1.s.fs.getD u47 ([],[])).2 else bT [x.2.1.v] (u47 - x.1.s.fs.length)] d (u50*2) 50) (dy (Wk.iW x.1.w x.1.s x.2.1 x.2.2) u49)/\aa P4 P4/\aa P2 P2/\aa P1 P1/\aa (eU x.1.s) (eU x.1.s)/\aa (dU x.1.s x.1.c1) (dU x.1.s x.1.c1)/\aa P7 P7/\aa (SB.fmap x.1.w.ad (aC.int D x.1.w.ag) C) (SB.fmap x.1.w.ad (aC.int D x.1.w.ag) C)/\aa P0 P0/\aa x.1.w.view x.1.w.view/\True)/\(k8 (cat x.2.2 x.2.1.p)=d->∃(u46:Nat),(if eS x.1.w x.2.1 x.2.2=A then x.1.s.fs++[(bl (cat x.2.2 x.2.1.p),x.2.1.v)] else x.1.s.fs).length<=u46/\(7:Nat)=(7:Nat)/\x.1.w.fr=x.1.w.fr/\x.1.w.to=x.1.w.to/\(0:Nat)=(0:Nat)/\(0:Nat)=(0:Nat)/\((0:Nat)=(0:Nat)/\x.1.s.ns.length=x.1.s.ns.length/\x.1.c1=x.1.c1)/\True /\(x.1.s.lk:Int)+1=(↑(x.1.s.lk+1):Int)/\((0:Nat)=(0:Nat)/\x.1.s.fs.length=(if eS x.1.w x.2.1 x.2.2=A then x.1.s.fs++[(bl (cat x.2.2 x.2.1.p),x.2.1.v)] else x.1.s.fs).length/\x.1.c2=u46)/\True/\aa (SB.rows A x.1.s.fs.length [bY x.1.s.fs,bZ x.1.s.fs] d (x.1.c2*2) 50) (dy (Wk.iW x.1.w x.1.s x.2.1 x.2.2) u46)/\aa P4 P4/\aa P2 P2/\aa P1 P1/\aa (eU x.1.s) (eU x.1.s)/\aa (dU x.1.s x.1.c1) (dU x.1.s x.1.c1)/\aa P7 P7/\aa (SB.fmap x.1.w.ad (aC.int D x.1.w.ag) C) (SB.fmap x.1.w.ad (aC.int D x.1.w.ag) C)/\aa P0 P0/\aa x.1.w.view x.1.w.view/\True))/\(hasB x.1.w.fr x.1.w.to (cat x.2.2 x.2.1.p)=d->∃(u45:Nat),(if eS x.1.w x.2.1 x.2.2=A then x.1.s.fs++[(bl (cat x.2.2 x.2.1.p),x.2.1.v)] else x.1.s.fs).length<=u45/\(7:Nat)=(7:Nat)/\x.1.w.fr=x.1.w.fr/\x.1.w.to=x.1.w.to/\(0:Nat)=(0:Nat)/\(0:Nat)=(0:Nat)/\((0:Nat)=(0:Nat)/\x.1.s.ns.length=x.1.s.ns.length/\x.1.c1=x.1.c1)/\True /\(x.1.s.lk:Int)+1=(↑(x.1.s.lk+1):Int)/\((0:Nat)=(0:Nat)/\x.1.s.fs.length=(if eS x.1.w x.2.1 x.2.2=A then x.1.s.fs++[(bl (cat x.2.2 x.2.1.p),x.2.1.v)] else x.1.s.fs).length/\x.1.c2=u45)/\True/\aa (SB.rows A x.1.s.fs.length [bY x.1.s.fs,bZ x.1.s.fs] d (x.1.c2*2) 50) (dy (Wk.iW x.1.w x.1.s x.2.1 x.2.2) u45)/\aa P4 P4/\aa P2 P2/\aa P1 P1/\aa (eU x.1.s) (eU x.1.s)/\aa (dU x.1.s x.1.c1) (dU x.1.s x.1.c1)/\aa P7 P7/\aa (SB.fmap x.1.w.ad (aC.int D x.1.w.ag) C) (SB.fmap x.1.w.ad (aC.int D x.1.w.ag) C)/\aa P0 P0/\aa x.1.w.view x.1.w.view/\True))/\((!decide (x.2.1.v=[]))=d->∃(u44:Nat),(if eS x.1.w x.2.1 x.2.2=A then x.1.s.fs++[(bl (cat x.2.2 x.2.1.p),x.2.1.v)] else x.1.s.fs).length<=u44/\(7:Nat)=(7:Nat)/\x.1.w.fr=x.1.w.fr/\x.1.w.to=x.1.w.to/\(0:Nat)=(0:Nat)/\(0:Nat)=(0:Nat)/\((0:Nat)=(0:Nat)/\x.1.s.ns.length=x.1.s.ns.length/\x.1.c1=x.1.c1)/\True /\(x.1.s.lk:Int)+1=(↑(x.1.s.lk+1):Int)/\((0:Nat)=(0:Nat)/\x.1.s.fs.length=(if eS x.1.w x.2.1 x.2.2=A then x.1.s.fs++[(bl (cat x.2.2 x.2.1.p),x.2.1.v)] else x.1.s.fs).length/\x.1.c2=u44)/\True/\aa (SB.rows A x.1.s.fs.length [bY x.1.s.fs,bZ x.1.s.fs] d (x.1.c2*2) 50) (dy (Wk.iW x.1.w x.1.s x.2.1 x.2.2) u44)/\aa P4 P4/\aa P2 P2/\aa P1 P1/\aa (eU x.1.s) (eU x.1.s)/\aa (dU x.1.s x.1.c1) (dU x.1.s x.1.c1)/\aa P7 P7/\aa (SB.fmap x.1.w.ad (aC.int D x.1.w.ag) C) (SB.fmap x.1.w.ad (aC.int D x.1.w.ag) C)/\aa P0 P0/\aa x.1.w.view x.1.w.view/\True))/\∀(u43:Nat),(if eS x.1.w x.2.1 x.2.2=A then x.1.s.fs++[(bl (cat x.2.2 x.2.1.p),x.2.1.v)] else x.1.s.fs).length<=u43->∀(u42:Loop),(∃(u41:Nat×Wk×Nat×Nat),(u41.1<=16/\cu x.1.w (kZ x.1.w m) x.2.1 x.2.2 u41.1 (Wk.iW x.1.w x.1.s x.2.1 x.2.2)=F u41.2.1/\u41.2.1.ns.length<=u41.2.2.1/\u41.2.1.fs.length<=u41.2.2.2) /\0=(u41.1:Int)/\(7:Nat)=(7:Nat)/\x.1.w.fr=x.1.w.fr/\x.1.w.to=x.1.w.to/\(0:Nat)=(0:Nat)/\(0:Nat)=(0:Nat)/\((0:Nat)=(0:Nat)/\x.1.s.ns.length=u41.2.1.ns.length/\x.1.c1=u41.2.2.1)/\True/\(↑(x.1.s.lk+1):Int)=(u41.2.1.lk:Int)/\((0:Nat)=(0:Nat)/\(if eS x.1.w x.2.1 x.2.2=A then x.1.s.fs++[(bl (cat x.2.2 x.2.1.p),x.2.1.v)] else x.1.s.fs).length=u41.2.1.fs.length/\u43=u41.2.2.2)/\True/\aa (SB.fmap x.1.s.ud (aC.int D x.1.s.us) C) (eU u41.2.1)/\aa (SB.rows A x.1.s.ns.length [jc x.1.s.ns] d (x.1.c1*1) 9) (dU u41.2.1 u41.2.2.1) /\aa (SB.rows A (if eS x.1.w x.2.1 x.2.2=A then x.1.s.fs++[(bl (cat x.2.2 x.2.1.p),x.2.1.v)] else x.1.s.fs).length [bY (if eS x.1.w x.2.1 x.2.2=A then x.1.s.fs++[(bl (cat x.2.2 x.2.1.p),x.2.1.v)] else x.1.s.fs),bZ (if eS x.1.w x.2.1 x.2.2=A then x.1.s.fs++[(bl (cat x.2.2 x.2.1.p),x.2.1.v)] else x.1.s.fs)] d (u43*2) 50) (dy u41.2.1 u41.2.2.2)/\aa (SB.loop J C u42) (SB.loop J C u42)/\aa P6 P6/\aa P3 P3/\aa P1 P1/\aa P4 P4/\aa P2 P2/\aa P1 P1/\aa P7 P7/\aa (SB.fmap x.1.w.ad (aC.int D x.1.w.ag) C) (SB.fmap x.1.w.ad (aC.int D x.1.w.ag) C)/\aa P0 P0/\aa x.1.w.view x.1.w.view/\True)/\∀(u40:Nat×Wk×Nat×Nat),u40.1<=16/\cu x.1.w (kZ x.1.w m) x.2.1 x.2.2 u40.1 (Wk.iW x.1.w x.1.s x.2.1 x.2.2)=F u40.2.1/\u40.2.1.ns.length<=u40.2.2.1/\u40.2.1.fs.length<=u40.2.2.2->(G ((u40.1:Int)<16)=A->(0<=(u40.1:Int)/\(u40.1:Int)<16 /\(u40.1:Int)<(↑(16:Nat):Int))/\(G (bT (cK x.2.1.r []) (u40.1:Int).toNat=[])=A->I6 ((u40.1:Int)+1)/\∃(u39:Nat×Wk×Nat×Nat),((u39.1<=16/\cu x.1.w (kZ x.1.w m) x.2.1 x.2.2 u39.1 (Wk.iW x.1.w x.1.s x.2.1 x.2.2)=F u39.2.1/\u39.2.1.ns.length<=u39.2.2.1/\u39.2.1.fs.length<=u39.2.2.2)/\16 - u39.1<16 - u40.1)/\(u40.1:Int)+1=(u39.1:Int)/\(7:Nat)=(7:Nat)/\x.1.w.fr=x.1.w.fr/\x.1.w.to=x.1.w.to/\(0:Nat)=(0:Nat)/\(0:Nat)=(0:Nat)/\((0:Nat)=(0:Nat)/\u40.2.1.ns.length=u39.2.1.ns.length/\u40.2.2.1=u39.2.2.1)/\True/\(u40.2.1.lk:Int)=(u39.2.1.lk:Int)/\((0:Nat)=(0:Nat)/\u40.2.1.fs.length=u39.2.1.fs.length/\u40.2.2.2=u39.2.2.2)/\True /\aa (SB.fmap u40.2.1.ud (aC.int D u40.2.1.us) C) (eU u39.2.1)/\aa (P10 u40) (dU u39.2.1 u39.2.2.1)/\aa (P9 u40) (dy u39.2.1 u39.2.2.2)/\aa (SB.loop J C u42) (SB.loop J C u42)/\aa P6 P6/\aa P3 P3/\aa P1 P1/\aa P4 P4/\aa P2 P2/\aa P1 P1/\aa P7 P7/\aa (SB.fmap x.1.w.ad (aC.int D x.1.w.ag) C) (SB.fmap x.1.w.ad (aC.int D x.1.w.ag) C)/\aa P0 P0/\aa x.1.w.view x.1.w.view/\True)/\(G (bT (cK x.2.1.r []) (u40.1:Int).toNat=[])=d->(x.2.2.length:Int)+(x.2.1.p.length:Int)<=9223372036854775807/\((G (x.2.1.k=3)=A->(↑(cat x.2.2 x.2.1.p).length:Int)+(↑(1:Nat):Int)<=9223372036854775807/\∃(_:Unit),True/\cat (cat x.2.2 x.2.1.p) [I ((u40.1:Int)% 256).toNat]=dR x.2.1 x.2.2 (u40.1:Int).toNat /\aa (Kq x.1.w u40.2.1 16 17 u40.2.2.1 u40.2.2.2) (Kq x.1.w u40.2.1 16 17 u40.2.2.1 u40.2.2.2)/\aa (eU u40.2.1) (eU u40.2.1)/\aa (dU u40.2.1 u40.2.2.1) (dU u40.2.1 u40.2.2.1)/\aa (dy u40.2.1 u40.2.2.2) (dy u40.2.1 u40.2.2.2)/\aa (SB.loop J C u42) (SB.loop J C u42)/\aa P6 P6/\aa P3 P3/\aa P1 P1/\aa P4 P4/\aa P2 P2/\aa P1 P1/\aa P7 P7/\aa (SB.fmap x.1.w.ad (aC.int D x.1.w.ag) C) (SB.fmap x.1.w.ad (aC.int D x.1.w.ag) C)/\aa P0 P0/\aa x.1.w.view x.1.w.view/\True)/\(G (x.2.1.k=3)=d->∃(_:Unit),True/\cat x.2.2 x.2.1.p=dR x.2.1 x.2.2 (u40.1:Int).toNat/\aa (Kq x.1.w u40.2.1 16 17 u40.2.2.1 u40.2.2.2) (Kq x.1.w u40.2.1 16 17 u40.2.2.1 u40.2.2.2)/\aa (eU u40.2.1) (eU u40.2.1)/\aa (dU u40.2.1 u40.2.2.1) (dU u40.2.1 u40.2.2.1)/\aa (dy u40.2.1 u40.2.2.2) (dy u40.2.1 u40.2.2.2) /\aa (SB.loop J C u42) (SB.loop J C u42)/\aa P6 P6/\aa P3 P3/\aa P1 P1/\aa P4 P4/\aa P2 P2/\aa P1 P1/\aa P7 P7/\aa (SB.fmap x.1.w.ad (aC.int D x.1.w.ag) C) (SB.fmap x.1.w.ad (aC.int D x.1.w.ag) C)/\aa P0 P0/\aa x.1.w.view x.1.w.view/\True))/\∀(_:Unit),True->(x.1.w.fr.length<=1000/\x.1.w.to.length<=1000)/\(bK x.1.w.fr x.1.w.to (dR x.2.1 x.2.2 (u40.1:Int).toNat)=A->u42=u42/\∃(u35:yK×List UInt8),(u35.1.w.Ok/\u35.1.s.Small/\(u35.1.s.ns.length<=u35.1.c1/\u35.1.s.fs.length<=u35.1.c2)/\u35.2.length<9223372036854775808)/\(0:Nat)=(0:Nat)/\bT (cK x.2.1.r []) (u40.1:Int).toNat=u35.2/\(7:Nat)=(7:Nat)/\x.1.w.fr=u35.1.w.fr/\x.1.w.to=u35.1.w.to/\(0:Nat)=(0:Nat)/\(0:Nat)=(0:Nat)/\((0:Nat)=(0:Nat) /\u40.2.1.ns.length=u35.1.s.ns.length/\u40.2.2.1=u35.1.c1)/\True/\(u40.2.1.lk:Int)=(u35.1.s.lk:Int)/\((0:Nat)=(0:Nat)/\u40.2.1.fs.length=u35.1.s.fs.length/\u40.2.2.2=u35.1.c2)/\True/\aa (SB.fmap u40.2.1.ud (aC.int D u40.2.1.us) C) (eU u35.1.s)/\aa (P10 u40) (dU u35.1.s u35.1.c1)/\aa (P9 u40) (dy u35.1.s u35.1.c2)/\(1:Nat)=(1:Nat)/\aa (SB.fmap x.1.w.ad (aC.int D x.1.w.ag) C) (SB.fmap u35.1.w.ad (aC.int D u35.1.w.ag) C)/\(1:Nat)=(1:Nat)/\(x.1.w.z=u35.1.w.z/\x.1.w.o=u35.1.w.o/\(0:Nat)=(0:Nat)/\x.1.w.n=u35.1.w.n/\x.1.w.c=u35.1.w.c)/\aa (SB.view x.1.w.z x.1.w.o x.1.w.n [ak.str x.1.w.f]) (SB.view u35.1.w.z u35.1.w.o u35.1.w.n [ak.str u35.1.w.f])/\(bp u35.2=A->∀(u34:Nat×Nat),u35.1.s.ns.length<=u34.1/\u35.1.s.fs.length<=u34.2->∃(u33:yK×Nd×List UInt8),(u33.1.w.Ok/\u33.1.s.Small/\(u33.1.s.ns.length<=u33.1.c1/\u33.1.s.fs.length<=u33.1.c2)/\u33.1.s.Fit (u33.1.s.lk+1)/\401<=u33.1.s.lk+m/\u33.2.1.lu /\u33.2.2.length<=13*u33.1.s.lk)/\(0:Nat)=(0:Nat)/\(getD u35.2).k=u33.2.1.k/\(getD u35.2).p=u33.2.1.p/\(getD u35.2).v=u33.2.1.v/\(getD u35.2).r 0=u33.2.1.r 0/\(getD u35.2).r 1=u33.2.1.r 1/\(getD u35.2).r 2=u33.2.1.r 2/\(getD u35.2).r 3=u33.2.1.r 3/\(getD u35.2).r 4=u33.2.1.r 4/\(getD u35.2).r 5=u33.2.1.r 5/\(getD u35.2).r 6=u33.2.1.r 6/\(getD u35.2).r 7=u33.2.1.r 7/\(getD u35.2).r 8=u33.2.1.r 8/\(getD u35.2).r 9=u33.2.1.r 9/\(getD u35.2).r 10=u33.2.1.r 10/\(getD u35.2).r 11=u33.2.1.r 11/\(getD u35.2).r 12=u33.2.1.r 12/\(getD u35.2).r 13=u33.2.1.r 13/\(getD u35.2).r 14=u33.2.1.r 14/\(getD u35.2).r 15=u33.2.1.r 15/\dR x.2.1 x.2.2 (u40.1:Int).toNat=u33.2.2/\(7:Nat)=(7:Nat)/\u35.1.w.fr=u33.1.w.fr/\u35.1.w.to=u33.1.w.to/\(0:Nat)=(0:Nat)/\(0:Nat)=(0:Nat)/\((0:Nat)=(0:Nat)/\u35.1.s.ns.length=u33.1.s.ns.length/\u34.1=u33.1.c1)/\True/\(u35.1.s.lk:Int)=(u33.1.s.lk:Int)/\((0:Nat)=(0:Nat) /\u35.1.s.fs.length=u33.1.s.fs.length/\u34.2=u33.1.c2)/\True/\aa (SB.fmap u35.1.s.ud (aC.int D u35.1.s.us) C) (eU u33.1.s)/\aa (SB.rows A u35.1.s.ns.length [ak.str λu32=>u35.1.s.ns.getD u32 []] d (u34.1*1) 9) (dU u33.1.s u33.1.c1)/\aa (SB.rows A u35.1.s.fs.length [ak.str λu31=>(u35.1.s.fs.getD u31 ([],[])).1,ak.str λu30=>(u35.1.s.fs.getD u30 ([],[])).2] d (u34.2*2) 50) (dy u33.1.s u33.1.c2)/\(1:Nat)=(1:Nat)/\aa (SB.fmap u35.1.w.ad (aC.int D u35.1.w.ag) C) (SB.fmap u33.1.w.ad (aC.int D u33.1.w.ag) C)/\(1:Nat)=(1:Nat)/\(u35.1.w.z=u33.1.w.z/\u35.1.w.o=u33.1.w.o/\(0:Nat)=(0:Nat)/\u35.1.w.n=u33.1.w.n/\u35.1.w.c=u33.1.w.c)/\aa (SB.view x.1.w.z x.1.w.o x.1.w.n [ak.str x.1.w.f]) (SB.view u33.1.w.z u33.1.w.o u33.1.w.n [ak.str u33.1.w.f])/\(dj u33.1.w m u33.1.s u33.2.1 u33.2.2=A->∀(u29:Nat×Nat),(bz u33.1.w m u33.1.s u33.2.1 u33.2.2).ns.length<=u29.1 /\(bz u33.1.w m u33.1.s u33.2.1 u33.2.2).fs.length<=u29.2->I6 ((u40.1:Int)+1)/\∃(u28:Nat×Wk×Nat×Nat),((u28.1<=16/\cu x.1.w (kZ x.1.w m) x.2.1 x.2.2 u28.1 (Wk.iW x.1.w x.1.s x.2.1 x.2.2)=F u28.2.1/\u28.2.1.ns.length<=u28.2.2.1/\u28.2.1.fs.length<=u28.2.2.2)/\16 - u28.1<16 - u40.1)/\(u40.1:Int)+1=(u28.1:Int)/\(7:Nat)=(7:Nat)/\u33.1.w.fr=x.1.w.fr/\u33.1.w.to=x.1.w.to/\(0:Nat)=(0:Nat)/\(0:Nat)=(0:Nat)/\((0:Nat)=(0:Nat)/\(bz u33.1.w m u33.1.s u33.2.1 u33.2.2).ns.length=u28.2.1.ns.length/\u29.1=u28.2.2.1)/\True/\(↑(bz u33.1.w m u33.1.s u33.2.1 u33.2.2).lk:Int)=(u28.2.1.lk:Int)/\((0:Nat)=(0:Nat)/\(bz u33.1.w m u33.1.s u33.2.1 u33.2.2).fs.length=u28.2.1.fs.length/\u29.2=u28.2.2.2)/\True /\aa (SB.fmap (bz u33.1.w m u33.1.s u33.2.1 u33.2.2).ud (aC.int D (bz u33.1.w m u33.1.s u33.2.1 u33.2.2).us) C) (eU u28.2.1)/\aa (SB.rows A (bz u33.1.w m u33.1.s u33.2.1 u33.2.2).ns.length [ak.str λu27=>(bz u33.1.w m u33.1.s u33.2.1 u33.2.2).ns.getD u27 []] d (u29.1*1) 9) (dU u28.2.1 u28.2.2.1)/\aa (SB.rows A (bz u33.1.w m u33.1.s u33.2.1 u33.2.2).fs.length [ak.str λu26=>((bz u33.1.w m u33.1.s u33.2.1 u33.2.2).fs.getD u26 ([],[])).1,ak.str λu25=>((bz u33.1.w m u33.1.s u33.2.1 u33.2.2).fs.getD u25 ([],[])).2] d (u29.2*2) 50) (dy u28.2.1 u28.2.2.2)/\aa (SB.loop J C u42) (SB.loop J C u42)/\aa P6 P6/\aa P3 P3/\aa P1 P1/\aa P4 P4/\aa P2 P2/\aa P1 P1/\aa P7 P7/\aa (SB.fmap u33.1.w.ad (aC.int D u33.1.w.ag) C) (SB.fmap x.1.w.ad (aC.int D x.1.w.ag) C)/\aa (SB.cells [SV.bH 7 1 u33.1.w.z u33.1.w.o 0 u33.1.w.n u33.1.w.c] 1 29) P0/\aa x.1.w.view x.1.w.view /\True)/\(dj u33.1.w m u33.1.s u33.2.1 u33.2.2=d->∀(u24:List UInt8×List UInt8),(dj x.1.w (m+1) x.1.s x.2.1 x.2.2=A->∃(u23:Nat×Nat),((bz x.1.w (m+1) x.1.s x.2.1 x.2.2).ns.length<=u23.1/\(bz x.1.w (m+1) x.1.s x.2.1 x.2.2).fs.length<=u23.2)/\False)/\(dj x.1.w (m+1) x.1.s x.2.1 x.2.2=d->∃(u22:List UInt8×List UInt8),(0:Nat)=(0:Nat)/\aa (SB.cells [SV.str d u24.1,SV.str d u24.2] 2 207) (SB.cells [SV.str d u22.1,SV.str d u22.2] 2 207)/\True)))/\(bp u35.2=d->(aQ u35.2=A->(bJ u35.1.w (ai u35.2)=A->∀(u21:Nat×Nat),(if u35.1.s.used (ai u35.2)=0 then u35.1.s.ns++[u35.1.w.at (ai u35.2)] else u35.1.s.ns).length<=u21.1/\u35.1.s.fs.length<=u21.2->∃(u20:yK×Nd×List UInt8),(u20.1.w.Ok/\u20.1.s.Small/\(u20.1.s.ns.length<=u20.1.c1/\u20.1.s.fs.length<=u20.1.c2)/\u20.1.s.Fit (u20.1.s.lk+1)/\401<=u20.1.s.lk+m/\u20.2.1.lu/\u20.2.2.length<=13*u20.1.s.lk)/\(0:Nat)=(0:Nat)/\(P5 u35).k=u20.2.1.k /\(P5 u35).p=u20.2.1.p/\(P5 u35).v=u20.2.1.v/\(P5 u35).r 0=u20.2.1.r 0/\(P5 u35).r 1=u20.2.1.r 1/\(P5 u35).r 2=u20.2.1.r 2/\(P5 u35).r 3=u20.2.1.r 3/\(P5 u35).r 4=u20.2.1.r 4/\(P5 u35).r 5=u20.2.1.r 5/\(P5 u35).r 6=u20.2.1.r 6/\(P5 u35).r 7=u20.2.1.r 7/\(P5 u35).r 8=u20.2.1.r 8/\(P5 u35).r 9=u20.2.1.r 9/\(P5 u35).r 10=u20.2.1.r 10/\(P5 u35).r 11=u20.2.1.r 11/\(P5 u35).r 12=u20.2.1.r 12/\(P5 u35).r 13=u20.2.1.r 13/\(P5 u35).r 14=u20.2.1.r 14/\(P5 u35).r 15=u20.2.1.r 15/\dR x.2.1 x.2.2 (u40.1:Int).toNat=u20.2.2/\(7:Nat)=(7:Nat)/\u35.1.w.fr=u20.1.w.fr/\u35.1.w.to=u20.1.w.to/\(0:Nat)=(0:Nat)/\(0:Nat)=(0:Nat)/\((0:Nat)=(0:Nat)/\(if u35.1.s.used (ai u35.2)=0 then u35.1.s.ns++[u35.1.w.at (ai u35.2)] else u35.1.s.ns).length=u20.1.s.ns.length/\u21.1=u20.1.c1)/\True/\(u35.1.s.lk:Int)=(u20.1.s.lk:Int)/\((0:Nat)=(0:Nat)/\u35.1.s.fs.length=u20.1.s.fs.length/\u21.2=u20.1.c2)/\True /\aa (SB.fmap (dN u35.1.s.ud (ai u35.2)) (aC.int D (fK u35.1.s.us (ai u35.2) (u35.1.s.used (ai u35.2)+1))) C) (eU u20.1.s)/\aa (SB.rows A (if u35.1.s.used (ai u35.2)=0 then u35.1.s.ns++[u35.1.w.at (ai u35.2)] else u35.1.s.ns).length [ak.str λu19=>(if u35.1.s.used (ai u35.2)=0 then u35.1.s.ns++[u35.1.w.at (ai u35.2)] else u35.1.s.ns).getD u19 []] d (u21.1*1) 9) (dU u20.1.s u20.1.c1)/\aa (SB.rows A u35.1.s.fs.length [ak.str λu18=>(u35.1.s.fs.getD u18 ([],[])).1,ak.str λu17=>(u35.1.s.fs.getD u17 ([],[])).2] d (u21.2*2) 50) (dy u20.1.s u20.1.c2)/\(1:Nat)=(1:Nat)/\aa (SB.fmap u35.1.w.ad (aC.int D u35.1.w.ag) C) (SB.fmap u20.1.w.ad (aC.int D u20.1.w.ag) C)/\(1:Nat)=(1:Nat)/\(u35.1.w.z=u20.1.w.z/\u35.1.w.o=u20.1.w.o/\(0:Nat)=(0:Nat)/\u35.1.w.n=u20.1.w.n/\u35.1.w.c=u20.1.w.c)/\aa (SB.view x.1.w.z x.1.w.o x.1.w.n [ak.str x.1.w.f]) (SB.view u20.1.w.z u20.1.w.o u20.1.w.n [ak.str u20.1.w.f]) /\(dj u20.1.w m u20.1.s u20.2.1 u20.2.2=A->∀(u16:Nat×Nat),(bz u20.1.w m u20.1.s u20.2.1 u20.2.2).ns.length<=u16.1/\(bz u20.1.w m u20.1.s u20.2.1 u20.2.2).fs.length<=u16.2->I6 ((u40.1:Int)+1)/\∃(u15:Nat×Wk×Nat×Nat),((u15.1<=16/\cu x.1.w (kZ x.1.w m) x.2.1 x.2.2 u15.1 (Wk.iW x.1.w x.1.s x.2.1 x.2.2)=F u15.2.1/\u15.2.1.ns.length<=u15.2.2.1/\u15.2.1.fs.length<=u15.2.2.2)/\16 - u15.1<16 - u40.1)/\(u40.1:Int)+1=(u15.1:Int)/\(7:Nat)=(7:Nat)/\u20.1.w.fr=x.1.w.fr/\u20.1.w.to=x.1.w.to/\(0:Nat)=(0:Nat)/\(0:Nat)=(0:Nat)/\((0:Nat)=(0:Nat)/\(bz u20.1.w m u20.1.s u20.2.1 u20.2.2).ns.length=u15.2.1.ns.length/\u16.1=u15.2.2.1)/\True/\(↑(bz u20.1.w m u20.1.s u20.2.1 u20.2.2).lk:Int)=(u15.2.1.lk:Int)/\((0:Nat)=(0:Nat)/\(bz u20.1.w m u20.1.s u20.2.1 u20.2.2).fs.length=u15.2.1.fs.length/\u16.2=u15.2.2.2)/\True /\aa (SB.fmap (bz u20.1.w m u20.1.s u20.2.1 u20.2.2).ud (aC.int D (bz u20.1.w m u20.1.s u20.2.1 u20.2.2).us) C) (eU u15.2.1)/\aa (SB.rows A (bz u20.1.w m u20.1.s u20.2.1 u20.2.2).ns.length [ak.str λu14=>(bz u20.1.w m u20.1.s u20.2.1 u20.2.2).ns.getD u14 []] d (u16.1*1) 9) (dU u15.2.1 u15.2.2.1)/\aa (SB.rows A (bz u20.1.w m u20.1.s u20.2.1 u20.2.2).fs.length [ak.str λu13=>((bz u20.1.w m u20.1.s u20.2.1 u20.2.2).fs.getD u13 ([],[])).1,ak.str λu12=>((bz u20.1.w m u20.1.s u20.2.1 u20.2.2).fs.getD u12 ([],[])).2] d (u16.2*2) 50) (dy u15.2.1 u15.2.2.2)/\aa (SB.loop J C u42) (SB.loop J C u42)/\aa P6 P6/\aa P3 P3/\aa P1 P1/\aa P4 P4/\aa P2 P2/\aa P1 P1/\aa P7 P7/\aa (SB.fmap u20.1.w.ad (aC.int D u20.1.w.ag) C) (SB.fmap x.1.w.ad (aC.int D x.1.w.ag) C)/\aa (SB.cells [SV.bH 7 1 u20.1.w.z u20.1.w.o 0 u20.1.w.n u20.1.w.c] 1 29) P0/\aa x.1.w.view x.1.w.view /\True)/\(dj u20.1.w m u20.1.s u20.2.1 u20.2.2=d->∀(u11:List UInt8×List UInt8),(dj x.1.w (m+1) x.1.s x.2.1 x.2.2=A->∃(u10:Nat×Nat),((bz x.1.w (m+1) x.1.s x.2.1 x.2.2).ns.length<=u10.1/\(bz x.1.w (m+1) x.1.s x.2.1 x.2.2).fs.length<=u10.2)/\False)/\(dj x.1.w (m+1) x.1.s x.2.1 x.2.2=d->∃(u9:List UInt8×List UInt8),(0:Nat)=(0:Nat)/\aa (SB.cells [SV.str d u11.1,SV.str d u11.2] 2 207) (SB.cells [SV.str d u9.1,SV.str d u9.2] 2 207)/\True)))/\(bJ u35.1.w (ai u35.2)=d->∀(u8:List UInt8×List UInt8),(dj x.1.w (m+1) x.1.s x.2.1 x.2.2=A->∃(u7:Nat×Nat),((bz x.1.w (m+1) x.1.s x.2.1 x.2.2).ns.length<=u7.1/\(bz x.1.w (m+1) x.1.s x.2.1 x.2.2).fs.length<=u7.2)/\False)/\(dj x.1.w (m+1) x.1.s x.2.1 x.2.2=d->∃(u6:List UInt8×List UInt8),(0:Nat)=(0:Nat)/\aa (SB.cells [SV.str d u8.1,SV.str d u8.2] 2 207) (SB.cells [SV.str d u6.1,SV.str d u6.2] 2 207)/\True)))/\(aQ u35.2=d ->∀(u5:List UInt8×List UInt8),(dj x.1.w (m+1) x.1.s x.2.1 x.2.2=A->∃(u4:Nat×Nat),((bz x.1.w (m+1) x.1.s x.2.1 x.2.2).ns.length<=u4.1/\(bz x.1.w (m+1) x.1.s x.2.1 x.2.2).fs.length<=u4.2)/\False)/\(dj x.1.w (m+1) x.1.s x.2.1 x.2.2=d->∃(u3:List UInt8×List UInt8),(0:Nat)=(0:Nat)/\aa (SB.cells [SV.str d u5.1,SV.str d u5.2] 2 207) (SB.cells [SV.str d u3.1,SV.str d u3.2] 2 207)/\True))))/\(bK x.1.w.fr x.1.w.to (dR x.2.1 x.2.2 (u40.1:Int).toNat)=d->I6 ((u40.1:Int)+1)/\∃(u2:Nat×Wk×Nat×Nat),((u2.1<=16/\cu x.1.w (kZ x.1.w m) x.2.1 x.2.2 u2.1 (Wk.iW x.1.w x.1.s x.2.1 x.2.2)=F u2.2.1/\u2.2.1.ns.length<=u2.2.2.1/\u2.2.1.fs.length<=u2.2.2.2)/\16 - u2.1<16 - u40.1)/\(u40.1:Int)+1=(u2.1:Int)/\(7:Nat)=(7:Nat)/\x.1.w.fr=x.1.w.fr/\x.1.w.to=x.1.w.to/\(0:Nat)=(0:Nat)/\(0:Nat)=(0:Nat)/\((0:Nat)=(0:Nat) /\u40.2.1.ns.length=u2.2.1.ns.length/\u40.2.2.1=u2.2.2.1)/\True/\(u40.2.1.lk:Int)=(u2.2.1.lk:Int)/\((0:Nat)=(0:Nat)/\u40.2.1.fs.length=u2.2.1.fs.length/\u40.2.2.2=u2.2.2.2)/\True/\aa (SB.fmap u40.2.1.ud (aC.int D u40.2.1.us) C) (eU u2.2.1)/\aa (P10 u40) (dU u2.2.1 u2.2.2.1)/\aa (P9 u40) (dy u2.2.1 u2.2.2.2)/\aa (SB.loop J C u42) (SB.loop J C u42)/\aa P6 P6/\aa P3 P3/\aa P1 P1/\aa P4 P4/\aa P2 P2/\aa P1 P1/\aa P7 P7/\aa (SB.fmap x.1.w.ad (aC.int D x.1.w.ag) C) (SB.fmap x.1.w.ad (aC.int D x.1.w.ag) C)/\aa P0 P0/\aa x.1.w.view x.1.w.view/\True)))/\(G ((u40.1:Int)<16)=d->(dj x.1.w (m+1) x.1.s x.2.1 x.2.2=A->∃(u1:Nat×Nat),((bz x.1.w (m+1) x.1.s x.2.1 x.2.2).ns.length<=u1.1/\(bz x.1.w (m+1) x.1.s x.2.1 x.2.2).fs.length<=u1.2)/\(7:Nat)=(7:Nat)/\x.1.w.fr=x.1.w.fr/\x.1.w.to=x.1.w.to/\(0:Nat)=(0:Nat)/\(0:Nat)=(0:Nat) /\((0:Nat)=(0:Nat)/\u40.2.1.ns.length=(bz x.1.w (m+1) x.1.s x.2.1 x.2.2).ns.length/\u40.2.2.1=u1.1)/\True/\(u40.2.1.lk:Int)=(↑(bz x.1.w (m+1) x.1.s x.2.1 x.2.2).lk:Int)/\((0:Nat)=(0:Nat)/\u40.2.1.fs.length=(bz x.1.w (m+1) x.1.s x.2.1 x.2.2).fs.length/\u40.2.2.2=u1.2)/\True/\aa (SB.fmap u40.2.1.ud (aC.int D u40.2.1.us) C) (eU (bz x.1.w (m+1) x.1.s x.2.1 x.2.2))/\aa (P10 u40) (dU (bz x.1.w (m+1) x.1.s x.2.1 x.2.2) u1.1)/\aa (P9 u40) (dy (bz x.1.w (m+1) x.1.s x.2.1 x.2.2) u1.2)/\aa P7 P7/\aa (SB.fmap x.1.w.ad (aC.int D x.1.w.ag) C) (SB.fmap x.1.w.ad (aC.int D x.1.w.ag) C)/\aa P0 P0/\True)/\(dj x.1.w (m+1) x.1.s x.2.1 x.2.2=d->∃(_:List UInt8×List UInt8),False)))))) (fun(u40:Nat×Wk×Nat×Nat)=>(SB.rows A u40.2.1.ns.length [jc u40.2.1.ns] d (u40.2.2.1*1) 9)))) (fun(u40:Nat×Wk×Nat×Nat)=>(SB.rows A u40.2.1.fs.length [bY u40.2.1.fs,bZ u40.2.1.fs] d (u40.2.2.2*2) 50)))) (SB.cells (aM [SV.str d x.1.w.fr,SV.str d x.1.w.to,SV.func (Fn.func (50:FuncId)) [] [SV.ptr 4 A 0,SV.ptr 6 A 0],SV.map 1,SV.bx 2 1 A 0 x.1.s.ns.length x.1.c1,SV.int .i64 d (x.1.s.lk:Int),SV.bx 3 2 A 0 x.1.s.fs.length x.1.c2] 5 (SV.int .i64 d ((x.1.s.lk:Int)+1)).cells) 7 92))) (SB.cells [SV.map 5] 1 90))) (SB.cells (SV.str d x.2.2).cells 1 9))) (fun(u35:yK×List UInt8)=>(getD (u35.1.w.at (ai u35.2)))))) (SB.cells SV.ay.cells 1 84))) (SB.cells (SV.agg (aU x.2.1)).cells 19 138))) (SB.cells x.2.1.sv.cells 19 138))) (SB.cells (SV.ptr 0 A 0).cells 1 82))) (SB.cells [SV.bH 7 1 x.1.w.z x.1.w.o 0 x.1.w.n x.1.w.c] 1 29)):=by kernel_rfl
theorem yB (w:Sp)(s:Wk)(h t:List UInt8):(s.take w h).used t=if t=h then s.used h+1 else s.used t:=by
 show dflt (s.ud t||decide (t=h)) (bif G (t=h)then s.used h+1 else s.us t)=_
 by_cases e:t=h
 ·rw[if_pos e,decide_eq_true e,Bool.or_true];rfl
 ·rw[if_neg e,decide_eq_false e,Bool.or_false];rfl
theorem Wk.Fit.mono {j:Nat}(h:s.Fit j)(hk:j<=k):s.Fit k:=⟨λt=>by have:=h.u t;omega,by have:=h.ns;omega,h.fs,h.lk⟩
theorem Wk.Fit.small (h:s.Fit k)(hk:k<=1000):s.Small:=⟨λt=>by have:=h.u t;omega,by have:=h.ns;omega,by have:=h.lk;omega,by have:=h.fs;have:=h.lk;omega⟩
theorem Wk.Fit.take (h:s.Fit k)(w:Sp)(t:List UInt8):(s.take w t).Fit (k+1):=by
 refine⟨λr=> ?_,?_,h.fs,h.lk⟩
 ·rw[yB];have h1:=h.u r;have h2:=h.u t;split<;>omega
 ·have:=h.ns;show(if s.used t=0 then s.ns++[w.at t] else s.ns).length<=_
  split
  ·rw[Z];simp;omega
  ·omega
theorem Wk.Fit.iW (h:s.Fit (s.lk+1))(hl:s.lk<400)(w:Sp)(x:Nd)(p:List UInt8):(s.iW w x p).Fit (s.iW w x p).lk:=by
 refine⟨h.u,h.ns,?_,hl⟩;have:=h.fs;show(if eS w x p=A then s.fs++[(bl (cat p x.p),x.v)] else s.fs).length<=s.lk+1
 split
 ·rw[Z];simp;omega
 ·omega
theorem yg {w:Sp}{s':Wk}{y:Nd}(h:s.Fit k)(hf:iH w s t=F (y,s')):s'.Fit (k+1)/\s'.lk=s.lk/\aX y=true:=by
 unfold iH at hf;split at hf
 ·rename_i hi;injection hf with hf;injection hf with h1 h2;subst h1;subst h2;exact⟨h.mono (Nat.le_succ _),rfl,DQ hi⟩
 ·split at hf
  ·rename_i hi;injection hf with hf;injection hf with h1 h2;subst h1;subst h2;simp only[bJ,b_] at hi;exact⟨h.take w _,rfl,lP hi.2.2⟩
  ·cases hf
def RC (_w:Sp)(T:Wk->Nd->List UInt8->Option Wk):Prop:=∀ s x p s',s.Fit (s.lk+1)->T s x p=F s'->s'.Fit s'.lk/\s.lk<s'.lk
theorem pV {w:Sp}{T:Wk->Nd->List UInt8->Option Wk}(hT:RC w T){x:Nd}{p:List UInt8}: ∀ {i:Nat} {s s':Wk},s.Fit s.lk->cu w T x p i s=F s'->s'.Fit s'.lk/\s.lk<=s'.lk
 | 0,s,s',h,e=>by injection e with e;subst e;exact⟨h,Nat.le_refl _⟩
 | i+1,s,s',h,e=>by
   unfold cu at e;split at e
   ·cases e
   ·rename_i s1 h1;obtain⟨g1,g2⟩:=pV hT h h1;unfold jv at e;split at e
    ·injection e with e;subst e;exact⟨g1,g2⟩
    ·cases hm:bK w.fr w.to (dR x p i)with
     | false =>rw[hm] at e;injection e with e;subst e;exact⟨g1,g2⟩
     | true =>
       rw[hm] at e;simp only[cond_true] at e;split at e
       ·cases e
       ·rename_i y s2 hf;obtain⟨q1,q2,_⟩:=yg g1 hf;obtain⟨r1,r2⟩:=hT s2 y _ s' (by rw[q2];exact q1) e;exact⟨r1,by omega⟩
theorem Ai (w:Sp): ∀ m,RC w (kZ w m)
 | 0=>λs x p s' _ e=>by cases e
 | m+1=>λs x p s' h e=>by
   unfold kZ at e;split at e
   ·cases e
   ·rename_i hl;obtain⟨g1,g2⟩:=pV (Ai w m) (h.iW (by omega) w x p) e;have:(s.iW w x p).lk=s.lk+1:=rfl;exact⟨g1,by omega⟩
theorem rz {w:Sp}{T:Wk->Nd->List UInt8->Option Wk}{x:Nd}{p:List UInt8}{s:Wk}: ∀ {j i:Nat},i<=j->cu w T x p i s=C->cu w T x p j s=C
 | 0,i,hj,e=>by
   have:i=0:=by omega
   subst this;exact e
 | j+1,i,hj,e=>by
   by_cases h:i=j+1
   ·subst h;exact e
   ·unfold cu;rw[rz (by omega:i<=j) e]
section
variable {w : Sp} {T : Wk -> Nd -> List UInt8 -> Option Wk} {x : Nd} {p : List UInt8} {s s' : Wk} {i : Nat}
theorem ee (h:cu w T x p i s=F s'):cu w T x p (i+1) s=jv w T x p i s':=by rw[cu,h]
theorem j9 (h:x.r i=[]):jv w T x p i s=F s:=by rw[jv,if_pos h]
theorem ry (h:bK w.fr w.to (dR x p i)=d):jv w T x p i s=F s:=by rw[jv,h];split<;>rfl
theorem vS (h: ¬ x.r i=[])(hm:bK w.fr w.to (dR x p i)=A)(hf:iH w s (x.r i)=C):jv w T x p i s=none:=by rw[jv,if_neg h,hm,hf];rfl
theorem jX (h: ¬ x.r i=[])(hm:bK w.fr w.to (dR x p i)=A){y:Nd}(hf:iH w s (x.r i)=F (y,s')):jv w T x p i s=T s' y (dR x p i):=by rw[jv,if_neg h,hm,hf];rfl
theorem Cr (h:bp t=A):iH w s t=F (getD t,s):=by rw[iH,if_pos h]
theorem uL (h:bp t=d)(h1:aQ t=A)(h2:bJ w (ai t)=A):iH w s t=F (getD (w.at (ai t)),s.take w (ai t)):=by rw[iH,if_neg (by rw[h];simp),if_pos (by rw[h1,h2];rfl)]
theorem JM (h:bp t=d)(h1:aQ t=d∨bJ w (ai t)=d):iH w s t=none:=by rw[iH,if_neg (by rw[h];simp),if_neg (by rcases h1 with h1 | h1<;>rw[h1]<;>simp)]
end
theorem OG (h:x.lu)(p:List UInt8)(i:Nat):(dR x p i).length<=p.length+13:=by have:=h.p;unfold dR cat;split<;>simp<;>omega
theorem NH {l:List (List UInt8×List UInt8)}{k v:List UInt8}{c:Nat}:aa (.rows A (l.length+1) [.str λj=>if j<l.length then(l.getD j ([],[])).1 else bT [k] (j - l.length),.str λj=>if j<l.length then(l.getD j ([],[])).2 else bT [v] (j - l.length)] d (c*2) ty) (.rows A (l++[(k,v)]).length [bY (l++[(k,v)]),bZ (l++[(k,v)])] d (c*2) ty):=by
 refine kg (by simp) rfl rfl λq c c' h1 h2 i hi E=> ?_;have e:=rF l (k,v) ([],[]) i hi;have hz: ¬ i<l.length->i - l.length=0:=by omega
 match q,h1,h2 with
 | 0,h1,h2 =>
   simp only[cy,Option.some.injEq] at h1 h2;subst h1;subst h2;simp only[bY,ak.at,SV.val,e];by_cases h:i<l.length
   ·rw[if_pos h,if_pos h]
   ·rw[if_neg h,if_neg h,hz h];rfl
 | 1,h1,h2 =>
   simp only[List.getElem?_cons_succ,cy,Option.some.injEq] at h1 h2;subst h1;subst h2;simp only[bZ,ak.at,SV.val,e];by_cases h:i<l.length
   ·rw[if_pos h,if_pos h]
   ·rw[if_neg h,if_neg h,hz h];rfl
 | q+2,h1,h2=>simp at h1
section
variable {w : Sp} {m : Nat} {s s' : Wk} {x : Nd} {p : List UInt8}
theorem OF (hl: ¬ 400<=s.lk)(h:cu w (kZ w m) x p 16 (s.iW w x p)=F s'):dj w (m+1) s x p=A/\bz w (m+1) s x p=s':=by
 have:kZ w (m+1) s x p=F s':=by rw[kZ,if_neg hl,h]
 exact⟨by rw[dj,this];rfl,by rw[bz,this]⟩
theorem OE (hl: ¬ 400<=s.lk)(h:cu w (kZ w m) x p 16 (s.iW w x p)=C):dj w (m+1) s x p=false:=by rw[dj,kZ,if_neg hl,h];rfl
theorem GZ (h:dj w m s x p=A):kZ w m s x p=F (bz w m s x p):=by
 unfold dj at h;unfold bz;cases hx:kZ w m s x p with
 | none=>rw[hx] at h;cases h
 | some s'=>rfl
theorem yu (h:dj w m s x p=d):kZ w m s x p=none:=by
 unfold dj at h;cases hx:kZ w m s x p with
 | none=>rfl
 | some s'=>rw[hx] at h;cases h
theorem HZ {a b:List UInt8}:aa (SB.cells [SV.str A a,SV.str A b] 2 ty) (SB.cells [SV.str d (a,b).1,SV.str d (a,b).2] 2 ty):=aa.cells (λ_=>rfl) rfl
theorem HY {a b:List UInt8}:aa (SB.cells [SV.str d a,SV.str d b] 2 ty) (SB.cells [SV.str d (a,b).1,SV.str d (a,b).2] 2 ty):=aa.refl _
theorem Vy (h:x.k=3)(i:Nat)(hi:i<16):cat (cat p x.p) [I ((i:Int)% 256).toNat]=dR x p i:=by rw[dR,if_pos h,show((i:Int)% 256).toNat=i by omega]
end
section
attribute [local irreducible] aY getD bp aQ ai bJ bK hasB k8 aj bl dR kZ dj bz cu Wk.used
set_option maxHeartbeats 4000000 in
theorem Di {x:yK×Nd×List UInt8}(hx:(J' (m+1)).pre x):az (runM (SF m x.1 x.2.1 x.2.2) 84 P (J' (m+1)) x):=by
 refine az.of_eq (Km m x) ?_;obtain⟨⟨w,s,c1,c2⟩,y,p⟩:=x;obtain⟨hw,_,⟨hc1,hc2⟩,hf,hm,hy,hp⟩:=hx;dsimp only at hw hc1 hc2 hf hm hy hp ⊢;have hm:401<=s.lk+(m+1):=hm;have hyp:=hy.p;have hcat:(cat p y.p).length=p.length+y.p.length:=by unfold cat;simp
 have hlk:=hf.lk;have hfs:=hf.fs;have hns:=hf.ns;by_cases hl:400<=s.lk
 ·have hB:dj w (m+1) s y p=false:=by unfold dj kZ;rw[if_pos hl];rfl
  rw[hB,decide_eq_true (show(400:Int)<=(s.lk:Int)by omega)];exact⟨λ_=>⟨(λh=>by cases h),λ_=>⟨(_,_),rfl,HZ,trivial⟩⟩,(λh=>by cases h)⟩
 refine⟨λh=>absurd (of_decide_eq_true h) (by omega),λ_=>⟨⟨by omega,by omega⟩,⟨by omega,?_⟩,?_⟩⟩
 ·
  have no:eS w y p=d->(s.iW w y p).fs=s.fs:=λh=>by show(if eS w y p=A then _ else _)=_;rw[h];rfl
  have yes:eS w y p=A->(s.iW w y p).fs=s.fs++[(bl (cat p y.p),y.v)]:=λh=>by show(if eS w y p=A then _ else _)=_;rw[h];rfl
  have eb:eS w y p=(!decide (y.v=[])&&(hasB w.fr w.to (cat p y.p)&&k8 (cat p y.p))):=rfl;have le0:eS w y p=d->aa (SB.rows A s.fs.length [bY s.fs,bZ s.fs] d (c2*2) 50) (dy (s.iW w y p) c2):=λh=>by unfold dy;rw[no h];exact aa.refl _
  have le1:eS w y p=A->∀ c,aa (SB.rows A (s.fs.length+1) [.str λj=>if j<s.fs.length then(s.fs.getD j ([],[])).1 else bT [bl (cat p y.p)] (j - s.fs.length),.str λj=>if j<s.fs.length then(s.fs.getD j ([],[])).2 else bT [y.v] (j - s.fs.length)] d (c*2) 50) (dy (s.iW w y p) c):=λh c=>by unfold dy;rw[yes h];exact NH
  have wfr:=hw.fr;have wto:=hw.to;refine⟨λhv=>⟨⟨wfr,wto⟩,λhh=>⟨by omega,λhk=> ?_,λhk=> ?_⟩,λhh=> ?_⟩,λhv=> ?_⟩
  ·rw[hv,hh,hk] at eb;have l1:=le1 eb;refine⟨rfl,rfl,rfl,⟨⟨by omega,trivial,by omega,by omega⟩,rfl,λc hc=>⟨rfl,⟨c,?_⟩⟩⟩⟩;rw[if_pos (show eS w y p=A from eb),Z]
   have l1:=l1 c
   repeat' first
    | exact l1
    | exact aa.refl _
    | refine K ?_ ?_
    | rfl
    | assumption
    | omega
    | exact trivial
    | fail
  all_goals
   first
    | rw[hv,hh,hk] at eb
    | rw[hv,hh] at eb
    | rw[hv] at eb
   have l0:=le0 (eb.trans (by first | rfl | simp))
   have e0:eS w y p=false:=eb.trans (by first | rfl | simp)
   refine⟨c2,?_⟩;rw[e0];simp only[Bool.false_eq_true,if_false]
   repeat' first
    | exact l0
    | exact aa.refl _
    | refine K ?_ ?_
    | rfl
    | assumption
    | omega
    | exact trivial
    | fail
 ·intro c2' hc2' R;refine⟨⟨(0,s.iW w y p,c1,c2'),⟨⟨c_ _,by unfold cu;rfl,hc1,hc2'⟩,?_⟩⟩,λz hz=> ?_⟩
  ·repeat' first
    | exact aa.refl _
    | refine K ?_ ?_
    | rfl
    | assumption
    | omega
    | exact trivial
    | fail
  obtain⟨i,si,d1,d2⟩:=z;obtain⟨hi16,hi,hd1,hd2⟩:=hz;dsimp only at hi16 hi hd1 hd2 ⊢;obtain⟨fi,hlki⟩:=pV (Ai w m) (hf.iW (by omega) w y p) hi;have hlki:s.lk+1<=si.lk:=hlki;have fil:=fi.lk;simp only[-eq_self,W];refine⟨λhlt=> ?_,λhlt=> ?_⟩
  ·have hlt:i<16:=by have:=of_decide_eq_true hlt;omega
   simp only[-eq_self,tH y.r hlt];have bad:cu w (kZ w m) y p (i+1) (s.iW w y p)=C->∀(a b:List UInt8),(dj w (m+1) s y p=A->∃(q:Nat×Nat),((bz w (m+1) s y p).ns.length<=q.1/\(bz w (m+1) s y p).fs.length<=q.2)/\False)/\(dj w (m+1) s y p=d->∃(q:List UInt8×List UInt8),(0:Nat)=0/\aa (SB.cells [SV.str d a,SV.str d b] 2 207) (SB.cells [SV.str d q.1,SV.str d q.2] 2 207)/\True):=λh a b=>by have hB:=OE hl (rz (by omega:i+1<=16) h);rw[hB];exact⟨(λh=>by cases h),λ_=>⟨(a,b),rfl,HY,trivial⟩⟩
   refine⟨⟨by omega,by omega,by omega⟩,λh0=>⟨⟨by omega,by omega⟩,(i+1,si,d1,d2),⟨⟨⟨by show i+1<=16;omega,(ee hi).trans (j9 (of_decide_eq_true h0)),hd1,hd2⟩,by show 16 - (i+1)<16 - i;omega⟩,?_⟩⟩,λh0=> ?_⟩
   ·repeat' first
     | exact aa.refl _
     | refine K ?_ ?_
     | rfl
     | assumption
     | omega
     | exact trivial
     | fail
   have h0:=of_decide_eq_false h0;have htl:=OG hy p i;refine⟨by omega,⟨λh3=>⟨by omega,(),trivial,Vy (of_decide_eq_true h3) i hlt,?_⟩,λh3=>⟨(),trivial,by unfold dR;rw[if_neg (of_decide_eq_false h3)],?_⟩⟩,λ_ _=>⟨⟨hw.fr,hw.to⟩,λhM=>⟨rfl,?_⟩,λhM=>⟨⟨by omega,by omega⟩,(i+1,si,d1,d2),⟨⟨⟨by show i+1<=16;omega,(ee hi).trans (ry hM),hd1,hd2⟩,by show 16 - (i+1)<16 - i;omega⟩,?_⟩⟩⟩⟩
   ·repeat' first
     | exact aa.refl _
     | refine K ?_ ?_
     | rfl
     | assumption
     | omega
     | exact trivial
     | fail
   ·repeat' first
     | exact aa.refl _
     | refine K ?_ ?_
     | rfl
     | assumption
     | omega
     | exact trivial
     | fail
   rotate_left
   ·repeat' first
     | exact aa.refl _
     | refine K ?_ ?_
     | rfl
     | assumption
     | omega
     | exact trivial
     | fail
   have hrl:(y.r i).length<9223372036854775808:=by
    rcases hy.r i hlt with e | e
    ·exact absurd e h0
    ·have:=pH e;omega
   have go: ∀ {yy:Nd} {s2:Wk},iH w si (y.r i)=F (yy,s2)->s2.Fit (s2.lk+1)/\(401<=s2.lk+m)/\yy.lu/\(dR y p i).length<=13*s2.lk/\s2.Small:=λh=>by obtain⟨q1,q2,q3⟩:=yg fi h;exact⟨by rw[q2];exact q1,by omega,gi q3,by omega,q1.small (by omega)⟩
   have on: ∀ {yy:Nd} {s2:Wk},iH w si (y.r i)=F (yy,s2)->dj w m s2 yy (dR y p i)=A->cu w (kZ w m) y p (i+1) (s.iW w y p)=F (bz w m s2 yy (dR y p i)):=λh hb=>by rw[ee hi,jX h0 hM h,GZ hb]
   have off: ∀ {yy:Nd} {s2:Wk},iH w si (y.r i)=F (yy,s2)->dj w m s2 yy (dR y p i)=d->cu w (kZ w m) y p (i+1) (s.iW w y p)=none:=λh hb=>by rw[ee hi,jX h0 hM h,yu hb]
   refine⟨(⟨w,si,d1,d2⟩,y.r i),⟨hw,fi.small (by omega),⟨hd1,hd2⟩,hrl⟩,?_⟩;dsimp only;have inn:bp (y.r i)=A->iH w si (y.r i)=F (getD (y.r i),si):=Cr;have inh:bp (y.r i)=d->aQ (y.r i)=A->bJ w (ai (y.r i))=A->iH w si (y.r i)=F (getD (w.at (ai (y.r i))),si.take w (ai (y.r i))):=uL;have inb:bp (y.r i)=d->(aQ (y.r i)=d∨bJ w (ai (y.r i))=d)->cu w (kZ w m) y p (i+1) (s.iW w y p)=none:=λh1 h2=>by rw[ee hi,vS h0 hM (JM h1 h2)]
   have hsuc:i+1<=16:=by omega
   have hmea:16 - (i+1)<16 - i:=by omega
   refine⟨rfl,rfl,rfl,rfl,rfl,rfl,rfl,⟨rfl,rfl,rfl⟩,trivial,rfl,⟨rfl,rfl,rfl⟩,trivial,aa.refl _,aa.refl _,aa.refl _,rfl,aa.refl _,rfl,⟨rfl,rfl,rfl,rfl,rfl⟩,aa.refl _,λh1 e he=> ?_,λh1=>⟨λh2=>⟨λh3 e he=> ?_,λh3 yy=>bad (inb h1 (.inr h3)) _ _⟩,λh2 yy=>bad (inb h1 (.inl h2)) _ _⟩⟩
   ·have hfol:=inn h1;obtain⟨g1,g2,g3,g4,g5⟩:=go hfol;refine⟨(⟨w,si,e.1,e.2⟩,getD (y.r i),dR y p i),⟨hw,g5,he,g1,g2,g3,g4⟩,?_⟩;dsimp only;have on:=on hfol;have off:=off hfol
    repeat' first
     | exact λhb yy=>bad (off hb) _ _
     | refine λhb q hq=>⟨⟨by omega,by omega⟩,(i+1,bz w m si (getD (y.r i)) (dR y p i),q.1,q.2),⟨⟨hsuc,on hb,hq.1,hq.2⟩,hmea⟩,?_⟩
     | exact aa.refl _
     | refine K ?_ ?_
     | rfl
     | assumption
     | omega
     | exact trivial
     | fail
   ·have hfol:=inh h1 h2 h3;obtain⟨g1,g2,g3,g4,g5⟩:=go hfol;refine⟨(⟨w,si.take w (ai (y.r i)),e.1,e.2⟩,getD (w.at (ai (y.r i))),dR y p i),⟨hw,g5,he,g1,g2,g3,g4⟩,?_⟩;dsimp only;have on:=on hfol;have off:=off hfol
    repeat' first
     | exact λhb yy=>bad (off hb) _ _
     | refine λhb q hq=>⟨⟨by omega,by omega⟩,(i+1,bz w m (si.take w (ai (y.r i))) (getD (w.at (ai (y.r i)))) (dR y p i),q.1,q.2),⟨⟨hsuc,on hb,hq.1,hq.2⟩,hmea⟩,?_⟩
     | exact aa.refl _
     | refine K ?_ ?_
     | rfl
     | assumption
     | omega
     | exact trivial
     | fail
  ·have e16:i=16:=by have:=of_decide_eq_false hlt;omega
   subst e16;obtain⟨k1,k2⟩:=OF hl hi;rw[k1,k2];refine⟨λ_=>⟨(d1,d2),⟨hd1,hd2⟩,?_⟩,(λh=>by cases h)⟩
   repeat' first
    | exact aa.refl _
    | refine K ?_ ?_
    | rfl
    | assumption
    | omega
    | exact trivial
    | fail
end
end
section
open Go Sx
set_option maxRecDepth 20000
theorem D7 (h:av N 84 (cF (J' m))):bt N (λf=>aD f (Gc m)):=.cons h (cc _) (.cons JN (cc _) xN)
theorem OD: ∀ m,av N 84 (cF (J' m))
 | 0=>fH (n:=20) (fn:=P) cl (by kernel_rfl) (by kernel_rfl) (J' 0) λx hx=>by obtain⟨_,_,_,hf,hm,_⟩:=hx;have:=hf.lk;omega
 | m+1=>fH (n:=20) (fn:=P) cl (by kernel_rfl) (by kernel_rfl) (J' (m+1)) λx hx=>⟨SF m x.1 x.2.1 x.2.2,.of bX (D7 (OD m)) bw,rfl,Di hx⟩
theorem PS (m:Nat):bt N (λf=>aD f (Gc m)):=D7 (OD m)
def numOf (n:Int):List UInt8:=aA (digits n)
structure uU (n:Nat)(t:Nat->Bool)(i:Nat):Prop where
 le:i<=n
 all: ∀ j,j<i->t j=A
noncomputable def Fe (tmp:Nat)(n:Nat)(t:Nat->Bool):bg :={α:=Nat,pre:=λ_ i=>uU n t i,kY:=λ_ i=>n - i,fresh:=0,slots:=λ_ i=>[(tmp,.int .i64 d i)],mem:=λ_ _=>[]}
structure adG (n:Nat)(x:Nat×Nat):Prop where
 le:x.1<=n
 cap:x.1<=x.2
theorem CL {t:Nat->Bool}(h:uU n t i)(hi: ¬ (i:Int)<(n:Int)):(Q n).all t=true:=by rw[ct];intro j hj;have:=O.1 hj;exact h.all j (by omega)
theorem yA {t:Nat->Bool}(hi:(i:Int)<(n:Int))(ht:t i=d):(Q n).all t=false:=by rw[List.all_eq_false];exact⟨i,O.2 (by omega),by rw[ht];decide⟩
theorem yz {t:Nat->Bool}(h:uU n t i)(hi:(i:Int)<(n:Int))(ht:t i=A):uU n t (i+1):=⟨by omega,λj hj=>by
 by_cases e:j=i
 ·subst e;exact ht
 ·exact h.all j (by omega)⟩
theorem fU {l:Bool}{a b:Bool}(h:a=b):af (.bool l a) (.bool d b):=λE=>by subst h;rfl
theorem Sx.aa.empty {tot tot':Nat}{ax:List ak}{z:Bool}(h:tot=tot'):aa (.cells [] tot ty) (.rows z 0 ax d tot' ty):=by subst h;refine aa.of rfl rfl λ_=> ?_;refine⟨rfl,λE o ⟨c,fr,h1,h2,_,h4⟩=>⟨c,fr,h1,λ_=>h2,by omega,h4,λi k col hi=>absurd hi (L _)⟩,λ_=>rfl⟩
structure Pp where
 k:Int
 root:List UInt8
 key:List UInt8
 to:List UInt8
 n:Nat
 f:Nat->List UInt8
def Pp.sv (x:Pp)(u:SV):SV:=.agg [.int .i64 d x.k,.str d x.root,.str d x.key,.str d x.to,u]
def abb (f:Nat->List UInt8)(i:Nat):Bool:=!decide ((1000:Int)<((f i).length:Int))
def XG (n:Nat)(f:Nat->List UInt8):Bool:=(Q n).all (abb f)
def Pp.ok (x:Pp):Bool:=(G (x.k=0)&&G (x.to=[])||decide (x.k=1))&&G ((x.root.length:Int)=32)&& !decide ((6:Int)<(x.key.length:Int))&& !decide ((6:Int)<(x.to.length:Int)) &&
 !decide ((200:Int)<(x.n:Int))&&XG x.n x.f
def adw (f:Nat->List UInt8)(i:Nat):List UInt8:=aA (f i)
def Pp.rows (x:Pp):List (List UInt8):=iF (adw x.f) 0 x.n
def Pp.items (x:Pp):List (List UInt8):=[numOf x.k,aA x.root,aA x.key,aA x.to,ff x.rows]
def Pp.put (x:Pp):List UInt8:=ff x.items
def Pp.fits (x:Pp):Bool:=x.ok&& !decide ((65536:Int)<(x.put.length:Int))
def dP:List ak:=[.str λ_=>[]]
def e8 (n:Nat)(f:Nat->List UInt8)(n':Nat)(f':Nat->List UInt8):Bool:=G ((n:Int)=(n':Int))&&(Q n).all λi=>decide (f i=f' i)
def iA (z:Bool)(o c n:Nat)(f:Nat->List UInt8)(key:Option Nat):Seen:=⟨key,z,o,n,c,[.str f]⟩
def Yd:List tq:=[.of (.slice dP),.of (.slice dP)]
noncomputable def SA (n:Nat)(f f':Nat->List UInt8):fQ:={cv with cQ:=λf=>aD f gX,bD:=λg=>if g=51 then [(4,always (Fe 13 n λi=>decide (f i=f' i)))] else []}
theorem aaE (n:Nat)(f f':Nat->List UInt8):Sx.Good N (SA n f f'):=.of bX eZ bw
theorem VK (n n':Nat)(f f':Nat->List UInt8)(z z':Bool)(o o' c c':Nat)(key key':Option Nat):VC.holds (iG (SA n f f') 51 V [.bH 0 1 z o 0 n c,.bH 1 1 z' o' 0 n' c'] [iA z o c n f key,iA z' o' c' n' f' key'] (.ret (.bool d (e8 n f n' f'))))=((((!decide ((n:Int)=(n':Int)))=A->af (SV.bool A d) (SV.bool d (e8 n f n' f')))/\((!decide ((n:Int)=(n':Int)))=d->(∃(u5:Nat),uU n (fun(u4:Nat)=>decide (f u4=f' u4)) u5/\0=(u5:Int)/\aa (iA z o c n f key).B (iA z o c n f key).B/\aa (iA z' o' c' n' f' key').B (iA z' o' c' n' f' key').B/\True)/\∀(u3:Nat),uU n (fun(u2:Nat)=>decide (f u2=f' u2)) u3->(G ((u3:Int)<(n:Int))=A->(0<=(u3:Int)/\(u3:Int)<(n:Int))/\(o=o/\0+(u3:Int).toNat<n)/\(0<=(u3:Int)/\(u3:Int)<(n':Int))/\(o'=o'/\0+(u3:Int).toNat<n')/\((!decide (f (0+(u3:Int).toNat)=f' (0+(u3:Int).toNat)))=A->af (SV.bool A d) (SV.bool d (e8 n f n' f')))/\((!decide (f (0+(u3:Int).toNat)=f' (0+(u3:Int).toNat)))=d->I6 ((u3:Int)+1)/\∃(u1:Nat),(uU n (fun(u0:Nat)=>decide (f u0=f' u0)) u1/\n - u1<n - u3)/\(u3:Int)+1=(u1:Int)/\aa (iA z o c n f key).B (iA z o c n f key).B /\aa (iA z' o' c' n' f' key').B (iA z' o' c' n' f' key').B/\True))/\(G ((u3:Int)<(n:Int))=d->af (SV.bool A A) (SV.bool d (e8 n f n' f')))))):=by kernel_rfl
theorem YM [Decidable p](h:(!decide p)=d):p:=by
 cases hd:G p with
 | true=>exact of_decide_eq_true hd
 | false=>rw[hd] at h;cases h
theorem We [Decidable p](h:(!decide p)=A):G p=false:=by
 cases hd:G p with
 | true=>rw[hd] at h;cases h
 | false=>rfl
theorem Wn [Decidable p](h:(!decide p)=d):G p=true:=by
 cases hd:G p with
 | true=>rfl
 | false=>rw[hd] at h;cases h
theorem FE {n':Nat}{f f':Nat->List UInt8}(hn:n<9223372036854775808)(z z':Bool)(o o' c c':Nat)(key key':Option Nat):az (iG (SA n f f') 51 V [.bH 0 1 z o 0 n c,.bH 1 1 z' o' 0 n' c'] [iA z o c n f key,iA z' o' c' n' f' key'] (.ret (.bool d (e8 n f n' f')))):=by
 refine az.of_eq (VK n n' f f' z z' o o' c c' key key') ?_;simp only[W,bW];refine⟨λh=>fU (by rw[e8,We h];rfl),λh=>⟨⟨0,⟨c_ _,λj hj=>absurd hj (L _)⟩,rfl,aa.refl _,aa.refl _,trivial⟩,λi hi=>⟨λa=> ?_,λa=> ?_⟩⟩⟩
 ·simp only[decide_eq_true_eq] at a;have e:(n:Int)=(n':Int):=YM h;refine⟨by omega,⟨trivial,by omega⟩,by omega,⟨trivial,by omega⟩,λb=> ?_,λb=>⟨by omega,i+1,⟨yz hi a (Wn b),by omega⟩,by omega,aa.refl _,aa.refl _,trivial⟩⟩;exact fU (by rw[e8,yA a (We b),Bool.and_false])
 ·simp only[decide_eq_false_iff_not] at a;exact fU (by rw[e8,CL hi a,Wn h];rfl)
def lY (vs:List SV)(l:List Seen):Option (Prop×cO):=match vs,l with
 | [_,_],[⟨_,_,_,n,_,[.str f]⟩,⟨_,_,_,n',_,[.str f']⟩]=>F (n<9223372036854775808,.ret (.bool d (e8 n f n' f')))
 | _,_=>C
theorem Pe:av N 51 (bS Yd lY):=by
 refine gp (n:=20) (fn:=V) Tryz.func51 (by kernel_rfl) (by kernel_rfl) ?_;intro vs l q a h hq;unfold lY at h;split at h
 ·rename_i v v' key z o n c f key' z' o' n' c' f';injection h with h;injection h with h1 h2;subst h1;subst h2;exact⟨_,aaE n f f',rfl,rfl,FE hq z z' o o' c c' key key'⟩
 ·cases h
def aK (f:Nat->List UInt8):Nat->List UInt8->Bool
 | 0=>λ_=>d
 | i+1=>λh=>aK f i h||decide (h=aG (f i))
def cB (f:Nat->List UInt8):Nat->List UInt8->Int
 | 0=>λ_=>0
 | i+1=>λh=>bif aK f i h then cB f i h else(bif G (h=aG (f i))then(i:Int)else 0)
theorem gT (f:Nat->List UInt8): ∀(n:Nat) (h:List UInt8),aK f n h=A->0<=cB f n h/\cB f n h<n/\aG (f (cB f n h).toNat)=h
 | 0,h,e=>by cases e
 | n+1,h,e=>by
   unfold cB;cases hd:aK f n h with
   | true =>obtain⟨h1,h2,h3⟩:=gT f n h hd;exact⟨h1,by show cB f n h<_;omega,h3⟩
   | false =>
     have hs:G (h=aG (f n))=true:=by unfold aK at e;rw[hd,S] at e;exact e
     rw[hs];simp only[cond_true,cond_false,W];exact⟨by omega,by omega,(of_decide_eq_true hs).symm⟩
theorem xp (f:Nat->List UInt8): ∀(n j:Nat),j<n->aK f n (aG (f j))=A
 | 0,j,h=>absurd h (L _)
 | n+1,j,h=>by
   unfold aK;by_cases e:j=n
   ·subst e;simp
   ·rw[xp f n j (by omega)];rfl
theorem AT (f:Nat->List UInt8): ∀(n:Nat),cB f n (aG (f 0))=0
 | 0=>rfl
 | n+1=>by
   unfold cB;cases n with
   | zero=>simp[aK]
   | succ n=>rw[xp f (n+1) 0 (by omega),AT f (n+1)];rfl
theorem AS {f:Nat->List UInt8}{root:List UInt8}:(aK f n root=A/\cB f n root=0)↔(0<n/\aG (f 0)=root):=by
 constructor
 ·rintro⟨h1,h2⟩;obtain⟨_,g2,g3⟩:=gT f n root h1;rw[h2] at g2 g3;exact⟨by omega,g3⟩
 ·rintro⟨h1,rfl⟩;exact⟨xp f n 0 h1,AT f n⟩
def sy (a b:List UInt8):Bool:=M a b||decide (a=b)
def Sp.full (w:Sp):Sp:={w with ad:=aK w.f w.n,ag:=cB w.f w.n}
def Wk.start:Wk:=⟨λ_=>d,λ_=>0,[],0,[]⟩
def mK (root:List UInt8)(w:Sp):Option Wk:=bif bJ w root then kZ w 401 (Wk.start.take w root) (getD (w.at root)) [] else C
def eJ (root:List UInt8)(w:Sp):Option (List (List UInt8×List UInt8)) :=
 bif sy w.fr w.to&&(G (0<w.n)&&(G (w.n<=200)&&G (aG (w.f 0)=root)))then(match mK root w.full with
  | some s=>bif e8 s.ns.length (λi=>s.ns.getD i []) w.n w.f then F s.fs else C
  | none=>C)else C
def Af (root:List UInt8)(w:Sp):List (List UInt8×List UInt8):=match eJ root w with
 | some l=>l
 | none=>[]
def uK (root:List UInt8)(w:Sp):cO:=.fork (eJ root w).isSome λb=>match b with
 | true=>.all Nat λc=>.req ((Af root w).length<=c) (.new (λk=>.aO [.bx k 2 A 0 (Af root w).length c,.int .i64 A 0]) (.rows A (Af root w).length [bY (Af root w),bZ (Af root w)] d (c*2) 50))
 | false=>.ret (.aO [.aP,.int .i64 A 10])
def Za (st:Sx.St)(i:Nat):Nat:=match st.m.get (qk st i)with
 | some (.cells [.map k] _ _)=>k
 | _=>0
def RG (w:Sp):bg :={α:=Nat,pre:=λ_ i=>i<=w.n,kY:=λ_ i=>w.n - i,fresh:=0,slots:=λ_ i=>[(37,.int .i64 d i)],mem:=λst i=>[(Za st 8,.fmap (aK w.f i) (.int .i64 (cB w.f i)) C)]}
noncomputable def Ua:List (FuncId×PT):=(51,bS Yd lY)::Gc 401
noncomputable def SD (w:Sp):fQ:={cv with cQ:=λf=>aD f Ua,bD:=λf=>if f=14 then [(5,always (RG w))] else []}
theorem PU:bt N (λf=>aD f Ua):=.cons Pe (cz _ _) (PS 401)
theorem aaH (w:Sp):Sx.Good N (SD w):=.of bX PU bw
def p4 (w:Sp)(kk:Option Nat):Seen:=⟨kk,w.z,w.o,w.n,w.c,[.str w.f]⟩
end
end Go.Proofs.YtoibaecagklkaaaGreatDoor
