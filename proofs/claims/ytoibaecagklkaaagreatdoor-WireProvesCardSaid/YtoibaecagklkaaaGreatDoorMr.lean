/- A part of the proof. -/
import Derived.Test.YtoibaecagklkaaaGreatDoorMq
open And renaming intro->L
open Bool renaming and_eq_true->b9,false->d,false_or->Y,true->A,true_and->b_
open Decidable renaming decide->H
open Go.IntKind renaming i64->D
open Go.LoopState renaming ready->K
open Go.Op renaming bytesLess->O
open Go.Proofs.Tryz renaming f51->Z,f84->S,func84->b!,prog->M
open Int renaming toNat_natCast->an
open List renaming all_eq_true->cl,cons_ne_nil->a_,drop_zero->ct,getElem?_cons_zero->cx,getLastD_cons->a!,length_append->P,length_cons->V,map_congr_left->cy,map_cons->bf,map_map->b5,mem_cons->cD,mem_cons_self->I,mem_flatMap->c4,mem_range->Q,range->W,range_succ_eq_map->b6
open Nat renaming not_lt_zero->N,zero_add->X,zero_le->c5
open Option renaming none->C,some->G
open UInt8 renaming lt_iff_toNat_lt->b7,ofNat->J,toNat_ofNat'->c6
namespace Go.Proofs.YtoibaecagklkaaaGreatDoor
open Go Sx
variable {l:List Rw}{t v:f_}{c i k m n:Nat}{f:Nat->f_}{x:Nd}{p:Prop}{ty:TypeId}{s:Wk}
section
open Go Sx
set_option maxRecDepth 20000
theorem iC {s:f_}(h:s.length<32):eY s=s:=r_ h
theorem iN {s:f_}(h: ¬ s.length<32):bw (eY s)=A/\af (eY s)=aK s/\(eY s).length=33:=by
 have e:eY s=aq (aK s)++[]:=by rw[eY,s_ h,List.append_nil]
 obtain⟨h1,h2,h3,h4⟩:=sW (b:=aK s) (by rw[xR];decide) [];rw[← e] at h1 h2 h3 h4;have hb:bw (eY s)=true:=rZ.2 ⟨⟨h1,h2,h4⟩,by rw[h3];exact xR s⟩;exact⟨hb,h3,lg hb⟩
theorem sn (h:aZ x=A)(hk:x.k≠0)(hl:(cZ x).length<32):bH (cZ x)=A/\(getD (cZ x)).GR x:=by obtain⟨g1,g2⟩:=gJ h;refine⟨?_,g2⟩;rw[yK,n_ hl,g1,o_ (by rw[g2.k];exact hk)];rfl
theorem CZ (h:aZ x=A)(hk:x.k≠0):iU bH (eY (cZ x))=A/\eY (cZ x)≠[]:=by
 by_cases hl:(cZ x).length<32
 ·have e:=iC hl;refine⟨?_,?_⟩
  ·rw[e,iU,(sn h hk hl).1];simp
  ·rw[e];have:=(IF h).1;intro e0;rw[e0] at this;simp at this
 ·obtain⟨h1,_,h3⟩:=iN hl;refine⟨by rw[iU,h1];rfl,λe0=> ?_⟩;rw[e0] at h3;simp at h3
theorem N3 {p:f_}(h: ∀ b,b∈ p->b.toNat<16):jO p=true:=by
 unfold jO;rw[cl];intro i hi;have hi:=Q.1 hi;have:ai p (i:Int)=((p[i]).toNat:Int):=by unfold ai;simp[List.getElem?_eq_getElem hi]
 have hb:=h p[i] (List.getElem_mem hi);rw[Iu,this,o_ (by omega)];rfl
theorem Kb (r:Nat->f_): ∀ n,0<=dI r n
 | 0=>Int.le_refl _
 | n+1=>by have:=Kb r n;unfold dI;split<;>omega
theorem yH {r:Nat->f_}{i:Nat}(hr:r i≠[]): ∀ {n},i<n->1<=dI r n
 | 0,h=>absurd h (N _)
 | n+1,h=>by
   unfold dI;by_cases e:i=n
   ·subst e;rw[s_ hr];have:=Kb r i;omega
   ·have:=yH hr (n:=n) (by omega);split<;>omega
theorem yI {r:Nat->f_}{i j:Nat}(hij:i<j)(hi:r i≠[])(hj:r j≠[]): ∀ {n},j<n->2<=dI r n
 | 0,h=>absurd h (N _)
 | n+1,h=>by
   unfold dI;by_cases e:j=n
   ·subst e;rw[s_ hj];have:=yH hi (n:=j) hij;omega
   ·have:=yI hij hi hj (n:=n) (by omega);split<;>omega
theorem QB {r:Nat->f_}: ∀ {n},(∀ i,i<n->r i=[]∨iU bH (r i)=A)->j6 bH r n=A
 | 0,_=>rfl
 | n+1,h=>by
   unfold j6;rw[QB λi hi=>h i (by omega)];rcases h n (Nat.lt_succ_self n)with e | e
   ·rw[n_ e];rfl
   ·rw[e];simp
theorem MI (ht:t≠[]):cF (bN t) 16=1:=by
 have key: ∀ n,n<16->cF (bN t) (n+1)=1:=by
  intro n;induction n with
  | zero=>intro _;unfold cF;rw[qx t 0 (by decide),r_ rfl,s_ ht];rfl
  | succ n ih =>
    intro hn;have e:bN t (n+1)=[]:=by rw[qx t (n+1) hn,s_ (by omega)]
    unfold cF;rw[r_ e];exact ih (by omega)
 exact key 15 (by decide)
theorem RU {a b:UInt8}{p q:f_}(h: ¬ 0<bL (a::p) (b::q)):a≠b:=λe=>by subst e;unfold bL at h;rw[r_ rfl] at h;exact h (Nat.succ_pos _)
theorem Wu {r s:Rw}{t:List Rw}(hl:l=r::s::t)(hc: ¬ 0<bL r.1 ((s::t).getLastD r).1){b:UInt8}{q:f_}(hx:(b::q,v)∈ l):aG l b.toNat≠[]:=by subst hl;rw[cq,s_ hc];intro e;have:(q,v)∈ cm 1 (bI b.toNat (r::s::t)):=List.mem_map.2 ⟨(b::q,v),List.mem_filter.2 ⟨hx,by simp[lU]⟩,rfl⟩;rw[e] at this;cases this
theorem mR {r s:Rw}{t:List Rw}(k:Nat):(cm k (r::s::t))=(r.1.drop k,r.2)::(s.1.drop k,s.2)::cm k t:=rfl
theorem tN (k:Nat): ∀(r:Rw) (l:List Rw),(cm k l).getLastD (r.1.drop k,r.2)=((l.getLastD r).1.drop k,(l.getLastD r).2)
 | r,[]=>rfl
 | r,s::l=>by
   rw[show cm k (s::l)=(s.1.drop k,s.2)::cm k l from rfl,a!,a!]
   exact tN k s l
theorem tv: ∀(a b:f_),bL (a.drop (bL a b)) (b.drop (bL a b))=0
 | [],b=>by simp[bL]
 | a::p,[]=>by simp[bL]
 | a::p,b::q=>by
   by_cases e:a=b
   ·have:bL (a::p) (b::q)=bL p q+1:=by simp only[bL,r_ e]
    rw[this];simp only[List.drop_succ_cons];exact tv p q
   ·have:bL (a::p) (b::q)=0:=by simp only[bL,s_ e]
    rw[this,ct,ct,this]
theorem Vp (hl:l≠[]):(bF (m+1) l).k≠0/\((bF (m+1) l).k=3↔∃ r s t,l=r::s::t/\¬ 0<bL r.1 ((s::t).getLastD r).1):=by
 match l,hl with
 | [r],_=>exact⟨by show(1:Int)≠0;decide,⟨λh=>absurd h (by show ¬ (1:Int)=3;decide),fun⟨_,_,_,h,_⟩=>by cases h⟩⟩
 | r::s::t,_ =>
   have e:bF (m+1) (r::s::t)=fP (λl'=>if l'=[] then [] else eY (cZ (bF m l'))) (r::s::t):=rfl
   rw[e];unfold fP;dsimp only;by_cases hk:0<bL r.1 ((s::t).getLastD r).1
   ·rw[r_ hk];exact⟨by show(2:Int)≠0;decide,⟨λh=>absurd h (by show ¬ (2:Int)=3;decide),fun⟨r',s',t',h,h2⟩=>by injection h with h1 h;injection h with h3 h4;subst h1;subst h3;subst h4;exact absurd hk h2⟩⟩
   ·rw[s_ hk];exact⟨by show(3:Int)≠0;decide,⟨λ_=>⟨r,s,t,rfl,hk⟩,λ_=>rfl⟩⟩
theorem aeM (hk:x.k=3):aZ x=dX bH x:=by unfold aZ jq;rw[hk];rfl
theorem dw: ∀ {m:Nat} {l:List Rw},m<=13->cc m l->l≠[]->aZ (bF m l)=A
 | 0,[],_,_,h=>absurd rfl h
 | 0,r::_,_,h,_=>absurd (h.len r (I ..)) (N _)
 | m+1,[],_,_,h=>absurd rfl h
 | m+1,[r],hm,h,_=>by have h1:=h.len r (I ..);exact NA (by omega) (N3 (h.N1 r (I ..))) (h.val r (I ..))
 | m+1,r::s::t,hm,h,_=>by
   have kid: ∀ i,aG (r::s::t) i≠[]->iU bH (eY (ctext m (aG (r::s::t) i)))=A/\eY (ctext m (aG (r::s::t) i))≠[]:=λi hi=>by
    have hv:=dw (m:=m) (by omega) (fL h i) hi;have hk:(bF m (aG (r::s::t) i)).k≠0:=by
     match m,fL h i with
     | 0,ho =>
       cases hkr:aG (r::s::t) i with
       | nil=>exact absurd hkr hi
       | cons x y=>rw[hkr] at ho;exact absurd (ho.len x (I ..)) (N _)
     | m+1,_=>exact(Vp hi).1
    exact CZ hv hk
   have hr:=h.len r (I ..);by_cases hk:0<bL r.1 ((s::t).getLastD r).1
   ·have e:bF (m+1) (r::s::t)=⟨2,r.1.take (bL r.1 ((s::t).getLastD r).1),[],bN (eY (ctext m (aG (r::s::t) 0)))⟩:=by
     show fP _ (r::s::t)=_;unfold fP;dsimp only;rw[r_ hk];have:aG (r::s::t) 0≠[]:=by rw[cq,r_ hk,r_ rfl,mR];exact a_ _ _
     rw[s_ this];rfl
    have hk0:aG (r::s::t) 0=cm (bL r.1 ((s::t).getLastD r).1) (r::s::t):=by rw[cq,r_ hk,r_ rfl]
    have hne:aG (r::s::t) 0≠[]:=by rw[hk0,mR];exact a_ _ _
    obtain⟨g1,g2⟩:=kid 0 hne;have hle:=(Bd r.1 ((s::t).getLastD r).1).1;rw[e];show nB bH _=A;unfold nB iB;dsimp only;have e0:bN (eY (ctext m (aG (r::s::t) 0))) 0=eY (ctext m (aG (r::s::t) 0)):=by rw[qx _ 0 (by decide)];exact r_ rfl
    simp only[e0];rw[N3 (λb hb=>h.N1 r (I ..) b (List.mem_of_mem_take hb)),MI g2];rw[List.length_take,Nat.min_eq_left hle,n_ (show(1:Int)<=(bL r.1 ((s::t).getLastD r).1:Int)by omega),n_ (show(bL r.1 ((s::t).getLastD r).1:Int)<=12 by omega)];simp only[decide_true,b_,Bool.and_self];rcases Bool.eq_false_or_eq_true (bw (eY (ctext m (aG (r::s::t) 0))))with hh | hh
    ·rw[hh];rfl
    ·rw[iU,hh,Y] at g1;rw[hh,g1,Y,b_];have hlt:(ctext m (aG (r::s::t) 0)).length<32:=by
      by_cases hlt:(ctext m (aG (r::s::t) 0)).length<32
      ·exact hlt
      ·rw[(iN hlt).1] at hh;cases hh
     rw[iC hlt];have ho:=fL h 0;have hv:=dw (m:=m) (by omega) ho hne;rw[show getD (ctext m (aG (r::s::t) 0))=bF m (aG (r::s::t) 0)from gr hv]
     match m,ho with
     | 0,ho =>
       cases hkr:aG (r::s::t) 0 with
       | nil=>exact absurd hkr hne
       | cons x y=>rw[hkr] at ho;exact absurd (ho.len x (I ..)) (N _)
     | m+1,_ =>refine n_ ((Vp hne).2.2 ⟨_,_,_,hk0.trans (mR _),?_⟩);have:((s.1.drop (bL r.1 ((s::t).getLastD r).1),s.2)::cm (bL r.1 ((s::t).getLastD r).1) t).getLastD (r.1.drop (bL r.1 ((s::t).getLastD r).1),r.2)=_:=tN (bL r.1 ((s::t).getLastD r).1) r (s::t);rw[this,tv];exact Nat.lt_irrefl 0
   ·have e:bF (m+1) (r::s::t)=⟨3,[],if r.1=[] then r.2 else [],dK λi=>if aG (r::s::t) i=[] then [] else eY (ctext m (aG (r::s::t) i))⟩:=by show fP _ (r::s::t)=_;unfold fP;dsimp only;rw[s_ hk];rfl
    have hget: ∀ i,i<16->(dK λi=>if aG (r::s::t) i=[] then [] else eY (ctext m (aG (r::s::t) i))) i=if aG (r::s::t) i=[] then [] else eY (ctext m (aG (r::s::t) i)):=λi hi=>C6 _ i hi
    have full: ∀ i,i<16->aG (r::s::t) i≠[]->(dK λi=>if aG (r::s::t) i=[] then [] else eY (ctext m (aG (r::s::t) i))) i≠[]:=λi hi hne=>by rw[hget i hi,s_ hne];exact(kid i hne).2
    have hrv:=h.val r (I ..);have hlast:(s::t).getLastD r∈ r::s::t:=mD r (s::t);have hls:O r.1 ((s::t).getLastD r).1=true:=by have hp:=h.zG;unfold ve at hp;rw[List.pairwise_cons] at hp;refine hp.1 _ ?_;rw[a!];exact mD s t
    rw[e,aeM rfl];unfold dX;dsimp only;have hcount:(2:Int)<=min ((if r.1=[] then r.2 else []).length:Int) 1+dI (dK λi=>if aG (r::s::t) i=[] then [] else eY (ctext m (aG (r::s::t) i))) 16:=by
     generalize hz:(s::t).getLastD r=z at hk hlast hls;obtain⟨rp,rv⟩:=r;obtain⟨zp,zv⟩:=z;cases zp with
     | nil=>cases rp<;>simp[O] at hls
     | cons b q =>
       have hb:b.toNat<16:=h.N1 _ hlast b (I ..);have hkb:aG ((rp,rv)::s::t) b.toNat≠[]:=Wu rfl (by rw[hz];exact hk) hlast;cases rp with
       | nil =>have:=yH (full _ hb hkb) (n:=16) hb;simp only[if_true];have h1:0<rv.length:=hrv.1;omega
       | cons a p =>
         have ha:a.toNat<16:=h.N1 _ (I ..) a (I ..);have hka:aG ((a::p,rv)::s::t) a.toNat≠[]:=Wu rfl (by rw[hz];exact hk) (I ..);have hab:a.toNat≠b.toNat:=λe=>RU hk (UInt8.toNat_inj.1 e);rw[s_ (a_ _ _)];have:2<=dI (dK λi=>if aG ((a::p,rv)::s::t) i=[] then [] else eY (ctext m (aG ((a::p,rv)::s::t) i))) 16:=by
          rcases Nat.lt_or_gt_of_ne hab with hlt | hgt
          ·exact yI hlt (full _ ha hka) (full _ hb hkb) hb
          ·exact yI hgt (full _ hb hkb) (full _ ha hka) ha
         show(2:Int)<=min ((0:Nat):Int) 1+_;omega
    have hvl:((if r.1=[] then r.2 else []).length:Int)<=80:=by
     split
     ·have:=hrv.2;omega
     ·show((0:Nat):Int)<=80;omega
    rw[n_ hcount,n_ hvl,QB λi hi=> ?_]
    ·rfl
    ·rw[hget i hi];by_cases hn:aG (r::s::t) i=[]
     ·exact .inl (r_ hn)
     ·rw[s_ hn];exact .inr (kid i hn).1
theorem Hj (h:cc m l)(hl:l≠[]):(bF m l).k≠0:=by
 match m,h with
 | 0,ho =>
   cases l with
   | nil=>exact absurd rfl hl
   | cons x y=>exact absurd (ho.len x (I ..)) (N _)
 | m+1,_=>exact(Vp hl).1
theorem tn (hi:i<16)(hk:aG l i≠[])(ht:t∈ cR m (aG l i)):t∈ cR (m+1) l:=by unfold cR;refine c4.2 ⟨i,Q.2 hi,?_⟩;rw[s_ hk];exact List.mem_append_right _ ht
theorem vl (hi:i<16)(hk:aG l i≠[])(hl: ¬ (ctext m (aG l i)).length<32):ctext m (aG l i)∈ cR (m+1) l:=by unfold cR;refine c4.2 ⟨i,Q.2 hi,?_⟩;rw[s_ hk,s_ hl];exact List.mem_append_left _ (I ..)
theorem m9 (b:UInt8)(k:f_):au (b::k)=J (b.toNat/16)::J (b.toNat%16)::au k:=by
 have hb:ai (b::k) 0=(b.toNat:Int):=rfl;have e0:lC (b::k) 0=(b.toNat:Int)/16:=by unfold lC;rw[r_ rfl];rfl
 have e1:lC (b::k) 1=(b.toNat:Int)%16:=by unfold lC;rw[s_ (by decide)];rfl
 have e2: ∀ j:Nat,lC (b::k) (j+2)=lC k j:=λj=>by
  unfold lC;have:(((j+2:Nat):Int)/2)=((j/2+1:Nat):Int):=by omega
  have h2:((j:Int)/2)=((j/2:Nat):Int):=by omega
  have h3:(j+2)%2=j%2:=by omega
  rw[h3,this,cn,h2]
 have hn:2*(b::k).length=2*k.length+1+1:=by rw[V];omega
 unfold au dG;rw[hn,b6,bf,b5,b6,bf,b5];simp only[X,Function.comp,e0,e1,Nat.succ_eq_add_one];refine congr (congrArg _ ?_) (congr (congrArg _ ?_) ?_)
 ·congr 1
 ·congr 1
 ·refine cy λj _=> ?_;show J (lC (b::k) (j+2)).toNat=_;rw[e2]
theorem Li (a b:UInt8)(p:f_)(ha:a.toNat<16)(hb:b.toNat<16):br (a::b::p)=J (a.toNat*16+b.toNat)::br p:=by
 have e0:iW (a::b::p) 0=(a.toNat:Int)*16+(b.toNat:Int):=by have h1:ai (a::b::p) (2*((0:Nat):Int))=(a.toNat:Int):=rfl;have h2:ai (a::b::p) (2*((0:Nat):Int)+1)=(b.toNat:Int):=rfl;unfold iW;rw[h1,h2,QL ⟨by omega,by omega⟩ ⟨by omega,by omega⟩]
 have e2: ∀ j:Nat,iW (a::b::p) (j+1)=iW p j:=λj=>by
  unfold iW
  rw[show(2*((j+1:Nat):Int))=((2*j+1+1:Nat):Int)by push_cast;omega,cn,cn,
   show(((2*j+1+1:Nat):Int)+1)=((2*j+1+1+1:Nat):Int)by push_cast;omega,cn,cn]
  rw[show((2*j+1:Nat):Int)=2*(j:Int)+1 by push_cast;omega,show((2*j:Nat):Int)=2*(j:Int)by push_cast;omega]
 have hn:(a::b::p).length/2=p.length/2+1:=by rw[V,V];omega
 unfold br dG;rw[hn,b6,bf,b5];simp only[X,e0];refine congr (congrArg _ ?_) (cy λj _=>by show J (iW (a::b::p) (j+1)).toNat=_;rw[e2])
 congr 1
theorem tV (b:UInt8):(J (b.toNat/16)).toNat=b.toNat/16/\(J (b.toNat%16)).toNat=b.toNat%16:=by
 have:=b.toNat_lt;constructor
 ·rw[c6];omega
 ·rw[c6];omega
theorem m8: ∀(k:f_),br (au k)=k
 | []=>rfl
 | b::k=>by have hb:=b.toNat_lt;obtain⟨h1,h2⟩:=tV b;rw[m9,Li _ _ _ (by rw[h1];omega) (by rw[h2];omega),m8 k,h1,h2];congr 1;rw[show b.toNat/16*16+b.toNat%16=b.toNat by omega,UInt8.ofNat_toNat]
theorem pn: ∀(k:f_) (b:UInt8),b∈ au k->b.toNat<16
 | [],b,h=>by cases h
 | c::k,b,h=>by
   have hc:=c.toNat_lt;obtain⟨h1,h2⟩:=tV c;rw[m9] at h;rcases cD.1 h with rfl | h
   ·rw[h1];omega
   ·rcases cD.1 h with rfl | h
    ·rw[h2];omega
    ·exact pn k b h
theorem Lo (k:f_):oS (au k)=true:=by unfold oS;rw[N3 (pn k),pg,n_ (by omega)];rfl
theorem oV (a b:UInt8)(p q:f_):O (a::p) (b::q)=(H (a<b)||(H (a=b)&&O p q)):=by
 show(H (a<b)||(a==b&&O p q))=_;by_cases e:a=b
 ·subst e;simp
 ·simp[e]
theorem tO: ∀ {a b:f_},O a b=A->O (au a) (au b)=A
 | [],[],h=>by cases h
 | [],b::q,_=>by rw[m9];rfl
 | a::p,[],h=>by cases h
 | a::p,b::q,h=>by
   have ha:=a.toNat_lt;have hb:=b.toNat_lt;obtain⟨a1,a2⟩:=tV a;obtain⟨b1,b2⟩:=tV b;rw[oV,Bool.or_eq_true,b9,p_,p_] at h;rw[m9,m9,oV,oV];rcases h with h | ⟨rfl,h⟩
   ·have hlt:a.toNat<b.toNat:=b7.1 h;by_cases h1:a.toNat/16<b.toNat/16
    ·have:J (a.toNat/16)<J (b.toNat/16):=b7.2 (by rw[a1,b1];exact h1);rw[n_ this];rfl
    ·have e1:J (a.toNat/16)=J (b.toNat/16):=by congr 1;omega
     have:J (a.toNat%16)<J (b.toNat%16):=b7.2 (by rw[a2,b2];omega);rw[n_ e1,n_ this];simp
   ·rw[n_ rfl,n_ rfl,tO h];simp
theorem Mq (m:Nat)(x:Ae×Nd×f_):VC.holds (runM (Vh m x.1 x.2.1 x.2.2) 84 S (Me (m+1)) x)=((λj:SB=>((λh:SB=>((λl:SB=>((λI:SB=>((λq:SB=>((λt:(Ae×f_)->Nd=>((λL:SB=>((λi:SB=>((λP8:SB=>((λR:(Nat×Wk×Nat×Nat)->SB=>((λT:(Nat×Wk×Nat×Nat)->SB=>((Fk (400<=(x.1.s.lk:Int)) (Bk (fC x.1.w (m+1) x.1.s x.2.1 x.2.2) (∃(a3:Nat×Nat),((bz x.1.w (m+1) x.1.s x.2.1 x.2.2).ns.length<=a3.1/\(bz x.1.w (m+1) x.1.s x.2.1 x.2.2).fs.length<=a3.2)/\False) (∃(a4:f_×f_),(0:Nat)=(0:Nat)/\aa (SB.cells [SV.str A [(116:UInt8),(111:UInt8),(111:UInt8),(32:UInt8),(109:UInt8),(97:UInt8),(110:UInt8),(121:UInt8),(32:UInt8),(110:UInt8),(111:UInt8),(100:UInt8),(101:UInt8),(115:UInt8)],SV.str A []] 2 207) (SB.cells [SV.str d a4.1,SV.str d a4.2] 2 207)/\True)) (I6 ((x.1.s.lk:Int)+1)/\((x.2.2.length:Int)+(x.2.1.p.length:Int)<=9223372036854775807/\Bk (!decide (x.2.1.v=[])) ((x.1.w.fr.length<=1000/\x.1.w.to.length<=1000)/\Bk (hasB x.1.w.fr x.1.w.to (cat x.2.2 x.2.1.p)) ((cat x.2.2 x.2.1.p).length<1099511627776/\Bk (oS (cat x.2.2 x.2.1.p)) (G P8=G P8/\G h=G h/\G h=G h/\(0+x.1.s.fs.length<=x.1.s.fs.length/\True/\2*(x.1.s.fs.length+1)*32<=(281474976710656:Nat)/\x.1.s.fs.length+1<(9223372036854775808:Nat))/\x.1.c2*2=x.1.c2*2/\∀(U:Nat),x.1.s.fs.length+1<=U->G h=G h/\∃(V:Nat),(if fe x.1.w x.2.1 x.2.2=A then x.1.s.fs++[(br (cat x.2.2 x.2.1.p),x.2.1.v)] else x.1.s.fs).length<=V/\(7:Nat)=(7:Nat)/\x.1.w.fr=x.1.w.fr/\x.1.w.to=x.1.w.to/\(0:Nat)=(0:Nat)/\(0:Nat)=(0:Nat)/\((0:Nat)=(0:Nat)/\x.1.s.ns.length=x.1.s.ns.length/\x.1.c1=x.1.c1)/\True/\(x.1.s.lk:Int)+1=(↑(x.1.s.lk+1):Int)/\((0:Nat)=(0:Nat)/\x.1.s.fs.length+1=(if fe x.1.w x.2.1 x.2.2=A then x.1.s.fs++[(br (cat x.2.2 x.2.1.p),x.2.1.v)] else x.1.s.fs).length/\U=V)/\True/\aa (SB.rows A (x.1.s.fs.length+1) [av.str λW=>if W<x.1.s.fs.length then(x.1.s.fs.getD W ([],[])).1 else ck [br (cat x.2.2 x.2.1.p)] (W-x.1.s.fs.length),av.str λX=>if X<x.1.s.fs.length then(x.1.s.fs.getD X ([],[])).2 else ck [x.2.1.v] (X-x.1.s.fs.length)] d (U*2) 50) (dH (Wk.jm x.1.w x.1.s x.2.1 x.2.2) V)/\aa q q/\aa l l/\aa h h/\aa (ff x.1.s) (ff x.1.s)/\aa (dY x.1.s x.1.c1) (dY x.1.s x.1.c1)/\aa i i/\aa (SB.fmap x.1.w.ad (aE.int D x.1.w.ag) C) (SB.fmap x.1.w.ad (aE.int D x.1.w.ag) C)/\aa j j/\aa x.1.w.view x.1.w.view/\True) (∃(Y:Nat),(if fe x.1.w x.2.1 x.2.2=A then x.1.s.fs++[(br (cat x.2.2 x.2.1.p),x.2.1.v)] else x.1.s.fs).length<=Y/\(7:Nat)=(7:Nat)/\x.1.w.fr=x.1.w.fr/\x.1.w.to=x.1.w.to/\(0:Nat)=(0:Nat)/\(0:Nat)=(0:Nat)/\((0:Nat)=(0:Nat)/\x.1.s.ns.length=x.1.s.ns.length/\x.1.c1=x.1.c1)/\True/\(x.1.s.lk:Int)+1=(↑(x.1.s.lk+1):Int)/\((0:Nat)=(0:Nat)/\x.1.s.fs.length=(if fe x.1.w x.2.1 x.2.2=A then x.1.s.fs++[(br (cat x.2.2 x.2.1.p),x.2.1.v)] else x.1.s.fs).length/\x.1.c2=Y)/\True/\aa (SB.rows A x.1.s.fs.length [bU x.1.s.fs,bV x.1.s.fs] d (x.1.c2*2) 50) (dH (Wk.jm x.1.w x.1.s x.2.1 x.2.2) Y)/\aa q q/\aa l l/\aa h h/\aa (ff x.1.s) (ff x.1.s)/\aa (dY x.1.s x.1.c1) (dY x.1.s x.1.c1)/\aa i i/\aa (SB.fmap x.1.w.ad (aE.int D x.1.w.ag) C) (SB.fmap x.1.w.ad (aE.int D x.1.w.ag) C)/\aa j j/\aa x.1.w.view x.1.w.view/\True)) (∃(Z:Nat),(if fe x.1.w x.2.1 x.2.2=A then x.1.s.fs++[(br (cat x.2.2 x.2.1.p),x.2.1.v)] else x.1.s.fs).length<=Z/\(7:Nat)=(7:Nat)/\x.1.w.fr=x.1.w.fr/\x.1.w.to=x.1.w.to/\(0:Nat)=(0:Nat)/\(0:Nat)=(0:Nat)/\((0:Nat)=(0:Nat)/\x.1.s.ns.length=x.1.s.ns.length/\x.1.c1=x.1.c1)/\True/\(x.1.s.lk:Int)+1=(↑(x.1.s.lk+1):Int)/\((0:Nat)=(0:Nat)/\x.1.s.fs.length=(if fe x.1.w x.2.1 x.2.2=A then x.1.s.fs++[(br (cat x.2.2 x.2.1.p),x.2.1.v)] else x.1.s.fs).length/\x.1.c2=Z)/\True/\aa (SB.rows A x.1.s.fs.length [bU x.1.s.fs,bV x.1.s.fs] d (x.1.c2*2) 50) (dH (Wk.jm x.1.w x.1.s x.2.1 x.2.2) Z)/\aa q q/\aa l l/\aa h h/\aa (ff x.1.s) (ff x.1.s)/\aa (dY x.1.s x.1.c1) (dY x.1.s x.1.c1)/\aa i i/\aa (SB.fmap x.1.w.ad (aE.int D x.1.w.ag) C) (SB.fmap x.1.w.ad (aE.int D x.1.w.ag) C)/\aa j j/\aa x.1.w.view x.1.w.view/\True)) (∃(a0:Nat),(if fe x.1.w x.2.1 x.2.2=A then x.1.s.fs++[(br (cat x.2.2 x.2.1.p),x.2.1.v)] else x.1.s.fs).length<=a0/\(7:Nat)=(7:Nat)/\x.1.w.fr=x.1.w.fr/\x.1.w.to=x.1.w.to/\(0:Nat)=(0:Nat)/\(0:Nat)=(0:Nat)/\((0:Nat)=(0:Nat)/\x.1.s.ns.length=x.1.s.ns.length/\x.1.c1=x.1.c1)/\True/\(x.1.s.lk:Int)+1=(↑(x.1.s.lk+1):Int)/\((0:Nat)=(0:Nat)/\x.1.s.fs.length=(if fe x.1.w x.2.1 x.2.2=A then x.1.s.fs++[(br (cat x.2.2 x.2.1.p),x.2.1.v)] else x.1.s.fs).length/\x.1.c2=a0)/\True/\aa (SB.rows A x.1.s.fs.length [bU x.1.s.fs,bV x.1.s.fs] d (x.1.c2*2) 50) (dH (Wk.jm x.1.w x.1.s x.2.1 x.2.2) a0)/\aa q q/\aa l l/\aa h h/\aa (ff x.1.s) (ff x.1.s)/\aa (dY x.1.s x.1.c1) (dY x.1.s x.1.c1)/\aa i i/\aa (SB.fmap x.1.w.ad (aE.int D x.1.w.ag) C) (SB.fmap x.1.w.ad (aE.int D x.1.w.ag) C)/\aa j j/\aa x.1.w.view x.1.w.view/\True))/\∀(a1:Nat),(if fe x.1.w x.2.1 x.2.2=A then x.1.s.fs++[(br (cat x.2.2 x.2.1.p),x.2.1.v)] else x.1.s.fs).length<=a1->∀(H:Loop),(∃(F:Nat×Wk×Nat×Nat),(F.1<=16/\cA x.1.w (lQ x.1.w m) x.2.1 x.2.2 F.1 (Wk.jm x.1.w x.1.s x.2.1 x.2.2)=G F.2.1/\F.2.1.ns.length<=F.2.2.1/\F.2.1.fs.length<=F.2.2.2)/\0=(F.1:Int)/\(7:Nat)=(7:Nat)/\x.1.w.fr=x.1.w.fr/\x.1.w.to=x.1.w.to/\(0:Nat)=(0:Nat)/\(0:Nat)=(0:Nat)/\((0:Nat)=(0:Nat)/\x.1.s.ns.length=F.2.1.ns.length/\x.1.c1=F.2.2.1)/\True/\(↑(x.1.s.lk+1):Int)=(F.2.1.lk:Int)/\((0:Nat)=(0:Nat)/\(if fe x.1.w x.2.1 x.2.2=A then x.1.s.fs++[(br (cat x.2.2 x.2.1.p),x.2.1.v)] else x.1.s.fs).length=F.2.1.fs.length/\a1=F.2.2.2)/\True/\aa (SB.fmap x.1.s.ud (aE.int D x.1.s.us) C) (ff F.2.1)/\aa (SB.rows A x.1.s.ns.length [jz x.1.s.ns] d (x.1.c1*1) 9) (dY F.2.1 F.2.2.1)/\aa (SB.rows A (if fe x.1.w x.2.1 x.2.2=A then x.1.s.fs++[(br (cat x.2.2 x.2.1.p),x.2.1.v)] else x.1.s.fs).length [bU (if fe x.1.w x.2.1 x.2.2=A then x.1.s.fs++[(br (cat x.2.2 x.2.1.p),x.2.1.v)] else x.1.s.fs),bV (if fe x.1.w x.2.1 x.2.2=A then x.1.s.fs++[(br (cat x.2.2 x.2.1.p),x.2.1.v)] else x.1.s.fs)] d (a1*2) 50) (dH F.2.1 F.2.2.2)/\aa (SB.loop K C H) (SB.loop K C H)/\aa L L/\aa I I/\aa h h/\aa q q/\aa l l/\aa h h/\aa i i/\aa (SB.fmap x.1.w.ad (aE.int D x.1.w.ag) C) (SB.fmap x.1.w.ad (aE.int D x.1.w.ag) C)/\aa j j/\aa x.1.w.view x.1.w.view/\True)/\∀(g:Nat×Wk×Nat×Nat),g.1<=16/\cA x.1.w (lQ x.1.w m) x.2.1 x.2.2 g.1 (Wk.jm x.1.w x.1.s x.2.1 x.2.2)=G g.2.1/\g.2.1.ns.length<=g.2.2.1/\g.2.1.fs.length<=g.2.2.2->Fk ((g.1:Int)<16) ((0<=(g.1:Int)/\(g.1:Int)<16/\(g.1:Int)<(↑(16:Nat):Int))/\Fk (ck (c9 x.2.1.r []) (g.1:Int).toNat=[]) (I6 ((g.1:Int)+1)/\∃(u:Nat×Wk×Nat×Nat),((u.1<=16/\cA x.1.w (lQ x.1.w m) x.2.1 x.2.2 u.1 (Wk.jm x.1.w x.1.s x.2.1 x.2.2)=G u.2.1/\u.2.1.ns.length<=u.2.2.1/\u.2.1.fs.length<=u.2.2.2)/\16-u.1<16-g.1)/\(g.1:Int)+1=(u.1:Int)/\(7:Nat)=(7:Nat)/\x.1.w.fr=x.1.w.fr/\x.1.w.to=x.1.w.to/\(0:Nat)=(0:Nat)/\(0:Nat)=(0:Nat)/\((0:Nat)=(0:Nat)/\g.2.1.ns.length=u.2.1.ns.length/\g.2.2.1=u.2.2.1)/\True/\(g.2.1.lk:Int)=(u.2.1.lk:Int)/\((0:Nat)=(0:Nat)/\g.2.1.fs.length=u.2.1.fs.length/\g.2.2.2=u.2.2.2)/\True/\aa (SB.fmap g.2.1.ud (aE.int D g.2.1.us) C) (ff u.2.1)/\aa (T g) (dY u.2.1 u.2.2.1)/\aa (R g) (dH u.2.1 u.2.2.2)/\aa (SB.loop K C H) (SB.loop K C H)/\aa L L/\aa I I/\aa h h/\aa q q/\aa l l/\aa h h/\aa i i/\aa (SB.fmap x.1.w.ad (aE.int D x.1.w.ag) C) (SB.fmap x.1.w.ad (aE.int D x.1.w.ag) C)/\aa j j/\aa x.1.w.view x.1.w.view/\True) ((x.2.2.length:Int)+(x.2.1.p.length:Int)<=9223372036854775807/\(Fk (x.2.1.k=3) ((↑(cat x.2.2 x.2.1.p).length:Int)+(↑(1:Nat):Int)<=9223372036854775807/\∃(_:Unit),True/\cat (cat x.2.2 x.2.1.p) [J ((g.1:Int)%256).toNat]=eV x.2.1 x.2.2 (g.1:Int).toNat/\aa (Ms x.1.w g.2.1 16 17 g.2.2.1 g.2.2.2) (Ms x.1.w g.2.1 16 17 g.2.2.1 g.2.2.2)/\aa (ff g.2.1) (ff g.2.1)/\aa (dY g.2.1 g.2.2.1) (dY g.2.1 g.2.2.1)/\aa (dH g.2.1 g.2.2.2) (dH g.2.1 g.2.2.2)/\aa (SB.loop K C H) (SB.loop K C H)/\aa L L/\aa I I/\aa h h/\aa q q/\aa l l/\aa h h/\aa i i/\aa (SB.fmap x.1.w.ad (aE.int D x.1.w.ag) C) (SB.fmap x.1.w.ad (aE.int D x.1.w.ag) C)/\aa j j/\aa x.1.w.view x.1.w.view/\True) (∃(_:Unit),True/\cat x.2.2 x.2.1.p=eV x.2.1 x.2.2 (g.1:Int).toNat/\aa (Ms x.1.w g.2.1 16 17 g.2.2.1 g.2.2.2) (Ms x.1.w g.2.1 16 17 g.2.2.1 g.2.2.2)/\aa (ff g.2.1) (ff g.2.1)/\aa (dY g.2.1 g.2.2.1) (dY g.2.1 g.2.2.1)/\aa (dH g.2.1 g.2.2.2) (dH g.2.1 g.2.2.2)/\aa (SB.loop K C H) (SB.loop K C H)/\aa L L/\aa I I/\aa h h/\aa q q/\aa l l/\aa h h/\aa i i/\aa (SB.fmap x.1.w.ad (aE.int D x.1.w.ag) C) (SB.fmap x.1.w.ad (aE.int D x.1.w.ag) C)/\aa j j/\aa x.1.w.view x.1.w.view/\True))/\∀(_:Unit),True->(x.1.w.fr.length<=1000/\x.1.w.to.length<=1000)/\Bk (bW x.1.w.fr x.1.w.to (eV x.2.1 x.2.2 (g.1:Int).toNat)) (H=H/\∃(a:Ae×f_),(a.1.w.Ok/\a.1.s.Small/\(a.1.s.ns.length<=a.1.c1/\a.1.s.fs.length<=a.1.c2)/\a.2.length<9223372036854775808)/\(0:Nat)=(0:Nat)/\ck (c9 x.2.1.r []) (g.1:Int).toNat=a.2/\(7:Nat)=(7:Nat)/\x.1.w.fr=a.1.w.fr/\x.1.w.to=a.1.w.to/\(0:Nat)=(0:Nat)/\(0:Nat)=(0:Nat)/\((0:Nat)=(0:Nat)/\g.2.1.ns.length=a.1.s.ns.length/\g.2.2.1=a.1.c1)/\True/\(g.2.1.lk:Int)=(a.1.s.lk:Int)/\((0:Nat)=(0:Nat)/\g.2.1.fs.length=a.1.s.fs.length/\g.2.2.2=a.1.c2)/\True/\aa (SB.fmap g.2.1.ud (aE.int D g.2.1.us) C) (ff a.1.s)/\aa (T g) (dY a.1.s a.1.c1)/\aa (R g) (dH a.1.s a.1.c2)/\(1:Nat)=(1:Nat)/\aa (SB.fmap x.1.w.ad (aE.int D x.1.w.ag) C) (SB.fmap a.1.w.ad (aE.int D a.1.w.ag) C)/\(1:Nat)=(1:Nat)/\(x.1.w.z=a.1.w.z/\x.1.w.o=a.1.w.o/\(0:Nat)=(0:Nat)/\x.1.w.n=a.1.w.n/\x.1.w.c=a.1.w.c)/\aa (SB.view x.1.w.z x.1.w.o x.1.w.n [av.str x.1.w.f]) (SB.view a.1.w.z a.1.w.o a.1.w.n [av.str a.1.w.f])/\Bk (bH a.2) (∀(M:Nat×Nat),a.1.s.ns.length<=M.1/\a.1.s.fs.length<=M.2->∃(b:Ae×Nd×f_),(b.1.w.Ok/\b.1.s.Small/\(b.1.s.ns.length<=b.1.c1/\b.1.s.fs.length<=b.1.c2)/\b.1.s.Fit (b.1.s.lk+1)/\401<=b.1.s.lk+m/\b.2.1.lZ/\b.2.2.length<=13*b.1.s.lk)/\(0:Nat)=(0:Nat)/\(getD a.2).k=b.2.1.k/\(getD a.2).p=b.2.1.p/\(getD a.2).v=b.2.1.v/\(getD a.2).r 0=b.2.1.r 0/\(getD a.2).r 1=b.2.1.r 1/\(getD a.2).r 2=b.2.1.r 2/\(getD a.2).r 3=b.2.1.r 3/\(getD a.2).r 4=b.2.1.r 4/\(getD a.2).r 5=b.2.1.r 5/\(getD a.2).r 6=b.2.1.r 6/\(getD a.2).r 7=b.2.1.r 7/\(getD a.2).r 8=b.2.1.r 8/\(getD a.2).r 9=b.2.1.r 9/\(getD a.2).r 10=b.2.1.r 10/\(getD a.2).r 11=b.2.1.r 11/\(getD a.2).r 12=b.2.1.r 12/\(getD a.2).r 13=b.2.1.r 13/\(getD a.2).r 14=b.2.1.r 14/\(getD a.2).r 15=b.2.1.r 15/\eV x.2.1 x.2.2 (g.1:Int).toNat=b.2.2/\(7:Nat)=(7:Nat)/\a.1.w.fr=b.1.w.fr/\a.1.w.to=b.1.w.to/\(0:Nat)=(0:Nat)/\(0:Nat)=(0:Nat)/\((0:Nat)=(0:Nat)/\a.1.s.ns.length=b.1.s.ns.length/\M.1=b.1.c1)/\True/\(a.1.s.lk:Int)=(b.1.s.lk:Int)/\((0:Nat)=(0:Nat)/\a.1.s.fs.length=b.1.s.fs.length/\M.2=b.1.c2)/\True/\aa (SB.fmap a.1.s.ud (aE.int D a.1.s.us) C) (ff b.1.s)/\aa (SB.rows A a.1.s.ns.length [av.str λb6=>a.1.s.ns.getD b6 []] d (M.1*1) 9) (dY b.1.s b.1.c1)/\aa (SB.rows A a.1.s.fs.length [av.str λb7=>(a.1.s.fs.getD b7 ([],[])).1,av.str λb8=>(a.1.s.fs.getD b8 ([],[])).2] d (M.2*2) 50) (dH b.1.s b.1.c2)/\(1:Nat)=(1:Nat)/\aa (SB.fmap a.1.w.ad (aE.int D a.1.w.ag) C) (SB.fmap b.1.w.ad (aE.int D b.1.w.ag) C)/\(1:Nat)=(1:Nat)/\(a.1.w.z=b.1.w.z/\a.1.w.o=b.1.w.o/\(0:Nat)=(0:Nat)/\a.1.w.n=b.1.w.n/\a.1.w.c=b.1.w.c)/\aa (SB.view x.1.w.z x.1.w.o x.1.w.n [av.str x.1.w.f]) (SB.view b.1.w.z b.1.w.o b.1.w.n [av.str b.1.w.f])/\Bk (fC b.1.w m b.1.s b.2.1 b.2.2) (∀(N:Nat×Nat),(bz b.1.w m b.1.s b.2.1 b.2.2).ns.length<=N.1/\(bz b.1.w m b.1.s b.2.1 b.2.2).fs.length<=N.2->I6 ((g.1:Int)+1)/\∃(y:Nat×Wk×Nat×Nat),((y.1<=16/\cA x.1.w (lQ x.1.w m) x.2.1 x.2.2 y.1 (Wk.jm x.1.w x.1.s x.2.1 x.2.2)=G y.2.1/\y.2.1.ns.length<=y.2.2.1/\y.2.1.fs.length<=y.2.2.2)/\16-y.1<16-g.1)/\(g.1:Int)+1=(y.1:Int)/\(7:Nat)=(7:Nat)/\b.1.w.fr=x.1.w.fr/\b.1.w.to=x.1.w.to/\(0:Nat)=(0:Nat)/\(0:Nat)=(0:Nat)/\((0:Nat)=(0:Nat)/\(bz b.1.w m b.1.s b.2.1 b.2.2).ns.length=y.2.1.ns.length/\N.1=y.2.2.1)/\True/\(↑(bz b.1.w m b.1.s b.2.1 b.2.2).lk:Int)=(y.2.1.lk:Int)/\((0:Nat)=(0:Nat)/\(bz b.1.w m b.1.s b.2.1 b.2.2).fs.length=y.2.1.fs.length/\N.2=y.2.2.2)/\True/\aa (SB.fmap (bz b.1.w m b.1.s b.2.1 b.2.2).ud (aE.int D (bz b.1.w m b.1.s b.2.1 b.2.2).us) C) (ff y.2.1)/\aa (SB.rows A (bz b.1.w m b.1.s b.2.1 b.2.2).ns.length [av.str λb9=>(bz b.1.w m b.1.s b.2.1 b.2.2).ns.getD b9 []] d (N.1*1) 9) (dY y.2.1 y.2.2.1)/\aa (SB.rows A (bz b.1.w m b.1.s b.2.1 b.2.2).fs.length [av.str λb_=>((bz b.1.w m b.1.s b.2.1 b.2.2).fs.getD b_ ([],[])).1,av.str λc0=>((bz b.1.w m b.1.s b.2.1 b.2.2).fs.getD c0 ([],[])).2] d (N.2*2) 50) (dH y.2.1 y.2.2.2)/\aa (SB.loop K C H) (SB.loop K C H)/\aa L L/\aa I I/\aa h h/\aa q q/\aa l l/\aa h h/\aa i i/\aa (SB.fmap b.1.w.ad (aE.int D b.1.w.ag) C) (SB.fmap x.1.w.ad (aE.int D x.1.w.ag) C)/\aa (SB.cells [SV.bE 7 1 b.1.w.z b.1.w.o 0 b.1.w.n b.1.w.c] 1 29) j/\aa x.1.w.view x.1.w.view/\True) (∀(a5:f_×f_),Bk (fC x.1.w (m+1) x.1.s x.2.1 x.2.2) (∃(a6:Nat×Nat),((bz x.1.w (m+1) x.1.s x.2.1 x.2.2).ns.length<=a6.1/\(bz x.1.w (m+1) x.1.s x.2.1 x.2.2).fs.length<=a6.2)/\False) (∃(a7:f_×f_),(0:Nat)=(0:Nat)/\aa (SB.cells [SV.str d a5.1,SV.str d a5.2] 2 207) (SB.cells [SV.str d a7.1,SV.str d a7.2] 2 207)/\True))) (Bk (bw a.2) (Bk (cL a.1.w (af a.2)) (∀(O:Nat×Nat),(if a.1.s.used (af a.2)=0 then a.1.s.ns++[a.1.w.at (af a.2)] else a.1.s.ns).length<=O.1/\a.1.s.fs.length<=O.2->∃(e:Ae×Nd×f_),(e.1.w.Ok/\e.1.s.Small/\(e.1.s.ns.length<=e.1.c1/\e.1.s.fs.length<=e.1.c2)/\e.1.s.Fit (e.1.s.lk+1)/\401<=e.1.s.lk+m/\e.2.1.lZ/\e.2.2.length<=13*e.1.s.lk)/\(0:Nat)=(0:Nat)/\(t a).k=e.2.1.k/\(t a).p=e.2.1.p/\(t a).v=e.2.1.v/\(t a).r 0=e.2.1.r 0/\(t a).r 1=e.2.1.r 1/\(t a).r 2=e.2.1.r 2/\(t a).r 3=e.2.1.r 3/\(t a).r 4=e.2.1.r 4/\(t a).r 5=e.2.1.r 5/\(t a).r 6=e.2.1.r 6/\(t a).r 7=e.2.1.r 7/\(t a).r 8=e.2.1.r 8/\(t a).r 9=e.2.1.r 9/\(t a).r 10=e.2.1.r 10/\(t a).r 11=e.2.1.r 11/\(t a).r 12=e.2.1.r 12/\(t a).r 13=e.2.1.r 13/\(t a).r 14=e.2.1.r 14/\(t a).r 15=e.2.1.r 15/\eV x.2.1 x.2.2 (g.1:Int).toNat=e.2.2/\(7:Nat)=(7:Nat)/\a.1.w.fr=e.1.w.fr/\a.1.w.to=e.1.w.to/\(0:Nat)=(0:Nat)/\(0:Nat)=(0:Nat)/\((0:Nat)=(0:Nat)/\(if a.1.s.used (af a.2)=0 then a.1.s.ns++[a.1.w.at (af a.2)] else a.1.s.ns).length=e.1.s.ns.length/\O.1=e.1.c1)/\True/\(a.1.s.lk:Int)=(e.1.s.lk:Int)/\((0:Nat)=(0:Nat)/\a.1.s.fs.length=e.1.s.fs.length/\O.2=e.1.c2)/\True/\aa (SB.fmap (dZ a.1.s.ud (af a.2)) (aE.int D (gA a.1.s.us (af a.2) (a.1.s.used (af a.2)+1))) C) (ff e.1.s)/\aa (SB.rows A (if a.1.s.used (af a.2)=0 then a.1.s.ns++[a.1.w.at (af a.2)] else a.1.s.ns).length [av.str λc3=>(if a.1.s.used (af a.2)=0 then a.1.s.ns++[a.1.w.at (af a.2)] else a.1.s.ns).getD c3 []] d (O.1*1) 9) (dY e.1.s e.1.c1)/\aa (SB.rows A a.1.s.fs.length [av.str λc4=>(a.1.s.fs.getD c4 ([],[])).1,av.str λc5=>(a.1.s.fs.getD c5 ([],[])).2] d (O.2*2) 50) (dH e.1.s e.1.c2)/\(1:Nat)=(1:Nat)/\aa (SB.fmap a.1.w.ad (aE.int D a.1.w.ag) C) (SB.fmap e.1.w.ad (aE.int D e.1.w.ag) C)/\(1:Nat)=(1:Nat)/\(a.1.w.z=e.1.w.z/\a.1.w.o=e.1.w.o/\(0:Nat)=(0:Nat)/\a.1.w.n=e.1.w.n/\a.1.w.c=e.1.w.c)/\aa (SB.view x.1.w.z x.1.w.o x.1.w.n [av.str x.1.w.f]) (SB.view e.1.w.z e.1.w.o e.1.w.n [av.str e.1.w.f])/\Bk (fC e.1.w m e.1.s e.2.1 e.2.2) (∀(P:Nat×Nat),(bz e.1.w m e.1.s e.2.1 e.2.2).ns.length<=P.1/\(bz e.1.w m e.1.s e.2.1 e.2.2).fs.length<=P.2->I6 ((g.1:Int)+1)/\∃(B:Nat×Wk×Nat×Nat),((B.1<=16/\cA x.1.w (lQ x.1.w m) x.2.1 x.2.2 B.1 (Wk.jm x.1.w x.1.s x.2.1 x.2.2)=G B.2.1/\B.2.1.ns.length<=B.2.2.1/\B.2.1.fs.length<=B.2.2.2)/\16-B.1<16-g.1)/\(g.1:Int)+1=(B.1:Int)/\(7:Nat)=(7:Nat)/\e.1.w.fr=x.1.w.fr/\e.1.w.to=x.1.w.to/\(0:Nat)=(0:Nat)/\(0:Nat)=(0:Nat)/\((0:Nat)=(0:Nat)/\(bz e.1.w m e.1.s e.2.1 e.2.2).ns.length=B.2.1.ns.length/\P.1=B.2.2.1)/\True/\(↑(bz e.1.w m e.1.s e.2.1 e.2.2).lk:Int)=(B.2.1.lk:Int)/\((0:Nat)=(0:Nat)/\(bz e.1.w m e.1.s e.2.1 e.2.2).fs.length=B.2.1.fs.length/\P.2=B.2.2.2)/\True/\aa (SB.fmap (bz e.1.w m e.1.s e.2.1 e.2.2).ud (aE.int D (bz e.1.w m e.1.s e.2.1 e.2.2).us) C) (ff B.2.1)/\aa (SB.rows A (bz e.1.w m e.1.s e.2.1 e.2.2).ns.length [av.str λc6=>(bz e.1.w m e.1.s e.2.1 e.2.2).ns.getD c6 []] d (P.1*1) 9) (dY B.2.1 B.2.2.1)/\aa (SB.rows A (bz e.1.w m e.1.s e.2.1 e.2.2).fs.length [av.str λc7=>((bz e.1.w m e.1.s e.2.1 e.2.2).fs.getD c7 ([],[])).1,av.str λc8=>((bz e.1.w m e.1.s e.2.1 e.2.2).fs.getD c8 ([],[])).2] d (P.2*2) 50) (dH B.2.1 B.2.2.2)/\aa (SB.loop K C H) (SB.loop K C H)/\aa L L/\aa I I/\aa h h/\aa q q/\aa l l/\aa h h/\aa i i/\aa (SB.fmap e.1.w.ad (aE.int D e.1.w.ag) C) (SB.fmap x.1.w.ad (aE.int D x.1.w.ag) C)/\aa (SB.cells [SV.bE 7 1 e.1.w.z e.1.w.o 0 e.1.w.n e.1.w.c] 1 29) j/\aa x.1.w.view x.1.w.view/\True) (∀(a8:f_×f_),Bk (fC x.1.w (m+1) x.1.s x.2.1 x.2.2) (∃(a9:Nat×Nat),((bz x.1.w (m+1) x.1.s x.2.1 x.2.2).ns.length<=a9.1/\(bz x.1.w (m+1) x.1.s x.2.1 x.2.2).fs.length<=a9.2)/\False) (∃(u9:f_×f_),(0:Nat)=(0:Nat)/\aa (SB.cells [SV.str d a8.1,SV.str d a8.2] 2 207) (SB.cells [SV.str d u9.1,SV.str d u9.2] 2 207)/\True))) (∀(u8:f_×f_),Bk (fC x.1.w (m+1) x.1.s x.2.1 x.2.2) (∃(u7:Nat×Nat),((bz x.1.w (m+1) x.1.s x.2.1 x.2.2).ns.length<=u7.1/\(bz x.1.w (m+1) x.1.s x.2.1 x.2.2).fs.length<=u7.2)/\False) (∃(u6:f_×f_),(0:Nat)=(0:Nat)/\aa (SB.cells [SV.str d u8.1,SV.str d u8.2] 2 207) (SB.cells [SV.str d u6.1,SV.str d u6.2] 2 207)/\True))) (∀(u5:f_×f_),Bk (fC x.1.w (m+1) x.1.s x.2.1 x.2.2) (∃(u4:Nat×Nat),((bz x.1.w (m+1) x.1.s x.2.1 x.2.2).ns.length<=u4.1/\(bz x.1.w (m+1) x.1.s x.2.1 x.2.2).fs.length<=u4.2)/\False) (∃(u3:f_×f_),(0:Nat)=(0:Nat)/\aa (SB.cells [SV.str d u5.1,SV.str d u5.2] 2 207) (SB.cells [SV.str d u3.1,SV.str d u3.2] 2 207)/\True)))) (I6 ((g.1:Int)+1)/\∃(E:Nat×Wk×Nat×Nat),((E.1<=16/\cA x.1.w (lQ x.1.w m) x.2.1 x.2.2 E.1 (Wk.jm x.1.w x.1.s x.2.1 x.2.2)=G E.2.1/\E.2.1.ns.length<=E.2.2.1/\E.2.1.fs.length<=E.2.2.2)/\16-E.1<16-g.1)/\(g.1:Int)+1=(E.1:Int)/\(7:Nat)=(7:Nat)/\x.1.w.fr=x.1.w.fr/\x.1.w.to=x.1.w.to/\(0:Nat)=(0:Nat)/\(0:Nat)=(0:Nat)/\((0:Nat)=(0:Nat)/\g.2.1.ns.length=E.2.1.ns.length/\g.2.2.1=E.2.2.1)/\True/\(g.2.1.lk:Int)=(E.2.1.lk:Int)/\((0:Nat)=(0:Nat)/\g.2.1.fs.length=E.2.1.fs.length/\g.2.2.2=E.2.2.2)/\True/\aa (SB.fmap g.2.1.ud (aE.int D g.2.1.us) C) (ff E.2.1)/\aa (T g) (dY E.2.1 E.2.2.1)/\aa (R g) (dH E.2.1 E.2.2.2)/\aa (SB.loop K C H) (SB.loop K C H)/\aa L L/\aa I I/\aa h h/\aa q q/\aa l l/\aa h h/\aa i i/\aa (SB.fmap x.1.w.ad (aE.int D x.1.w.ag) C) (SB.fmap x.1.w.ad (aE.int D x.1.w.ag) C)/\aa j j/\aa x.1.w.view x.1.w.view/\True))) (Bk (fC x.1.w (m+1) x.1.s x.2.1 x.2.2) (∃(Q:Nat×Nat),((bz x.1.w (m+1) x.1.s x.2.1 x.2.2).ns.length<=Q.1/\(bz x.1.w (m+1) x.1.s x.2.1 x.2.2).fs.length<=Q.2)/\(7:Nat)=(7:Nat)/\x.1.w.fr=x.1.w.fr/\x.1.w.to=x.1.w.to/\(0:Nat)=(0:Nat)/\(0:Nat)=(0:Nat)/\((0:Nat)=(0:Nat)/\g.2.1.ns.length=(bz x.1.w (m+1) x.1.s x.2.1 x.2.2).ns.length/\g.2.2.1=Q.1)/\True/\(g.2.1.lk:Int)=(↑(bz x.1.w (m+1) x.1.s x.2.1 x.2.2).lk:Int)/\((0:Nat)=(0:Nat)/\g.2.1.fs.length=(bz x.1.w (m+1) x.1.s x.2.1 x.2.2).fs.length/\g.2.2.2=Q.2)/\True/\aa (SB.fmap g.2.1.ud (aE.int D g.2.1.us) C) (ff (bz x.1.w (m+1) x.1.s x.2.1 x.2.2))/\aa (T g) (dY (bz x.1.w (m+1) x.1.s x.2.1 x.2.2) Q.1)/\aa (R g) (dH (bz x.1.w (m+1) x.1.s x.2.1 x.2.2) Q.2)/\aa i i/\aa (SB.fmap x.1.w.ad (aE.int D x.1.w.ag) C) (SB.fmap x.1.w.ad (aE.int D x.1.w.ag) C)/\aa j j/\True) (∃(_:f_×f_),False)))))) (fun(g:Nat×Wk×Nat×Nat)=>(SB.rows A g.2.1.ns.length [jz g.2.1.ns] d (g.2.2.1*1) 9)))) (fun(g:Nat×Wk×Nat×Nat)=>(SB.rows A g.2.1.fs.length [bU g.2.1.fs,bV g.2.1.fs] d (g.2.2.2*2) 50)))) (SB.cells (bg [SV.str d x.1.w.fr,SV.str d x.1.w.to,SV.func (Fn.func (50:FuncId)) [] [SV.ptr 4 A 0,SV.ptr 6 A 0],SV.map 1,SV.aX 2 1 A 0 x.1.s.ns.length x.1.c1,SV.int .i64 d (x.1.s.lk:Int),SV.aX 3 2 A 0 x.1.s.fs.length x.1.c2] 5 (SV.int .i64 d ((x.1.s.lk:Int)+1)).cells) 7 92))) (SB.cells [SV.map 5] 1 90))) (SB.cells (SV.str d x.2.2).cells 1 9))) (fun(a:Ae×f_)=>(getD (a.1.w.at (af a.2)))))) (SB.cells SV.aC.cells 1 84))) (SB.cells (SV.agg (bh x.2.1)).cells 19 138))) (SB.cells x.2.1.sv.cells 19 138))) (SB.cells (SV.ptr 0 A 0).cells 1 82))) (SB.cells [SV.bE 7 1 x.1.w.z x.1.w.o 0 x.1.w.n x.1.w.c] 1 29)):=by kernel_rfl
theorem zX (w:Sp)(s:Wk)(h t:f_):(s.take w h).used t=if t=h then s.used h+1 else s.used t:=by
 show dflt (s.ud t||decide (t=h)) (bif H (t=h)then s.used h+1 else s.us t)=_
 by_cases e:t=h
 ·rw[r_ e,n_ e,Bool.or_true];rfl
 ·rw[s_ e,o_ e,Bool.or_false];rfl
theorem Wk.Fit.mono {j:Nat}(h:s.Fit j)(hk:j<=k):s.Fit k:=⟨λt=>by have:=h.u t;omega,by have:=h.ns;omega,h.fs,h.lk⟩
theorem Wk.Fit.small (h:s.Fit k)(hk:k<=1000):s.Small:=⟨λt=>by have:=h.u t;omega,by have:=h.ns;omega,by have:=h.lk;omega,by have:=h.fs;have:=h.lk;omega⟩
theorem Wk.Fit.take (h:s.Fit k)(w:Sp)(t:f_):(s.take w t).Fit (k+1):=by
 refine⟨λr=> ?_,?_,h.fs,h.lk⟩
 ·rw[zX];have h1:=h.u r;have h2:=h.u t;split<;>omega
 ·have:=h.ns;show(if s.used t=0 then s.ns++[w.at t] else s.ns).length<=_
  split
  ·rw[P];simp;omega
  ·omega
theorem Wk.Fit.jm (h:s.Fit (s.lk+1))(hl:s.lk<400)(w:Sp)(x:Nd)(p:f_):(s.jm w x p).Fit (s.jm w x p).lk:=by
 refine⟨h.u,h.ns,?_,hl⟩;have:=h.fs;show(if fe w x p=A then s.fs++[(br (cat p x.p),x.v)] else s.fs).length<=s.lk+1
 split
 ·rw[P];simp;omega
 ·omega
theorem zL {w:Sp}{s':Wk}{y:Nd}(h:s.Fit k)(hf:i7 w s t=G (y,s')):s'.Fit (k+1)/\s'.lk=s.lk/\aZ y=true:=by
 unfold i7 at hf;split at hf
 ·rename_i hi;cases hf;exact⟨h.mono (Nat.le_succ _),rfl,Fu hi⟩
 ·split at hf
  ·rename_i hi;cases hf;simp only[cL,b9] at hi;exact⟨h.take w _,rfl,mw hi.2.2⟩
  ·cases hf
def Ur (_w:Sp)(T:Wk->Nd->f_->Option Wk):Prop:=∀ s x p s',s.Fit (s.lk+1)->T s x p=G s'->s'.Fit s'.lk/\s.lk<s'.lk
theorem qG {w:Sp}{T:Wk->Nd->f_->Option Wk}(hT:Ur w T){x:Nd}{p:f_}: ∀ {i:Nat} {s s':Wk},s.Fit s.lk->cA w T x p i s=G s'->s'.Fit s'.lk/\s.lk<=s'.lk
 | 0,s,s',h,e=>by cases e;exact⟨h,Nat.le_refl _⟩
 | i+1,s,s',h,e=>by
   unfold cA at e;split at e
   ·cases e
   ·rename_i s1 h1;obtain⟨g1,g2⟩:=qG hT h h1;unfold jT at e;split at e
    ·cases e;exact⟨g1,g2⟩
    ·cases hm:bW w.fr w.to (eV x p i)with
     | false =>rw[hm] at e;cases e;exact⟨g1,g2⟩
     | true =>
       rw[hm] at e;simp only[cond_true] at e;split at e
       ·cases e
       ·rename_i y s2 hf;obtain⟨q1,q2,_⟩:=zL g1 hf;obtain⟨r1,r2⟩:=hT s2 y _ s' (by rw[q2];exact q1) e;exact⟨r1,by omega⟩
theorem BB (w:Sp): ∀ m,Ur w (lQ w m)
 | 0=>λs x p s' _ e=>by cases e
 | m+1=>λs x p s' h e=>by
   unfold lQ at e;split at e
   ·cases e
   ·rename_i hl;obtain⟨g1,g2⟩:=qG (BB w m) (h.jm (by omega) w x p) e;have:(s.jm w x p).lk=s.lk+1:=rfl;exact⟨g1,by omega⟩
theorem sK {w:Sp}{T:Wk->Nd->f_->Option Wk}{x:Nd}{p:f_}{s:Wk}: ∀ {j i:Nat},i<=j->cA w T x p i s=C->cA w T x p j s=C
 | 0,i,hj,e=>by
   have:i=0:=by omega
   subst this;exact e
 | j+1,i,hj,e=>by
   by_cases h:i=j+1
   ·subst h;exact e
   ·unfold cA;rw[sK (by omega:i<=j) e]
section
variable {w : Sp} {T : Wk-> Nd-> f_-> Option Wk} {x : Nd} {p : f_} {s s' : Wk} {i : Nat}
theorem eJ (h:cA w T x p i s=G s'):cA w T x p (i+1) s=jT w T x p i s':=by rw[cA,h]
theorem kV (h:x.r i=[]):jT w T x p i s=G s:=by rw[jT,r_ h]
theorem sJ (h:bW w.fr w.to (eV x p i)=d):jT w T x p i s=G s:=by rw[jT,h];split<;>rfl
theorem xE (h: ¬ x.r i=[])(hm:bW w.fr w.to (eV x p i)=A)(hf:i7 w s (x.r i)=C):jT w T x p i s=none:=by rw[jT,s_ h,hm,hf];rfl
theorem kL (h: ¬ x.r i=[])(hm:bW w.fr w.to (eV x p i)=A){y:Nd}(hf:i7 w s (x.r i)=G (y,s')):jT w T x p i s=T s' y (eV x p i):=by rw[jT,s_ h,hm,hf];rfl
theorem DQ (h:bH t=A):i7 w s t=G (getD t,s):=by rw[i7,r_ h]
theorem vY (h:bH t=d)(h1:bw t=A)(h2:cL w (af t)=A):i7 w s t=G (getD (w.at (af t)),s.take w (af t)):=by rw[i7,s_ (by rw[h];simp),r_ (by rw[h1,h2];rfl)]
theorem LX (h:bH t=d)(h1:bw t=d∨cL w (af t)=d):i7 w s t=none:=by rw[i7,s_ (by rw[h];simp),s_ (by rcases h1 with h1 | h1<;>rw[h1]<;>simp)]
end
theorem Rn (h:x.lZ)(p:f_)(i:Nat):(eV x p i).length<=p.length+13:=by have:=h.p;unfold eV cat;split<;>simp<;>omega
theorem Qi {l:List (f_×f_)}{k:f_}:aa (.rows A (l.length+1) [.str λj=>if j<l.length then(l.getD j ([],[])).1 else ck [k] (j-l.length),.str λj=>if j<l.length then(l.getD j ([],[])).2 else ck [v] (j-l.length)] d (c*2) ty) (.rows A (l++[(k,v)]).length [bU (l++[(k,v)]),bV (l++[(k,v)])] d (c*2) ty):=by
 refine kW (by simp) rfl rfl λq c c' h1 h2 i hi E=> ?_;have e:=sS l (k,v) ([],[]) i hi;have hz: ¬ i<l.length->i-l.length=0:=by omega
 match q,h1,h2 with
 | 0,h1,h2 =>
   simp only[cx,Option.some.injEq] at h1 h2;subst h1;subst h2;simp only[bU,av.at,SV.val,e];by_cases h:i<l.length
   ·rw[r_ h,r_ h]
   ·rw[s_ h,s_ h,hz h];rfl
 | 1,h1,h2 =>
   simp only[List.getElem?_cons_succ,cx,Option.some.injEq] at h1 h2;subst h1;subst h2;simp only[bV,av.at,SV.val,e];by_cases h:i<l.length
   ·rw[r_ h,r_ h]
   ·rw[s_ h,s_ h,hz h];rfl
 | q+2,h1,h2=>simp at h1
section
variable {w : Sp} {m : Nat} {s s' : Wk} {x : Nd} {p : f_}
theorem Rm (hl: ¬ 400<=s.lk)(h:cA w (lQ w m) x p 16 (s.jm w x p)=G s'):fC w (m+1) s x p=A/\bz w (m+1) s x p=s':=by
 have:lQ w (m+1) s x p=G s':=by rw[lQ,s_ hl,h]
 exact⟨by rw[fC,this];rfl,by rw[bz,this]⟩
theorem Rl (hl: ¬ 400<=s.lk)(h:cA w (lQ w m) x p 16 (s.jm w x p)=C):fC w (m+1) s x p=false:=by rw[fC,lQ,s_ hl,h];rfl
theorem Jb (h:fC w m s x p=A):lQ w m s x p=G (bz w m s x p):=by
 unfold fC at h;unfold bz;cases hx:lQ w m s x p with
 | none=>rw[hx] at h;cases h
 | some s'=>rfl
theorem zT (h:fC w m s x p=d):lQ w m s x p=none:=by
 unfold fC at h;cases hx:lQ w m s x p with
 | none=>rfl
 | some s'=>rw[hx] at h;cases h
theorem J8 {a b:f_}:aa (SB.cells [SV.str A a,SV.str A b] 2 ty) (SB.cells [SV.str d (a,b).1,SV.str d (a,b).2] 2 ty):=aa.cells (λ_=>rfl) rfl
theorem J7 {a b:f_}:aa (SB.cells [SV.str d a,SV.str d b] 2 ty) (SB.cells [SV.str d (a,b).1,SV.str d (a,b).2] 2 ty):=aa.refl _
theorem Yw (h:x.k=3)(i:Nat)(hi:i<16):cat (cat p x.p) [J ((i:Int)%256).toNat]=eV x p i:=by rw[eV,r_ h,show((i:Int)%256).toNat=i by omega]
end
section
attribute [local irreducible] bG getD bH bw af cL bW hasB oS au br eV lQ fC bz cA Wk.used
set_option maxHeartbeats 4000000 in
theorem EK {x:Ae×Nd×f_}(hx:(Me (m+1)).pre x):ay (runM (Vh m x.1 x.2.1 x.2.2) 84 S (Me (m+1)) x):=by
 refine ay.mS (Mq m x) (by delta Bk Fk;exact rfl) ?_;obtain⟨⟨w,s,c1,c2⟩,y,p⟩:=x;obtain⟨hw,_,⟨hc1,hc2⟩,hf,hm,hy,hp⟩:=hx;dsimp only at hw hc1 hc2 hf hm hy hp ⊢;have hm:401<=s.lk+(m+1):=hm;have hyp:=hy.p;have hcat:(cat p y.p).length=p.length+y.p.length:=by unfold cat;simp
 have hlk:=hf.lk;have hfs:=hf.fs;have hns:=hf.ns;by_cases hl:400<=s.lk
 ·have hB:fC w (m+1) s y p=false:=by unfold fC lQ;rw[r_ hl];rfl
  rw[hB,n_ (show(400:Int)<=(s.lk:Int)by omega)];exact⟨λ_=>⟨(λh=>by cases h),λ_=>⟨(_,_),rfl,J8,trivial⟩⟩,(λh=>by cases h)⟩
 refine⟨λh=>absurd (l_ h) (by omega),λ_=>⟨⟨by omega,by omega⟩,⟨by omega,?_⟩,?_⟩⟩
 ·
  have no:fe w y p=d->(s.jm w y p).fs=s.fs:=λh=>by show(if fe w y p=A then _ else _)=_;rw[h];rfl
  have yes:fe w y p=A->(s.jm w y p).fs=s.fs++[(br (cat p y.p),y.v)]:=λh=>by show(if fe w y p=A then _ else _)=_;rw[h];rfl
  have eb:fe w y p=(!decide (y.v=[])&&(hasB w.fr w.to (cat p y.p)&&oS (cat p y.p))):=rfl;have le0:fe w y p=d->aa (SB.rows A s.fs.length [bU s.fs,bV s.fs] d (c2*2) 50) (dH (s.jm w y p) c2):=λh=>by unfold dH;rw[no h];exact aa.refl _
  have le1:fe w y p=A->∀ c,aa (SB.rows A (s.fs.length+1) [.str λj=>if j<s.fs.length then(s.fs.getD j ([],[])).1 else ck [br (cat p y.p)] (j-s.fs.length),.str λj=>if j<s.fs.length then(s.fs.getD j ([],[])).2 else ck [y.v] (j-s.fs.length)] d (c*2) 50) (dH (s.jm w y p) c):=λh c=>by unfold dH;rw[yes h];exact Qi
  have wfr:=hw.fr;have wto:=hw.to;refine⟨λhv=>⟨⟨wfr,wto⟩,λhh=>⟨by omega,λhk=> ?_,λhk=> ?_⟩,λhh=> ?_⟩,λhv=> ?_⟩
  ·rw[hv,hh,hk] at eb;have l1:=le1 eb;refine⟨rfl,rfl,rfl,⟨⟨by omega,trivial,by omega,by omega⟩,rfl,λc hc=>⟨rfl,⟨c,?_⟩⟩⟩⟩;rw[r_ (show fe w y p=A from eb),P]
   have l1:=l1 c
   repeat' first
    | exact l1
    | exact aa.refl _
    | refine L ?_ ?_
    | rfl
    | assumption
    | omega
    | exact trivial
    | fail
  all_goals
   first
    | rw[hv,hh,hk] at eb
    | rw[hv,hh] at eb
    | rw[hv] at eb
   have l0:=le0 (eb.trans (by first | rfl | simp))
   have e0:fe w y p=false:=eb.trans (by first | rfl | simp)
   refine⟨c2,?_⟩;rw[e0];simp only[Bool.false_eq_true,if_false]
   repeat' first
    | exact l0
    | exact aa.refl _
    | refine L ?_ ?_
    | rfl
    | assumption
    | omega
    | exact trivial
    | fail
 ·intro c2' hc2' R;refine⟨⟨(0,s.jm w y p,c1,c2'),⟨⟨c5 _,by unfold cA;rfl,hc1,hc2'⟩,?_⟩⟩,λz hz=> ?_⟩
  ·repeat' first
    | exact aa.refl _
    | refine L ?_ ?_
    | rfl
    | assumption
    | omega
    | exact trivial
    | fail
  obtain⟨i,si,d1,d2⟩:=z;obtain⟨hi16,hi,hd1,hd2⟩:=hz;dsimp only at hi16 hi hd1 hd2 ⊢;obtain⟨fi,hlki⟩:=qG (BB w m) (hf.jm (by omega) w y p) hi;have hlki:s.lk+1<=si.lk:=hlki;have fil:=fi.lk;simp only[-eq_self,an];refine⟨λhlt=> ?_,λhlt=> ?_⟩
  ·have hlt:i<16:=by have:=l_ hlt;omega
   simp only[-eq_self,uU y.r hlt];have bad:cA w (lQ w m) y p (i+1) (s.jm w y p)=C->∀(a b:f_),(fC w (m+1) s y p=A->∃(q:Nat×Nat),((bz w (m+1) s y p).ns.length<=q.1/\(bz w (m+1) s y p).fs.length<=q.2)/\False)/\(fC w (m+1) s y p=d->∃(q:f_×f_),(0:Nat)=0/\aa (SB.cells [SV.str d a,SV.str d b] 2 207) (SB.cells [SV.str d q.1,SV.str d q.2] 2 207)/\True):=λh a b=>by have hB:=Rl hl (sK (by omega:i+1<=16) h);rw[hB];exact⟨(λh=>by cases h),λ_=>⟨(a,b),rfl,J7,trivial⟩⟩
   refine⟨⟨by omega,by omega,by omega⟩,λh0=>⟨⟨by omega,by omega⟩,(i+1,si,d1,d2),⟨⟨⟨by show i+1<=16;omega,(eJ hi).trans (kV (l_ h0)),hd1,hd2⟩,by show 16-(i+1)<16-i;omega⟩,?_⟩⟩,λh0=> ?_⟩
   ·repeat' first
     | exact aa.refl _
     | refine L ?_ ?_
     | rfl
     | assumption
     | omega
     | exact trivial
     | fail
   have h0:=m_ h0;have htl:=Rn hy p i;refine⟨by omega,⟨λh3=>⟨by omega,(),trivial,Yw (l_ h3) i hlt,?_⟩,λh3=>⟨(),trivial,by unfold eV;rw[s_ (m_ h3)],?_⟩⟩,λ_ _=>⟨⟨hw.fr,hw.to⟩,λhM=>⟨rfl,?_⟩,λhM=>⟨⟨by omega,by omega⟩,(i+1,si,d1,d2),⟨⟨⟨by show i+1<=16;omega,(eJ hi).trans (sJ hM),hd1,hd2⟩,by show 16-(i+1)<16-i;omega⟩,?_⟩⟩⟩⟩
   ·repeat' first
     | exact aa.refl _
     | refine L ?_ ?_
     | rfl
     | assumption
     | omega
     | exact trivial
     | fail
   ·repeat' first
     | exact aa.refl _
     | refine L ?_ ?_
     | rfl
     | assumption
     | omega
     | exact trivial
     | fail
   rotate_left
   ·repeat' first
     | exact aa.refl _
     | refine L ?_ ?_
     | rfl
     | assumption
     | omega
     | exact trivial
     | fail
   have hrl:(y.r i).length<9223372036854775808:=by
    rcases hy.r i hlt with e | e
    ·exact absurd e h0
    ·have:=nR e;omega
   have go: ∀ {yy:Nd} {s2:Wk},i7 w si (y.r i)=G (yy,s2)->s2.Fit (s2.lk+1)/\(401<=s2.lk+m)/\yy.lZ/\(eV y p i).length<=13*s2.lk/\s2.Small:=λh=>by obtain⟨q1,q2,q3⟩:=zL fi h;exact⟨by rw[q2];exact q1,by omega,gE q3,by omega,q1.small (by omega)⟩
   have on: ∀ {yy:Nd} {s2:Wk},i7 w si (y.r i)=G (yy,s2)->fC w m s2 yy (eV y p i)=A->cA w (lQ w m) y p (i+1) (s.jm w y p)=G (bz w m s2 yy (eV y p i)):=λh hb=>by rw[eJ hi,kL h0 hM h,Jb hb]
   have off: ∀ {yy:Nd} {s2:Wk},i7 w si (y.r i)=G (yy,s2)->fC w m s2 yy (eV y p i)=d->cA w (lQ w m) y p (i+1) (s.jm w y p)=none:=λh hb=>by rw[eJ hi,kL h0 hM h,zT hb]
   refine⟨(⟨w,si,d1,d2⟩,y.r i),⟨hw,fi.small (by omega),⟨hd1,hd2⟩,hrl⟩,?_⟩;dsimp only;have inn:bH (y.r i)=A->i7 w si (y.r i)=G (getD (y.r i),si):=DQ;have inh:bH (y.r i)=d->bw (y.r i)=A->cL w (af (y.r i))=A->i7 w si (y.r i)=G (getD (w.at (af (y.r i))),si.take w (af (y.r i))):=vY;have inb:bH (y.r i)=d->(bw (y.r i)=d∨cL w (af (y.r i))=d)->cA w (lQ w m) y p (i+1) (s.jm w y p)=none:=λh1 h2=>by rw[eJ hi,xE h0 hM (LX h1 h2)]
   have hsuc:i+1<=16:=by omega
   have hmea:16-(i+1)<16-i:=by omega
   refine⟨rfl,rfl,rfl,rfl,rfl,rfl,rfl,⟨rfl,rfl,rfl⟩,trivial,rfl,⟨rfl,rfl,rfl⟩,trivial,aa.refl _,aa.refl _,aa.refl _,rfl,aa.refl _,rfl,⟨rfl,rfl,rfl,rfl,rfl⟩,aa.refl _,λh1 e he=> ?_,λh1=>⟨λh2=>⟨λh3 e he=> ?_,λh3 yy=>bad (inb h1 (.inr h3)) _ _⟩,λh2 yy=>bad (inb h1 (.inl h2)) _ _⟩⟩
   ·have hfol:=inn h1;obtain⟨g1,g2,g3,g4,g5⟩:=go hfol;refine⟨(⟨w,si,e.1,e.2⟩,getD (y.r i),eV y p i),⟨hw,g5,he,g1,g2,g3,g4⟩,?_⟩;dsimp only;have on:=on hfol;have off:=off hfol
    repeat' first
     | exact λhb yy=>bad (off hb) _ _
     | refine λhb q hq=>⟨⟨by omega,by omega⟩,(i+1,bz w m si (getD (y.r i)) (eV y p i),q.1,q.2),⟨⟨hsuc,on hb,hq.1,hq.2⟩,hmea⟩,?_⟩
     | exact aa.refl _
     | refine L ?_ ?_
     | rfl
     | assumption
     | omega
     | exact trivial
     | fail
   ·have hfol:=inh h1 h2 h3;obtain⟨g1,g2,g3,g4,g5⟩:=go hfol;refine⟨(⟨w,si.take w (af (y.r i)),e.1,e.2⟩,getD (w.at (af (y.r i))),eV y p i),⟨hw,g5,he,g1,g2,g3,g4⟩,?_⟩;dsimp only;have on:=on hfol;have off:=off hfol
    repeat' first
     | exact λhb yy=>bad (off hb) _ _
     | refine λhb q hq=>⟨⟨by omega,by omega⟩,(i+1,bz w m (si.take w (af (y.r i))) (getD (w.at (af (y.r i)))) (eV y p i),q.1,q.2),⟨⟨hsuc,on hb,hq.1,hq.2⟩,hmea⟩,?_⟩
     | exact aa.refl _
     | refine L ?_ ?_
     | rfl
     | assumption
     | omega
     | exact trivial
     | fail
  ·have e16:i=16:=by have:=m_ hlt;omega
   subst e16;obtain⟨k1,k2⟩:=Rm hl hi;rw[k1,k2];refine⟨λ_=>⟨(d1,d2),⟨hd1,hd2⟩,?_⟩,(λh=>by cases h)⟩
   repeat' first
    | exact aa.refl _
    | refine L ?_ ?_
    | rfl
    | assumption
    | omega
    | exact trivial
    | fail
end
end
section
open Go Sx
set_option maxRecDepth 20000
theorem FM (h:ax M 84 (cM (Me m))):bp M (λf=>aD f (Ie m)):=.cons h (cz _) (.cons LY (cz _) y6)
theorem Rk: ∀ m,ax M 84 (cM (Me m))
 | 0=>fT (n:=20) (fn:=S) b! (by kernel_rfl) (by kernel_rfl) (Me 0) λx hx=>by obtain⟨_,_,_,hf,hm,_⟩:=hx;have:=hf.lk;omega
 | m+1=>fT (n:=20) (fn:=S) b! (by kernel_rfl) (by kernel_rfl) (Me (m+1)) λx hx=>⟨Vh m x.1 x.2.1 x.2.2,.of bR (FM (Rk m)) bq,rfl,EK hx⟩
theorem SY (m:Nat):bp M (λf=>aD f (Ie m)):=FM (Rk m)
def numOf (n:Int):f_:=aq (digits n)
structure n6 (n:Nat)(t:Nat->Bool)(i:Nat):Prop where
 le:i<=n
 all: ∀ j,j<i->t j=A
noncomputable def A9 (tmp:Nat)(n:Nat)(t:Nat->Bool):aY :={α:=Nat,pre:=λ_ i=>n6 n t i,kH:=λ_ i=>n-i,fresh:=0,slots:=λ_ i=>[(tmp,.int .i64 d i)],mem:=λ_ _=>[]}
structure va (n:Nat)(x:Nat×Nat):Prop where
 le:x.1<=n
 cap:x.1<=x.2
noncomputable def ZF (tmp slot:Nat)(n:Nat)(f:Nat->f_):aY :=
 {α:=Nat×Nat,pre:=λ_ x=>va n x,kH:=λ_ x=>n-x.1,fresh:=1,slots:=λst x=>[(tmp,.int .i64 d x.1),(slot,.aX st.nx 1 d 0 x.1 x.2)],
  mem:=λst x=>[(st.nx,.rows d x.1 [.str f] d x.2 9)]}
theorem D7 {t:Nat->Bool}(h:n6 n t i)(hi: ¬ (i:Int)<(n:Int)):(W n).all t=true:=by rw[cl];intro j hj;have:=Q.1 hj;exact h.all j (by omega)
theorem zW {t:Nat->Bool}(hi:(i:Int)<(n:Int))(ht:t i=d):(W n).all t=false:=by rw[List.all_eq_false];exact⟨i,Q.2 (by omega),by rw[ht];decide⟩
theorem ur {t:Nat->Bool}(h:n6 n t i)(hi:(i:Int)<(n:Int))(ht:t i=A):n6 n t (i+1):=⟨by omega,λj hj=>by
 by_cases e:j=i
 ·subst e;exact ht
 ·exact h.all j (by omega)⟩
theorem gk {l:Bool}{a b:Bool}(h:a=b):ah (.bool l a) (.bool d b):=λE=>by subst h;rfl
theorem VQ {l:List f_}(h: ∀ x∈ l,x.length<=m):(flat l).length<=l.length*m:=by
 induction l with
 | nil=>simp[flat]
 | cons a r ih =>
   have h1:=h a (by simp);have h2:=ih λx hx=>h x (by simp[hx]);have:flat (a::r)=a++flat r:=by simp[flat]
   rw[this,P,V,Nat.add_mul];omega
theorem Sc (a:f_)(l:List f_):(flat (a::l)).length=a.length+(flat l).length:=by simp[flat]
theorem Se:(flat []).length=0:=rfl
theorem NJ (l:List f_):(cU l).length<=(flat l).length+9:=by have:=sj 192 (flat l).length;rw[cU,P];omega
theorem LI {y:f_}(h:y∈ dJ f 0 n): ∃ i,i<n/\y=f i:=by obtain⟨j,hj⟩:=List.getElem?_of_mem h;obtain⟨h1,h2⟩:=sP hj;exact⟨j,h1,by rw[← h2,X]⟩
theorem Sx.aa.empty {tot tot':Nat}{az:List av}{z:Bool}(h:tot=tot'):aa (.cells [] tot ty) (.rows z 0 az d tot' ty):=by subst h;refine aa.of rfl rfl λ_=> ?_;refine⟨rfl,λE o ⟨c,fr,h1,h2,_,h4⟩=>⟨c,fr,h1,λ_=>h2,by omega,h4,λi k col hi=>absurd hi (N _)⟩,λ_=>rfl⟩
theorem V4 {_n:Nat}{F:Nat->f_}(hv:v=F k){c':Nat}(hc:c=c') :
  aa (.rows d (k+1) [.str λj=>if j<k then F j else ck [v] (j-k)] d (c*1) 9) (.rows d (k+1) [.str F] d c' 9):=by
 refine Sx.aa.nZ rfl (by omega) λi hi=> ?_;by_cases h:i<k
 ·rw[r_ h]
 ·have e:i=k:=by omega
  subst e;rw[s_ h,Nat.sub_self,hv];rfl
theorem Sm {_k:Nat}{y:Nat×Nat}(_h:va n y)(hk:(y.1:Int)<(n:Int))(hc:y.1+1<=c):va n (y.1+1,c):=⟨by show y.1+1<=n;omega,hc⟩
structure Pp where
 k:Int
 root:f_
 key:f_
 to:f_
 n:Nat
 f:Nat->f_
def Pp.sv (x:Pp)(u:SV):SV:=.agg [.int .i64 d x.k,.str d x.root,.str d x.key,.str d x.to,u]
def iV (f:Nat->f_)(i:Nat):Bool:=!decide ((1000:Int)<((f i).length:Int))
def kU (n:Nat)(f:Nat->f_):Bool:=(W n).all (iV f)
def Pp.ok (x:Pp):Bool:=(H (x.k=0)&&H (x.to=[])||decide (x.k=1))&&H ((x.root.length:Int)=32)&& !decide ((6:Int)<(x.key.length:Int))&& !decide ((6:Int)<(x.to.length:Int)) &&
 !decide ((200:Int)<(x.n:Int))&&kU x.n x.f
def gC (f:Nat->f_)(i:Nat):f_:=aq (f i)
def Pp.rows (x:Pp):List f_:=dJ (gC x.f) 0 x.n
def Pp.items (x:Pp):List f_:=[numOf x.k,aq x.root,aq x.key,aq x.to,cU x.rows]
def Pp.put (x:Pp):f_:=cU x.items
def Pp.fits (x:Pp):Bool:=x.ok&& !decide ((65536:Int)<(x.put.length:Int))
def ko (z:Bool)(o c:Nat)(x:Pp)(key:Option Nat):Seen:=⟨key,z,o,x.n,c,[.str x.f]⟩
noncomputable def U5 (x:Pp):fD:={cv with cT:=λf=>aD f xe,aW:=λf=>if f=38 then [(12,always (A9 37 x.n (iV x.f)))] else []}
theorem adK (x:Pp):Sx.Good M (U5 x):=.of bR lB bq
def dP:List av:=[.str λ_=>[]]
def MC:List AZ:=[.agg [.one,.one,.one,.one,.slice dP]]
def nT (vs:List SV)(l:List Seen):Option (Pp×Bool×Nat×Nat×Option Nat):=match vs,l with
 | [.agg [.int .i64 d k,.str d root,.str d key,.str d to,_]],[⟨kk,z,o,n,c,[.str f]⟩]=>G (⟨k,root,key,to,n,f⟩,z,o,c,kk)
 | _,_=>C
theorem vP {vs:List SV}{l:List Seen}{x:Pp}{z:Bool}{o:Nat}{key:Option Nat}(h:nT vs l=G (x,z,o,c,key)):filled MC vs l=[x.sv (.bE 0 1 z o 0 x.n c)]/\l=[ko z o c x key]:=by
 unfold nT at h;split at h
 ·injection h with h;injection h with h1 h;injection h with h2 h;injection h with h3 h;injection h with h4 h5;subst h1;subst h2;subst h3;subst h4;subst h5;exact⟨rfl,rfl⟩
 ·cases h
def iG (n:Nat)(f:Nat->f_)(n':Nat)(f':Nat->f_):Bool:=H ((n:Int)=(n':Int))&&(W n).all λi=>decide (f i=f' i)
def lX (z:Bool)(o c n:Nat)(f:Nat->f_)(key:Option Nat):Seen:=⟨key,z,o,n,c,[.str f]⟩
def aeG:List AZ:=[.of (.slice dP),.of (.slice dP)]
noncomputable def Va (n:Nat)(f f':Nat->f_):fD:={cv with cT:=λf=>aD f iD,aW:=λg=>if g=51 then [(4,always (A9 13 n λi=>decide (f i=f' i)))] else []}
theorem adR (n:Nat)(f f':Nat->f_):Sx.Good M (Va n f f'):=.of bR fo bq
theorem YJ (n n':Nat)(f f':Nat->f_)(z z':Bool)(o o' c c':Nat)(key key':Option Nat):VC.holds (iX (Va n f f') 51 Z [.bE 0 1 z o 0 n c,.bE 1 1 z' o' 0 n' c'] [lX z o c n f key,lX z' o' c' n' f' key'] (.ret (.bool d (iG n f n' f'))))=((Bk (!decide ((n:Int)=(n':Int))) (ah (SV.bool A d) (SV.bool d (iG n f n' f'))) ((∃(e:Nat),n6 n (fun(g:Nat)=>decide (f g=f' g)) e/\0=(e:Int)/\aa (lX z o c n f key).B (lX z o c n f key).B/\aa (lX z' o' c' n' f' key').B (lX z' o' c' n' f' key').B/\True)/\∀(a:Nat),n6 n (fun(h:Nat)=>decide (f h=f' h)) a->Fk ((a:Int)<(n:Int)) ((0<=(a:Int)/\(a:Int)<(n:Int))/\(o=o/\0+(a:Int).toNat<n)/\(0<=(a:Int)/\(a:Int)<(n':Int))/\(o'=o'/\0+(a:Int).toNat<n')/\Bk (!decide (f (0+(a:Int).toNat)=f' (0+(a:Int).toNat))) (ah (SV.bool A d) (SV.bool d (iG n f n' f'))) (I6 ((a:Int)+1)/\∃(b:Nat),(n6 n (fun(i:Nat)=>decide (f i=f' i)) b/\n-b<n-a)/\(a:Int)+1=(b:Int)/\aa (lX z o c n f key).B (lX z o c n f key).B/\aa (lX z' o' c' n' f' key').B (lX z' o' c' n' f' key').B/\True)) (ah (SV.bool A A) (SV.bool d (iG n f n' f')))))):=by kernel_rfl
theorem ae2 [Decidable p](h:(!decide p)=d):p:=by
 cases hd:H p with
 | true=>exact l_ hd
 | false=>rw[hd] at h;cases h
theorem ae4 [Decidable p](h:(!decide p)=A):H p=false:=by
 cases hd:H p with
 | true=>rw[hd] at h;cases h
 | false=>rfl
theorem ae7 [Decidable p](h:(!decide p)=d):H p=true:=by
 cases hd:H p with
 | true=>rfl
 | false=>rw[hd] at h;cases h
theorem Hw {n':Nat}{f':Nat->f_}(hn:n<9223372036854775808)(z z':Bool)(o o' c c':Nat)(key key':Option Nat):ay (iX (Va n f f') 51 Z [.bE 0 1 z o 0 n c,.bE 1 1 z' o' 0 n' c'] [lX z o c n f key,lX z' o' c' n' f' key'] (.ret (.bool d (iG n f n' f')))):=by
 refine ay.mS (YJ n n' f f' z z' o o' c c' key key') (by delta Bk Fk;exact rfl) ?_;simp only[an,X];refine⟨λh=>gk (by rw[iG,ae4 h];rfl),λh=>⟨⟨0,⟨c5 _,λj hj=>absurd hj (N _)⟩,rfl,aa.refl _,aa.refl _,trivial⟩,λi hi=>⟨λa=> ?_,λa=> ?_⟩⟩⟩
 ·simp only[p_] at a;have e:(n:Int)=(n':Int):=ae2 h;refine⟨by omega,⟨trivial,by omega⟩,by omega,⟨trivial,by omega⟩,λb=> ?_,λb=>⟨by omega,i+1,⟨ur hi a (ae7 b),by omega⟩,by omega,aa.refl _,aa.refl _,trivial⟩⟩;exact gk (by rw[iG,zW a (ae4 b),Bool.and_false])
 ·simp only[q_] at a;exact gk (by rw[iG,D7 hi a,ae7 h];rfl)
def ug (vs:List SV)(l:List Seen):Option (Prop×cK):=match vs,l with
 | [_,_],[⟨_,_,_,n,_,[.str f]⟩,⟨_,_,_,n',_,[.str f']⟩]=>G (n<9223372036854775808,.ret (.bool d (iG n f n' f')))
 | _,_=>C
theorem E8:ax M 51 (bT aeG ug):=by
 refine gd (n:=20) Tryz.func51 (by kernel_rfl) (by kernel_rfl) ?_;intro vs l q a h hq;unfold ug at h;split at h
 ·rename_i v v' key z o n c f key' z' o' n' c' f';cases h;exact⟨_,adR n f f',rfl,rfl,Hw hq z z' o o' c c' key key'⟩
 ·cases h
def aP (f:Nat->f_):Nat->f_->Bool
 | 0=>λ_=>d
 | i+1=>λh=>aP f i h||decide (h=aK (f i))
def cI (f:Nat->f_):Nat->f_->Int
 | 0=>λ_=>0
 | i+1=>λh=>bif aP f i h then cI f i h else(bif H (h=aK (f i))then(i:Int)else 0)
theorem iu (f:Nat->f_): ∀(n:Nat) (h:f_),aP f n h=A->0<=cI f n h/\cI f n h<n/\aK (f (cI f n h).toNat)=h
 | 0,h,e=>by cases e
 | n+1,h,e=>by
   unfold cI;cases hd:aP f n h with
   | true =>obtain⟨h1,h2,h3⟩:=iu f n h hd;exact⟨h1,by show cI f n h<_;omega,h3⟩
   | false =>
     have hs:H (h=aK (f n))=true:=by unfold aP at e;rw[hd,Y] at e;exact e
     rw[hs];simp only[cond_true,cond_false,an];exact⟨by omega,by omega,(l_ hs).symm⟩
theorem yF (f:Nat->f_): ∀(n j:Nat),j<n->aP f n (aK (f j))=A
 | 0,j,h=>absurd h (N _)
 | n+1,j,h=>by
   unfold aP;by_cases e:j=n
   ·subst e;simp
   ·rw[yF f n j (by omega)];rfl
theorem Cc (f:Nat->f_): ∀(n:Nat),cI f n (aK (f 0))=0
 | 0=>rfl
 | n+1=>by
   unfold cI;cases n with
   | zero=>simp[aP]
   | succ n=>rw[yF f (n+1) 0 (by omega),Cc f (n+1)];rfl
theorem Cb {root:f_}:(aP f n root=A/\cI f n root=0)↔(0<n/\aK (f 0)=root):=by
 constructor
 ·rintro⟨h1,h2⟩;obtain⟨_,g2,g3⟩:=iu f n root h1;rw[h2] at g2 g3;exact⟨by omega,g3⟩
 ·rintro⟨h1,rfl⟩;exact⟨yF f n 0 h1,Cc f n⟩
def Bo (a b:f_):Bool:=O a b||decide (a=b)
def Sp.full (w:Sp):Sp:={w with ad:=aP w.f w.n,ag:=cI w.f w.n}
def Wk.start:Wk:=⟨λ_=>d,λ_=>0,[],0,[]⟩
def nu (root:f_)(w:Sp):Option Wk:=bif cL w root then lQ w 401 (Wk.start.take w root) (getD (w.at root)) [] else C
def iH (root:f_)(w:Sp):Option (List (f_×f_)) :=
 bif Bo w.fr w.to&&(H (0<w.n)&&(H (w.n<=200)&&H (aK (w.f 0)=root)))then(match nu root w.full with
  | some s=>bif iG s.ns.length (λi=>s.ns.getD i []) w.n w.f then G s.fs else C
  | none=>C)else C
def By (root:f_)(w:Sp):List (f_×f_):=match iH root w with
 | some l=>l
 | none=>[]
def DP (root:f_)(w:Sp):cK:=.fork (iH root w).isSome λb=>match b with
 | true=>.all Nat λc=>.req ((By root w).length<=c) (.new (λk=>.aN [.aX k 2 A 0 (By root w).length c,.int .i64 A 0]) (.rows A (By root w).length [bU (By root w),bV (By root w)] d (c*2) 50))
 | false=>.ret (.aN [.aO,.int .i64 A 10])
def ace (st:Sx.St)(i:Nat):Nat:=match st.m.get (rm st i)with
 | some (.cells [.map k] _ _)=>k
 | _=>0
def Uv (w:Sp):aY :={α:=Nat,pre:=λ_ i=>i<=w.n,kH:=λ_ i=>w.n-i,fresh:=0,slots:=λ_ i=>[(37,.int .i64 d i)],mem:=λst i=>[(ace st 8,.fmap (aP w.f i) (.int .i64 (cI w.f i)) C)]}
noncomputable def WZ:List (FuncId×PT):=(51,bT aeG ug)::Ie 401
noncomputable def Vd (w:Sp):fD:={cv with cT:=λf=>aD f WZ,aW:=λf=>if f=14 then [(5,always (Uv w))] else []}
theorem SZ:bp M (λf=>aD f WZ):=.cons E8 (bS _ _) (SY 401)
theorem adU (w:Sp):Sx.Good M (Vd w):=.of bR SZ bq
def qM (w:Sp)(kk:Option Nat):Seen:=⟨kk,w.z,w.o,w.n,w.c,[.str w.f]⟩
end
end Go.Proofs.YtoibaecagklkaaaGreatDoor
