/-
  What a range of a map is proved by, plain; and that it is believed, and nothing else of these nodes is.
-/
import Derived.Test.YtoibaecagklkaaaGreatDoorMt
import Derived.Test.YtoibaecagklkaaaGreatDoorMv
import Derived.Test.YtoibaecagklkaaaGreatDoorMp
open Bool renaming and_eq_true->R,eq_iff_iff->d!,false->d,false_or->ct,not_eq_true'->cx,or_eq_true->bW,true->C
open Decidable renaming decide->O
open Go.LoopState renaming ready->I
open Go.Op renaming bytesLess->M
open List renaming append_assoc->Q,append_cancel_left->ec,append_nil->ag,filter_append->cy,foldl_cons->b7,getD_eq_getElem?_getD->an,getElem?_eq_getElem->b_,getElem_of_mem->cQ,length->ef,length_append->ax,length_drop->ei,length_pos_iff->c4,mem_append->ej,mem_append_right->b!,mem_cons->Y,mem_cons_of_mem->Z,mem_cons_self->J,mem_filter->cl,mem_map->c5,mem_range->X,mem_singleton->ek,nil_append->W,nodup_cons->en,nodup_nil->c_,pairwise_cons->ep,range->eu,singleton_append->ez
open Nat renaming le_refl->T,lt_irrefl->eA,lt_succ_self->a_,not_lt_zero->a!,succ_pos->c!
open Option renaming none->H,some->F
open UInt8 renaming ofNat->bD,ofNat_toNat->eB,toNat->dG,toNat_ofNat'->d_
namespace Go.Proofs.YtoibaecagklkaaaGreatDoor
open Go Sx
variable {L:List (List UInt8)}{l:List Rw}{a b fr key p t to:List UInt8}{m n:Nat}{f g:Nat->List UInt8}{x:Nd}{w:Sp}
section
open Go Sx
set_option maxRecDepth 20000
def iY (fr to:List UInt8)(l:List Rw):List (List UInt8):=ctext 13 l::mQ fr to 13 l []
def qA (fr to:List UInt8)(l:List Rw):List (List UInt8):=aH (iY fr to l)
def Zv (L:List (List UInt8)):Prop:=∀ t,t∈ L->∀ u,u∈ L->aG t=aG u->t=u
structure Zw (L:List (List UInt8))(s:Wk):Prop where
 pos: ∀ h,0<=s.used h
 mem: ∀ t,t∈ L->(s.used (aG t)=0↔t∉ s.ns)
theorem XJ (hi:Zv L){s:Wk}(h:Zw L s)(ht:t∈ L)(hf:w.at (aG t)=t):(s.take w (aG t)).ns=(if t∈ s.ns then s.ns else s.ns++[t])/\Zw L (s.take w (aG t)):=by
 have e:(s.take w (aG t)).ns=if t∈ s.ns then s.ns else s.ns++[t]:=by
  show(if s.used (aG t)=0 then s.ns++[w.at (aG t)] else s.ns)=_
  rw[hf];by_cases hm:t∈ s.ns
  ·rw[if_pos hm,if_neg (λe=>(h.mem t ht).1 e hm)]
  ·rw[if_neg hm,if_pos ((h.mem t ht).2 hm)]
 refine⟨e,λg=> ?_,λu hu=> ?_⟩
 ·rw[yB];have h1:=h.pos g;have h2:=h.pos (aG t);split<;>omega
 ·rw[yB,e];have h2:=h.pos (aG t);by_cases hut:aG u=aG t
  ·have:=hi u hu t ht hut;subst this;rw[if_pos rfl];constructor
   ·intro h0;omega
   ·intro hn;refine absurd ?_ hn;split
    ·assumption
    ·exact b! _ (J ..)
  ·rw[if_neg hut,h.mem u hu];have hne:u≠t:=λe=>hut (by rw[e]);split
   ·exact Iff.rfl
   ·rw[ej,ek];exact⟨λa b=>b.elim a hne,λa b=>a (.inl b)⟩
theorem N8 {w:Sp}{L:List (List UInt8)}(hi:Zv L): ∀(V:List (List UInt8)) (s:Wk),(∀ t,t∈ V->t∈ L/\w.at (aG t)=t)->Zw L s->(V.foldl (λs t=>s.take w (aG t)) s).ns=V.foldl (λu x=>if x∈ u then u else u++[x]) s.ns
 | [],_,_,_=>rfl
 | t::V,s,hV,h=>by obtain⟨h1,h2⟩:=hV t (J ..);obtain⟨h3,h4⟩:=XJ hi h h1 h2;rw[b7,b7,N8 hi V _ (λu hu=>hV u (Z _ hu)) h4,h3]
theorem XI (hi:Zv L){V:List (List UInt8)}(E:List (List UInt8×List UInt8))(c:Nat)(hV: ∀ t,t∈ V->t∈ L/\w.at (aG t)=t):(jN w Wk.start V E c).ns=aH V:=by have:=N8 hi V {Wk.start with lk:=Wk.start.lk+c,fs:=Wk.start.fs++E} hV ⟨λ_=>Int.le_refl 0,λt _=>⟨(λ_ h=>by cases h),λ_=>rfl⟩⟩;exact this
theorem OL (fr to:List UInt8): ∀(m:Nat) (l:List Rw) (p:List UInt8),(mQ fr to m l p).length+1<=nP fr to m l p
 | 0,_,_=>T _
 | m+1,l,p=>by
   unfold mQ nP;have key: ∀ n,((eu n).flatMap λi=>if aB l i=[] then [] else bif bK fr to (dR (bn (m+1) l) p i)then(if(ctext m (aB l i)).length<32 then [] else [ctext m (aB l i)])++mQ fr to m (aB l i) (dR (bn (m+1) l) p i)else []).length<=cV (λi=>if aB l i=[] then 0 else bif bK fr to (dR (bn (m+1) l) p i)then nP fr to m (aB l i) (dR (bn (m+1) l) p i)else 0) n:=by
    intro n;induction n with
    | zero=>exact T _
    | succ n ih =>
      rw[pU,ax];show _<=cV _ n+_;refine Nat.add_le_add ih ?_;dsimp only;by_cases e:aB l n=[]
      ·rw[if_pos e,if_pos e];exact T _
      ·rw[if_neg e,if_neg e];cases bK fr to (dR (bn (m+1) l) p n)with
       | false=>exact T _
       | true =>simp only[cond_true];have:=OL fr to m (aB l n) (dR (bn (m+1) l) p n);rw[ax];split<;>simp<;>omega
   have:=key 16;omega
theorem V9 (fr to:List UInt8)(p:List UInt8):nP fr to 13 [] p=1:=by
 show 1+cV (λi=>if aB [] i=[] then 0 else _) 16=1
 simp[cV,aB]
theorem OJ (h:bV 13 l)(hn:l.length<=40)(p:List UInt8):nP fr to 13 l p<=120:=by
 by_cases e:l=[]
 ·subst e;rw[V9];omega
 ·have:=(MZ fr to (p:=p) h e).1;omega
theorem WQ (h:bV 13 l)(hn:l.length<=40):(qA fr to l).length<=120:=by have h1:=wD _ (iY fr to l) rfl;have h2:=OL fr to 13 l [];have h3:=OJ (fr:=fr) (to:=to) h hn [];have h4:(iY fr to l).length=(mQ fr to 13 l []).length+1:=rfl;unfold qA;omega
theorem wB (h:bV 13 l):getD (ctext 13 l)=bn 13 l:=by
 by_cases e:l=[]
 ·subst e;exact eD (CQ 13)
 ·exact eD (dg (T _) h e)
theorem EY (h:bV 13 l)(hn:l.length<=40)(hk: ∀ x,x∈ l->k8 x.1=C)(hf:Full w (iY w.fr w.to l)) :
  mK (aG (ctext 13 l)) w=F (jN w Wk.start (iY w.fr w.to l) (gx w.fr w.to [] l) (nP w.fr w.to 13 l [])):=by
 obtain⟨h1,h2⟩:=hf _ (J ..);have hv:=OJ (fr:=w.fr) (to:=w.to) h hn [];unfold mK;rw[h1,cond_true,h2,wB h];rw[Dm,Ka (T _) h (by decide) (by decide) (λt ht=>hf t (Z _ ht)) hk (by rw[Fc];show 0+0+_<=400;omega),wU,W,Nat.zero_add];rfl
theorem OM (hi:Zv (cM 13 l))(hf:Full w (iY w.fr w.to l))(E:List (List UInt8×List UInt8))(c:Nat):(jN w Wk.start (iY w.fr w.to l) E c).ns=qA w.fr w.to l :=
 XI hi E c λt ht=>⟨by
  unfold iY at ht;rcases Y.1 ht with ht | ht
  ·subst ht;exact J ..
  ·exact Z _ (yE _ _ ht),(hf t ht).2⟩
theorem UP (hi:Zv L)(hf: ∀ i,i<w.n->w.f i∈ L)(ht:t∈ L)(hd:aK w.f w.n (aG t)=C):w.full.at (aG t)=t:=by obtain⟨g1,g2,g3⟩:=gT _ _ _ hd;exact hi _ (hf (cB w.f w.n (aG t)).toNat (by omega)) t ht g3
theorem sW: ∀(V:List (List UInt8)) (a:List UInt8) (u:List (List UInt8)),∃ r,V.foldl (λu x=>if x∈ u then u else u++[x]) (a::u)=a::r
 | [],a,u=>⟨u,rfl⟩
 | x::V,a,u=>by
   rw[b7];split
   ·exact sW V a u
   ·exact sW V a (u++[x])
theorem RR (fr to:List UInt8)(l:List Rw): ∃ r,qA fr to l=ctext 13 l::r:=by obtain⟨r,h⟩:=sW (mQ fr to 13 l []) (ctext 13 l) [];exact⟨r,h⟩
theorem rN (h:t∈ iY fr to l):t∈ cM 13 l:=by
 unfold iY at h;rcases Y.1 h with h | h
 ·subst h;exact J ..
 ·exact Z _ (yE _ _ h)
theorem Fj :t∈ qA fr to l↔t∈ iY fr to l:=kX _ _ rfl t
theorem EK {n':Nat}{f':Nat->List UInt8}:e8 n f n' f'=C↔n=n'/\∀ i,i<n->f i=f' i:=by
 unfold e8;rw[R,decide_eq_true_eq,List.all_eq_true];constructor
 ·rintro⟨h1,h2⟩;exact⟨by omega,λi hi=>of_decide_eq_true (h2 i (X.2 hi))⟩
 ·rintro⟨h1,h2⟩;exact⟨by omega,λi hi=>decide_eq_true (h2 i (X.1 hi))⟩
theorem V8 {e:List (List UInt8×List UInt8)}(he:E8 e)(hn:e.length<=40)(hi:Zv (cM 13 (rowsOf e)))(hle:sy w.fr w.to=C)(h1:w.n=(qA w.fr w.to (rowsOf e)).length)(h2: ∀ i,i<w.n->w.f i=(qA w.fr w.to (rowsOf e)).getD i []) :
  eJ (aG (ctext 13 (rowsOf e))) w=F (aL w.fr w.to e):=by
 have hr:=Dz he;have hl:(rowsOf e).length<=40:=by unfold rowsOf;rw[List.length_map];exact hn
 have hb:=WQ (fr:=w.fr) (to:=w.to) hr hl;obtain⟨r,hh⟩:=RR w.fr w.to (rowsOf e);have h0:0<w.n:=by rw[h1,hh];exact c! _
 have e0:w.f 0=ctext 13 (rowsOf e):=by rw[h2 0 h0,hh];rfl
 have hin: ∀ i,i<w.n->w.f i∈ cM 13 (rowsOf e):=λi hi=>by rw[h2 i hi];exact rN (Fj.1 (tV (by omega)))
 have hf:Full w.full (iY w.fr w.to (rowsOf e)):=λt ht=>by
  have hd:aK w.f w.n (aG t)=true:=by
   obtain⟨q,hq,e1⟩:=cQ (Fj.2 ht);have:w.f q=t:=by rw[h2 q (by omega),an,b_ hq];exact e1
   rw[← this];exact qK _ _ q (by omega)
  have ha:=UP hi hin (rN ht) hd;refine⟨?_,ha⟩;unfold bJ;rw[ha,(lE hr (rN ht)).1];show(aK w.f w.n (aG t)&&C)=C;rw[hd];rfl
 obtain⟨S,e1,e2,e3⟩: ∃ S,mK (aG (ctext 13 (rowsOf e))) w.full=F S/\S.ns=qA w.fr w.to (rowsOf e)/\S.fs=aL w.fr w.to e:=by
  refine⟨_,EY (w:=w.full) hr hl (λx hx=>by obtain⟨e,_,rfl⟩:=c5.1 hx;exact Ji e.1) hf,OM (w:=w.full) hi hf _ _,?_⟩
  rw[M7];show []++gx w.fr w.to [] (rowsOf e)=_;rw[W,y7]
 have hs:e8 S.ns.length (λi=>S.ns.getD i []) w.n w.f=true:=by rw[e2];exact EK.2 ⟨h1.symm,λi hi'=>(h2 i (by omega)).symm⟩
 unfold eJ;rw[hle,decide_eq_true h0,decide_eq_true (show w.n<=200 by omega),decide_eq_true (show aG (w.f 0)=_ by rw[e0]),e1];dsimp only;rw[hs,e3];rfl
theorem NL (r:Nat->List UInt8): ∀(k i:Nat),i<k->aQ (r i)=C->∃ j,j<aV r k/\cU r k j=ai (r i)
 | 0,i,h,_=>absurd h (a! _)
 | k+1,i,h,hb=>by
   simp only[aV,cU];by_cases e:i=k
   ·subst e;rw[hb];exact⟨aV r i,a_ _,by rw[cond_true,if_pos rfl]⟩
   ·obtain⟨j,h1,h2⟩:=NL r k i (by omega) hb;cases aQ (r k)with
    | false=>exact⟨j,h1,h2⟩
    | true=>exact⟨j,Nat.lt_succ_of_lt h1,by rw[cond_true,if_neg (by omega)];exact h2⟩
theorem N6 {r:Nat->List UInt8}: ∀ {k:Nat},(∀ j,j<k->aQ (r j)=d)->aV r k=0
 | 0,_=>rfl
 | k+1,h=>by unfold aV;rw[h k (a_ k)];exact N6 λj hj=>h j (by omega)
theorem Mz (hm:m<=13)(h:bV m l)(hl:l≠[])(hs:(ctext m l).length<32):gz (ctext m l)=0:=by
 obtain⟨h1,_,_⟩:=sq (n7 (dg hm h hl) (AE h hl) hs).1;unfold gz;refine N6 λj hj=> ?_;obtain⟨K,e,hK⟩:=I5 (Gq (L:=32) (t:=ctext m l) h1 hs hs);rcases hK j hj with e | e
 ·rw[show(getD (ctext m l)).r j=[] from e];rfl
 ·cases hb:aQ ((getD (ctext m l)).r j)with
  | false=>rfl
  | true=>have:=kH hb;omega
theorem Bc {P:List UInt8->Prop}: ∀ {m:Nat} {l:List Rw},m<=13->bV m l->l≠[]->(∀ j,j<gz (ctext m l)->P (eY (ctext m l) j))->(∀ t,t∈ cr m l->P (aG t)->∀ j,j<gz t->P (eY t j))->∀ t,t∈ cr m l->P (aG t)
 | 0,_,_,_,_,_,_,t,ht=>by cases ht
 | m+1,l,hm,h,hl,h0,hc,t,ht=>by
   unfold cr at ht;obtain⟨i,hi,ht⟩:=List.mem_flatMap.1 ht;have hi:=X.1 hi;by_cases e:aB l i=[]
   ·rw[if_pos e] at ht;cases ht
   ·rw[if_neg e] at ht;have ho:=fD h i;have hv:=dg (m:=m) (by omega) ho e;have er:(getD (ctext (m+1) l)).r i=dZ (ctext m (aB l i)):=by rw[eD (dg hm h hl),lC m l hi,if_neg e]
    by_cases hs:(ctext m (aB l i)).length<32
    ·rw[if_pos hs,W] at ht;exact Bc (by omega) ho e (λj hj=>by rw[Mz (by omega) ho e hs] at hj;exact absurd hj (a! _)) (λu hu=>hc u (lM hi e hu)) t ht
    ·rw[if_neg hs] at ht;obtain⟨g1,g2,_⟩:=gJ hs;have hp:P (aG (ctext m (aB l i))):=by obtain⟨j,hj,e2⟩:=NL (getD (ctext (m+1) l)).r 16 i hi (by rw[er];exact g1);have:=h0 j hj;unfold eY at this;rw[e2,er,g2] at this;exact this
     rcases ej.1 ht with ht | ht
     ·rw[ek] at ht;subst ht;exact hp
     ·exact Bc (by omega) ho e (hc _ (oR hi e hs) hp) (λu hu=>hc u (lM hi e hu)) t ht
theorem ZA {P:List UInt8->Prop}(h:bV 13 l)(h0:P (aG (ctext 13 l)))(hc: ∀ t,t∈ cM 13 l->P (aG t)->∀ j,j<gz t->P (eY t j)): ∀ t,t∈ cM 13 l->P (aG t):=by
 intro t ht;unfold cM at ht;rcases Y.1 ht with ht | ht
 ·subst ht;exact h0
 ·by_cases e:l=[]
  ·subst e;have:cr 13 []=[]:=kE λi _=>rfl;rw[this] at ht;cases ht
  ·exact Bc (T _) h e (hc _ (J ..) h0) (λu hu=>hc u (Z _ hu)) t ht
noncomputable def nN (n:Nat)(f g:Nat->List UInt8)(y:tM)(fr to:List UInt8):Sp:=⟨fr,to,(m5 n f g).length,iM n f g,C,0,0,cG y.Fr,cB (iM n f g) (m5 n f g).length⟩
theorem Tz {u:List UInt8}(hu:u∈ cM 13 (aI n (λi=>aj (f i)) g)): ∃ q,q<(m5 n f g).length/\iM n f g q=u:=by obtain⟨q,hq,e⟩:=cQ ((kX _ _ rfl _).2 hu);refine⟨q,hq,?_⟩;show(aH _).getD q []=u;rw[an,b_ hq];exact e
theorem vv (n:Nat)(f g:Nat->List UInt8):iM n f g 0=ctext 13 (aI n (λi=>aj (f i)) g):=by obtain⟨r,h⟩:=sW (cr 13 (aI n (λi=>aj (f i)) g)) (ctext 13 (aI n (λi=>aj (f i)) g)) [];have:m5 n f g=ctext 13 (aI n (λi=>aj (f i)) g)::r:=h;unfold iM;rw[this];rfl
theorem TA (h:fT (m5 n f g).length (iM n f g)=C):Zv (cM 13 (aI n (λi=>aj (f i)) g)):=λt ht u hu e=>by obtain⟨q,hq,rfl⟩:=Tz ht;obtain⟨r,hr,rfl⟩:=Tz hu;exact tQ h hr hq e
theorem GV (hc:cJ n f g=0)(ha:fT (m5 n f g).length (iM n f g)=C){y:tM}(hy:qo (m5 n f g).length (iM n f g) (aG (iM n f g 0)) y)(fr to:List UInt8) :
  Full (nN n f g y fr to) (cM 13 (aI n (λi=>aj (f i)) g)):=by
 have hr:=gS hc;have self: ∀ t,t∈ cM 13 (aI n (λi=>aj (f i)) g)->qq (m5 n f g).length (iM n f g) (aG t)=t:=λt ht=>by obtain⟨q,hq,rfl⟩:=Tz ht;exact Vv ha hq
 have hin:=ZA (P:=λh=>h∈ y.Fr) hr (by rw[← vv];exact hy.bf.root) λt ht hp j hj=>by
  obtain⟨k,hk,e⟩:=cQ hp;have e1:y.Fr.getD k []=aG t:=by rw[an,b_ hk];exact e
  have:=hy.bf.clo k hk hk j;rw[e1,self t ht] at this;exact this hj
 intro t ht;have hat:(nN n f g y fr to).at (aG t)=t:=self t ht;refine⟨?_,hat⟩;unfold bJ;rw[hat,(lE hr ht).1];show(cG y.Fr (aG t)&&C)=C;unfold cG;rw[decide_eq_true (hin t ht)];rfl
theorem Yf (hc:cJ n f g=0)(ha:fT (m5 n f g).length (iM n f g)=C){y:tM}(hy:qo (m5 n f g).length (iM n f g) (aG (iM n f g 0)) y)(fr to:List UInt8) :
  ∃ s,mK (aG (iM n f g 0)) (nN n f g y fr to)=F s/\s.ns=qA fr to (aI n (λi=>aj (f i)) g):=by
 have hr:=gS hc;have hf:=(GV hc ha hy fr to).mono (L':=iY fr to (aI n (λi=>aj (f i)) g)) λt ht=>rN ht;have hl:(aI n (λi=>aj (f i)) g).length<=40:=by rw[fh];exact(ku hc).2
 refine⟨_,?_,OM (w:=nN n f g y fr to) (TA ha) hf (gx fr to [] (aI n (λi=>aj (f i)) g)) (nP fr to 13 (aI n (λi=>aj (f i)) g) [])⟩;rw[vv];exact EY (w:=nN n f g y fr to) hr hl (λx hx=>by rw[sF] at hx;obtain⟨e,_,rfl⟩:=c5.1 hx;exact Ji e.1) hf
theorem q9: ∀ {a b:List UInt8},M b a=d->(M a b||decide (a=b))=C
 | [],[],_=>rfl
 | [],_::_,_=>rfl
 | _::_,[],h=>by cases h
 | a::r,b::s,h=>by
   obtain⟨h1,h2⟩:=pJ.1 h;rw[od];by_cases e:a=b
   ·subst e;have:=q9 (h2 rfl);rw[bW,decide_eq_true_eq] at this;rcases this with h | h
    ·rw[h];simp
    ·rw[h];simp
   ·have:a<b:=UInt8.lt_of_le_of_ne h1 e;rw[decide_eq_true this];rfl
theorem Iu :(M a b||decide (a=b))=C↔M b a=false:=⟨y9,q9⟩
theorem Ir (h:sy a b=C):M (aj b) (aj a)=false:=by
 unfold sy at h;rw[bW,decide_eq_true_eq] at h;rcases h with h | h
 ·exact gu _ _ (sA h)
 ·subst h;exact gd _
theorem mg :hasB fr to p=C↔M p (aj fr)=d/\M (aj to) p=false:=by unfold hasB;rw[R,Iu,cx]
theorem rm {s:List UInt8}:preB p s=C↔∃ u,s=p++u:=by
 unfold preB;rw[R,decide_eq_true_eq,decide_eq_true_eq];constructor
 ·rintro⟨_,h⟩;exact⟨s.drop p.length,by rw[← h,List.length_take,← h];simp[List.take_append_drop]⟩
 ·rintro⟨u,rfl⟩;exact⟨by simp,by simp⟩
theorem LO :bK fr to p=C↔M (aj to) p=d/\(M p (aj fr)=d∨∃ u,aj fr=p++u):=by unfold bK;rw[R,Iu,bW,cx,rm]
theorem UL (h:aj a=aj b):a=b:=by rw[← mw a,h,mw]
theorem filter_none {α:Type}{p:α->Bool}{l:List α}(h: ∀ x,x∈ l->p x=d):l.filter p=[]:=List.filter_eq_nil_iff.2 λx hx=>by rw[h x hx];simp
theorem yW {α:Type}{p q:α->Bool}{l:List α}(h: ∀ x,x∈ l->p x=q x):l.filter p=l.filter q:=List.filter_congr h
theorem JR (mid:List UInt8): ∀ {l:List (List UInt8×List UInt8)},(l.Pairwise λa b=>M a.1 b.1=C)->∃ l1 l2,l=l1++l2/\(∀ x,x∈ l1->M (aj x.1) (aj mid)=C)/\(∀ x,x∈ l2->M (aj x.1) (aj mid)=d)
 | [],_=>⟨[],[],rfl,(λ_ h=>by cases h),(λ_ h=>by cases h)⟩
 | a::l,h=>by
   cases ha:M (aj a.1) (aj mid)with
   | true =>
     obtain⟨l1,l2,e,h1,h2⟩:=JR mid (List.Pairwise.of_cons h);refine⟨a::l1,l2,by rw[e];rfl,λx hx=> ?_,h2⟩;rcases Y.1 hx with e | hx
     ·rw[e];exact ha
     ·exact h1 x hx
   | false =>
     refine⟨[],a::l,rfl,(λ_ h=>by cases h),λx hx=> ?_⟩;rcases Y.1 hx with e | hx
     ·rw[e];exact ha
     ·have:=sA ((ep.1 h).1 x hx);exact kN _ _ _ ha (gu _ _ this)
def WU (mid:List UInt8)(a:List (List UInt8×List UInt8)):List (List UInt8×List UInt8):=if 0<a.length/\(a.getD (a.length - 1) ([],[])).1=mid then a.take (a.length - 1)else a
theorem parts {mid:List UInt8}{l:List (List UInt8×List UInt8)}(h:E8 l)(h1:sy fr mid=C)(h2:sy mid to=C):WU mid (aL fr mid l)++aL mid to l=aL fr to l:=by
 obtain⟨l1,l2,e,a1,a2⟩:=JR mid h.yb;have p1:=Ir h1;have p2:=Ir h2;have eR:aL fr to l=l1.filter (λe=>hasB fr to (aj e.1))++l2.filter (λe=>hasB mid to (aj e.1)):=by unfold aL;rw[e,cy];congr 1;refine yW λx hx=> ?_;rw[d!,mg,mg];exact⟨λg=>⟨a2 x hx,g.2⟩,λg=>⟨kN _ _ _ p1 g.1,g.2⟩⟩
 have eQ:aL mid to l=l2.filter (λe=>hasB mid to (aj e.1)):=by
  unfold aL;rw[e,cy,filter_none λx hx=> ?_,W];cases hb:hasB mid to (aj x.1)with
  | false=>rfl
  | true=>rw[mg,a1 x hx] at hb;cases hb.1
 have eP:aL fr mid l=l1.filter (λe=>hasB fr to (aj e.1))++l2.filter (λe=>hasB fr mid (aj e.1)):=by unfold aL;rw[e,cy];congr 1;refine yW λx hx=> ?_;rw[d!,mg,mg];have:=gu _ _ (a1 x hx);exact⟨λg=>⟨g.1,kN _ _ _ g.2 p2⟩,λg=>⟨g.1,this⟩⟩
 have is: ∀ x,x∈ l2->hasB fr mid (aj x.1)=C->x.1=mid:=λx hx g=>by rw[mg] at g;have g1:=q9 (a2 x hx);rw[g.2,ct,decide_eq_true_eq] at g1;exact(UL g1).symm
 have key:WU mid (aL fr mid l)=l1.filter (λe=>hasB fr to (aj e.1)):=by
  rw[eP];obtain⟨z,hm⟩: ∃ z,l2.filter (λe=>hasB fr mid (aj e.1))=z:=⟨_,rfl⟩
  rw[hm];cases z with
  | nil =>
    rw[ag];unfold WU;rw[if_neg];rintro⟨g1,g2⟩;have hmem:(l1.filter λe=>hasB fr to (aj e.1)).getD ((l1.filter λe=>hasB fr to (aj e.1)).length - 1) ([],[])∈ l1.filter λe=>hasB fr to (aj e.1):=by rw[an,b_ (by omega)];exact List.getElem_mem _
    have:=a1 _ (cl.1 hmem).1;rw[g2,gd] at this;cases this
  | cons x r =>
    have hx:x∈ l2/\hasB fr mid (aj x.1)=true:=cl.1 (by rw[hm];exact J ..);have hr:r=[]:=by
     cases r with
     | nil=>rfl
     | cons y r =>
       have hy:y∈ l2/\hasB fr mid (aj y.1)=true:=cl.1 (by rw[hm];exact Z _ (J ..));have hp:(l2.filter λe=>hasB fr mid (aj e.1)).Pairwise λa b=>M a.1 b.1=true:=by have:=h.yb;rw[e,List.pairwise_append] at this;exact this.2.1.filter _
       rw[hm,ep] at hp;have:=hp.1 y (J ..);rw[is x hx.1 hx.2,is y hy.1 hy.2,gd] at this;cases this
    subst hr;have ha:(l1.filter (λe=>hasB fr to (aj e.1))++[x]).length - 1=(l1.filter λe=>hasB fr to (aj e.1)).length:=by rw[ax];rfl
    unfold WU;rw[ha,if_pos]
    ·rw[List.take_left'];rfl
    ·refine⟨by rw[ax];exact c! _,?_⟩;rw[an,List.getElem?_append_right (T _),Nat.sub_self];exact is x hx.1 hx.2
 rw[key,eR,eQ]
def dc (x:Nd)(q:List UInt8):Option (Nat×List UInt8):=if x.k=2 then(bif preB x.p q then F (0,q.drop x.p.length)else H)else if x.k=3 then(match q with
 | []=>H
 | b::q'=>F (b.toNat,q'))else H
def iB:Nat->List Rw->List UInt8->List (List UInt8)
 | 0,_,_=>[]
 | m+1,l,q=>match dc (bn (m+1) l) q with
   | none=>[]
   | some (i,q')=>if aB l i=[] then [] else(if(ctext m (aB l i)).length<32 then [] else [ctext m (aB l i)])++iB m (aB l i) q'
theorem sH :bK key key t=C↔∃ u,aj key=t++u:=by
 rw[LO];constructor
 ·rintro⟨h1,h2 | h2⟩
  ·have:=q9 h1;rw[h2,ct,decide_eq_true_eq] at this;exact⟨[],by rw[ag];exact this.symm⟩
  ·exact h2
 ·rintro⟨u,h⟩;exact⟨by rw[h];exact xW t u,.inr ⟨u,h⟩⟩
theorem qL {α:Type}{f:Nat->List α}{k:Nat}: ∀ {n:Nat},k<n->(∀ i,i<n->i≠k->f i=[])->(eu n).flatMap f=f k
 | 0,h,_=>absurd h (a! _)
 | n+1,h,h'=>by
   rw[pU];by_cases e:k=n
   ·subst e;rw[kE λi hi=>h' i (by have:=X.1 hi;omega) (by have:=X.1 hi;omega),W]
   ·rw[qL (by omega) λi hi=>h' i (by omega),h' n (a_ n) (λe'=>e e'.symm),ag]
theorem Hx :(bn (m+1) l).k=3/\(bn (m+1) l).p=[]∨(bn (m+1) l).k=2/\(∀ i,0<i->aB l i=[])∨(bn (m+1) l).k≠2/\(bn (m+1) l).k≠3/\∀ i,aB l i=[]:=by
 match l with
 | []=>exact .inr (.inr ⟨by show(0:Int)≠2;decide,by show(0:Int)≠3;decide,λ_=>rfl⟩)
 | [_]=>exact .inr (.inr ⟨by show(1:Int)≠2;decide,by show(1:Int)≠3;decide,λ_=>rfl⟩)
 | r::s::t =>
   have e:bn (m+1) (r::s::t)=ga (λl'=>if l'=[] then [] else dZ (cS (bn m l'))) (r::s::t):=rfl
   rw[e];unfold ga;dsimp only;by_cases hk:0<bP r.1 ((s::t).getLastD r).1
   ·rw[if_pos hk];exact .inr (.inl ⟨rfl,λi hi=>by rw[cC,if_pos hk,if_neg (by omega)]⟩)
   ·rw[if_neg hk];exact .inl ⟨rfl,rfl⟩
theorem OK {key:List UInt8}: ∀ {m:Nat} {l:List Rw} {p q:List UInt8},aj key=p++q->mQ key key m l p=iB m l q
 | 0,_,_,_,_=>rfl
 | m+1,l,p,q,h=>by
   have hmt: ∀ i,bK key key (dR (bn (m+1) l) p i)=C↔∃ u,q=(if(bn (m+1) l).k=3 then(bn (m+1) l).p++[bD i] else(bn (m+1) l).p)++u:=λi=>by
    rw[sH,h];unfold dR cat;constructor
    ·rintro⟨u,e⟩;refine⟨u,?_⟩;split at e<;>rename_i hk
     ·rw[if_pos hk];simpa [Q] using e
     ·rw[if_neg hk];simpa [Q] using e
    ·rintro⟨u,e⟩;refine⟨u,?_⟩;rw[e];split<;>simp[Q]
   have H:(∀ i,i<16->aB l i=[]∨bK key key (dR (bn (m+1) l) p i)=d)->mQ key key (m+1) l p=[]:=λh=>by
    unfold mQ;refine kE λi hi=> ?_;rcases h i (X.1 hi)with e | e
    ·rw[if_pos e]
    ·rw[e];split<;>rfl
   have one: ∀ k q',k<16->bK key key (dR (bn (m+1) l) p k)=C->aj key=dR (bn (m+1) l) p k++q'->(∀ i,i<16->i≠k->aB l i=[]∨bK key key (dR (bn (m+1) l) p i)=d)->mQ key key (m+1) l p=if aB l k=[] then [] else(if(ctext m (aB l k)).length<32 then [] else [ctext m (aB l k)])++iB m (aB l k) q':=λk q' hk hm hq h=>by
    unfold mQ;rw[qL hk λi hi hne=> ?_,hm,cond_true,OK hq];rcases h i hi hne with e | e
    ·rw[if_pos e]
    ·rw[e];split<;>rfl
   have off: ∀ i,¬ (∃ u,q=(if(bn (m+1) l).k=3 then(bn (m+1) l).p++[bD i] else(bn (m+1) l).p)++u)->bK key key (dR (bn (m+1) l) p i)=false:=λi hn=>by
    cases hb:bK key key (dR (bn (m+1) l) p i)with
    | false=>rfl
    | true=>exact absurd ((hmt i).1 hb) hn
   have eT: ∀ i,dR (bn (m+1) l) p i=p++(if(bn (m+1) l).k=3 then(bn (m+1) l).p++[bD i] else(bn (m+1) l).p):=λi=>by unfold dR cat;split<;>simp[Q]
   show mQ key key (m+1) l p=match dc (bn (m+1) l) q with
    | .none=>[]
    | some (i,q')=>if aB l i=[] then [] else(if(ctext m (aB l i)).length<32 then [] else [ctext m (aB l i)])++iB m (aB l i) q'
   rcases Hx (m:=m) (l:=l)with ⟨k3,kp⟩ | ⟨k2,kz⟩ | ⟨k2,k3,kz⟩
   ·have hn:dc (bn (m+1) l) q=match q with
     | []=>.none
     | b::q'=>F (b.toNat,q'):=by
     unfold dc;rw[if_neg (by rw[k3];decide),if_pos k3];cases q<;>rfl
    rw[hn];cases q with
    | nil =>refine H λi _=>.inr (off i ?_);rintro⟨u,e⟩;rw[if_pos k3,kp] at e;cases e
    | cons b q =>
      dsimp only;by_cases hb:b.toNat<16
      ·have hp:aj key=dR (bn (m+1) l) p b.toNat++q:=by rw[h,eT,if_pos k3,kp,Q,eB];rfl
       refine one b.toNat q hb (sH.2 ⟨q,hp⟩) hp λi hi hne=>.inr (off i ?_);rintro⟨u,e⟩;rw[if_pos k3,kp] at e;injection e with e _;have:=congrArg dG e;rw[d_] at this;omega
      ·rw[H λi hi=>.inr (off i ?_)]
       ·exact absurd (mA key b (by rw[h];exact b! _ (J ..))) hb
       ·rintro⟨u,e⟩;rw[if_pos k3,kp] at e;injection e with e _;have:=congrArg dG e;rw[d_] at this;omega
   ·have hk3: ¬ (bn (m+1) l).k=3:=by rw[k2];decide
    have hn:dc (bn (m+1) l) q=bif preB (bn (m+1) l).p q then F (0,q.drop (bn (m+1) l).p.length)else .none:=by unfold dc;rw[if_pos k2]
    rw[hn];cases hb:preB (bn (m+1) l).p q with
    | true =>
      obtain⟨u,e⟩:=rm.1 hb;have hd:q.drop (bn (m+1) l).p.length=u:=by rw[e];simp
      rw[cond_true,hd];dsimp only;have hp:aj key=dR (bn (m+1) l) p 0++u:=by rw[eT,if_neg hk3,Q,← e];exact h
      exact one 0 u (by decide) (sH.2 ⟨u,hp⟩) hp λi _ hne=>.inl (kz i (by omega))
    | false =>rw[cond_false];refine H λi _=>.inr (off i ?_);rintro⟨u,e⟩;rw[if_neg hk3] at e;rw[rm.2 ⟨u,e⟩] at hb;cases hb
   ·have hn:dc (bn (m+1) l) q=.none:=by unfold dc;rw[if_neg k2,if_neg k3]
    rw[hn];exact H λi _=>.inl (kz i)
def abB (w:Sp)(t:List UInt8):Option Nd:=if bp t=C then F (getD t)else if(aQ t&&bJ w (ai t))=C then F (getD (w.at (ai t)))else H
def WY (w:Sp):Nat->Nd->Nat
 | 0,_=>0
 | j+1,x=>1+cV (λi=>if x.r i=[] then 0 else match abB w (x.r i)with
   | none=>0
   | some y=>WY w j y) 16
def zE:Nat->List Rw->Nat
 | 0,_=>1
 | m+1,l=>1+cV (λi=>if aB l i=[] then 0 else zE m (aB l i)) 16
theorem Cy {c c':Nat->Nat}: ∀ {n:Nat},(∀ i,i<n->c i=c' i)->cV c n=cV c' n
 | 0,_=>rfl
 | n+1,h=>by show cV c n+c n=cV c' n+c' n;rw[Cy λi hi=>h i (by omega),h n (a_ n)]
theorem Cz: ∀ {n:Nat} {c:Nat->Nat},(∀ i,i<n->c i=0)->cV c n=0
 | 0,_,_=>rfl
 | n+1,c,h=>by show cV c n+c n=0;rw[Cz λi hi=>h i (by omega),h n (a_ n)]
theorem KO {w:Sp}: ∀ {m:Nat} {l:List Rw} {j:Nat},m<=13->bV m l->m<=j->0<j->Full w (cr m l)->WY w j (bn m l)=zE m l
 | m,l,0,_,_,_,h,_=>absurd h (eA 0)
 | 0,l,j+1,_,hr,_,_,_=>by have e:=lX hr;subst e;show 1+cV _ 16=1;exact congrArg (λk=>1+k) (Cz λi hi=>if_pos (jT i hi))
 | m+1,l,j+1,hm,hr,hj,_,hf=>by
   show 1+cV _ 16=1+cV _ 16;congr 1;refine Cy λi hi=> ?_;by_cases e:aB l i=[]
   ·rw[if_pos e,if_pos (by rw[lC m l hi,if_pos e])]
   ·have ho:=fD hr i;have hv:=dg (m:=m) (by omega) ho e;have hk0:=AE ho e;have er:(bn (m+1) l).r i=dZ (ctext m (aB l i)):=by rw[lC m l hi,if_neg e]
    have hm0:0<m:=by
     cases m with
     | zero=>exact absurd (lX ho) e
     | succ m=>exact c! _
    have hto:abB w ((bn (m+1) l).r i)=F (bn m (aB l i)):=by
     rw[er];unfold abB;by_cases hs:(ctext m (aB l i)).length<32
     ·rw[gA hs,if_pos (show bp (ctext m (aB l i))=C from(n7 hv hk0 hs).1),eD hv]
     ·obtain⟨h1,h2,h3⟩:=gJ hs;obtain⟨f1,f2⟩:=hf _ (oR hi e hs);rw[if_neg (λh=>by have:=m6 h;omega),h1,h2,f1,f2,eD hv];rfl
    rw[if_neg e,if_neg (by rw[er];exact(vE hv hk0).2),hto];exact KO (by omega) ho (by omega) (by omega) (hf.mono λt ht=>lM hi e ht)
theorem WZ {i:Nat}(hi:i<16)(e:aB l i≠[]):zE m (aB l i)<zE (m+1) l:=by
 have h:cV (λi=>if aB l i=[] then 0 else zE m (aB l i)) (i+1)<=cV (λi=>if aB l i=[] then 0 else zE m (aB l i)) 16:=J3 (by omega)
 have h1:cV (λi=>if aB l i=[] then 0 else zE m (aB l i)) (i+1)=cV (λi=>if aB l i=[] then 0 else zE m (aB l i)) i+zE m (aB l i):=by
  show _+(if aB l i=[] then 0 else zE m (aB l i))=_
  rw[if_neg e]
 show _<1+_;omega
theorem Ko {w:Sp}: ∀ {m:Nat} {l:List Rw} {q:List UInt8},m<=13->bV m l->Full w (cr m l)->(iB m l q).Nodup/\∀ t,t∈ iB m l q->WY w 14 (getD t)<zE m l
 | 0,_,_,_,_,_=>⟨c_,λt ht=>by cases ht⟩
 | m+1,l,q,hm,hr,hf=>by
   have eW:iB (m+1) l q=match dc (bn (m+1) l) q with
    | none=>[]
    | some (i,q')=>if aB l i=[] then [] else(if(ctext m (aB l i)).length<32 then [] else [ctext m (aB l i)])++iB m (aB l i) q':=rfl
   rw[eW];cases dc (bn (m+1) l) q with
   | none=>exact⟨c_,λt ht=>by cases ht⟩
   | some y =>
     obtain⟨i,q'⟩:=y;dsimp only;by_cases e:aB l i=[]
     ·rw[if_pos e];exact⟨c_,λt ht=>by cases ht⟩
     ·rw[if_neg e];have hi:i<16:=by
       match l,e with
       | r::s::t,e =>
         rw[cC] at e;split at e
         ·split at e
          ·omega
          ·exact absurd rfl e
         ·obtain⟨x,hx⟩:=List.exists_mem_of_ne_nil _ e;obtain⟨y,hy,_⟩:=c5.1 hx;obtain⟨h1,h2⟩:=cl.1 hy;obtain⟨z,v⟩:=y;cases z with
          | nil=>cases h2
          | cons b z =>have:=hr.Kv _ h1 b (J ..);have h3:b.toNat=i:=of_decide_eq_true h2;omega
      have ho:=fD hr i;have hfk:Full w (cr m (aB l i)):=hf.mono λt ht=>lM hi e ht;obtain⟨h1,h2⟩:=Ko (q:=q') (by omega) ho hfk;have hk:=WZ (m:=m) hi e;by_cases hs:(ctext m (aB l i)).length<32
      ·rw[if_pos hs,W];exact⟨h1,λt ht=>by have:=h2 t ht;omega⟩
      ·rw[if_neg hs];have hc:WY w 14 (getD (ctext m (aB l i)))=zE m (aB l i):=by rw[eD (dg (m:=m) (by omega) ho e)];exact KO (by omega) ho (by omega) (by decide) hfk
       refine⟨?_,λt ht=> ?_⟩
       ·rw[ez,en];exact⟨λhm=>by have:=h2 _ hm;omega,h1⟩
       ·rw[ez] at ht;rcases Y.1 ht with ht | ht
        ·subst ht;omega
        ·have:=h2 t ht;omega
theorem EU: ∀(V u:List (List UInt8)),(u++V).Nodup->V.foldl (λu x=>if x∈ u then u else u++[x]) u=u++V
 | [],u,_=>(ag u).symm
 | x::V,u,h=>by rw[b7,if_neg,EU V (u++[x]) (by rw[Q];exact h),Q];rfl;intro hx;rw[List.nodup_append] at h;exact h.2.2 x hx x (J ..) rfl
theorem WO (h:bV 13 l)(hf:Full w (cr 13 l))(key:List UInt8):qA key key l=ctext 13 l::iB 13 l (aj key):=by
 have hv:iY key key l=ctext 13 l::iB 13 l (aj key):=by unfold iY;rw[OK (p:=[]) (q:=aj key) rfl]
 unfold qA;rw[hv];obtain⟨h1,h2⟩:=Ko (q:=aj key) (T _) h hf;refine EU _ [] ?_;rw[W,en];refine⟨λhm=> ?_,h1⟩;have:=h2 _ hm;rw[wB h,KO (T _) h (by decide) (by decide) hf] at this;exact eA _ this
theorem MV (w:Wy)(key:List UInt8)(kk:Option Nat):VC.holds (iG (Su w key) 28 Tryz.f28 [.str d w.root,.str d key,.bH 0 1 w.z w.o 0 w.n w.c] [dK w kk] (V6 w key))=((λP0:SV=>((λP1:SB=>((λP2:SV=>((λP3:SB=>((λP4:SB=>((λP5:SV=>((λP6:SB=>((λP7:SV=>((λP8:SV=>((λP9:Wh->SB=>((λP10:Wh->SB=>(((O (40<(w.n:Int))=C->((eI w (aj key)).isSome=C->af P2 P5)/\((eI w (aj key)).isSome=d->af P2 P2))/\(O (40<(w.n:Int))=d->key.length<1099511627776/\∀(u26:Loop),(∃(u25:Wy×List UInt8),(u25.1.Ok/\True)/\(0:Nat)=(0:Nat)/\w.root=u25.2/\(4:Nat)=(4:Nat)/\w.root=u25.1.root/\(w.z=u25.1.z/\w.o=u25.1.o/\(0:Nat)=(0:Nat)/\w.n=u25.1.n/\w.c=u25.1.c)/\0=(u25.1.u:Int)/\aa (SB.view w.z w.o w.n [ak.str w.f]) (SB.view u25.1.z u25.1.o u25.1.n [ak.str u25.1.f])/\(bU u25.1 u25.2=C ->F (SB.aJ (jF 2 (jq 0 (((7:Nat),SB.loop I H u26)::((6:Nat),SB.cells (SV.str d (aj key)).cells 1 9)::((5:Nat),SB.cells (SV.ptr 3 C 0).cells 1 240)::((4:Nat),SB.cells P0.cells 2 58)::Mem.put 3 P1 (((3:Nat),SB.cells P7.cells 4 188)::((2:Nat),SB.cells P0.cells 2 58)::((1:Nat),SB.cells P0.cells 2 58)::fo 0 [dK w kk])) u25.1.view (dK w kk).B [((1:Nat),(0:Nat)),((0:Nat),(3:Nat))]) 8) (u25.1.sb 1 (u25.1.u+1) SV.ay))=F (SB.aJ (jF 2 (jq 0 (((7:Nat),SB.loop I H u26)::((6:Nat),SB.cells (SV.str d (aj key)).cells 1 9)::((5:Nat),SB.cells (SV.ptr 3 C 0).cells 1 240)::((4:Nat),SB.cells P0.cells 2 58)::Mem.put 3 P1 (((3:Nat),SB.cells P7.cells 4 188)::((2:Nat),SB.cells P0.cells 2 58)::((1:Nat),SB.cells P0.cells 2 58)::fo 0 [dK w kk])) u25.1.view (dK w kk).B [((1:Nat),(0:Nat)),((0:Nat),(3:Nat))]) 8) (u25.1.sb 1 (u25.1.u+1) SV.ay))/\F P3=F P3/\F P3=F P3/\(∃(u24:Wh),((∃(u23:Nat),u24.p.length<u23/\c8 w (aj key)=zF w u23 u24.y u24.p u24.u) /\u24.y.Good/\u24.u<=w.n)/\C=C/\aa (SB.cells (aU (getD (u25.1.f u25.1.u))) 19 138) (SB.cells (aU u24.y) 19 138)/\aa (SB.cells [SV.str d (aj key)] 1 9) (SB.cells [SV.str d u24.p] 1 9)/\aa (SB.cells [SV.str d u25.1.root,SV.bH 0 1 u25.1.z u25.1.o 0 u25.1.n u25.1.c,SV.int .i64 d (↑(u25.1.u+1):Int),SV.ay] 4 188) (SB.cells [SV.str d w.root,SV.bH 0 1 w.z w.o 0 w.n w.c,SV.int .i64 d (u24.u:Int),SV.ay] 4 188)/\aa (SB.cells [SV.bool C d,SV.str C []] 2 58) (SB.cells [SV.bool d u24.b,SV.str d u24.v] 2 58)/\aa (SB.loop I H u26) (SB.loop I H u26)/\aa P3 P3/\aa P6 P6/\aa P6 P6/\aa (dK w kk).B (dK w kk).B/\True)/\(∀(u22:Wh),(∃(u21:Nat),u22.p.length<u21/\c8 w (aj key)=zF w u21 u22.y u22.p u22.u)/\u22.y.Good/\u22.u<=w.n->u26=u26/\True/\True/\(O (bB u22.y.again u22.p=[])=C->(O ((u22.u:Int)<(w.n:Int))=C ->F (SB.cells (aM [SV.str d w.root,SV.bH 0 1 w.z w.o 0 w.n w.c,SV.int .i64 d (u22.u:Int),SV.ay] 3 (SV.iface 184 (SV.ptr 8 C 0)).cells) 4 188)=F (SB.cells (aM [SV.str d w.root,SV.bH 0 1 w.z w.o 0 w.n w.c,SV.int .i64 d (u22.u:Int),SV.ay] 3 (SV.iface 184 (SV.ptr 8 C 0)).cells) 4 188)/\((eI w (aj key)).isSome=C->af P2 P5)/\((eI w (aj key)).isSome=d->af P2 P2))/\(O ((u22.u:Int)<(w.n:Int))=d->F (w.sb 0 u22.u SV.ay)=F (w.sb 0 u22.u SV.ay)/\((eI w (aj key)).isSome=C->af (SV.aO [SV.agg [SV.bool d (dm u22.y.again u22.p),SV.str d (fe u22.y.again u22.p)],SV.int .i64 C 0]) P5)/\((eI w (aj key)).isSome=d->af (SV.aO [SV.agg [SV.bool d (dm u22.y.again u22.p),SV.str d (fe u22.y.again u22.p)],SV.int .i64 C 0]) P2)))/\(O (bB u22.y.again u22.p=[])=d->∃(u20:Wy×List UInt8),(u20.1.Ok/\u20.2.length<9223372036854775808)/\(0:Nat)=(0:Nat)/\bB u22.y.again u22.p=u20.2/\(4:Nat)=(4:Nat)/\w.root=u20.1.root/\(w.z=u20.1.z /\w.o=u20.1.o/\(0:Nat)=(0:Nat)/\w.n=u20.1.n/\w.c=u20.1.c)/\(u22.u:Int)=(u20.1.u:Int)/\aa (SB.view w.z w.o w.n [ak.str w.f]) (SB.view u20.1.z u20.1.o u20.1.n [ak.str u20.1.f])/\(bp u20.2=C->∃(u19:Wh),(((∃(u18:Nat),u19.p.length<u18/\c8 w (aj key)=zF w u18 u19.y u19.p u19.u)/\u19.y.Good/\u19.u<=w.n)/\u19.p.length+1<u22.p.length+1)/\C=C/\aa (SB.cells (aU (getD u20.2)) 19 138) (SB.cells (aU u19.y) 19 138)/\aa (SB.cells [SV.str d (bN u22.y.again u22.p)] 1 9) (SB.cells [SV.str d u19.p] 1 9)/\aa (SB.cells [SV.str d u20.1.root,SV.bH 0 1 u20.1.z u20.1.o 0 u20.1.n u20.1.c,SV.int .i64 d (u20.1.u:Int),SV.ay] 4 188) (SB.cells [SV.str d w.root,SV.bH 0 1 w.z w.o 0 w.n w.c,SV.int .i64 d (u19.u:Int),SV.ay] 4 188)/\aa (P9 u22) (SB.cells [SV.bool d u19.b,SV.str d u19.v] 2 58)/\aa (SB.loop I H u26) (SB.loop I H u26)/\aa P3 P3/\aa P6 P6/\aa P6 P6/\aa (dK w kk).B (dK w kk).B/\True)/\(bp u20.2=d->(aQ u20.2=C ->(bU u20.1 (ai u20.2)=C->∃(u17:Wh),(((∃(u16:Nat),u17.p.length<u16/\c8 w (aj key)=zF w u16 u17.y u17.p u17.u)/\u17.y.Good/\u17.u<=w.n)/\u17.p.length+1<u22.p.length+1)/\C=C/\aa (SB.cells (aU (getD (u20.1.f u20.1.u))) 19 138) (SB.cells (aU u17.y) 19 138)/\aa (SB.cells [SV.str d (bN u22.y.again u22.p)] 1 9) (SB.cells [SV.str d u17.p] 1 9)/\aa (SB.cells [SV.str d u20.1.root,SV.bH 0 1 u20.1.z u20.1.o 0 u20.1.n u20.1.c,SV.int .i64 d (↑(u20.1.u+1):Int),SV.ay] 4 188) (SB.cells [SV.str d w.root,SV.bH 0 1 w.z w.o 0 w.n w.c,SV.int .i64 d (u17.u:Int),SV.ay] 4 188)/\aa (P9 u22) (SB.cells [SV.bool d u17.b,SV.str d u17.v] 2 58)/\aa (SB.loop I H u26) (SB.loop I H u26)/\aa P3 P3/\aa P6 P6/\aa P6 P6/\aa (dK w kk).B (dK w kk).B/\True)/\(bU u20.1 (ai u20.2)=d->∃(u15:Wh),(c8 w (aj key)=H/\0<u22.p.length+1)/\d=d/\aa P4 (SB.cells (aU u15.y) 19 138) /\aa (SB.cells [SV.str d (bN u22.y.again u22.p)] 1 9) (SB.cells [SV.str d u15.p] 1 9)/\(4:Nat)=(4:Nat)/\u20.1.root=w.root/\(u20.1.z=w.z/\u20.1.o=w.o/\(0:Nat)=(0:Nat)/\u20.1.n=w.n/\u20.1.c=w.c)/\(u20.1.u:Int)=(u15.u:Int)/\(0:Nat)=(0:Nat)/\aa (P9 u22) (SB.cells [SV.bool d u15.b,SV.str d u15.v] 2 58)/\aa (SB.cells [SV.int .i64 d (u20.1.u:Int),SV.iface 30 (SV.int .i64 C 10)] 2 186) (SB.cells [SV.int .i64 d (u15.u:Int),SV.iface 30 (SV.int .i64 C 10)] 2 186)/\aa (SB.loop I H u26) (SB.loop I H u26)/\aa P3 P3/\aa P6 P6/\aa P6 P6/\aa (dK w kk).B (dK w kk).B/\True))/\(aQ u20.2=d->∃(u14:Wh),(c8 w (aj key)=H/\0<u22.p.length+1)/\d=d/\aa P4 (SB.cells (aU u14.y) 19 138)/\aa (SB.cells [SV.str d (bN u22.y.again u22.p)] 1 9) (SB.cells [SV.str d u14.p] 1 9)/\(4:Nat)=(4:Nat)/\u20.1.root=w.root/\(u20.1.z=w.z/\u20.1.o=w.o/\(0:Nat)=(0:Nat)/\u20.1.n=w.n/\u20.1.c=w.c)/\(u20.1.u:Int)=(u14.u:Int)/\(0:Nat)=(0:Nat) /\aa (P9 u22) (SB.cells [SV.bool d u14.b,SV.str d u14.v] 2 58)/\aa (SB.cells [SV.int .i64 d (u20.1.u:Int),SV.iface 30 (SV.int .i64 C 10)] 2 186) (SB.cells [SV.int .i64 d (u14.u:Int),SV.iface 30 (SV.int .i64 C 10)] 2 186)/\aa (SB.loop I H u26) (SB.loop I H u26)/\aa P3 P3/\aa P6 P6/\aa P6 P6/\aa (dK w kk).B (dK w kk).B/\True))))/\∀(u13:Wh),c8 w (aj key)=H->F (w.sb 0 u13.u (lq 12))=F (w.sb 0 u13.u (lq 12))/\((eI w (aj key)).isSome=C->af P2 P5)/\((eI w (aj key)).isSome=d->af P2 P2))/\(bU u25.1 u25.2=d ->F (SB.aJ (jF 2 (jq 0 (((7:Nat),SB.loop I H u26)::((6:Nat),SB.cells (SV.str d (aj key)).cells 1 9)::((5:Nat),SB.cells (SV.ptr 3 C 0).cells 1 240)::((4:Nat),SB.cells P0.cells 2 58)::Mem.put 3 P1 (((3:Nat),SB.cells P7.cells 4 188)::((2:Nat),SB.cells P0.cells 2 58)::((1:Nat),SB.cells P0.cells 2 58)::fo 0 [dK w kk])) u25.1.view (dK w kk).B [((1:Nat),(0:Nat)),((0:Nat),(3:Nat))]) 8) (u25.1.sb 1 u25.1.u (lq 2)))=F (SB.aJ (jF 2 (jq 0 (((7:Nat),SB.loop I H u26)::((6:Nat),SB.cells (SV.str d (aj key)).cells 1 9)::((5:Nat),SB.cells (SV.ptr 3 C 0).cells 1 240)::((4:Nat),SB.cells P0.cells 2 58)::Mem.put 3 P1 (((3:Nat),SB.cells P7.cells 4 188)::((2:Nat),SB.cells P0.cells 2 58)::((1:Nat),SB.cells P0.cells 2 58)::fo 0 [dK w kk])) u25.1.view (dK w kk).B [((1:Nat),(0:Nat)),((0:Nat),(3:Nat))]) 8) (u25.1.sb 1 u25.1.u (lq 2)))/\F P3=F P3/\F P3=F P3 /\F (SB.aJ (jF 2 (jq 0 (((7:Nat),SB.loop I H u26)::((6:Nat),SB.cells (SV.str d (aj key)).cells 1 9)::((5:Nat),SB.cells (SV.ptr 3 C 0).cells 1 240)::((4:Nat),SB.cells P0.cells 2 58)::Mem.put 3 P1 (((3:Nat),SB.cells P7.cells 4 188)::((2:Nat),SB.cells P0.cells 2 58)::((1:Nat),SB.cells P0.cells 2 58)::fo 0 [dK w kk])) u25.1.view (dK w kk).B [((1:Nat),(0:Nat)),((0:Nat),(3:Nat))]) 8) (u25.1.sb 1 u25.1.u (lq 2)))=F (SB.aJ (jF 2 (jq 0 (((7:Nat),SB.loop I H u26)::((6:Nat),SB.cells (SV.str d (aj key)).cells 1 9)::((5:Nat),SB.cells (SV.ptr 3 C 0).cells 1 240)::((4:Nat),SB.cells P0.cells 2 58)::Mem.put 3 P1 (((3:Nat),SB.cells P7.cells 4 188)::((2:Nat),SB.cells P0.cells 2 58)::((1:Nat),SB.cells P0.cells 2 58)::fo 0 [dK w kk])) u25.1.view (dK w kk).B [((1:Nat),(0:Nat)),((0:Nat),(3:Nat))]) 8) (u25.1.sb 1 u25.1.u (lq 2)))/\((eI w (aj key)).isSome=C->af P2 P5)/\((eI w (aj key)).isSome=d->af P2 P2)))/\F P1=F P1/\F P3=F P3 /\F P3=F P3/\∃(u12:Wy×List UInt8),(u12.1.Ok/\True)/\(0:Nat)=(0:Nat)/\w.root=u12.2/\(4:Nat)=(4:Nat)/\w.root=u12.1.root/\(w.z=u12.1.z/\w.o=u12.1.o/\(0:Nat)=(0:Nat)/\w.n=u12.1.n/\w.c=u12.1.c)/\0=(u12.1.u:Int)/\aa (SB.view w.z w.o w.n [ak.str w.f]) (SB.view u12.1.z u12.1.o u12.1.n [ak.str u12.1.f])/\(bU u12.1 u12.2=C->(∃(u11:Wh),((∃(u10:Nat),u11.p.length<u10/\c8 w (aj key)=zF w u10 u11.y u11.p u11.u)/\u11.y.Good/\u11.u<=w.n)/\C=C/\aa (SB.cells (aU (getD (u12.1.f u12.1.u))) 19 138) (SB.cells (aU u11.y) 19 138)/\aa (SB.cells [SV.str d (aj key)] 1 9) (SB.cells [SV.str d u11.p] 1 9)/\aa (SB.cells [SV.str d u12.1.root,SV.bH 0 1 u12.1.z u12.1.o 0 u12.1.n u12.1.c,SV.int .i64 d (↑(u12.1.u+1):Int),SV.ay] 4 188) (SB.cells [SV.str d w.root,SV.bH 0 1 w.z w.o 0 w.n w.c,SV.int .i64 d (u11.u:Int),SV.ay] 4 188)/\aa (SB.cells [SV.bool C d,SV.str C []] 2 58) (SB.cells [SV.bool d u11.b,SV.str d u11.v] 2 58) /\aa (SB.loop I H u26) (SB.loop I H u26)/\aa P3 P3/\aa P6 P6/\aa P6 P6/\aa (dK w kk).B (dK w kk).B/\True)/\(∀(u9:Wh),(∃(u8:Nat),u9.p.length<u8/\c8 w (aj key)=zF w u8 u9.y u9.p u9.u)/\u9.y.Good/\u9.u<=w.n->u26=u26/\True/\True/\(O (bB u9.y.again u9.p=[])=C->(O ((u9.u:Int)<(w.n:Int))=C->F (SB.cells (aM [SV.str d w.root,SV.bH 0 1 w.z w.o 0 w.n w.c,SV.int .i64 d (u9.u:Int),SV.ay] 3 (SV.iface 184 (SV.ptr 8 C 0)).cells) 4 188)=F (SB.cells (aM [SV.str d w.root,SV.bH 0 1 w.z w.o 0 w.n w.c,SV.int .i64 d (u9.u:Int),SV.ay] 3 (SV.iface 184 (SV.ptr 8 C 0)).cells) 4 188)/\((eI w (aj key)).isSome=C->af P2 P5)/\((eI w (aj key)).isSome=d->af P2 P2))/\(O ((u9.u:Int)<(w.n:Int))=d->F (w.sb 0 u9.u SV.ay)=F (w.sb 0 u9.u SV.ay)/\((eI w (aj key)).isSome=C->af (SV.aO [SV.agg [SV.bool d (dm u9.y.again u9.p),SV.str d (fe u9.y.again u9.p)],SV.int .i64 C 0]) P5)/\((eI w (aj key)).isSome=d ->af (SV.aO [SV.agg [SV.bool d (dm u9.y.again u9.p),SV.str d (fe u9.y.again u9.p)],SV.int .i64 C 0]) P2)))/\(O (bB u9.y.again u9.p=[])=d->∃(u7:Wy×List UInt8),(u7.1.Ok/\u7.2.length<9223372036854775808)/\(0:Nat)=(0:Nat)/\bB u9.y.again u9.p=u7.2/\(4:Nat)=(4:Nat)/\w.root=u7.1.root/\(w.z=u7.1.z/\w.o=u7.1.o/\(0:Nat)=(0:Nat)/\w.n=u7.1.n/\w.c=u7.1.c)/\(u9.u:Int)=(u7.1.u:Int)/\aa (SB.view w.z w.o w.n [ak.str w.f]) (SB.view u7.1.z u7.1.o u7.1.n [ak.str u7.1.f])/\(bp u7.2=C->∃(u6:Wh),(((∃(u5:Nat),u6.p.length<u5/\c8 w (aj key)=zF w u5 u6.y u6.p u6.u)/\u6.y.Good/\u6.u<=w.n)/\u6.p.length+1<u9.p.length+1)/\C=C/\aa (SB.cells (aU (getD u7.2)) 19 138) (SB.cells (aU u6.y) 19 138)/\aa (SB.cells [SV.str d (bN u9.y.again u9.p)] 1 9) (SB.cells [SV.str d u6.p] 1 9) /\aa (SB.cells [SV.str d u7.1.root,SV.bH 0 1 u7.1.z u7.1.o 0 u7.1.n u7.1.c,SV.int .i64 d (u7.1.u:Int),SV.ay] 4 188) (SB.cells [SV.str d w.root,SV.bH 0 1 w.z w.o 0 w.n w.c,SV.int .i64 d (u6.u:Int),SV.ay] 4 188)/\aa (P10 u9) (SB.cells [SV.bool d u6.b,SV.str d u6.v] 2 58)/\aa (SB.loop I H u26) (SB.loop I H u26)/\aa P3 P3/\aa P6 P6/\aa P6 P6/\aa (dK w kk).B (dK w kk).B/\True)/\(bp u7.2=d->(aQ u7.2=C->(bU u7.1 (ai u7.2)=C->∃(u4:Wh),(((∃(u3:Nat),u4.p.length<u3/\c8 w (aj key)=zF w u3 u4.y u4.p u4.u)/\u4.y.Good/\u4.u<=w.n)/\u4.p.length+1<u9.p.length+1)/\C=C/\aa (SB.cells (aU (getD (u7.1.f u7.1.u))) 19 138) (SB.cells (aU u4.y) 19 138)/\aa (SB.cells [SV.str d (bN u9.y.again u9.p)] 1 9) (SB.cells [SV.str d u4.p] 1 9) /\aa (SB.cells [SV.str d u7.1.root,SV.bH 0 1 u7.1.z u7.1.o 0 u7.1.n u7.1.c,SV.int .i64 d (↑(u7.1.u+1):Int),SV.ay] 4 188) (SB.cells [SV.str d w.root,SV.bH 0 1 w.z w.o 0 w.n w.c,SV.int .i64 d (u4.u:Int),SV.ay] 4 188)/\aa (P10 u9) (SB.cells [SV.bool d u4.b,SV.str d u4.v] 2 58)/\aa (SB.loop I H u26) (SB.loop I H u26)/\aa P3 P3/\aa P6 P6/\aa P6 P6/\aa (dK w kk).B (dK w kk).B/\True)/\(bU u7.1 (ai u7.2)=d->∃(u2:Wh),(c8 w (aj key)=H/\0<u9.p.length+1)/\d=d/\aa P4 (SB.cells (aU u2.y) 19 138)/\aa (SB.cells [SV.str d (bN u9.y.again u9.p)] 1 9) (SB.cells [SV.str d u2.p] 1 9)/\(4:Nat)=(4:Nat)/\u7.1.root=w.root/\(u7.1.z=w.z/\u7.1.o=w.o/\(0:Nat)=(0:Nat)/\u7.1.n=w.n/\u7.1.c=w.c)/\(u7.1.u:Int)=(u2.u:Int)/\(0:Nat)=(0:Nat)/\aa (P10 u9) (SB.cells [SV.bool d u2.b,SV.str d u2.v] 2 58) /\aa (SB.cells [SV.int .i64 d (u7.1.u:Int),SV.iface 30 (SV.int .i64 C 10)] 2 186) (SB.cells [SV.int .i64 d (u2.u:Int),SV.iface 30 (SV.int .i64 C 10)] 2 186)/\aa (SB.loop I H u26) (SB.loop I H u26)/\aa P3 P3/\aa P6 P6/\aa P6 P6/\aa (dK w kk).B (dK w kk).B/\True))/\(aQ u7.2=d->∃(u1:Wh),(c8 w (aj key)=H/\0<u9.p.length+1)/\d=d/\aa P4 (SB.cells (aU u1.y) 19 138)/\aa (SB.cells [SV.str d (bN u9.y.again u9.p)] 1 9) (SB.cells [SV.str d u1.p] 1 9)/\(4:Nat)=(4:Nat)/\u7.1.root=w.root/\(u7.1.z=w.z/\u7.1.o=w.o/\(0:Nat)=(0:Nat)/\u7.1.n=w.n/\u7.1.c=w.c)/\(u7.1.u:Int)=(u1.u:Int)/\(0:Nat)=(0:Nat)/\aa (P10 u9) (SB.cells [SV.bool d u1.b,SV.str d u1.v] 2 58)/\aa (SB.cells [SV.int .i64 d (u7.1.u:Int),SV.iface 30 (SV.int .i64 C 10)] 2 186) (SB.cells [SV.int .i64 d (u1.u:Int),SV.iface 30 (SV.int .i64 C 10)] 2 186)/\aa (SB.loop I H u26) (SB.loop I H u26)/\aa P3 P3/\aa P6 P6/\aa P6 P6/\aa (dK w kk).B (dK w kk).B /\True))))/\∀(u0:Wh),c8 w (aj key)=H->F (w.sb 0 u0.u (lq 12))=F (w.sb 0 u0.u (lq 12))/\((eI w (aj key)).isSome=C->af P2 P5)/\((eI w (aj key)).isSome=d->af P2 P2))/\(bU u12.1 u12.2=d ->F (SB.aJ (jF 2 (jq 0 (((8:Nat),SB.cells P8.cells 19 138)::((7:Nat),SB.loop I H u26)::((6:Nat),SB.cells (SV.str d (aj key)).cells 1 9)::((5:Nat),SB.cells (SV.ptr 3 C 0).cells 1 240)::((4:Nat),SB.cells P0.cells 2 58)::Mem.put 3 P1 (((3:Nat),SB.cells P7.cells 4 188)::((2:Nat),SB.cells P0.cells 2 58)::((1:Nat),SB.cells P0.cells 2 58)::fo 0 [dK w kk])) u12.1.view (dK w kk).B [((1:Nat),(0:Nat)),((0:Nat),(3:Nat))]) 9) (u12.1.sb 1 u12.1.u (lq 2)))=F (SB.aJ (jF 2 (jq 0 (((8:Nat),SB.cells P8.cells 19 138)::((7:Nat),SB.loop I H u26)::((6:Nat),SB.cells (SV.str d (aj key)).cells 1 9)::((5:Nat),SB.cells (SV.ptr 3 C 0).cells 1 240)::((4:Nat),SB.cells P0.cells 2 58)::Mem.put 3 P1 (((3:Nat),SB.cells P7.cells 4 188)::((2:Nat),SB.cells P0.cells 2 58)::((1:Nat),SB.cells P0.cells 2 58)::fo 0 [dK w kk])) u12.1.view (dK w kk).B [((1:Nat),(0:Nat)),((0:Nat),(3:Nat))]) 9) (u12.1.sb 1 u12.1.u (lq 2)))/\((eI w (aj key)).isSome=C->af P2 P5) /\((eI w (aj key)).isSome=d->af P2 P2)))))) (fun(u9:Wh)=>(SB.cells [SV.bool d (dm u9.y.again u9.p),SV.str d (fe u9.y.again u9.p)] 2 58)))) (fun(u22:Wh)=>(SB.cells [SV.bool d (dm u22.y.again u22.p),SV.str d (fe u22.y.again u22.p)] 2 58)))) (SV.agg (SV.int .i64 C 0::SV.str C []::SV.str C []::E6)))) (SV.agg [SV.str C [],SV.aP,SV.int .i64 C 0,SV.ay]))) (SB.cells P0.cells 2 58))) (SV.aO [SV.agg [SV.bool d (pvB (eI w (aj key))),SV.str d (pvV (eI w (aj key)))],SV.int .i64 C 0]))) (SB.cells (SV.int .i64 C 0::SV.str C []::SV.str C []::E6) 19 138))) (SB.cells (SV.ptr 3 C 0).cells 1 240))) (SV.aO [SV.agg [SV.bool C d,SV.str C []],SV.int .i64 C 10]))) (SB.cells (aM (SV.agg [SV.str C [],SV.aP,SV.int .i64 C 0,SV.ay]).cells 0 (SV.agg (aM (aM [SV.str C [],SV.aP,SV.int .i64 C 0,SV.ay] 0 (SV.str d w.root).cells) 1 (SV.bH 0 1 w.z w.o 0 w.n w.c).cells)).cells) 4 188))) (SV.agg [SV.bool C d,SV.str C []])):=by kernel_rfl
theorem uQ (h:aX x=C):x.Good:=by
 refine⟨λhk hp=> ?_,λj hj=> ?_⟩
 ·rcases nr h with ⟨h1,_⟩ | ⟨h1,_⟩ | ⟨_,h2⟩ | ⟨h1,_⟩
  ·omega
  ·omega
  ·simp only[ny,gW,R,decide_eq_true_eq,hp] at h2;have:=h2.1.1.1;simp at this
  ·omega
 ·rcases(gi h).r j hj with e | e
  ·rw[e];decide
  ·have:=pH e;omega
theorem tJ (x:Nd)(p:List UInt8):bB x.again p=bB x p:=by
 unfold bB;show(if x.k=3 then(if p≠[]/\ah p 0<16 then x.again.r (ah p 0).toNat else [])else if x.k=2 then(bif preB x.p p then x.r 0 else [])else [])=_
 by_cases h:p≠[]/\ah p 0<16
 ·have:=dM p 0;rw[if_pos h,if_pos h,show x.again.r (ah p 0).toNat=x.r (ah p 0).toNat from fy x.r _ (by omega)]
 ·rw[if_neg h,if_neg h]
theorem Cv (x:Nd)(p:List UInt8):bN x.again p=bN x p:=by unfold bN;rw[tJ];rfl
theorem Fu (x:Nd)(p:List UInt8):dm x.again p=dm x p:=rfl
theorem Fv (x:Nd)(p:List UInt8):fe x.again p=fe x p:=rfl
theorem JW (h:x.Good)(p:List UInt8):(bB x p).length<9223372036854775808:=by
 unfold bB;split
 ·split
  ·rename_i h1;have:=dM p 0;exact h.2 _ (by omega)
  ·decide
 ·split
  ·cases preB x.p p with
   | true=>exact h.2 0 (by decide)
   | false=>exact(show([]:List UInt8).length<_ by decide)
  ·decide
theorem wq (h:x.Good)(h0:bB x p≠[]):(bN x p).length<p.length:=by
 unfold bN;rw[if_neg h0];unfold bB at h0;by_cases h3:x.k=3
 ·rw[if_pos h3] at h0 ⊢;by_cases hp:p≠[]/\ah p 0<16
  ·have:=c4.2 hp.1;rw[ei];omega
  ·rw[if_neg hp] at h0;exact absurd rfl h0
 ·rw[if_neg h3] at h0 ⊢;by_cases h2:x.k=2
  ·rw[if_pos h2] at h0;cases hb:preB x.p p with
   | false=>rw[hb] at h0;exact absurd rfl h0
   | true =>simp only[preB,R,decide_eq_true_eq] at hb;have:=c4.2 (h.1 h2);rw[ei];omega
  ·rw[if_neg h2] at h0;exact absurd rfl h0
section
variable {w : Wy} {P p : List UInt8} {y : Nd} {u m : Nat}
theorem Xc (hs:c8 w P=zF w m y p u)(hm:p.length<m)(h0:bB y p=[]):c8 w P=F (y,p,u):=by
 obtain⟨m,rfl⟩: ∃ k,m=k+1:=⟨m - 1,by omega⟩
 rw[hs,zF,if_pos h0]
theorem Tn (hs:c8 w P=zF w m y p u)(hm:p.length<m)(hg:y.Good)(h0:bB y p≠[]){z:Nd}{u':Nat}(hf:th (w.on u) (bB y p)=F (z,u')) :
  ∃ m,(bN y p).length<m/\c8 w P=zF w m z (bN y p) u':=by
 obtain⟨m,rfl⟩: ∃ k,m=k+1:=⟨m - 1,by omega⟩
 have:=wq hg h0;exact⟨m,by omega,by rw[hs,zF,if_neg h0,hf]⟩
theorem H9 (hs:c8 w P=zF w m y p u)(hm:p.length<m)(h0:bB y p≠[])(hf:th (w.on u) (bB y p)=H):c8 w P=none:=by
 obtain⟨m,rfl⟩: ∃ k,m=k+1:=⟨m - 1,by omega⟩
 rw[hs,zF,if_neg h0,hf]
theorem YN (h:bp t=C):th w t=F (getD t,w.u):=by rw[th,if_pos h]
theorem Ru (h:bp t=d)(h1:aQ t=C)(h2:bU w (ai t)=C):th w t=F (getD (w.f w.u),w.u+1):=by rw[th,if_neg (by rw[h];simp),if_pos (by rw[h1,h2];rfl)]
theorem OO (h:bp t=d)(h1:aQ t=d∨bU w (ai t)=d):th w t=none:=by rw[th,if_neg (by rw[h];simp),if_neg (by rcases h1 with h1 | h1<;>rw[h1]<;>simp)]
theorem CC {h:List UInt8}(ht:bU w h=C):w.u<w.n/\aG (w.f w.u)=h/\aY (w.f w.u)=true:=by simp only[bU,R,decide_eq_true_eq] at ht;exact⟨by omega,ht.2.1,ht.2.2⟩
theorem QU (h:bU (w.on 0) w.root=d):c8 w P=none:=by rw[c8,h];rfl
theorem MC (h:bU (w.on 0) w.root=C):c8 w P=zF w (P.length+1) (getD (w.f 0)) P 1:=by rw[c8,h];rfl
end
end
section
open Go Sx
set_option maxRecDepth 20000
theorem Uu {q:List UInt8}(h:aj key=p++q):match dc (bn (m+1) l) q with
  | none=>∀ i,i<16->aB l i=[]∨bK key key (dR (bn (m+1) l) p i)=d
  | some (k,q')=>k<16/\aj key=dR (bn (m+1) l) p k++q'/\∀ i,i<16->i≠k->aB l i=[]∨bK key key (dR (bn (m+1) l) p i)=false:=by
 have eT: ∀ i,dR (bn (m+1) l) p i=p++(if(bn (m+1) l).k=3 then(bn (m+1) l).p++[bD i] else(bn (m+1) l).p):=λi=>by unfold dR cat;split<;>simp[Q]
 have off: ∀ i,¬ (∃ u,q=(if(bn (m+1) l).k=3 then(bn (m+1) l).p++[bD i] else(bn (m+1) l).p)++u)->bK key key (dR (bn (m+1) l) p i)=false:=λi hn=>by
  cases hb:bK key key (dR (bn (m+1) l) p i)with
  | false=>rfl
  | true =>obtain⟨u,e⟩:=sH.1 hb;rw[h,eT,Q] at e;exact absurd ⟨u,ec e⟩ hn
 unfold dc;rcases Hx (m:=m) (l:=l)with ⟨k3,kp⟩ | ⟨k2,kz⟩ | ⟨k2,k3,kz⟩
 ·have of: ∀ {b:UInt8} {q':List UInt8},q=b::q'->∀ i,i<16->i≠b.toNat->bK key key (dR (bn (m+1) l) p i)=false:=λhq i hi hne=>off i fun⟨u,e⟩=>by rw[if_pos k3,kp,hq] at e;injection e with e _;have:=congrArg dG e;rw[d_] at this;omega
  rw[if_neg (by rw[k3];decide),if_pos k3];cases q with
  | nil=>exact λi _=>.inr (off i fun⟨u,e⟩=>by rw[if_pos k3,kp] at e;cases e)
  | cons b q =>refine⟨mA key b (by rw[h];exact b! _ (J ..)),?_,λi hi hne=>.inr (of rfl i hi hne)⟩;rw[h,eT,if_pos k3,kp,Q,eB];rfl
 ·have hk3: ¬ (bn (m+1) l).k=3:=by rw[k2];decide
  rw[if_pos k2];cases hb:preB (bn (m+1) l).p q with
  | true =>obtain⟨u,e⟩:=rm.1 hb;refine⟨by decide,?_,λi _ hne=>.inl (kz i (by omega))⟩;rw[eT,if_neg hk3,show q.drop (bn (m+1) l).p.length=u by rw[e];simp,Q,← e];exact h
  | false=>exact λi _=>.inr (off i fun⟨u,e⟩=>by rw[if_neg hk3] at e;rw[rm.2 ⟨u,e⟩] at hb;cases hb)
 ·rw[if_neg k2,if_neg k3];exact λi _=>.inl (kz i)
theorem NK :hasB key key t=C↔t=aj key:=by
 rw[mg];constructor
 ·rintro⟨h1,h2⟩;have:=q9 h1;rw[h2,ct,decide_eq_true_eq] at this;exact this.symm
 ·rintro rfl;exact⟨gd _,gd _⟩
theorem rW (h:bV (m+1) l)(hl:l≠[]):(bn (m+1) l).k=3/\(bn (m+1) l).p=[]∨(bn (m+1) l).k=2/\(bn (m+1) l).v=[]∨(bn (m+1) l).k=1/\(bn (m+1) l).v≠[]:=by
 match l,hl,h with
 | [r],_,h=>exact .inr (.inr ⟨rfl,λe=>by have:=(h.val r (J ..)).1;rw[show r.2=[] from e] at this;cases this⟩)
 | r::s::t,_,_ =>
   have e:bn (m+1) (r::s::t)=ga (λl'=>if l'=[] then [] else dZ (cS (bn m l'))) (r::s::t):=rfl
   rw[e];unfold ga;dsimp only;split
   ·exact .inr (.inl ⟨rfl,rfl⟩)
   ·exact .inl ⟨rfl,rfl⟩
theorem EO (x:Nd)(q:List UInt8)(hq: ∀ b,b∈ q->b.toNat<16):(dc x q=H->bB x q=[])/\∀ i q',dc x q=F (i,q')->bB x q=x.r i/\(x.r i≠[]->bN x q=q'):=by
 unfold dc bN bB;by_cases k2:x.k=2
 ·have k3: ¬ x.k=3:=by omega
  rw[if_pos k2,if_neg k3,if_pos k2,if_neg k3];cases hb:preB x.p q with
  | true =>refine⟨(λh=>by cases h),λi q' h=> ?_⟩;injection h with h;injection h with h1 h2;subst h1;subst h2;exact⟨rfl,λhn=>if_neg hn⟩
  | false=>exact⟨λ_=>rfl,(λi q' h=>by cases h)⟩
 ·rw[if_neg k2];by_cases k3:x.k=3
  ·rw[if_pos k3,if_pos k3,if_pos k3];cases q with
   | nil=>exact⟨λ_=>if_neg λh=>h.1 rfl,(λi q' h=>by cases h)⟩
   | cons b q =>refine⟨(λh=>by cases h),λi q' h=> ?_⟩;injection h with h;injection h with h1 h2;subst h1;subst h2;have hb:=hq b (J ..);have e:ah (b::q) 0=(b.toNat:Int):=rfl;rw[if_pos ⟨(λh=>by cases h),by rw[e];omega⟩,e];exact⟨rfl,λhn=>if_neg hn⟩
  ·rw[if_neg k3,if_neg k3,if_neg k2];exact⟨λ_=>rfl,(λi q' h=>by cases h)⟩
def YS (w:Wy)(u:Nat)(L:List (List UInt8)):Prop:=∀ i,i<L.length->u+i<w.n/\w.f (u+i)=L.getD i []
theorem E4 {key:List UInt8}{w:Wy}: ∀ {m:Nat} {l:List Rw} {p q:List UInt8} {u j:Nat},m<=13->bV m l->aj key=p++q->YS w u (iB m l q)->q.length<j ->
  ∃ y q',zF w j (bn m l) q u=F (y,q',u+(iB m l q).length)/\gx key key p l=if dm y q'=C then [(key,fe y q')] else []
 | _,_,_,_,_,0,_,_,_,_,h=>absurd h (a! _)
 | 0,l,p,q,u,j+1,_,hr,_,_,_=>by rw[lX hr];exact⟨dO,q,rfl,rfl⟩
 | m+1,l,p,q,u,j+1,hm,hr,hp,hw,hj=>by
   have hN:=Uu (m:=m) (l:=l) hp;obtain⟨s0,s1⟩:=EO (bn (m+1) l) q λb hb=>mA key b (by rw[hp];exact b! _ hb)
   have eG:zF w (j+1) (bn (m+1) l) q u=if bB (bn (m+1) l) q=[] then F (bn (m+1) l,q,u)else match th (w.on u) (bB (bn (m+1) l) q)with
    | none=>H
    | some (y,u')=>zF w j y (bN (bn (m+1) l) q) u':=rfl
   have eW:iB (m+1) l q=match dc (bn (m+1) l) q with
    | none=>[]
    | some (i,q')=>if aB l i=[] then [] else(if(ctext m (aB l i)).length<32 then [] else [ctext m (aB l i)])++iB m (aB l i) q':=rfl
   by_cases hl:l=[]
   ·subst hl;have e:bB (bn (m+1) []) q=[]:=rfl;have e2:iB (m+1) [] q=[]:=rfl;rw[eG,if_pos e,e2];exact⟨dO,q,rfl,rfl⟩
   have eM:=Ei key key p hl hr;have own:xZ key key p (bn (m+1) l)=if(bn (m+1) l).v≠[]/\(bn (m+1) l).p=q then [(key,(bn (m+1) l).v)] else []:=by
    unfold xZ;by_cases hv:(bn (m+1) l).v=[]
    ·rw[if_pos hv,if_neg λh=>h.1 hv]
    ·rw[if_neg hv];by_cases hq:(bn (m+1) l).p=q
     ·have e:cat p (bn (m+1) l).p=aj key:=by rw[hp,hq];rfl
      rw[if_pos (NK.2 e),e,mw,if_pos ⟨hv,hq⟩]
     ·rw[if_neg (show ¬ hasB key key (cat p (bn (m+1) l).p)=C from λh=>hq (ec ((NK.1 h).trans hp))),if_neg λh=>hq h.2]
   have stop:bB (bn (m+1) l) q=[]->iB (m+1) l q=[]->(∀ i,i<16->aB l i=[]∨bK key key (dR (bn (m+1) l) p i)=d)->((bn (m+1) l).k=3->q≠[]->(bn (m+1) l).p≠q)->∃ y q',zF w (j+1) (bn (m+1) l) q u=F (y,q',u+(iB (m+1) l q).length)/\gx key key p l=if dm y q'=C then [(key,fe y q')] else []:=λh1 h2 h3 h4=>by
    refine⟨bn (m+1) l,q,by rw[eG,if_pos h1,h2];rfl,?_⟩;rw[eM,kE λi hi=> ?_,ag,own]
    ·have hc:dm (bn (m+1) l) q=C↔((bn (m+1) l).v≠[]/\(bn (m+1) l).p=q):=by
      unfold dm;simp only[bW,R,decide_eq_true_eq,cx,decide_eq_false_iff_not];rcases rW hr hl with ⟨a,b⟩ | ⟨a,b⟩ | ⟨a,b⟩
      ·constructor
       ·rintro(⟨h,_⟩ | ⟨_,h,h'⟩)
        ·omega
        ·exact⟨h',by rw[b,h]⟩
       ·rintro⟨h,h'⟩;exact .inr ⟨a,by rw[← h',b],h⟩
      ·constructor
       ·rintro(⟨h,_⟩ | ⟨h,_⟩)<;>omega
       ·rintro⟨h,_⟩;exact absurd b h
      ·constructor
       ·rintro(⟨_,h⟩ | ⟨h,_⟩)
        ·exact⟨b,h⟩
        ·omega
       ·rintro⟨_,h⟩;exact .inl ⟨a,h⟩
     by_cases hb:dm (bn (m+1) l) q=C
     ·rw[if_pos hb,if_pos (hc.1 hb)];unfold fe;rw[hb];rfl
     ·rw[if_neg hb,if_neg λh=>hb (hc.2 h)]
    ·rcases h3 i (X.1 hi)with e | e
     ·rw[e];rfl
     ·exact xS e _
   cases hn:dc (bn (m+1) l) q with
   | none =>
     rw[hn] at hN eW;refine stop (s0 hn) eW hN λh3 hq=> ?_;exfalso;unfold dc at hn;rw[if_neg (by omega),if_pos h3] at hn;cases q with
     | nil=>exact hq rfl
     | cons b q=>cases hn
   | some z =>
     obtain⟨i,q'⟩:=z;rw[hn] at hN eW;dsimp only at hN eW;obtain⟨hi,hpk,hoff⟩:=hN;obtain⟨t1,t2⟩:=s1 i q' hn;have ref:=lC m l hi;by_cases hk:aB l i=[]
     ·rw[if_pos hk] at ref eW;refine stop (t1.trans ref) eW (λa ha=> ?_) λh3 hq e=> ?_
      ·by_cases e:a=i
       ·subst e;exact .inl hk
       ·exact hoff a ha e
      ·rcases rW hr hl with ⟨_,b⟩ | ⟨a,_⟩ | ⟨a,_⟩
       ·rw[b] at e;exact hq e.symm
       ·omega
       ·omega
     ·rw[if_neg hk] at ref eW;have ho:=fD hr i;have hv:=dg (m:=m) (by omega) ho hk;have hk0:=AE ho hk;have ne:(bn (m+1) l).r i≠[]:=by rw[ref];exact(vE hv hk0).2
      have hlen:q'.length<q.length:=by
       have h1:=congrArg ef hpk;have h2:=congrArg ef hp;rw[ax] at h1 h2;rcases rW hr hl with ⟨a,b⟩ | ⟨a,b⟩ | ⟨a,b⟩
       ·have:(dR (bn (m+1) l) p i).length=p.length+(bn (m+1) l).p.length+1:=by unfold dR cat;rw[if_pos a];simp;omega
        omega
       ·have:(dR (bn (m+1) l) p i).length=p.length+(bn (m+1) l).p.length:=by unfold dR cat;rw[if_neg (by omega)];simp
        have:=c4.2 ((uQ (dg (m:=m+1) hm hr hl)).1 a);omega
       ·exfalso;unfold dc at hn;rw[if_neg (by omega),if_neg (by omega)] at hn;cases hn
      have eM':gx key key p l=gx key key (dR (bn (m+1) l) p i) (aB l i):=by
       rw[eM,own,if_neg,W,qL hi λa ha hne=> ?_]
       ·rcases hoff a ha hne with e | e
        ·rw[e];rfl
        ·exact xS e _
       ·rintro⟨hv,e⟩;rcases rW hr hl with ⟨a,b⟩ | ⟨a,b⟩ | ⟨a,b⟩
        ·rw[b] at e;subst e;exact absurd hlen (a! _)
        ·exact hv b
        ·unfold dc at hn;rw[if_neg (by omega),if_neg (by omega)] at hn;cases hn
      rw[eM',eG,if_neg (by rw[t1];exact ne),t1,t2 ne,ref];have hto: ∃ u',th (w.on u) (dZ (ctext m (aB l i)))=F (bn m (aB l i),u')/\YS w u' (iB m (aB l i) q')/\u'+(iB m (aB l i) q').length=u+(iB (m+1) l q).length:=by
       rw[eW] at hw ⊢;by_cases hs:(ctext m (aB l i)).length<32
       ·rw[if_pos hs,W] at hw ⊢;refine⟨u,?_,hw,rfl⟩;rw[gA hs];unfold th;rw[if_pos (show bp (ctext m (aB l i))=C from(n7 hv hk0 hs).1),eD hv];rfl
       ·rw[if_neg hs] at hw ⊢;obtain⟨h1,h2,h3⟩:=gJ hs;obtain⟨w1,w2⟩:=hw 0 (by simp);have w2:w.f u=ctext m (aB l i):=w2;refine⟨u+1,?_,λa ha=> ?_,by simp;omega⟩
        ·unfold th;have ht:bU (w.on u) (aG (ctext m (aB l i)))=true:=by unfold bU;rw[R,R,decide_eq_true_eq,decide_eq_true_eq];exact⟨by show(u:Int)<(w.n:Int);omega,by show aG (w.f u)=_;rw[w2],by show aY (w.f u)=C;rw[w2];exact(gr hv).1⟩
         rw[if_neg (λh=>by have:=m6 h;omega),h1,h2,ht];show F (getD (w.f u),u+1)=_;rw[w2,eD hv]
        ·have:=hw (a+1) (by simp;omega);rw[show u+1+a=u+(a+1)by omega];exact this
      obtain⟨u',e1,e2,e3⟩:=hto;rw[← e3]
      show ∃ y q'',(match th (w.on u) (dZ (cS (bn m (aB l i))))with
       | none=>H
       | some (y,u')=>zF w j y q' u')=_/\_
      rw[show th (w.on u) (dZ (cS (bn m (aB l i))))=_ from e1]
      exact E4 (by omega) ho hpk e2 (by omega)
structure tP where
 w:Sp
 s:Wk
 c1:Nat
 c2:Nat
 y:tM
 room:Int
structure Am (w:Sp)(y:tM):Prop where
 f: ∀ h,w.ad h=C->(w.at h).length<=1000
 dom: ∀ h,w.ad h=C->y.A.D (y.g h)=C
 cR: ∀ h,w.ad h=C->y.A.cR (y.g h)=w.at h
 fr:w.fr.length<=1000
 to:w.to.length<=1000
def It.qz (A:It):SB:=.dV A.D [.str A.cR] 4 133 C
def YL (w:Sp)(s:Wk)(kn kf c1 c2:Nat):SB:=.cells [.str d w.fr,.str d w.to,.func (.func 47) [.ptr 4 C 0] [],.map 1,.bx kn 1 C 0 s.ns.length c1,.int .i64 d s.lk,.bx kf 2 C 0 s.fs.length c2] 7 92
def tP.own (g:tP):Mem:=[(4,fq g.room 5),(5,.fmap g.w.ad (.ref 6 g.y.g) H)]
def tP.mem (g:tP):Mem:=[(0,YL g.w g.s 2 3 g.c1 g.c2),(1,eU g.s),(2,dU g.s g.c1),(3,dy g.s g.c2)]++g.own++[(6,g.y.A.qz)]
def tP.back (g:tP)(s:Wk)(c1 c2:Nat):Mem:=[(0,YL g.w s 7 8 c1 c2),(1,eU s),(7,dU s c1),(8,dy s c2)]++g.own
def abt (v:SV)(g:tP)(s:Wk):gj:=.all (Nat×Nat) λc=>.req (s.ns.length<=c.1/\s.fs.length<=c.2) (.ret v (g.back s c.1 c.2))
def Mv (f:SV->SV):gj:=.all (List UInt8×List UInt8) λy=>.ret (f (.iface 87 (.ptr 9 C 0))) [(9,.cells [.str d y.1,.str d y.2] 2 207)]
def sbC (A:Type)(args:A->List SV)(pre:tP->A->Prop)(uT:tP->A->gj):gD :={G:=tP×A,n:=7,N:=10,pre:=λx=>Am x.1.w x.1.y/\x.1.s.Small/\(x.1.s.ns.length<=x.1.c1/\x.1.s.fs.length<=x.1.c2)/\pre x.1 x.2,args:=λx=>.ptr 0 C 0::args x.2,mem:=λx=>x.1.mem,uT:=λx=>uT x.1 x.2}
def Ov (g:tP)(h:List UInt8):gj:=.fork (bJ g.w h) λb=>match b with
 | true=>abt (.aO [(getD (g.w.at h)).sv,.ay]) g (g.s.take g.w h)
 | false=>Mv λv=>.aO [cW,v]
def vZ:gD:=sbC (List UInt8) (λh=>[.str d h]) (λ_ _=>True) Ov
def QE (g:tP)(t:List UInt8):gj:=.fork (bp t) λb=>match b with
 | true=>abt (.aO [(getD t).sv,.ay]) g g.s
 | false=>.fork (aQ t) λb=>match b with
   | true=>Ov g (ai t)
   | false=>Mv λv=>.aO [cW,v]
def oF:gD:=sbC (List UInt8) (λt=>[.str d t]) (λ_ t=>t.length<9223372036854775808) QE
theorem VY (x:tP×List UInt8):dA (.n (.s 1 (.n (.n (.s 2 (.n (.s 0 (.n .k (.s 3 (.n (.s 0 .k) (.s 1 (.n (.s 1 .k) (.s 0 (.n .k (.n .k (.n .k .t)))))))))) .t)) (.s 0 (.n (.s 0 (.n .k (.s 3 (.n (.s 0 .k) (.s 1 (.n (.s 1 .k) (.s 0 (.n .k (.n .k (.n .k .t)))))))))) .t))) (.s 0 (.n .k (.s 0 .k))))) (.s 0 (.n .k (.s 0 .k)))) (runM nY 83 Tryz.f83 vZ x) ((λP0:SV=>(((x.1.w.ad x.2=C->x.1.y.A.D (x.1.y.g x.2)=C/\((x.1.y.A.cR (x.1.y.g x.2)).length<=9223372036854775808/\(x.1.y.A.cR (x.1.y.g x.2)).length<1099511627776)/\(aY (x.1.y.A.cR (x.1.y.g x.2))=C->(O (dflt (x.1.s.ud x.2) (x.1.s.us x.2)=0)=C->(0+x.1.s.ns.length<=x.1.s.ns.length/\True/\2*(x.1.s.ns.length+1)*16<=(281474976710656:Nat)/\x.1.s.ns.length+1<(9223372036854775808:Nat))/\∀(u16:Nat),x.1.s.ns.length+1<=u16->I6 (dflt (x.1.s.ud x.2) (x.1.s.us x.2)+1)/\(bJ x.1.w x.2=C->∃(u15:Nat×Nat),((if x.1.s.used x.2=0 then x.1.s.ns++[x.1.w.at x.2] else x.1.s.ns).length<=u15.1/\x.1.s.fs.length<=u15.2)/\(∀(u14:Nat->Nat),SV.val u14 (SV.agg (aU (getD (x.1.y.A.cR (x.1.y.g x.2)))))=SV.val u14 (getD (x.1.w.at x.2)).sv)/\(x.1.s.ns.length+1=(if x.1.s.used x.2=0 then x.1.s.ns++[x.1.w.at x.2] else x.1.s.ns).length/\u16=u15.1)/\x.1.c2=u15.2 /\aa (SB.fmap (dN x.1.s.ud x.2) (aC.int IntKind.i64 (fK x.1.s.us x.2 (dflt (x.1.s.ud x.2) (x.1.s.us x.2)+1))) H) (SB.fmap (dN x.1.s.ud x.2) (aC.int IntKind.i64 (fK x.1.s.us x.2 (x.1.s.used x.2+1))) H)/\aa (SB.rows C (x.1.s.ns.length+1) [ak.str λu13=>if u13<x.1.s.ns.length then x.1.s.ns.getD u13 [] else bT [x.1.y.A.cR (x.1.y.g x.2)] (u13 - x.1.s.ns.length)] d (u16*1) 9) (SB.rows C (if x.1.s.used x.2=0 then x.1.s.ns++[x.1.w.at x.2] else x.1.s.ns).length [ak.str λu12=>(if x.1.s.used x.2=0 then x.1.s.ns++[x.1.w.at x.2] else x.1.s.ns).getD u12 []] d (u15.1*1) 9)/\aa (SB.rows C x.1.s.fs.length [bY x.1.s.fs,bZ x.1.s.fs] d (x.1.c2*2) 50) (SB.rows C x.1.s.fs.length [bY x.1.s.fs,bZ x.1.s.fs] d (u15.2*2) 50))/\(bJ x.1.w x.2=d->∃(_u11:List UInt8×List UInt8),False))/\(O (dflt (x.1.s.ud x.2) (x.1.s.us x.2)=0)=d->((-9223372036854775808:Int)<=dflt (x.1.s.ud x.2) (x.1.s.us x.2)+1 /\dflt (x.1.s.ud x.2) (x.1.s.us x.2)+1<=(9223372036854775807:Int))/\(bJ x.1.w x.2=C->∃(u10:Nat×Nat),((if x.1.s.used x.2=0 then x.1.s.ns++[x.1.w.at x.2] else x.1.s.ns).length<=u10.1/\x.1.s.fs.length<=u10.2)/\(∀(u9:Nat->Nat),SV.val u9 (SV.agg (aU (getD (x.1.y.A.cR (x.1.y.g x.2)))))=SV.val u9 (getD (x.1.w.at x.2)).sv)/\(x.1.s.ns.length=(if x.1.s.used x.2=0 then x.1.s.ns++[x.1.w.at x.2] else x.1.s.ns).length/\x.1.c1=u10.1)/\x.1.c2=u10.2/\aa (SB.fmap (dN x.1.s.ud x.2) (aC.int IntKind.i64 (fK x.1.s.us x.2 (dflt (x.1.s.ud x.2) (x.1.s.us x.2)+1))) H) (SB.fmap (dN x.1.s.ud x.2) (aC.int IntKind.i64 (fK x.1.s.us x.2 (x.1.s.used x.2+1))) H)/\aa (SB.rows C x.1.s.ns.length [ak.str λu8=>x.1.s.ns.getD u8 []] d (x.1.c1*1) 9) (SB.rows C (if x.1.s.used x.2=0 then x.1.s.ns++[x.1.w.at x.2] else x.1.s.ns).length [ak.str λu7=>(if x.1.s.used x.2=0 then x.1.s.ns++[x.1.w.at x.2] else x.1.s.ns).getD u7 []] d (u10.1*1) 9) /\aa (SB.rows C x.1.s.fs.length [bY x.1.s.fs,bZ x.1.s.fs] d (x.1.c2*2) 50) (SB.rows C x.1.s.fs.length [bY x.1.s.fs,bZ x.1.s.fs] d (u10.2*2) 50))/\(bJ x.1.w x.2=d->∃(_u6:List UInt8×List UInt8),False)))/\(aY (x.1.y.A.cR (x.1.y.g x.2))=d->(bJ x.1.w x.2=C->∃(u5:Nat×Nat),((if x.1.s.used x.2=0 then x.1.s.ns++[x.1.w.at x.2] else x.1.s.ns).length<=u5.1/\x.1.s.fs.length<=u5.2)/\False)/\(bJ x.1.w x.2=d->∃(u4:List UInt8×List UInt8),(∀(u3:Nat->Nat),SV.val u3 P0=SV.val u3 cW)/\aa (SB.cells [SV.str C [(110:UInt8),(111:UInt8),(32:UInt8),(110:UInt8),(111:UInt8),(100:UInt8),(101:UInt8),(58:UInt8)],SV.str d x.2] 2 207) (SB.cells [SV.str d u4.1,SV.str d u4.2] 2 207))))/\(x.1.w.ad x.2=d->(bJ x.1.w x.2=C->∃(u2:Nat×Nat),((if x.1.s.used x.2=0 then x.1.s.ns++[x.1.w.at x.2] else x.1.s.ns).length<=u2.1/\x.1.s.fs.length<=u2.2)/\False)/\(bJ x.1.w x.2=d->∃(u1:List UInt8×List UInt8),(∀(u0:Nat ->Nat),SV.val u0 P0=SV.val u0 cW)/\aa (SB.cells [SV.str C [(110:UInt8),(111:UInt8),(116:UInt8),(32:UInt8),(116:UInt8),(104:UInt8),(101:UInt8),(114:UInt8),(101:UInt8),(58:UInt8)],SV.str d x.2] 2 207) (SB.cells [SV.str d u1.1,SV.str d u1.2] 2 207)))))) (SV.agg (SV.int .i64 C 0::SV.str C []::SV.str C []::E6))):=⟨by kernel_rfl,by kernel_rfl⟩
end
end Go.Proofs.YtoibaecagklkaaaGreatDoor
