/- A part of the proof. -/
import Derived.Test.YtoibaecagklkaaaGreatDoorMo
open Bool renaming and_eq_true->J,and_false->c7,false->C,false_or->b_,not_eq_true'->b!,or_eq_false_iff->c8,or_eq_true->K,true->u,true_and->c_
open Go.Op renaming bytesLess->D
open Int renaming eq_ofNat_of_zero_le->c!,toNat_natCast->L
open List renaming all_eq_false->dr,all_eq_true->d_,append_assoc->d!,append_nil->M,cons_append->cj,cons_ne_nil->cl,drop->ec,drop_succ_cons->ct,drop_zero->ef,filter_congr->cx,filter_cons_of_neg->S,filter_cons_of_pos->T,filter_eq_nil_iff->cy,flatMap_cons->N,flatMap_map->ei,getD_eq_getElem?_getD->cB,getElem?_eq_getElem->ej,getElem?_eq_none->ek,getElem?_map->cL,getElem?_range->cO,getLastD_cons->Y,length->I,length_append->en,length_cons->ay,length_take->a_,map_cons->c4,mem_cons->O,mem_cons_of_mem->a!,mem_cons_self->F,mem_filter->P,mem_map->bf,mem_range->V,nil->W,not_mem_nil->Z,pairwise_cons->ag,range->H,range_succ_eq_map->ep,take_append_drop->er,take_succ_cons->bl
open Nat renaming le_refl->bn,lt_irrefl->eu,not_lt_zero->Q,succ_pos->bU,zero_add->X,zero_le->R
open UInt8 renaming le_antisymm->ey,lt_irrefl->bW,not_lt->c5,ofNat->G,ofNat_toNat->c6,toNat_ofNat'->an
namespace Go.Proofs.YtoibaecagklkaaaGreatDoor
open Go Sx
variable {z:Bool}{b p q s:h_}{c c' i m n:Nat}{f g:Nat->h_}{x:Nd}{ty:TypeId}
section
open Go Sx
set_option maxRecDepth 20000
section
variable (n m k i : Nat) (s t : h_) (x h : Nat × Nat) (z f : Nat-> h_) (y g B : Pl) (o A : List Rw)
abbrev TR:=min (I s) (I t)
abbrev wN:=NI (cg s t)
abbrev jQ:=Pl.s n (Pl.n y g)
abbrev jh:=jQ n Pl.k y
abbrev aqv:=jh 0 Pl.t
abbrev uO:=Pl.n Pl.k y
abbrev PZ:=uO Pl.t
abbrev mS:=cw m (NI n)
abbrev rQ:=NI n<NI m
abbrev pL:=cQ n (iD m<k)
abbrev kY:h_:=z (iD n)
abbrev iE:=Pl.n y (Pl.n g B)
abbrev C8:=Pl.n y Pl.t
abbrev wO:=iE y g Pl.t
abbrev dJ:=Pl.s 0 y
abbrev azZ:=Pl.n (dJ Pl.k) (jh 0 Pl.t)
abbrev jc:=aB x.1
abbrev nS:=x.1<=x.2
abbrev vg:=aP n x.1 n h.1
abbrev ahq:=dU (NI n) (A7 (32*NI n)) (fQ (NI n))
abbrev qP:=x.1<=n
abbrev qe:=uO azZ
abbrev qR:=cw n (eD x)
abbrev DB:=jc x=h.1/\n=h.2
abbrev ah0:=gY x.1 (bG x.2) 174 (bJ (λa=>ec n (z a)) (bJ f W))
abbrev ya:=eD x<NI n
abbrev fZ:=0+iM x
abbrev B3:=bx (z (fZ x))
abbrev qU:=cQ n (fZ x<m)
abbrev aK:=n=m/\k=i
abbrev iY:List bh:=[nj o,nk A]
abbrev DG:Nat->h_:=λa=>ak (z a)
abbrev kK:=aQ n (DG z) f
abbrev T6:=gY (I (kK n z f)) (bG m) 174 (iY (kK n z f) (kK n z f))
abbrev zV:=I (kK n z f)
abbrev ah9:=gY x.1 (bG x.2) 174 (bJ (DG z) (bJ f W))
abbrev wZ:=bF (iT n z f)
abbrev rF:=jQ n y (Pl.s m g)
abbrev wP:=rF n k (Pl.s m y) g
abbrev uW:=jQ n y Pl.t
end
theorem awg (n:Nat)(f g:Nat->h_)(z:Bool)(o c:Nat)(key:Option Nat):dw (wO aqv (uW 1 (uW 0 (wP 0 5 1 PZ PZ)))) (je (am4 n f g) 62 Tryz.f62 [.cT 0 2 z o 0 n c] [fX z o c n f g key] (.ret (.int .i64 C (iT n f g)))) (cR (∀(a:Nat),iC n (qC f g) a->Fk (rQ a n) (aj (mS a n) (pL o a n) (gE (kY a f) (aX (ai kI (wZ n f g)) (gE (kY a g) (aX (ai kI (wZ n f g)) (lS a 0 (az (I6 (rI a 1)) (cw n (rI a 1)) (cQ o (fO n (rI a 1))) (aX (ai kI (wZ n f g)) (dF a (λb=>aD (iC n (qC f g) b) (aP n b n a) (gS a b))) (D (f (dR (rI a 1))) (kY a f)))) (dF a (λb=>aD (iC n (qC f g) b) (aP n b n a) (gS a b)))) (decide (bx (kY a g)<=80))) (ai kI (wZ n f g))) (decide (bx (kY a f)<=6))) (ai kI (wZ n f g)))) (lS n 40 (ai (bq 12) (wZ n f g)) (ai (bq 0) (wZ n f g)))) (λa=>iC n (qC f g) a/\fy a)):=⟨by kernel_rfl,by kernel_rfl⟩
theorem awn (n:Nat)(f g:Nat->h_)(z:Bool)(o c:Nat)(key:Option Nat):dw (wO aqv (C8 (Pl.s 7 PZ))) (je (anc n f g) 19 Tryz.f19 [.cT 0 2 z o 0 n c] [fX z o c n f g key] (.ret (.bool C (Hx n f g)))) (cR (∀(a:Nat),U0 n (Fl f g) a->Fk (rQ a n) (dM (NI a) 45 (aj (mS a n) (pL o a n) (aM 20 (bx (kY a f)) (ju fR (Hx n f g)) (aj (mS a n) (pL o a n) (aM 100 (bx (kY a g)) (ju fR (Hx n f g)) (dF a (λb=>aD (U0 n (Fl f g) b) (aP n b n a) (gS a b))))))) (ju (nH (decide (NI n<=45))) (Hx n f g))) (ju (nH (decide (NI n<=45))) (Hx n f g))) (λa=>U0 n (Fl f g) a/\fy a)):=⟨by kernel_rfl,by kernel_rfl⟩
theorem aAG (n:Nat)(f g:Nat->h_)(z:Bool)(o c:Nat)(key:Option Nat):dw (dJ (iE (dJ qe) (Pl.s 7 qe) Pl.k)) (je (anv n f g) 64 Tryz.f64 [.cT 0 2 z o 0 n c] [fX z o c n f g key] (QM (aQ n (λi=>ak (f i)) g))) (aj (ahq n) (∃(a:Nat×Nat),cM (qP n a) (nS a) (mL a) (aK 0 a.1 (lu n) a.2) (bH (bG (lu n)) (ah9 a f g) W 174)) (∀(a:Nat×Nat),qP n a/\nS a->Fk (ya n a) (cK (qR n a) (qU o n a) (bS (f (fZ a))) (dB (SB.cells (pT 0 (SV.agg (eC (yF (fZ a) f) (yF (fZ a) g))) (SV.cells (SV.agg Mw))) 2 50)) (gZ a.1 a.1 (2*jc a*32) (jc a)) (∀(b:Nat),cN (jc a) b (kP a) (∃(c:Nat×Nat),az (aD (qP n c) (nS c) (vg n c a)) (j8 a c) (DB b a c) (aa (gY (jc a) (bG b) 174 (bJ (λb=>dg b a.1 b a.1 (ak (f b)) (ak (f (fZ a)))) (bJ (λb=>dg b a.1 b a.1 (g b) (g (fZ a))) W))) (ah9 c f g))))) (∃(b:Nat),dx (zV n f g<=b) (aa (ah9 a f g) (T6 n b f g)) (SV.bY (aB 1) 2 C 0 a.1 a.2) (SV.bY (aB 1) 2 C 0 (zV n f g) b)))):=⟨by kernel_rfl,by kernel_rfl⟩
theorem al8 (n k:Nat)(f g:Nat->h_)(z:Bool)(o c:Nat)(key:Option Nat):dw (dJ (iE (dJ qe) (Pl.s 6 qe) Pl.k)) (je (anG n k f g) 102 Tryz.f102 [.cT 0 2 z o 0 n c,.int .i64 C k] [fX z o c n f g key] (QM (eV k (aQ n f g)))) (aj (ahq n) (∃(a:Nat×Nat),cM (qP n a) (nS a) (mL a) (aK 0 a.1 (lu n) a.2) (bH (bG (lu n)) (ah0 k a f g) W 174)) (∀(a:Nat×Nat),qP n a/\nS a->Fk (ya n a) (aC (qR n a) (qU o n a) (kM (NI k) (NI k) (B3 a f) (B3 a f<=B3 a f)) (gZ a.1 a.1 (2*jc a*32) (jc a)) (∀(b:Nat),cN (jc a) b (kP a) (∃(c:Nat×Nat),az (aD (qP n c) (nS c) (vg n c a)) (j8 a c) (DB b a c) (aa (gY (jc a) (bG b) 174 (bJ (λb=>dg b a.1 b a.1 (ec k (f b)) (bT (f (fZ a)) (cc 20) none (NI k) (B3 a f))) (bJ (λb=>dg b a.1 b a.1 (g b) (g (fZ a))) W))) (ah0 k c f g))))) (∃(b:Nat),dx (I (eV k (aQ n f g))<=b) (aa (ah0 k a f g) (gY (I (eV k (aQ n f g))) (bG b) 174 (iY (eV k (aQ n f g)) (eV k (aQ n f g))))) (SV.bY (aB 1) 2 C 0 a.1 a.2) (SV.bY (aB 1) 2 C 0 (I (eV k (aQ n f g))) b)))):=⟨by kernel_rfl,by kernel_rfl⟩
theorem as3 (a b:h_):dw Pl.k (jd (am6 a b) 100 Tryz.f100 [.str C a,.str C b] (.ret (.int .i64 C (cg a b)))) (cR (∀(c:Nat),iC (TR a b) (QV a b) c->jH c (min (bB a) (bB b)) (aj (fE c (bB a)) (fE c (bB b)) (aX (ai (bF (NI c)) (bF (wN a b))) (dF c (λd=>aD (iC (TR a b) (QV a b) d) (aP (TR a b) d (TR a b) c) (gS c d))) (cJ (sI c a) (sI c b)))) (ai (SV.int IntKind.i64 (C&&C) (min (bB a) (bB b))) (bF (wN a b)))) (λc=>iC (TR a b) (QV a b) c/\fy c)):=⟨by kernel_rfl,by kernel_rfl⟩
theorem tI: ∀(a b:h_),cg a b<=a.length/\cg a b<=b.length
 | [],_=>by simp[cg]
 | _::_,[]=>by simp[cg]
 | a::r,b::s=>by
   unfold cg;split
   ·have:=tI r s;simp only[ay];omega
   ·simp
theorem Pb: ∀(k:Nat) (a b c:h_),k<=cg a c->D b a=C->D c b=C->b.take k=a.take k
 | 0,_,_,_,_,_,_=>by simp
 | k+1,[],_,_,h,_,_=>by simp[cg] at h
 | k+1,_::_,_,[],h,_,_=>by simp[cg] at h
 | k+1,a::r,b,c::t,h,h1,h2=>by
   unfold cg at h;split at h
   ·rename_i e;subst e;cases b with
    | nil=>simp[D] at h1
    | cons b s =>
      simp only[D] at h1 h2;by_cases e1:b<a
      ·simp[e1] at h1
      ·by_cases e2:a<b
       ·simp[e2] at h2
       ·have e:b=a:=by
         apply ey
         ·exact c5.1 e2
         ·exact c5.1 e1
        subst e;simp at h1 h2;rw[bl,bl,Pb k r s t (by omega) h1 h2]
   ·omega
theorem lQ: ∀(a b:h_),D a b=u->D b a=C
 | _,[],h=>by simp[D] at h
 | [],_::_,_=>by simp[D]
 | a::r,b::s,h=>by
   simp only[D,K,m_,J,beq_iff_eq] at h;simp only[D,c8,n_];rcases h with h | ⟨h1,h2⟩
   ·refine⟨λe=>absurd (UInt8.lt_trans h e) (bW _),?_⟩;have:(b==a)=false:=by rw[beq_eq_false_iff_ne];intro e;subst e;exact absurd h (bW _)
    rw[this,Bool.false_and]
   ·subst h1;refine⟨bW _,?_⟩;rw[lQ r s h2,c7]
theorem qH (a:h_):D a a=false:=by
 cases h:D a a with
 | false=>rfl
 | true=>rw[lQ a a h] at h;cases h
theorem zo: ∀(r:Rw) (l:List Rw),l.getLastD r∈ r::l
 | r,[]=>by simp
 | r,s::l=>by rw[Y];exact a! _ (zo s l)
theorem Uz: ∀(r:Rw) (l:List Rw),xE (r::l)->∀ x,x∈ r::l->x=l.getLastD r∨D x.1 (l.getLastD r).1=u
 | r,[],_,x,hx=>by simp only[O,Z,or_false] at hx;exact .inl hx
 | r,s::l,h,x,hx=>by
   rw[Y];have h':xE (r::s::l):=h;unfold xE at h';rw[ag] at h';rcases O.1 hx with e | e
   ·subst e;exact .inr (h'.1 _ (zo s l))
   ·exact Uz s l h'.2 x e
theorem ae4 {r:Rw}{l:List Rw}(h:xE (r::l)){x:Rw}(hx:x∈ r::l):D x.1 r.1=false:=by
 unfold xE at h;rw[ag] at h;rcases O.1 hx with e | e
 ·subst e;exact qH _
 ·exact lQ _ _ (h.1 x e)
theorem vR {r:Rw}{l:List Rw}(h:xE (r::l)){x:Rw}(hx:x∈ r::l):x.1.take (cg r.1 (l.getLastD r).1)=r.1.take (cg r.1 (l.getLastD r).1):=by
 refine Pb _ r.1 x.1 (l.getLastD r).1 (bn _) (ae4 h hx) ?_;rcases Uz r l h x hx with e | e
 ·subst e;exact qH _
 ·exact lQ _ _ e
theorem Ep: ∀(k:Nat) (a b:h_),a.take k=b.take k->k<=a.length->k<=b.length->D (a.drop k) (b.drop k)=D a b
 | 0,_,_,_,_,_=>rfl
 | k+1,[],_,_,h,_=>by simp at h
 | k+1,_::_,[],_,_,h=>by simp at h
 | k+1,a::r,b::s,h,h1,h2=>by rw[bl,bl] at h;injection h with e h;subst e;rw[ct,ct,Ep k r s h (by simpa using h1) (by simpa using h2)];have: ¬ a<a:=bW _;simp[D,this]
theorem Q1 {α:Type}(f:α->Nat)(n:Nat): ∀(l:List α),l.Pairwise (λa b=>f a<=f b)->l.filter (λx=>decide (f x<n))++l.filter (λx=>!decide (f x<n))=l
 | [],_=>rfl
 | x::l,h=>by
   rw[ag] at h;by_cases hx:f x<n
   ·rw[T (by simpa using hx),S (by simpa using hx),cj,Q1 f n l h.2]
   ·have hl: ∀ y,y∈ l->¬ f y<n:=λy hy=>by have:=h.1 y hy;omega
    rw[S (by simpa using hx),T (by simpa using hx)];rw[cy.2 (λy hy=>by simpa using hl y hy),List.nil_append];rw[List.filter_eq_self.2 (λy hy=>by simpa using hl y hy)]
theorem oX {α β:Type}{f g:α->List β}: ∀ {l:List α},(∀ i,i∈ l->f i=g i)->l.flatMap f=l.flatMap g
 | [],_=>rfl
 | a::l,h=>by rw[N,N,h a (F ..),oX λi hi=>h i (a! _ hi)]
theorem HD {α:Type}(f:α->Nat): ∀(n:Nat) (l:List α),l.Pairwise (λa b=>f a<=f b)->(∀ x,x∈ l->f x<n)->(H n).flatMap (λi=>l.filter λx=>decide (f x=i))=l
 | 0,l,_,h=>by
   cases l with
   | nil=>rfl
   | cons x l=>exact absurd (h x (F ..)) (Q _)
 | n+1,l,hp,h=>by
   have hs:=Q1 f n l hp;rw[List.range_succ,List.flatMap_append];have e1:(H n).flatMap (λi=>l.filter λx=>decide (f x=i))=l.filter (λx=>decide (f x<n)):=by
    have hA:=HD f n (l.filter λx=>decide (f x<n)) (hp.filter _) (λx hx=>by simpa using (P.1 hx).2);rw[← hA];have: ∀ i,i∈ H n->(l.filter λx=>decide (f x=i))=(l.filter λx=>decide (f x<n)).filter λx=>decide (f x=i):=λi hi=>by
     rw[List.filter_filter];refine cx λx _=> ?_;have hi:=V.1 hi;by_cases e:f x=i
     ·have:f x<n:=by omega
      rw[k_ e,k_ this];rfl
     ·rw[l_ e];rfl
    rw[oX this,hA]
   have e2:[n].flatMap (λi=>l.filter λx=>decide (f x=i))=l.filter (λx=>!decide (f x<n)):=by
    simp only[N,List.flatMap_nil,M];refine cx λx hx=> ?_;have:=h x hx;by_cases e:f x=n
    ·rw[k_ e,l_ (by omega)];rfl
    ·rw[l_ e,k_ (by omega)];rfl
   rw[e1,e2,hs]
def sF (p:h_):Nat:=match p with
 | []=>0
 | b::_=>b.toNat+1
theorem aoV: ∀ {a b:h_},D a b=u->sF a<=sF b
 | [],_,_=>R _
 | _::_,[],h=>by simp[D] at h
 | a::r,b::s,h=>by
   simp only[D,K,m_,J,beq_iff_eq] at h;show a.toNat+1<=b.toNat+1;rcases h with h | ⟨h,_⟩
   ·have:a.toNat<b.toNat:=UInt8.lt_iff_toNat_lt.1 h;omega
   ·subst h;exact bn _
theorem AH (i:Nat)(p:h_):qt i p=decide (sF p=i+1):=by
 cases p with
 | nil=>simp[qt,sF]
 | cons b r=>simp[qt,sF]
theorem ae5 {l:List Rw}(h:xE l)(hn: ∀ x,x∈ l->sF x.1<17):l.filter (λx=>decide (sF x.1=0))++(H 16).flatMap (λi=>jz i l)=l:=by
 have hg:=HD (λx:Rw=>sF x.1) 17 l (h.imp aoV) hn;have e:(H 17).flatMap (λi=>l.filter λx=>decide (sF x.1=i))=l.filter (λx=>decide (sF x.1=0))++(H 16).flatMap (λi=>jz i l):=by rw[ep,N,ei];congr 1;refine oX λi _=> ?_;unfold jz;refine cx λx _=> ?_;rw[AH]
 rw[← e];exact hg
theorem Zk (fr to p:h_)(a b:List Rw):n9 fr to p (a++b)=n9 fr to p a++n9 fr to p b:=by simp[n9,List.filter_append,List.map_append]
theorem Tg (fr to p:h_)(f:Nat->List Rw): ∀(l:List Nat),n9 fr to p (l.flatMap f)=l.flatMap λi=>n9 fr to p (f i)
 | []=>rfl
 | i::l=>by rw[N,N,Zk,Tg fr to p f l]
theorem KC (fr to p q:h_)(k:Nat): ∀(l:List Rw),(∀ x,x∈ l->x.1=q++x.1.drop k)->n9 fr to p l=n9 fr to (cat p q) (eV k l)
 | [],_=>rfl
 | x::l,h=>by
   have ih:=KC fr to p q k l λy hy=>h y (a! _ hy);have e:cat (cat p q) (x.1.drop k)=cat p x.1:=by show(p++q)++x.1.drop k=p++x.1;rw[d!,← h x (F ..)]
   unfold n9 eV at ih ⊢;rw[c4];cases hb:hasB fr to (cat p x.1)with
   | true=>rw[T (p:=λr:Rw=>hasB fr to (cat p r.1)) hb,T (p:=λr:Rw=>hasB fr to (cat (cat p q) r.1)) (show hasB fr to (cat (cat p q) (x.1.drop k))=u by rw[e];exact hb),c4,c4,ih,e]
   | false=>rw[S (p:=λr:Rw=>hasB fr to (cat p r.1)) (by simp[hb]),S (p:=λr:Rw=>hasB fr to (cat (cat p q) r.1)) (by simp[e,hb]),ih]
theorem Zl (fr to p:h_){l:List Rw}(h:xE l)(hn: ∀ x,x∈ l->sF x.1<17) :
  n9 fr to p l=n9 fr to p (l.filter λx=>decide (sF x.1=0))++(H 16).flatMap λi=>n9 fr to (cat p [G i]) (eV 1 (jz i l)):=by
 conv=>lhs;rw[← ae5 h hn]
 rw[Zk,Tg];congr 1;refine oX λi hi=> ?_;have hi:=V.1 hi;refine KC fr to p [G i] 1 _ λx hx=> ?_;have hx:=(P.1 hx).2;rw[AH,m_] at hx;obtain⟨q,v⟩:=x;cases q with
 | nil=>cases hx
 | cons b r =>have hb:b.toNat=i:=Nat.succ.inj hx;show b::r=[G i]++r;rw[← hb,c6];rfl
theorem apw (fr to p:h_){r:Rw}{l:List Rw}(h:xE (r::l)) :
  n9 fr to p (r::l)=n9 fr to (cat p (r.1.take (cg r.1 (l.getLastD r).1))) (eV (cg r.1 (l.getLastD r).1) (r::l)) :=
 KC fr to p _ _ _ λx hx=>by rw[← vR h hx,er]
theorem AQ {a b:UInt8}{r:h_}:D (a::r) (b::s)=C↔b<=a/\(a=b->D r s=C):=by
 simp only[D,c8,n_,c5,Bool.and_eq_false_iff,beq_eq_false_iff_ne];constructor
 ·rintro⟨h1,h2⟩;exact⟨h1,λe=>h2.resolve_left (λh=>h e)⟩
 ·rintro⟨h1,h2⟩;refine⟨h1,?_⟩;by_cases e:a=b
  ·exact .inr (h2 e)
  ·exact .inl e
theorem tY: ∀(a b c:h_),D b a=C->D c b=C->D c a=C
 | [],_,c,_,_=>by cases c<;>simp[D]
 | _::_,[],_,h,_=>by simp[D] at h
 | _::_,_::_,[],_,h=>by simp[D] at h
 | x::a,y::b,z::c,h1,h2=>by rw[AQ] at h1 h2 ⊢;refine⟨UInt8.le_trans h1.1 h2.1,λe=> ?_⟩;subst e;have e:z=y:=ey h1.1 h2.1;exact tY a b c (h1.2 e.symm) (h2.2 e)
theorem Tl: ∀(q r:h_),D (q++r) q=C
 | [],r=>by cases r<;>simp[D]
 | a::q,r=>by rw[cj,AQ];exact⟨UInt8.le_refl _,λ_=>Tl q r⟩
theorem X3: ∀(q r:h_),q.length<=cg q (q++r)
 | [],_=>R _
 | a::q,r=>by rw[cj];unfold cg;rw[o_ rfl,ay];have:=X3 q r;omega
theorem LM {a:h_}(h:(D a b||decide (a=b))=u):D b a=false:=by
 rw[K,m_] at h;rcases h with h | h
 ·exact lQ _ _ h
 ·subst h;exact qH _
theorem abX: ∀(a b:h_),D b a=C->(D a b||decide (a=b))=u
 | [],[],_=>by simp
 | [],_::_,_=>by simp[D]
 | _::_,[],h=>by simp[D] at h
 | x::a,y::b,h=>by
   rw[AQ] at h;by_cases e:x=y
   ·subst e;have:=abX a b (h.2 rfl);rw[K,m_] at this ⊢;rcases this with h1 | h1
    ·left;simp[D,h1]
    ·right;rw[h1]
   ·rw[K];left;have:x<y:=UInt8.lt_of_le_of_ne h.1 e;simp[D,this]
theorem ajZ {fr to r:h_}(h:hasB fr to (q++r)=u):dj fr to q=true:=by
 unfold hasB at h;rw[J,b!] at h;obtain⟨h1,h2⟩:=h;have h3:=LM h2;have hq:=Tl q r;unfold dj;rw[J];refine⟨abX _ _ (tY _ _ _ hq h3),?_⟩;cases hl:D q (ak fr)with
 | false=>rfl
 | true =>have ht:=Pb q.length q (ak fr) (q++r) (X3 q r) (lQ _ _ hl) h1;rw[List.take_length] at ht;show(C||preB q (ak fr))=u;rw[b_];unfold preB;have hl:=congrArg I ht;rw[a_] at hl;rw[k_ ht,k_ (show q.length<=(ak fr).length by omega)];rfl
theorem akA {fr to:h_}(h:dj fr to p=C)(l:List Rw):n9 fr to p l=[]:=by
 unfold n9;rw[cy.2]
 ·rfl
 ·intro x _ hx;have:dj fr to p=true:=ajZ (r:=x.1) hx;rw[h] at this;cases this
structure dZ (m:Nat)(l:List Rw):Prop where
 Fb:xE l
 len: ∀ x,x∈ l->x.1.length<m
 nib: ∀ x,x∈ l->∀ b,b∈ x.1->b.toNat<16
 val: ∀ x,x∈ l->0<x.2.length/\x.2.length<=80
theorem Yf {k:Nat}{l:List Rw}(h:dZ (m+1) l)(hk:0<k)(hq: ∀ x,x∈ l->k<=x.1.length/\x.1.take k=q):dZ m (eV k l):=by
 refine⟨?_,λx hx=> ?_,λx hx b hb=> ?_,λx hx=> ?_⟩
 ·have hr:=h.Fb;unfold xE eV at *;rw[List.pairwise_map];refine List.Pairwise.imp_of_mem (λ{a b} ha hb hab=> ?_) hr;have h1:=hq a ha;have h2:=hq b hb;show D (a.1.drop k) (b.1.drop k)=u;rw[Ep k a.1 b.1 (h1.2.trans h2.2.symm) h1.1 h2.1];exact hab
 all_goals
  obtain⟨y,hy,rfl⟩:=bf.1 hx
 ·have:=h.len y hy;have:=(hq y hy).1;show(y.1.drop k).length<m;rw[List.length_drop];omega
 ·exact h.nib y hy b (List.mem_of_mem_drop hb)
 ·exact h.val y hy
theorem aup {l:List Rw}(h:dZ m l)(i:Nat):dZ m (jz i l):=by have hm: ∀ x,x∈ jz i l->x∈ l:=λx hx=>(P.1 hx).1;exact⟨h.Fb.filter _,λx hx=>h.len x (hm x hx),λx hx=>h.nib x (hm x hx),λx hx=>h.val x (hm x hx)⟩
theorem dO (r s:Rw)(t:List Rw)(i:Nat):bz (r::s::t) i=if 0<cg r.1 ((s::t).getLastD r).1 then(if i=0 then eV (cg r.1 ((s::t).getLastD r).1) (r::s::t)else [])else eV 1 (jz i (r::s::t)):=rfl
theorem mW {l:List Rw}(h:dZ (m+1) l)(i:Nat):dZ m (bz l i):=by
 have nil:dZ m []:=⟨List.Pairwise.nil,(λx hx=>by cases hx),(λx hx=>by cases hx),(λx hx=>by cases hx)⟩
 match l,h with
 | [],_=>exact nil
 | [_],_=>exact nil
 | r::s::t,h =>
   rw[dO];split
   ·rename_i hk;split
    ·refine Yf (q:=r.1.take (cg r.1 ((s::t).getLastD r).1)) h hk λx hx=> ?_;have ht:=vR h.Fb hx;refine⟨?_,ht⟩;have hl:=congrArg I ht;rw[a_,a_] at hl;have:=(tI r.1 ((s::t).getLastD r).1).1;omega
    ·exact nil
   ·refine Yf (q:=[G i]) (aup h i) (bU _) λx hx=> ?_;have hx:=(P.1 hx).2;rw[AH,m_] at hx;obtain⟨q,v⟩:=x;cases q with
    | nil=>cases hx
    | cons b r =>
      have hb:b.toNat=i:=Nat.succ.inj hx;refine⟨by simp,?_⟩;show [b]=[G i]
      rw[← hb,c6]
theorem ac6 {r:Rw}{l:List Rw}(h:xE (r::l)):(r::l).filter (λx=>decide (sF x.1=0))=if r.1=[] then [r] else []:=by
 have hl:l.filter (λx=>decide (sF x.1=0))=[]:=by
  rw[cy];intro x hx;unfold xE at h;rw[ag] at h;have hx:=h.1 x hx;obtain⟨q,v⟩:=x;cases q with
  | nil=>simp[D] at hx
  | cons b q=>simp[sF]
 obtain⟨q,v⟩:=r;cases q with
 | nil=>rw[T (by simp[sF]),hl];rfl
 | cons b q=>rw[S (by simp[sF]),hl,p_ (by simp)]
def Pv (fr to p:h_)(x:Nd):List (h_×h_):=if x.v=[] then [] else(if hasB fr to (cat p x.p)=u then [(cC (cat p x.p),x.v)] else [])
theorem Zm (fr to p:h_)(r:Rw):n9 fr to p [r]=if hasB fr to (cat p r.1)=u then [(cC (cat p r.1),r.2)] else []:=by
 unfold n9;by_cases h:hasB fr to (cat p r.1)=u
 ·rw[o_ h,T (p:=λr:Rw=>hasB fr to (cat p r.1)) h];rfl
 ·rw[p_ h,S (p:=λr:Rw=>hasB fr to (cat p r.1)) h];rfl
theorem zg {α:Type}{f:Nat->List α}: ∀ {l:List Nat},(∀ i,i∈ l->f i=[])->l.flatMap f=[]
 | [],_=>rfl
 | i::l,h=>by rw[N,h i (F ..),zg λj hj=>h j (a! _ hj)];rfl
theorem adg {α:Type}{f:Nat->List α}(h: ∀ i,0<i->f i=[]):(H 16).flatMap f=f 0:=by rw[ep,N,ei,zg λi _=>h _ (bU _),M]
theorem akz (fr to p:h_){l:List Rw}(hl:l≠[])(h:dZ (m+1) l) :
  n9 fr to p l=Pv fr to p (gR (m+1) l)++(H 16).flatMap λi=>n9 fr to (ki (gR (m+1) l) p i) (bz l i):=by
 match l,hl,h with
 | [r],_,h =>
   have hv:r.2≠[]:=λe=>by have:=(h.val r (F ..)).1;rw[e] at this;cases this
   rw[zg (f:=λi=>n9 fr to (ki (gR (m+1) [r]) p i) (bz [r] i)) λi _=>rfl,M,Zm];show _=if r.2=[] then [] else _
   rw[p_ hv];rfl
 | r::s::t,_,h =>
   by_cases hk:0<cg r.1 ((s::t).getLastD r).1
   ·have hc:gR (m+1) (r::s::t)=⟨2,r.1.take (cg r.1 ((s::t).getLastD r).1),[],cV (if bz (r::s::t) 0=[] then [] else j5 (eM (gR m (bz (r::s::t) 0))))⟩:=by show nv _ (r::s::t)=_;unfold nv;dsimp only;rw[o_ hk]
    have h0: ∀ i,0<i->bz (r::s::t) i=[]:=λi hi=>by rw[dO,o_ hk,p_ (by omega)]
    rw[adg (f:=λi=>n9 fr to (ki (gR (m+1) (r::s::t)) p i) (bz (r::s::t) i)) λi hi=>by rw[h0 i hi];rfl];have e0:bz (r::s::t) 0=eV (cg r.1 ((s::t).getLastD r).1) (r::s::t):=by rw[dO,o_ hk,o_ rfl]
    rw[hc,e0,apw fr to p h.Fb];rfl
   ·have hn: ∀ x,x∈ r::s::t->sF x.1<17:=λx hx=>by
     have:=h.nib x hx;obtain⟨q,v⟩:=x;cases q with
     | nil=>exact bU _
     | cons b q =>have:=this b (F ..);show b.toNat+1<17;omega
    have hc:gR (m+1) (r::s::t)=⟨3,[],if r.1=[] then r.2 else [],iq λi=>if bz (r::s::t) i=[] then [] else j5 (eM (gR m (bz (r::s::t) i)))⟩:=by show nv _ (r::s::t)=_;unfold nv;dsimp only;rw[p_ hk]
    rw[hc,Zl fr to p h.Fb hn,ac6 h.Fb];have hp:cat p []=p:=by show p++[]=p;rw[M]
    congr 1
    ·unfold Pv;dsimp only;by_cases he:r.1=[]
     ·have hv:r.2≠[]:=λe=>by have:=(h.val r (F ..)).1;rw[e] at this;cases this
      rw[o_ he,o_ he,p_ hv,Zm,he]
     ·rw[p_ he,p_ he,o_ rfl];rfl
    ·refine oX λi _=> ?_;rw[dO,p_ hk];unfold ki;rw[o_ rfl];dsimp only;rw[hp]
theorem avl : ∀ {l:List Rw},(gR (m+1) l).v≠[]->∃ x,x∈ l/\(gR (m+1) l).p=x.1
 | [],h=>absurd rfl h
 | [r],_=>⟨r,F ..,rfl⟩
 | r::s::t,h=>by
   refine⟨r,F ..,?_⟩;have e:gR (m+1) (r::s::t)=nv (λl'=>if l'=[] then [] else j5 (eM (gR m l'))) (r::s::t):=rfl
   rw[e] at h ⊢;unfold nv at h ⊢;dsimp only at h ⊢;split at h
   ·exact absurd rfl h
   ·rename_i hk;rw[p_ hk];dsimp only at h ⊢;by_cases he:r.1=[]
    ·exact he.symm
    ·rw[p_ he] at h;exact absurd rfl h
theorem avQ {w:Sp}{l:List Rw}(s:Wk)(hk: ∀ x,x∈ l->oZ (cat p x.1)=u):(s.p4 w (gR (m+1) l) p).fs=s.fs++Pv w.fr w.to p (gR (m+1) l):=by
 show(if p5 w (gR (m+1) l) p=u then s.fs++[(cC (cat p (gR (m+1) l).p),(gR (m+1) l).v)] else s.fs)=_
 unfold p5 Pv;by_cases hv:(gR (m+1) l).v=[]
 ·rw[o_ hv,k_ hv];simp
 ·obtain⟨x,hx,e⟩:=avl hv;rw[p_ hv,l_ hv,e,hk x hx];by_cases hb:hasB w.fr w.to (cat p x.1)=u
  ·rw[o_ hb,hb];rfl
  ·have:hasB w.fr w.to (cat p x.1)=false:=by simpa using hb
   rw[p_ hb,this];simp
theorem YO {l:List Rw}(h:dZ (m+1) l){x:Rw}(hx:x∈ bz l i): ∃ y,y∈ l/\cat (ki (gR (m+1) l) p i) x.1=cat p y.1:=by
 match l,h with
 | [],_=>cases hx
 | [_],_=>cases hx
 | r::s::t,h =>
   have e:gR (m+1) (r::s::t)=nv (λl'=>if l'=[] then [] else j5 (eM (gR m l'))) (r::s::t):=rfl
   rw[dO] at hx;rw[e];unfold nv;dsimp only;split at hx
   ·rename_i hk;rw[o_ hk];split at hx
    ·obtain⟨y,hy,rfl⟩:=bf.1 hx;refine⟨y,hy,?_⟩;show(p++r.1.take (cg r.1 ((s::t).getLastD r).1))++y.1.drop (cg r.1 ((s::t).getLastD r).1)=p++y.1;rw[← vR h.Fb hy,d!,er]
    ·cases hx
   ·rename_i hk;rw[p_ hk];obtain⟨y,hy,rfl⟩:=bf.1 hx;refine⟨y,(P.1 hy).1,?_⟩;have hy:=(P.1 hy).2;rw[AH,m_] at hy;obtain⟨q,v⟩:=y;cases q with
    | nil=>cases hy
    | cons b q =>have hb:b.toNat=i:=Nat.succ.inj hy;show((p++[])++[G i])++q=p++b::q;rw[← hb,c6];simp
theorem aCl: ∀ a,a<16->∀ b,b<16->(a*16%256) ||| b=a*16+b:=by decide
theorem NB {a b:Int}(ha:0<=a/\a<=15)(hb:0<=b/\b<=15):bitsOf .or (a*16%256) b=a*16+b:=by
 obtain⟨x,rfl⟩:=c! ha.1;obtain⟨y,rfl⟩:=c! hb.1;have:=aCl x (by omega) y (by omega);show(((((x:Int)*16%256).toNat ||| ((y:Int)).toNat:Nat):Int))=_;rw[show((x:Int)*16%256).toNat=x*16%256 by omega,L,this]
 push_cast;rfl
theorem Fh {f:Nat->Int}{j:Nat}(h:j<n)(h0:0<=f j/\f j<256):ah (b7 f 0 n) (j:Int)=f j:=by unfold ah b7;rw[cB,L,cL,cO h];simp only[Option.map_some,Option.getD_some,X];rw[an];omega
theorem NY (q:h_)(j:Nat)(h:j<q.length):q[j]?=some (G (ah q (j:Int)).toNat):=by unfold ah;simp[cB,ej h]
theorem PA (hm:q.length=2*m)(hq: ∀ j:Nat,j<q.length->ah q (j:Int)<=15):ak (cC q)=q:=by
 have hnn: ∀ i,0<=ah q i:=λi=>(e8 q i).1;have hl:(cC q).length=m:=by rw[Gy,hm];omega
 have hpair: ∀ i:Nat,i<m->ah (cC q) (i:Int)=ah q ((2*i:Nat):Int)*16+ah q ((2*i+1:Nat):Int):=λi hi=>by
  have h1:=hq (2*i) (by omega);have h2:=hq (2*i+1) (by omega);have h3:=hnn ((2*i:Nat):Int);have h4:=hnn ((2*i+1:Nat):Int);have e:pP q i=ah q ((2*i:Nat):Int)*16+ah q ((2*i+1:Nat):Int):=by unfold pP;rw[show(2*(i:Int))=((2*i:Nat):Int)by push_cast;rfl,show(((2*i:Nat):Int)+1)=((2*i+1:Nat):Int)by push_cast;rfl];exact NB ⟨h3,h1⟩ ⟨h4,h2⟩
  unfold cC;rw[Fh (by rw[hm];omega) (by rw[e];omega),e]
 apply List.ext_getElem?;intro j;by_cases hj:j<q.length
 ·rw[NY q j hj];unfold ak b7;rw[cL,cO (by rw[hl];omega)];simp only[Option.map_some,X,Option.some.injEq];congr 2;obtain⟨i,hi⟩: ∃ i,j=2*i∨j=2*i+1:=⟨j/2,by omega⟩
  have hp:=hpair i (by omega);have h1:=hq (2*i) (by omega);have h2:=hq (2*i+1) (by omega);have h3:=hnn ((2*i:Nat):Int);have h4:=hnn ((2*i+1:Nat):Int);unfold jO;rcases hi with rfl | rfl
  ·rw[o_ (by omega),show(((2*i:Nat):Int)/2)=(i:Int)by omega,hp];omega
  ·rw[p_ (by omega),show(((2*i+1:Nat):Int)/2)=(i:Int)by omega,hp];omega
 ·rw[ek (by rw[jD,hl];omega),ek (by omega)]
theorem Wq (h:ig p=u)(j:Nat)(hj:j<p.length):ah p (j:Int)<=15:=by have:=d_.1 h j (V.2 hj);unfold HW at this;simp only[b!,n_] at this;omega
theorem dz (b:UInt8)(l:h_)(j:Nat):ah (b::l) ((j+1:Nat):Int)=ah l (j:Int):=by unfold ah;rw[L,L];rfl
theorem KF (h:ig p=u)(leaf:Bool):gU (gN p leaf)=u/\fc (gN p leaf)=leaf/\gM (gN p leaf)=p:=by
 have hp:=Wq h;cases ho:decide ((p.length:Int)%2=1)with
 | true =>
   have ho':(p.length:Int)%2=1:=i_ ho;have hflag:mR leaf u<=3/\0<=mR leaf u/\mR leaf u%2=1/\(2<=mR leaf u↔leaf=u):=by cases leaf<;>decide
   have e:ak (gN p leaf)=G (mR leaf u).toNat::p:=by
    unfold gN;rw[ho];refine PA (m:=(p.length+1)/2) (by simp only[cond_true,ay];omega) λj hj=> ?_;cases j with
    | zero =>show((G (mR leaf u).toNat).toNat:Int)<=15;rw[an];omega
    | succ j =>rw[dz];exact hp j (by simpa using hj)
   have e0:ah (ak (gN p leaf)) 0=mR leaf true:=by rw[e];show((G (mR leaf u).toNat).toNat:Int)=_;rw[an];omega
   refine⟨zB.2 ⟨by rw[e];simp,by rw[e0];omega,.inl (by rw[e0];omega)⟩,?_,?_⟩
   ·unfold fc;rw[e0];cases leaf<;>rfl
   ·unfold gM;rw[e0,o_ hflag.2.2.1,e];rfl
 | false =>
   have ho': ¬ (p.length:Int)%2=1:=j_ ho;have hflag:mR leaf C<=3/\0<=mR leaf C/\¬ mR leaf C%2=1/\(2<=mR leaf C↔leaf=u):=by cases leaf<;>decide
   have e:ak (gN p leaf)=G (mR leaf C).toNat::0::p:=by
    unfold gN;rw[ho];refine PA (m:=(p.length+2)/2) (by simp only[cond_false,ay];omega) λj hj=> ?_;cases j with
    | zero =>show((G (mR leaf C).toNat).toNat:Int)<=15;rw[an];omega
    | succ j =>
      rw[dz];cases j with
      | zero=>show((0:UInt8).toNat:Int)<=15;decide
      | succ j =>simp only[cond_false];rw[dz];exact hp j (by simpa using hj)
   have e0:ah (ak (gN p leaf)) 0=mR leaf false:=by rw[e];show((G (mR leaf C).toNat).toNat:Int)=_;rw[an];omega
   refine⟨zB.2 ⟨by rw[e];simp,by rw[e0];omega,.inr (by rw[e];rfl)⟩,?_,?_⟩
   ·unfold fc;rw[e0];cases leaf<;>rfl
   ·unfold gM;rw[e0,p_ hflag.2.2.1,e];rfl
theorem oT (hb:b.length<=1048576):c9 (aS b)=u/\e9 (aS b)=C/\af (aS b)=b/\aH (aS b)=[]:=by
 have:=Q7 hb []
 rwa [M] at this
theorem AX (hb:b.length<=1048576):gk (aS b)=true:=by obtain⟨h1,h2,_,h4⟩:=oT hb;exact zD.2 ⟨h1,h2,h4⟩
theorem O2 {l:List h_}(hl:(flat l).length<=1048576):c9 (kE l)=u/\e9 (kE l)=u/\af (kE l)=flat l/\aH (kE l)=[]:=by
 have:=Y5 hl []
 rwa [M] at this
theorem au4 {l:List h_}(hl:(flat l).length<=1048576):kE l≠[128]:=λh=>by have h1:=(O2 hl).2.1;rw[h] at h1;exact absurd h1 (by decide)
theorem Gq {l:List h_}(hl:(flat l).length<=1048576)(hw: ∀ x∈ l,c9 x=u/\aH x=[]) :
  bO (kE l)=u9 (flat l)/\af (kE l)=flat l/\ga (flat l)=u/\ck (flat l)=l.length/\∀(j:Nat) (x:h_),l[j]?=some x->ax (flat l) j=x:=by
 obtain⟨h1,h2,h3,h4⟩:=O2 hl;obtain⟨i1,i2,i3⟩:=Ol l hw;refine⟨?_,h3,i1,i2,i3⟩;rw[bO,p_ (au4 hl),h1,h2,h4,h3];rfl
theorem I2 {t:h_}(h:jN cS t=u):c9 t=u/\aH t=[]/\t≠[128]/\t≠[]:=by
 have hn: ∀ {t:h_},c9 t=u->t≠[]:=λh e=>by rw[e] at h;exact absurd h (by decide)
 simp only[jN,K] at h;rcases h with h | h
 ·obtain⟨⟨h1,_,h3⟩,h4⟩:=wm.1 h;exact⟨h1,h3,λe=>by have:=ru h;rw[e] at this;simp at this,hn h1⟩
 ·obtain⟨h1,h2,h3⟩:=Ei h;have hs:1<=bO t:=by
   by_cases e:bO t=0
   ·exact absurd (by unfold getD;rw[p_ (by omega),p_ (by omega),p_ (by omega)];rfl) h3
   ·omega
  obtain⟨g1,_,g3,_⟩:=QY hs;exact⟨g1,g3,λe=>by rw[e] at hs;exact absurd hs (by decide),hn g1⟩
def XB (s:h_)(x:Nd):Prop:=0<=bO s/\(getD s).JK x
theorem s6 (j:Nat)(hj:j<16):bX j=[]:=jr (λ_=>[]) j hj
theorem ZR {l:Int}(h:pF x l=u):ig x.p=true:=by simp only[pF,J] at h;exact h.2
theorem ZP (h:ig x.p=u)(leaf:Bool):fB x leaf=gN x.p leaf:=by rw[fB,h];rfl
theorem ab9:c9 [128]=u/\aH [128]=[]:=by have:=oT (b:=[]) (by decide);exact⟨this.1,this.2.2.2⟩
attribute [local irreducible] ax af c9 aH e9 ck ga gk gU fc gM gN aS di
theorem afl (hk:x.k=1)(h:sD x=u):XB (sE x) x:=by
 have hnib:ig x.p=true:=by simp only[sD,J] at h;exact ZR h.1
 obtain⟨h1,_,h3,h4⟩:=Gp h;have l1:=wD (x:=x) (leaf:=u);have l2:=pn (fB x u);have l3:=pn x.v;have l4:=wg (a:=aS (fB x u)) (b:=aS x.v);obtain⟨a1,a2,a3,a4⟩:=oT (b:=fB x u) (by omega);obtain⟨b1,b2,b3,b4⟩:=oT (b:=x.v) (by omega);obtain⟨s1,s2,s3,s4,s5⟩:=Gq (l:=[aS (fB x u),aS x.v]) (by omega) (λy hy=>by
  simp only[O,Z,or_false] at hy;rcases hy with rfl | rfl
  ·exact⟨a1,a4⟩
  ·exact⟨b1,b4⟩)
 have i0:=s5 0 _ rfl;have i1:=s5 1 _ rfl;obtain⟨n1,n2,n3⟩:=KF hnib u;have p0:gk (ax (flat [aS (fB x u),aS x.v]) 0)=true:=by rw[i0];exact AX (by omega)
 have p1:gk (ax (flat [aS (fB x u),aS x.v]) 1)=true:=by rw[i1];exact AX (by omega)
 have c0:af (ax (flat [aS (fB x u),aS x.v]) 0)=gN x.p true:=by rw[i0,a3,ZP hnib]
 have hs:bO (sE x)=1:=by rw[sE,s1,u9,s3,s4];show xY _=1;rw[xY,p0,c0,n1,n2,p1];rfl
 refine⟨by rw[hs];decide,?_⟩;have e:getD (sE x)=xk (sE x):=by unfold getD;rw[o_ hs]
 rw[e];unfold xk sE;rw[s2];refine⟨hk.symm,?_,?_,λj hj=> ?_⟩
 ·show gM (af (ax (flat [aS (fB x u),aS x.v]) 0))=x.p;rw[c0,n3]
 ·show af (ax (flat [aS (fB x u),aS x.v]) 1)=x.v;rw[i1,b3]
 ·rw[h4 j hj];exact s6 j hj
theorem alF (hk:x.k=2)(h:yu cS x=u):XB (B8 x) x:=by
 have hnib:ig x.p=true:=by simp only[yu,J] at h;exact ZR h.1
 obtain⟨h1,h2,h3,_,h4⟩:=J5 h;have hm:jN cS (x.r 0)=true:=by simp only[jN,K];exact h4.imp id λh=>h.1
 obtain⟨r1,r2,_,_⟩:=I2 hm;have rl:=AO hm;have l1:=wD (x:=x) (leaf:=C);have l2:=pn (fB x C);have l4:=wg (a:=aS (fB x C)) (b:=x.r 0);obtain⟨a1,a2,a3,a4⟩:=oT (b:=fB x C) (by omega);obtain⟨s1,s2,s3,s4,s5⟩:=Gq (l:=[aS (fB x C),x.r 0]) (by omega) (λy hy=>by
  simp only[O,Z,or_false] at hy;rcases hy with rfl | rfl
  ·exact⟨a1,a4⟩
  ·exact⟨r1,r2⟩)
 have i0:=s5 0 _ rfl;have i1:=s5 1 _ rfl;obtain⟨n1,n2,n3⟩:=KF hnib C;have p0:gk (ax (flat [aS (fB x C),x.r 0]) 0)=true:=by rw[i0];exact AX (by omega)
 have c0:af (ax (flat [aS (fB x C),x.r 0]) 0)=gN x.p false:=by rw[i0,a3,ZP hnib]
 have hs:bO (B8 x)=2:=by rw[B8,s1,u9,s3,s4];show xY _=2;rw[xY,p0,c0,n1,n2];rfl
 refine⟨by rw[hs];decide,?_⟩;have e:getD (B8 x)=DJ (B8 x):=by unfold getD;rw[p_ (by omega),o_ hs]
 rw[e];unfold DJ B8;rw[s2];refine⟨hk.symm,?_,h2.symm,λj hj=> ?_⟩
 ·show gM (af (ax (flat [aS (fB x C),x.r 0]) 0))=x.p;rw[c0,n3]
 ·show cV (ax (flat [aS (fB x C),x.r 0]) 1) j=x.r j;rw[i1];have:cV (x.r 0) j=(λi=>if i=0 then x.r 0 else []) j:=jr (λi=>if i=0 then x.r 0 else []) j hj
  rw[this];show(if j=0 then x.r 0 else [])=x.r j
  by_cases e:j=0
  ·subst e;rfl
  ·rw[p_ e,h3 j (by omega) hj]
def Rk (x:Nd):List h_:=[dX x.r 16 0,dX x.r 16 1,dX x.r 16 2,dX x.r 16 3,dX x.r 16 4,dX x.r 16 5,dX x.r 16 6,dX x.r 16 7,dX x.r 16 8,dX x.r 16 9,dX x.r 16 10,dX x.r 16 11,dX x.r 16 12,dX x.r 16 13,dX x.r 16 14,dX x.r 16 15,aS x.v]
theorem aul (x:Nd)(j:Nat)(hj:j<16):(Rk x)[j]?=some (dX x.r 16 j):=by
 have:j=0∨j=1∨j=2∨j=3∨j=4∨j=5∨j=6∨j=7∨j=8∨j=9∨j=10∨j=11∨j=12∨j=13∨j=14∨j=15:=by omega
 rcases this with rfl | rfl | rfl | rfl | rfl | rfl | rfl | rfl | rfl | rfl | rfl | rfl | rfl | rfl | rfl | rfl<;>rfl
theorem afW {y:h_}(h:y∈ Rk x):(∃ j,j<16/\y=dX x.r 16 j)∨y=aS x.v:=by
 simp only[Rk,O,Z,or_false] at h;rcases h with h | h | h | h | h | h | h | h | h | h | h | h | h | h | h | h | h
 ·exact .inl ⟨0,by decide,h⟩
 ·exact .inl ⟨1,by decide,h⟩
 ·exact .inl ⟨2,by decide,h⟩
 ·exact .inl ⟨3,by decide,h⟩
 ·exact .inl ⟨4,by decide,h⟩
 ·exact .inl ⟨5,by decide,h⟩
 ·exact .inl ⟨6,by decide,h⟩
 ·exact .inl ⟨7,by decide,h⟩
 ·exact .inl ⟨8,by decide,h⟩
 ·exact .inl ⟨9,by decide,h⟩
 ·exact .inl ⟨10,by decide,h⟩
 ·exact .inl ⟨11,by decide,h⟩
 ·exact .inl ⟨12,by decide,h⟩
 ·exact .inl ⟨13,by decide,h⟩
 ·exact .inl ⟨14,by decide,h⟩
 ·exact .inl ⟨15,by decide,h⟩
 ·exact .inr h
theorem JT (r:Nat->h_)(j:Nat)(hj:j<16):(r j=[]/\dX r 16 j=[128])∨(r j≠[]/\dX r 16 j=r j):=by
 unfold dX;rw[o_ hj];by_cases e:r j=[]
 ·exact .inl ⟨e,by rw[o_ e]⟩
 ·exact .inr ⟨e,by rw[p_ e]⟩
theorem afV (h:iS cS x=u):(flat (Rk x)).length<=617:=by
 obtain⟨_,h2,h3,_⟩:=Au h;have hb: ∀ j,j<16->(dX x.r 16 j).length<=33:=λj hj=>by
  rcases JT x.r j hj with ⟨_,e⟩ | ⟨e0,e⟩
  ·rw[e];decide
  ·rw[e];rcases CS h3 hj with h | h
   ·exact absurd h e0
   ·exact AO h
 have e:flat (Rk x)=flat [dX x.r 16 0,dX x.r 16 1,dX x.r 16 2,dX x.r 16 3,dX x.r 16 4,dX x.r 16 5,dX x.r 16 6,dX x.r 16 7,dX x.r 16 8,dX x.r 16 9,dX x.r 16 10,dX x.r 16 11,dX x.r 16 12,dX x.r 16 13,dX x.r 16 14,dX x.r 16 15]++aS x.v:=by show flat ([dX x.r 16 0,dX x.r 16 1,dX x.r 16 2,dX x.r 16 3,dX x.r 16 4,dX x.r 16 5,dX x.r 16 6,dX x.r 16 7,dX x.r 16 8,dX x.r 16 9,dX x.r 16 10,dX x.r 16 11,dX x.r 16 12,dX x.r 16 13,dX x.r 16 14,dX x.r 16 15]++[aS x.v])=_;simp only[flat,List.flatten_append,List.flatten_cons,List.flatten_nil,M]
 have h6:(flat [dX x.r 16 0,dX x.r 16 1,dX x.r 16 2,dX x.r 16 3,dX x.r 16 4,dX x.r 16 5,dX x.r 16 6,dX x.r 16 7,dX x.r 16 8,dX x.r 16 9,dX x.r 16 10,dX x.r 16 11,dX x.r 16 12,dX x.r 16 13,dX x.r 16 14,dX x.r 16 15]).length<=16*33:=by
  refine VB (m:=33) λy hy=> ?_;simp only[O,Z,or_false] at hy;rcases hy with rfl | rfl | rfl | rfl | rfl | rfl | rfl | rfl | rfl | rfl | rfl | rfl | rfl | rfl | rfl | rfl
  ·exact hb 0 (by decide)
  ·exact hb 1 (by decide)
  ·exact hb 2 (by decide)
  ·exact hb 3 (by decide)
  ·exact hb 4 (by decide)
  ·exact hb 5 (by decide)
  ·exact hb 6 (by decide)
  ·exact hb 7 (by decide)
  ·exact hb 8 (by decide)
  ·exact hb 9 (by decide)
  ·exact hb 10 (by decide)
  ·exact hb 11 (by decide)
  ·exact hb 12 (by decide)
  ·exact hb 13 (by decide)
  ·exact hb 14 (by decide)
  ·exact hb 15 (by decide)
 have h7:=pn x.v;rw[e,en];omega
theorem Xg (hk:x.k=3)(h:iS cS x=u):XB (mc x) x:=by
 obtain⟨h1,h2,h3,_⟩:=Au h;have hl:=afV h;have hT:mc x=kE (Rk x):=rfl;obtain⟨b1,b2,b3,b4⟩:=oT (b:=x.v) (by omega);have hw: ∀ y∈ Rk x,c9 y=u/\aH y=[]:=λy hy=>by
  rcases afW hy with ⟨j,hj,rfl⟩ | rfl
  ·rcases JT x.r j hj with ⟨_,e⟩ | ⟨e0,e⟩
   ·rw[e];exact ab9
   ·rw[e];rcases CS h3 hj with g | g
    ·exact absurd g e0
    ·exact⟨(I2 g).1,(I2 g).2.1⟩
  ·exact⟨b1,b4⟩
 obtain⟨s1,s2,s3,s4,s5⟩:=Gq (l:=Rk x) (by omega) hw;have i16:ax (flat (Rk x)) 16=aS x.v:=s5 16 _ rfl;have p16:gk (ax (flat (Rk x)) 16)=true:=by rw[i16];exact AX (by omega)
 have hs:bO (mc x)=3:=by
  rw[hT,s1,u9,s3,s4];show(bif gk (ax (flat (Rk x)) 16)then(3:Int)else -1)=3
  rw[p16];rfl
 refine⟨by rw[hs];decide,?_⟩;have e:getD (mc x)=oO (mc x):=by unfold getD;rw[p_ (by omega),p_ (by omega),o_ hs]
 rw[e];unfold oO;rw[hT,s2];refine⟨hk.symm,h1.symm,?_,λj hj=> ?_⟩
 ·show af (ax (flat (Rk x)) 16)=x.v;rw[i16,b3]
 ·show iq (fV (flat (Rk x))) j=x.r j;have e1:iq (fV (flat (Rk x))) j=fV (flat (Rk x)) j:=jr _ j hj;rw[e1,fV,s5 j _ (aul x j hj)];rcases JT x.r j hj with ⟨e0,e⟩ | ⟨e0,e⟩
  ·rw[e,o_ rfl,e0]
  ·rw[e];rcases CS h3 hj with g | g
   ·exact absurd g e0
   ·rw[p_ (I2 g).2.2.1]
theorem afm (h:wA x=u):XB [128] x:=by
 obtain⟨h0,h1,h2,h3⟩:=Pn h;have hs:bO [128]=0:=by decide
 refine⟨by rw[hs];decide,?_⟩;have e:getD [128]=iL:=by unfold getD;rw[p_ (by omega),p_ (by omega),p_ (by omega)]
 rw[e];exact⟨h0.symm,h1.symm,h2.symm,λj hj=>by rw[h3 j hj];exact s6 j hj⟩
theorem CY :(x.k=0->eM x=[128])/\(x.k=1->eM x=sE x)/\(x.k=2->eM x=B8 x)/\(x.k=3->eM x=mc x):=by unfold eM;refine⟨λh=>by rw[o_ h],λh=>by rw[p_ (by omega),o_ h],λh=>by rw[p_ (by omega),p_ (by omega),o_ h],λh=>by rw[p_ (by omega),p_ (by omega),p_ (by omega)]⟩
theorem alG (h:aZ x=u):XB (eM x) x:=by
 rcases yj h with ⟨hk,h⟩ | ⟨hk,h⟩ | ⟨hk,h⟩ | ⟨hk,h⟩
 ·rw[CY.1 hk];exact afm h
 ·rw[CY.2.1 hk];exact afl hk h
 ·rw[CY.2.2.1 hk];exact alF hk h
 ·rw[CY.2.2.2 hk];exact Xg hk h
theorem mV (h:aZ x=u):bM (eM x)=u/\(getD (eM x)).JK x:=by
 obtain⟨h1,h2⟩:=alG h;refine⟨?_,h2⟩;unfold bM Oo;rw[k_ h1,show mN cS (getD (eM x))=u from(qX h2).trans h,EG h2]
 simp
theorem Ef (h:bM s=u):0<=bO s/\aZ (getD s)=u/\eM (getD s)=s:=by unfold bM Oo at h;simp only[J,m_] at h;exact h
theorem WH (h:aZ x=u):1<=(eM x).length/\(eM x).length<=700:=by
 have hp: ∀ l:List h_,1<=(kE l).length/\(kE l).length<=(flat l).length+9:=λl=>by have h1:=Oy 192 (flat l).length;have h2:=CJ 192 (flat l).length;unfold kE;rw[en];omega
 rcases yj h with ⟨hk,h⟩ | ⟨hk,h⟩ | ⟨hk,h⟩ | ⟨hk,h⟩
 ·rw[CY.1 hk];decide
 ·rw[CY.2.1 hk];obtain⟨h1,_,h3,_⟩:=Gp h;have l1:=wD (x:=x) (leaf:=u);have l2:=pn (fB x u);have l3:=pn x.v;have l4:=wg (a:=aS (fB x u)) (b:=aS x.v);have:=hp [aS (fB x u),aS x.v];unfold sE;omega
 ·rw[CY.2.2.1 hk];obtain⟨h1,h2,h3,_,h4⟩:=J5 h;have hm:jN cS (x.r 0)=true:=by simp only[jN,K];exact h4.imp id λh=>h.1
  have rl:=AO hm;have l1:=wD (x:=x) (leaf:=C);have l2:=pn (fB x C);have l4:=wg (a:=aS (fB x C)) (b:=x.r 0);have:=hp [aS (fB x C),x.r 0];unfold B8;omega
 ·rw[CY.2.2.2 hk];have hl:=afV h;have:=hp (Rk x);show 1<=(kE (Rk x)).length/\(kE (Rk x)).length<=700;omega
end
section
open Go Sx
set_option maxRecDepth 20000
theorem AT (t:h_)(j:Nat)(hj:j<16):cV t j=if j=0 then t else []:=jr (λj=>if j=0 then t else []) j hj
theorem Hj (m:Nat)(l:List Rw)(hi:i<16):(gR (m+1) l).r i=if bz l i=[] then [] else j5 (ctext m (bz l i)):=by
 match l with
 | []=>exact s6 i hi
 | [_]=>exact s6 i hi
 | r::s::t =>
   have e:gR (m+1) (r::s::t)=nv (λl'=>if l'=[] then [] else j5 (eM (gR m l'))) (r::s::t):=rfl
   rw[e];unfold nv;dsimp only;by_cases hk:0<cg r.1 ((s::t).getLastD r).1
   ·rw[o_ hk];dsimp only;rw[AT _ i hi];by_cases h0:i=0
    ·subst h0;rw[o_ rfl];rfl
    ·rw[p_ h0,dO,o_ hk,p_ h0,o_ rfl]
   ·rw[p_ hk];dsimp only;exact jr (λi=>if bz (r::s::t) i=[] then [] else j5 (eM (gR m (bz (r::s::t) i)))) i hi
theorem Pf (f:Nat->h_)(j:Nat)(hj:j<16):iq f j=f j:=jr f j hj
theorem apz (h: ∀ j,j<16->f j=g j):iq f=iq g:=by unfold iq;rw[h 0 (by decide),h 1 (by decide),h 2 (by decide),h 3 (by decide),h 4 (by decide),h 5 (by decide),h 6 (by decide),h 7 (by decide),h 8 (by decide),h 9 (by decide),h 10 (by decide),h 11 (by decide),h 12 (by decide),h 13 (by decide),h 14 (by decide),h 15 (by decide)]
def Nd.Six (x:Nd):Prop:=∃ f,x.r=iq f
theorem aoi (s:h_):(getD s).Six:=by
 unfold getD;split
 ·exact⟨λ_=>[],rfl⟩
 ·split
  ·exact⟨λj=>if j=0 then ax (af s) 1 else [],rfl⟩
  ·split
   ·exact⟨_,rfl⟩
   ·exact⟨λ_=>[],rfl⟩
theorem auo: ∀(m:Nat) (l:List Rw),(gR m l).Six
 | 0,_=>⟨λ_=>[],rfl⟩
 | _+1,[]=>⟨λ_=>[],rfl⟩
 | _+1,[_]=>⟨λ_=>[],rfl⟩
 | m+1,r::s::t=>by
   have e:gR (m+1) (r::s::t)=nv (λl'=>if l'=[] then [] else j5 (eM (gR m l'))) (r::s::t):=rfl
   rw[e];unfold nv;dsimp only;split
   ·exact⟨λj=>if j=0 then(if bz (r::s::t) 0=[] then [] else j5 (eM (gR m (bz (r::s::t) 0))))else [],rfl⟩
   ·exact⟨λi=>if bz (r::s::t) i=[] then [] else j5 (eM (gR m (bz (r::s::t) i))),rfl⟩
theorem asw {y:Nd}(hx:x.Six)(hy:y.Six)(h:x.JK y):x=y:=by
 obtain⟨f,hf⟩:=hx;obtain⟨g,hg⟩:=hy;have hr:x.r=y.r:=by rw[hf,hg];refine apz λj hj=> ?_;have:=h.r j hj;rw[hf,hg,Pf f j hj,Pf g j hj] at this;exact this
 obtain⟨k,p,v,r⟩:=x;obtain⟨k',p',v',r'⟩:=y;have h1:=h.k;have h2:=h.p;have h3:=h.v;dsimp only at h1 h2 h3 hr;subst h1;subst h2;subst h3;subst hr;rfl
theorem sV {l:List Rw}(h:aZ (gR m l)=u):getD (ctext m l)=gR m l:=asw (aoi _) (auo m l) (mV h).2
theorem adM {v:h_}(hp:p.length<=12)(hn:ig p=u)(hv:0<v.length/\v.length<=80):aZ ⟨1,p,v,bX⟩=true:=by
 show sD ⟨1,p,v,bX⟩=u;have hb:dG bX 16=0:=by decide
 have h1:v≠[]:=λe=>by rw[e] at hv;exact absurd hv.1 (eu _)
 unfold sD pF;dsimp only;rw[hn,hb,l_ h1,k_ (show(p.length:Int)<=12 by omega),k_ (show(v.length:Int)<=80 by omega),k_ (show(0:Int)<=(p.length:Int)by omega)];rfl
theorem tw (h:s.length<32):j5 s=s:=o_ h
theorem tv (h: ¬ s.length<32):cH (j5 s)=u/\af (j5 s)=bg s/\(j5 s).length=33:=by
 have e:j5 s=aS (bg s)++[]:=by rw[j5,p_ h,M]
 obtain⟨h1,h2,h3,h4⟩:=Q7 (b:=bg s) (by rw[Jf];decide) [];rw[← e] at h1 h2 h3 h4;have hb:cH (j5 s)=true:=wm.2 ⟨⟨h1,h2,h4⟩,by rw[h3];exact Jf s⟩;exact⟨hb,h3,ru hb⟩
theorem OE (h:aZ x=u)(hk:x.k≠0)(hl:(eM x).length<32):cS (eM x)=u/\(getD (eM x)).JK x:=by obtain⟨g1,g2⟩:=mV h;refine⟨?_,g2⟩;rw[AI,k_ hl,g1,l_ (by rw[g2.k];exact hk)];rfl
theorem Zg (h:aZ x=u)(hk:x.k≠0):jN cS (j5 (eM x))=u/\j5 (eM x)≠[]:=by
 by_cases hl:(eM x).length<32
 ·have e:=tw hl;refine⟨?_,?_⟩
  ·rw[e,jN,(OE h hk hl).1];simp
  ·rw[e];have:=(WH h).1;intro e0;rw[e0] at this;simp at this
 ·obtain⟨h1,_,h3⟩:=tv hl;refine⟨by rw[jN,h1];rfl,λe0=> ?_⟩;rw[e0] at h3;simp at h3
theorem aer (h: ∀ b,b∈ p->b.toNat<16):ig p=true:=by
 unfold ig;rw[d_];intro i hi;have hi:=V.1 hi;have:ah p (i:Int)=((p[i]).toNat:Int):=by unfold ah;simp[ej hi]
 have hb:=h p[i] (List.getElem_mem hi);rw[HW,this,l_ (by omega)];rfl
theorem Yw (r:Nat->h_): ∀ n,0<=fH r n
 | 0=>Int.le_refl _
 | n+1=>by have:=Yw r n;unfold fH;split<;>omega
theorem J8 {r:Nat->h_}{i:Nat}(hr:r i≠[]): ∀ {n},i<n->1<=fH r n
 | 0,h=>absurd h (Q _)
 | n+1,h=>by
   unfold fH;by_cases e:i=n
   ·subst e;rw[p_ hr];have:=Yw r i;omega
   ·have:=J8 hr (n:=n) (by omega);split<;>omega
theorem J9 {r:Nat->h_}{i j:Nat}(hij:i<j)(hi:r i≠[])(hj:r j≠[]): ∀ {n},j<n->2<=fH r n
 | 0,h=>absurd h (Q _)
 | n+1,h=>by
   unfold fH;by_cases e:j=n
   ·subst e;rw[p_ hj];have:=J8 hi (n:=j) hij;omega
   ·have:=J9 hij hi hj (n:=n) (by omega);split<;>omega
theorem agT {r:Nat->h_}: ∀ {n},(∀ i,i<n->r i=[]∨jN cS (r i)=u)->rC cS r n=u
 | 0,_=>rfl
 | n+1,h=>by
   unfold rC;rw[agT λi hi=>h i (by omega)];rcases h n (Nat.lt_succ_self n)with e | e
   ·rw[k_ e];rfl
   ·rw[e];simp
theorem acu {t:h_}(ht:t≠[]):dG (cV t) 16=1:=by
 have key: ∀ n,n<16->dG (cV t) (n+1)=1:=by
  intro n;induction n with
  | zero=>intro _;unfold dG;rw[AT t 0 (by decide),o_ rfl,p_ ht];rfl
  | succ n ih =>
    intro hn;have e:cV t (n+1)=[]:=by rw[AT t (n+1) hn,p_ (by omega)]
    unfold dG;rw[o_ e];exact ih (by omega)
 exact key 15 (by decide)
theorem ajI {a b:UInt8}(h: ¬ 0<cg (a::p) (b::q)):a≠b:=λe=>by subst e;unfold cg at h;rw[o_ rfl] at h;exact h (bU _)
theorem aoP {l:List Rw}{r s:Rw}{t:List Rw}(hl:l=r::s::t)(hc: ¬ 0<cg r.1 ((s::t).getLastD r).1){b:UInt8}{v:h_}(hx:(b::q,v)∈ l):bz l b.toNat≠[]:=by subst hl;rw[dO,p_ hc];intro e;have:(q,v)∈ eV 1 (jz b.toNat (r::s::t)):=bf.2 ⟨(b::q,v),P.2 ⟨hx,by simp[qt]⟩,rfl⟩;rw[e] at this;cases this
theorem Cw {r s:Rw}{t:List Rw}(k:Nat):(eV k (r::s::t))=(r.1.drop k,r.2)::(s.1.drop k,s.2)::eV k t:=rfl
theorem Kl (k:Nat): ∀(r:Rw) (l:List Rw),(eV k l).getLastD (r.1.drop k,r.2)=((l.getLastD r).1.drop k,(l.getLastD r).2)
 | r,[]=>rfl
 | r,s::l=>by
   rw[show eV k (s::l)=(s.1.drop k,s.2)::eV k l from rfl,Y,Y]
   exact Kl k s l
theorem JY: ∀(a b:h_),cg (a.drop (cg a b)) (b.drop (cg a b))=0
 | [],b=>by simp[cg]
 | a::p,[]=>by simp[cg]
 | a::p,b::q=>by
   by_cases e:a=b
   ·have:cg (a::p) (b::q)=cg p q+1:=by simp only[cg,o_ e]
    rw[this];simp only[ct];exact JY p q
   ·have:cg (a::p) (b::q)=0:=by simp only[cg,p_ e]
    rw[this,ef,ef,this]
theorem anM {l:List Rw}(hl:l≠[]):(gR (m+1) l).k≠0/\((gR (m+1) l).k=3↔∃ r s t,l=r::s::t/\¬ 0<cg r.1 ((s::t).getLastD r).1):=by
 match l,hl with
 | [r],_=>exact⟨by show(1:Int)≠0;decide,⟨λh=>absurd h (by show ¬ (1:Int)=3;decide),fun⟨_,_,_,h,_⟩=>by cases h⟩⟩
 | r::s::t,_ =>
   have e:gR (m+1) (r::s::t)=nv (λl'=>if l'=[] then [] else j5 (eM (gR m l'))) (r::s::t):=rfl
   rw[e];unfold nv;dsimp only;by_cases hk:0<cg r.1 ((s::t).getLastD r).1
   ·rw[o_ hk];exact⟨by show(2:Int)≠0;decide,⟨λh=>absurd h (by show ¬ (2:Int)=3;decide),fun⟨r',s',t',h,h2⟩=>by injection h with h1 h;injection h with h3 h4;subst h1;subst h3;subst h4;exact absurd hk h2⟩⟩
   ·rw[p_ hk];exact⟨by show(3:Int)≠0;decide,⟨λ_=>⟨r,s,t,rfl,hk⟩,λ_=>rfl⟩⟩
theorem aAf (hk:x.k=3):aZ x=iS cS x:=by unfold aZ mN;rw[hk];rfl
theorem jB: ∀ {m:Nat} {l:List Rw},m<=13->dZ m l->l≠[]->aZ (gR m l)=u
 | 0,[],_,_,h=>absurd rfl h
 | 0,r::_,_,h,_=>absurd (h.len r (F ..)) (Q _)
 | m+1,[],_,_,h=>absurd rfl h
 | m+1,[r],hm,h,_=>by have h1:=h.len r (F ..);exact adM (by omega) (aer (h.nib r (F ..))) (h.val r (F ..))
 | m+1,r::s::t,hm,h,_=>by
   have kid: ∀ i,bz (r::s::t) i≠[]->jN cS (j5 (ctext m (bz (r::s::t) i)))=u/\j5 (ctext m (bz (r::s::t) i))≠[]:=λi hi=>by
    have hv:=jB (m:=m) (by omega) (mW h i) hi;have hk:(gR m (bz (r::s::t) i)).k≠0:=by
     match m,mW h i with
     | 0,ho =>
       cases hkr:bz (r::s::t) i with
       | nil=>exact absurd hkr hi
       | cons x y=>rw[hkr] at ho;exact absurd (ho.len x (F ..)) (Q _)
     | m+1,_=>exact(anM hi).1
    exact Zg hv hk
   have hr:=h.len r (F ..);by_cases hk:0<cg r.1 ((s::t).getLastD r).1
   ·have e:gR (m+1) (r::s::t)=⟨2,r.1.take (cg r.1 ((s::t).getLastD r).1),[],cV (j5 (ctext m (bz (r::s::t) 0)))⟩:=by
     show nv _ (r::s::t)=_;unfold nv;dsimp only;rw[o_ hk];have:bz (r::s::t) 0≠[]:=by rw[dO,o_ hk,o_ rfl,Cw];exact cl _ _
     rw[p_ this];rfl
    have hk0:bz (r::s::t) 0=eV (cg r.1 ((s::t).getLastD r).1) (r::s::t):=by rw[dO,o_ hk,o_ rfl]
    have hne:bz (r::s::t) 0≠[]:=by rw[hk0,Cw];exact cl _ _
    obtain⟨g1,g2⟩:=kid 0 hne;have hle:=(tI r.1 ((s::t).getLastD r).1).1;rw[e];show yu cS _=u;unfold yu pF;dsimp only;have e0:cV (j5 (ctext m (bz (r::s::t) 0))) 0=j5 (ctext m (bz (r::s::t) 0)):=by rw[AT _ 0 (by decide)];exact o_ rfl
    simp only[e0];rw[aer (λb hb=>h.nib r (F ..) b (List.mem_of_mem_take hb)),acu g2];rw[a_,Nat.min_eq_left hle,k_ (show(1:Int)<=(cg r.1 ((s::t).getLastD r).1:Int)by omega),k_ (show(cg r.1 ((s::t).getLastD r).1:Int)<=12 by omega)];simp only[decide_true,c_,Bool.and_self];rcases Bool.eq_false_or_eq_true (cH (j5 (ctext m (bz (r::s::t) 0))))with hh | hh
    ·rw[hh];rfl
    ·rw[jN,hh,b_] at g1;rw[hh,g1,b_,c_];have hlt:(ctext m (bz (r::s::t) 0)).length<32:=by
      by_cases hlt:(ctext m (bz (r::s::t) 0)).length<32
      ·exact hlt
      ·rw[(tv hlt).1] at hh;cases hh
     rw[tw hlt];have ho:=mW h 0;have hv:=jB (m:=m) (by omega) ho hne;rw[show getD (ctext m (bz (r::s::t) 0))=gR m (bz (r::s::t) 0)from sV hv]
     match m,ho with
     | 0,ho =>
       cases hkr:bz (r::s::t) 0 with
       | nil=>exact absurd hkr hne
       | cons x y=>rw[hkr] at ho;exact absurd (ho.len x (F ..)) (Q _)
     | m+1,_ =>refine k_ ((anM hne).2.2 ⟨_,_,_,hk0.trans (Cw _),?_⟩);have:((s.1.drop (cg r.1 ((s::t).getLastD r).1),s.2)::eV (cg r.1 ((s::t).getLastD r).1) t).getLastD (r.1.drop (cg r.1 ((s::t).getLastD r).1),r.2)=_:=Kl (cg r.1 ((s::t).getLastD r).1) r (s::t);rw[this,JY];exact eu 0
   ·have e:gR (m+1) (r::s::t)=⟨3,[],if r.1=[] then r.2 else [],iq λi=>if bz (r::s::t) i=[] then [] else j5 (ctext m (bz (r::s::t) i))⟩:=by show nv _ (r::s::t)=_;unfold nv;dsimp only;rw[p_ hk];rfl
    have hget: ∀ i,i<16->(iq λi=>if bz (r::s::t) i=[] then [] else j5 (ctext m (bz (r::s::t) i))) i=if bz (r::s::t) i=[] then [] else j5 (ctext m (bz (r::s::t) i)):=λi hi=>Pf _ i hi
    have full: ∀ i,i<16->bz (r::s::t) i≠[]->(iq λi=>if bz (r::s::t) i=[] then [] else j5 (ctext m (bz (r::s::t) i))) i≠[]:=λi hi hne=>by rw[hget i hi,p_ hne];exact(kid i hne).2
    have hrv:=h.val r (F ..);have hlast:(s::t).getLastD r∈ r::s::t:=zo r (s::t);have hls:D r.1 ((s::t).getLastD r).1=true:=by have hp:=h.Fb;unfold xE at hp;rw[ag] at hp;refine hp.1 _ ?_;rw[Y];exact zo s t
    rw[e,aAf rfl];unfold iS;dsimp only;have hcount:(2:Int)<=min ((if r.1=[] then r.2 else []).length:Int) 1+fH (iq λi=>if bz (r::s::t) i=[] then [] else j5 (ctext m (bz (r::s::t) i))) 16:=by
     generalize hz:(s::t).getLastD r=z at hk hlast hls;obtain⟨rp,rv⟩:=r;obtain⟨zp,zv⟩:=z;cases zp with
     | nil=>cases rp<;>simp[D] at hls
     | cons b q =>
       have hb:b.toNat<16:=h.nib _ hlast b (F ..);have hkb:bz ((rp,rv)::s::t) b.toNat≠[]:=aoP rfl (by rw[hz];exact hk) hlast;cases rp with
       | nil =>have:=J8 (full _ hb hkb) (n:=16) hb;simp only[if_true];have h1:0<rv.length:=hrv.1;omega
       | cons a p =>
         have ha:a.toNat<16:=h.nib _ (F ..) a (F ..);have hka:bz ((a::p,rv)::s::t) a.toNat≠[]:=aoP rfl (by rw[hz];exact hk) (F ..);have hab:a.toNat≠b.toNat:=λe=>ajI hk (UInt8.toNat_inj.1 e);rw[p_ (cl _ _)];have:2<=fH (iq λi=>if bz ((a::p,rv)::s::t) i=[] then [] else j5 (ctext m (bz ((a::p,rv)::s::t) i))) 16:=by
          rcases Nat.lt_or_gt_of_ne hab with hlt | hgt
          ·exact J9 hlt (full _ ha hka) (full _ hb hkb) hb
          ·exact J9 hgt (full _ hb hkb) (full _ ha hka) ha
         show(2:Int)<=min ((0:Nat):Int) 1+_;omega
    have hvl:((if r.1=[] then r.2 else []).length:Int)<=80:=by
     split
     ·have:=hrv.2;omega
     ·show((0:Nat):Int)<=80;omega
    rw[k_ hcount,k_ hvl,agT λi hi=> ?_]
    ·rfl
    ·rw[hget i hi];by_cases hn:bz (r::s::t) i=[]
     ·exact .inl (o_ hn)
     ·rw[p_ hn];exact .inr (kid i hn).1
theorem vK {k:IntKind}{l:Bool}{a b:Int}(h:a=b):ai (.int k l a) (.int k C b):=λE=>by subst h;rfl
theorem CA {x:Nat}(hx:x<n)(h:qC f g x=C):ai (.int .i64 u 1) (.int .i64 C (iT n f g)):=by have:Yg n f g=false:=dr.2 ⟨x,V.2 hx,by rw[h];decide⟩;exact vK (by rw[iT,this];rfl)
theorem X1 (n:Nat)(hn:n<9223372036854775808)(f g:Nat->h_)(z:Bool)(o c:Nat)(key:Option Nat):au (je (am4 n f g) 62 Tryz.f62 [.cT 0 2 z o 0 n c] [fX z o c n f g key] (.ret (.int .i64 C (iT n f g)))):=by
 refine au.xD (awg n f g z o c key) (by delta Fk Bk I6 Ix Er NI aM cQ bx bF bq kI aj az bt aD cw rI aX gE aP gS fy i5 cR dF dR lS lu iD fO mS rQ pL kY wZ;exact rfl) ?_;simp only[L,X,true_and,b!,Bool.not_eq_false',m_,n_];refine⟨⟨0,iC.zero _ _,rfl⟩,λx hx=>⟨λh=> ?_,λh=> ?_⟩⟩
 ·have hlt:x<n:=by omega
  refine⟨by omega,hlt,λa1=>⟨λa2=>CA hlt ?_,λa2=>⟨λa3=>⟨λa4=>CA hlt ?_,λa4=>⟨λa5=>⟨by omega,by omega,by omega,λa6=>CA hlt ?_,λa6=>⟨by omega,x+1,⟨hx.next h ?_,by omega⟩,by omega⟩⟩,λa5=>⟨by omega,x+1,⟨hx.next h ?_,by omega⟩,by omega⟩⟩⟩,λa3=>CA hlt ?_⟩⟩,λa1=>CA hlt ?_⟩
  ·simp[qC,Ki,a2]
  ·simp[qC,EX,a4]
  ·rw[show((x:Int)-1).toNat=x-1 by omega] at a6;have:x≠0:=by omega
   simp[qC,a6,this]
  ·rw[show((x:Int)-1).toNat=x-1 by omega] at a6;simp[qC,Ki,EX,a1,a2,a3,a4,a6]
  ·have:x=0:=by omega
   subst this;simp[qC,Ki,EX,a1,a2,a3,a4]
  ·simp[qC,EX,a3]
  ·simp[qC,Ki,a1]
 ·have he:Yg n f g=true:=hx.done h;exact⟨λh2=>vK (by rw[iT,he,cond_true,o_ h2]),λh2=>vK (by rw[iT,he,cond_true,p_ h2])⟩
theorem Yn (n:Nat)(f g:Nat->h_)(z:Bool)(o c:Nat)(key:Option Nat):au (je (anc n f g) 19 Tryz.f19 [.cT 0 2 z o 0 n c] [fX z o c n f g key] (.ret (.bool C (Hx n f g)))):=by
 refine au.xD (awn n f g z o c key) (by delta Fk I6 Ix Er NI gO aM cQ bx aj dM bt fR gb aD cw aP gS fy i5 cR dF lu nH iD ju mS rQ pL kY;exact rfl) ?_;simp only[L,X,true_and,m_,n_];have bad: ∀ {x},x<n->Fl f g x=C->ai (.bool u C) (.bool C (Hx n f g)):=λ{x} hx h=>bL (by have:(H n).all (Fl f g)=false:=dr.2 ⟨x,V.2 hx,by rw[h];decide⟩;rw[Hx,this,c7])
 refine⟨⟨0,⟨iC.zero _ _,R _⟩,rfl⟩,λx hx=>⟨λh=>⟨λh1=> ?_,λh1=> ?_⟩,λh=> ?_⟩⟩
 ·have hlt:x<n:=by omega
  refine⟨by omega,hlt,λa1=>bad hlt ?_,λa1=>⟨by omega,hlt,λa2=>bad hlt ?_,λa2=>⟨by omega,x+1,⟨⟨hx.up.next h ?_,by omega⟩,by omega⟩,by omega⟩⟩⟩
  ·simp[Fl,a1]
  ·simp[Fl,a2]
  ·have e1: ¬ (20:Int)<(f x).length:=a1;have e2: ¬ (100:Int)<(g x).length:=a2;rw[Fl,l_ e1,l_ e2];rfl
 ·refine bL ?_;have: ¬ (n:Int)<=45:=by omega
  rw[Hx,l_ this];rfl
 ·refine bL ?_;rw[Hx,hx.up.done h,Bool.and_true]
theorem LB {cs:List bh}{tot tot':Nat}(ht:tot=tot'):aa (.cells [] tot ty) (.rows C 0 cs C tot' ty):=by subst ht;refine aa.of rfl rfl λ_=>⟨rfl,λE o ⟨c,fr,h1,h2,h3,h4⟩=>⟨c,fr,h1,λ_=>h2,by omega,h4,λi k col hi _=>absurd hi (Q _)⟩,id⟩
theorem fI (n:Nat)(f g:Nat->h_):(aQ n f g).length=n:=by simp[aQ]
theorem HP (h:i<n):(aQ n f g).getD i ([],[])=(f i,g i):=by rw[cB,aQ,cL,cO h];rfl
theorem QO {l:List Rw}(hl:l=aQ n f g)(hc:c=c'):aa (.rows z n [.str f,.str g] C (c*2) ty) (.rows z l.length [nj l,nk l] C (c'*2) ty):=by
 subst hl;subst hc;refine tM (fI n f g).symm rfl rfl λk d d' h1 h2 i hi E=> ?_
 match k,h1,h2 with
 | 0,h1,h2 =>injection h1 with h1;injection h2 with h2;subst h1;subst h2;simp only[nj,bh.at,HP hi]
 | 1,h1,h2 =>injection h1 with h1;injection h2 with h2;subst h1;subst h2;simp only[nk,bh.at,HP hi]
 | k+2,h1,_=>simp at h1
theorem abl {f' g':Nat->h_}{n':Nat}(hn:n=n')(hc:c=c')(hf: ∀ i,i<n->f i=f' i)(hg: ∀ i,i<n->g i=g' i):aa (.rows z n [.str f,.str g] C (c*2) ty) (.rows z n' [.str f',.str g'] C (c'*2) ty):=by
 refine tM hn (by rw[hc]) rfl λk d d' h1 h2 i hi E=> ?_
 match k,h1,h2 with
 | 0,h1,h2 =>injection h1 with h1;injection h2 with h2;subst h1;subst h2;simp only[bh.at,hf i hi]
 | 1,h1,h2 =>injection h1 with h1;injection h2 with h2;subst h1;subst h2;simp only[bh.at,hg i hi]
 | k+2,h1,_=>simp at h1
theorem NH {α:Type}{j:Nat}(x:Nat->α)(y:Nat->α)(h:j<n+1)(hy:y 0=x n):(if j<n then x j else y (j-n))=x j:=by
 by_cases e:j<n
 ·rw[o_ e]
 ·have:j=n:=by omega
  subst this;rw[p_ e,Nat.sub_self,hy]
theorem vS {k k' w n':Nat}(hk:k=k')(hn:n=n')(hc:c=c'):ai (.bY k w z i n c) (.bY k' w z i n' c'):=λE=>by subst hk;subst hn;subst hc;rfl
theorem ae8 (n:Nat)(f g:Nat->h_)(hn:n<=1000)(hf: ∀ i,i<n->(f i).length<1099511627776)(z:Bool)(o c:Nat)(key:Option Nat):au (je (anv n f g) 64 Tryz.f64 [.cT 0 2 z o 0 n c] [fX z o c n f g key] (QM (aQ n (λi=>ak (f i)) g))):=by
 refine au.xD (aAG n f g z o c key) (by delta Fk I6 Ix Er NI fu aJ cQ eC aj bH aC fQ az cM bt dU Mw dy aD cw bJ aB b8 gZ dx cK dg eD j8 mL kP aP cN gY A7 bS lu dB pT yF iM bG jc nS vg ahq qP qR DB ya fZ qU aK iY DG kK T6 zV ah9;exact rfl) ?_;simp only[L,X,true_and,m_,n_];refine⟨by omega,⟨(0,n),⟨R _,R _⟩,rfl,⟨rfl,rfl⟩,LB rfl⟩,λx hx=>⟨λh=> ?_,λh=> ?_⟩⟩
 ·have hlt:x.1<n:=by omega
  refine⟨by omega,hlt,hf _ hlt,⟨bn _,by omega,by omega⟩,λc hc=>⟨by omega,(x.1+1,c),⟨⟨by show x.1+1<=_;omega,hc⟩,by show _-(x.1+1)<_;omega⟩,by show(x.1:Int)+1=((x.1+1:Nat):Int);omega,⟨rfl,rfl⟩,abl rfl rfl (λj hj=> ?_) λj hj=> ?_⟩⟩
  ·exact NH (λj=>ak (f j)) (l9 [ak (f x.1)]) hj rfl
  ·exact NH g (l9 [g x.1]) hj rfl
 ·have e:x.1=n:=by have:=hx.1;omega
  exact⟨x.2,by rw[fI];have:=hx.2;omega,by rw[e];exact QO rfl rfl,vS rfl (by rw[fI,e]) rfl⟩
theorem ac5 (k n:Nat)(f g:Nat->h_):eV k (aQ n f g)=aQ n (λi=>(f i).drop k) g:=by unfold eV aQ;rw[List.map_map];rfl
theorem RT (n k:Nat)(f g:Nat->h_)(hn:n<=1000)(hk: ∀ i,i<n->k<=(f i).length)(z:Bool)(o c:Nat)(key:Option Nat):au (je (anG n k f g) 102 Tryz.f102 [.cT 0 2 z o 0 n c,.int .i64 C k] [fX z o c n f g key] (QM (eV k (aQ n f g)))):=by
 refine au.xD (al8 n k f g z o c key) (by delta Fk I6 Ix Er NI aJ cQ bx aj bH aC fQ az cM bt dU kM cc dy aD cw bJ aB b8 gZ dx dg eD j8 mL kP aP cN gY A7 lu iM bG jc nS vg ahq qP qR DB ah0 ya fZ B3 qU aK iY;exact rfl) ?_;simp only[L,X,true_and,m_,n_];refine⟨by omega,⟨(0,n),⟨R _,R _⟩,rfl,⟨rfl,rfl⟩,LB rfl⟩,λx hx=>⟨λh=> ?_,λh=> ?_⟩⟩
 ·have hlt:x.1<n:=by omega
  have hkl:=hk _ hlt;refine⟨by omega,hlt,⟨by omega,by omega,by omega⟩,⟨bn _,by omega,by omega⟩,λc hc=>⟨by omega,(x.1+1,c),⟨⟨by show x.1+1<=_;omega,hc⟩,by show _-(x.1+1)<_;omega⟩,by show(x.1:Int)+1=((x.1+1:Nat):Int);omega,⟨rfl,rfl⟩,abl rfl rfl (λj hj=> ?_) λj hj=> ?_⟩⟩
  ·refine NH (λj=>(f j).drop k) (l9 _) hj ?_;show bT (f x.1) (some (Operand.tmp 20)) none (k:Int) ((f x.1).length:Int)=_;unfold bT;simp
  ·exact NH g (l9 [g x.1]) hj rfl
 ·have e:x.1=n:=by have:=hx.1;omega
  rw[ac5];exact⟨x.2,by rw[fI];have:=hx.2;omega,by rw[e];exact QO rfl rfl,vS rfl (by rw[fI,e]) rfl⟩
end
end Go.Proofs.YtoibaecagklkaaaGreatDoor
