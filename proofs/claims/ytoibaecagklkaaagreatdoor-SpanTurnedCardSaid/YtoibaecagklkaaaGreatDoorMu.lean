/-
  Canon: parts: plain laws of what they tell.
-/
import Derived.Test.YtoibaecagklkaaaGreatDoorMt
import Derived.Test.YtoibaecagklkaaaGreatDoorMs
import Derived.Test.YtoibaecagklkaaaGreatDoorMr
open Bool renaming and_eq_true->a!,false->w,false_eq_true->bf,noConfusion->X,or_eq_true->bx,or_true->S,true->u
open Decidable renaming decide->A
open Go.Op renaming bytesLess->H
open Go.Operand renaming tmp->K
open List renaming append_nil->bO,cons_ne_nil->Y,filter_cons->Z,getD_eq_getElem?_getD->ag,getElem?_eq_getElem->bS,getElem?_eq_some_iff->an,getElem_mem->b_,length_append->J,length_cons->I,length_eq_zero_iff->b!,length_filter_le->cl,length_map->T,length_take->ct,map_congr_left->cx,map_cons->V,map_map->W,mem_cons->cy,mem_cons_self->M,mem_flatMap->cG,mem_range->c4,nil_append->c5,range_succ_eq_map->ay
open Nat renaming beq_refl->aK,le_refl->N,le_trans->aM,lt_of_le_of_lt->aN,mul_add->c6,mul_le_mul->c7,mul_le_mul_left->c8,not_lt_zero->c9,one_pos->c_,succ_ne_zero->c!,succ_pos->aZ,zero_add->O,zero_le->F
open Option renaming none->R,some->G
open UInt8 renaming lt_iff_toNat_lt->a_,ofNat->C,toNat_ofNat'->d_
namespace Go.Proofs.YtoibaecagklkaaaGreatDoor
open Go Sx
set_option maxRecDepth 20000
def Pd.or (P Q:Pd):Pd :=
 {D:=λb=>P.D b||Q.D b,cS:=λb=>bif P.D b then P.cS b else Q.cS b,fb:=λb=>bif P.D b then P.fb b else Q.fb b,nb:=λb=>bif P.D b then P.nb b else Q.nb b,cb:=λb=>bif P.D b then P.cb b else Q.cb b,
  D2:=λb=>P.D2 b||Q.D2 b,n2:=λb=>bif P.D2 b then P.n2 b else Q.n2 b,g:=λb i=>bif P.D2 b then P.g b i else Q.g b i}
theorem yB {P Q:Pd}: ∀ {d a:Nat} {L:List (List UInt8)},Told P d a L->Told (P.or Q) d a L
 | 0,_,_,h=>h.elim
 | d+1,a,L,⟨h1,Ks,h2,h3,h4,h5⟩=>by
   have e2:(P.or Q).nb a=P.nb a:=by show(bif P.D a then _ else _)=_;rw[h1];rfl
   have e3:(P.or Q).fb a=P.fb a:=by show(bif P.D a then _ else _)=_;rw[h1];rfl
   have e4:(P.or Q).cS a=P.cS a:=by show(bif P.D a then _ else _)=_;rw[h1];rfl
   refine⟨by show(P.D a||Q.D a)=u;rw[h1];rfl,Ks,e2.trans h2,λh=> ?_,by rw[e4];exact h4,λi L' hi=> ?_⟩
   ·obtain⟨g1,g2⟩:=h3 h;rw[e3];refine⟨by show(P.D2 _||Q.D2 _)=u;rw[g1];rfl,?_⟩;show _<=(bif P.D2 _ then _ else _)
    rw[g1];exact g2
   ·have hk:0<Ks.length:=aN (F _) (an.1 hi).1;have:(P.or Q).g ((P.or Q).fb a) i=P.g (P.fb a) i:=by rw[e3];show(bif P.D2 _ then _ else _)=_;rw[(h3 hk).1];rfl
    rw[this];exact yB (h5 i L' hi)
theorem CF {P Q:Pd}(hd: ∀ b,P.D b=u->Q.D b=w)(hd2: ∀ b,P.D2 b=u->Q.D2 b=w): ∀ {d a:Nat} {L:List (List UInt8)},Told Q d a L->Told (P.or Q) d a L
 | 0,_,_,h=>h.elim
 | d+1,a,L,⟨h1,Ks,h2,h3,h4,h5⟩=>by
   have hp:P.D a=false:=by
    cases h:P.D a with
    | false=>rfl
    | true=>rw[hd a h] at h1;cases h1
   have hp2: ∀ b,Q.D2 b=u->P.D2 b=false:=λb hb=>by
    cases h:P.D2 b with
    | false=>rfl
    | true=>rw[hd2 b h] at hb;cases hb
   have e2:(P.or Q).nb a=Q.nb a:=by show(bif P.D a then _ else _)=_;rw[hp];rfl
   have e3:(P.or Q).fb a=Q.fb a:=by show(bif P.D a then _ else _)=_;rw[hp];rfl
   have e4:(P.or Q).cS a=Q.cS a:=by show(bif P.D a then _ else _)=_;rw[hp];rfl
   refine⟨by show(P.D a||Q.D a)=u;rw[h1,S],Ks,e2.trans h2,λh=> ?_,by rw[e4];exact h4,λi L' hi=> ?_⟩
   ·obtain⟨g1,g2⟩:=h3 h;rw[e3];refine⟨by show(P.D2 _||Q.D2 _)=u;rw[g1,S],?_⟩;show _<=(bif P.D2 _ then _ else _)
    rw[hp2 _ g1];exact g2
   ·have hk:0<Ks.length:=aN (F _) (an.1 hi).1;have:(P.or Q).g ((P.or Q).fb a) i=Q.g (Q.fb a) i:=by rw[e3];show(bif P.D2 _ then _ else _)=_;rw[hp2 _ (h3 hk).1];rfl
    rw[this];exact CF hd hd2 (h5 i L' hi)
theorem On {P:Pd}: ∀ {d a:Nat} {L:List (List UInt8)},Told P d a L->Told P (d+1) a L
 | 0,_,_,h=>h.elim
 | _+1,_,_,⟨h1,Ks,h2,h3,h4,h5⟩=>⟨h1,Ks,h2,h3,h4,λi L' hi=>On (h5 i L' hi)⟩
theorem U0 {P:Pd}: ∀ {d a:Nat} {L:List (List UInt8)},Told P d a L->0<L.length
 | 0,_,_,h=>h.elim
 | _+1,_,_,⟨_,_,_,_,h4,_⟩=>by rw[h4];exact aZ _
theorem DG {α:Type}: ∀(Ks:List (List α)),(∀ L,L∈ Ks->0<L.length)->Ks.length<=Ks.flatten.length
 | [],_=>F _
 | L::Ks,h=>by have h1:=h L (M ..);have h2:=DG Ks λx hx=>h x (List.mem_cons_of_mem _ hx);rw[I,List.flatten_cons,J];omega
theorem CN {P:Pd}{d n:Nat}{f:Nat->Nat}{B:List (List UInt8)}(h:kj P d n f B):n<=B.length:=by obtain⟨Ks,h1,h2,h3⟩:=h;rw[h1,← h2];refine DG Ks λL hL=> ?_;obtain⟨i,hi⟩:=List.getElem?_of_mem hL;exact U0 (h3 i L hi)
theorem Kb {P Q:Pd}{d n n':Nat}{f f':Nat->Nat}{B B':List (List UInt8)}(hd: ∀ b,P.D b=u->Q.D b=w)(hd2: ∀ b,P.D2 b=u->Q.D2 b=w)(h:kj P d n f B)(h':kj Q d n' f' B') :
  kj (P.or Q) d (n+n') (λj=>if j<n then f j else f' (j - n)) (B++B'):=by
 obtain⟨Ks,h1,h2,h3⟩:=h;obtain⟨Ks',k1,k2,k3⟩:=h';refine⟨Ks++Ks',by rw[J,h1,k1],by rw[List.flatten_append,h2,k2],λi L' hi=> ?_⟩;by_cases hlt:i<n
 ·rw[List.getElem?_append_left (by omega)] at hi;show Told _ d (if i<n then f i else _) L'
  rw[if_pos hlt];exact yB (h3 i L' hi)
 ·rw[List.getElem?_append_right (by omega)] at hi;show Told _ d (if i<n then f i else f' (i - n)) L'
  rw[if_neg hlt];rw[← h1] at hi;exact CF hd hd2 (k3 _ L' hi)
theorem CM {P:Pd}{d a:Nat}{L:List (List UInt8)}(h:Told P (d+1) a L):kj P (d+1) (P.nb a) (λi=>P.g (P.fb a) i) L.tail/\(0<P.nb a->P.D2 (P.fb a)=u/\P.nb a<=P.n2 (P.fb a))/\L=P.cS a::L.tail/\P.D a=true:=by obtain⟨h1,Ks,h2,h3,h4,h5⟩:=h;exact⟨⟨Ks,h2,by rw[h4];rfl,λi L' hi=>On (h5 i L' hi)⟩,λh=>by rw[h2] at h ⊢;exact h3 h,by rw[h4];rfl,h1⟩
theorem VB {P:Pd}{d a:Nat}{L:List (List UInt8)}(h:Told P d a L):kj P d 1 (λi=>UI [a] i) L:=⟨[L],rfl,by simp,λi L' hi=>by
 match i,hi with
 | 0,hi=>injection hi with hi;subst hi;exact h
 | i+1,hi=>simp at hi⟩
theorem Jd {s:List UInt8}(h:s.length<=700):(eS s).length<=700:=by
 by_cases hl:s.length<32
 ·rw[gM hl];exact h
 ·rw[(i9 hl).2.2];omega
theorem k8 {m:Nat}{l:List Rw}(hm:m<=13)(h:cg m l)(hl:l≠[]):(ctext m l).length<=700:=(NW (dZ hm h hl)).2
theorem Ci {n n' k k' c c':Nat}{f f':Nat->Nat}{ty:TypeId}(hn:n=n')(hc:c=c')(hk:k=k')(hf: ∀ i,i<n->f i=f' i):aa (.rows u n [.ref k f] w (c*1) ty) (.rows u n' [.ref k' f'] w (c'*1) ty):=by
 subst hk;refine gZ hn (by rw[hc]) rfl λj d d' h1 h2 i hi E=> ?_
 match j,h1,h2 with
 | 0,h1,h2 =>injection h1 with h1;injection h2 with h2;subst h1;subst h2;simp only[aq.at,hf i hi]
 | j+1,h1,_=>simp at h1
theorem DL {m:Nat}{x:tg}(hl:x.l=[])(h:kj x.P (m+1) x.nb x.f x.B):kj x.P (m+1) x.nb x.f (x.B++mC m x.l):=by rw[hl,show mC m []=[] from rfl,bO];exact h
theorem O3 (x:tg)(hx:(qQ 0).pre x):aB (runM (Dq 0) 101 Tryz.f101 (qQ 0) x):=by
 refine aB.pr (Xw x) ?_;obtain⟨h1,h2,h3,h4,h5,h6⟩:=hx;have hl:x.l=[]:=by
  cases e:x.l with
  | nil=>rfl
  | cons r l=>rw[e] at h1;exact absurd (h1.len r (M ..)) (c9 _)
 refine⟨λ_=>⟨⟨x.nb,x.cb,x.f,x.P⟩,⟨h4,DL hl h6⟩,by rw[hl];rfl,⟨rfl,rfl⟩,aa.refl _,aa.refl _,aa.refl _⟩,λh=> ?_⟩;rw[hl] at h;exact absurd h (by decide)
theorem O2 (m:Nat)(x:tg)(hx:(qQ (m+1)).pre x):aB (runM (Dq (m+1)) 101 Tryz.f101 (qQ (m+1)) x):=by
 refine aB.pr (aaA m x) ?_;obtain⟨h1,h2,h3,h4,h5,h6⟩:=hx;refine⟨λh=> ?_,λh=> ?_⟩
 ·have hl:x.l=[]:=b!.1 (by have:=of_decide_eq_true h;omega);exact⟨⟨x.nb,x.cb,x.f,x.P⟩,⟨h4,DL hl h6⟩,by rw[hl];rfl,⟨rfl,rfl⟩,aa.refl _,aa.refl _,aa.refl _⟩
 have hl:x.l≠[]:=λe=>by have:=of_decide_eq_false h;rw[e] at this;exact this rfl
 refine⟨(x.l,x.c),⟨h1,h2,h3⟩,⟨rfl,rfl⟩,aa.refl _,λy hy=> ?_⟩;obtain⟨y1,Q⟩:=y;have hy:Told Q (m+1+1) y1 (b8 (m+1) x.l):=hy;obtain⟨hb1,hb2,hb3,hb4⟩:=CM hy;have ht:Q.cS y1=ctext (m+1) x.l:=by injection hb3 with e _;exact e.symm
 have htail:(b8 (m+1) x.l).tail=cw (m+1) x.l:=rfl;have h700:=k8 h3 h1 hl;have hrl:=Jd h700;have hnb:=CN h6;rw[J] at h5;have hkB:mC (m+1) x.l=(if(ctext (m+1) x.l).length<32 then [] else [ctext (m+1) x.l])++cw (m+1) x.l:=if_neg hl
 have hkr:iQ (m+1) x.l=eS (ctext (m+1) x.l):=if_neg hl;show Q.D y1=u/\(Q.cS y1).length<_/\_;rw[ht];refine⟨hb4,by omega,by omega,λhh=> ?_,λhh=>⟨hb4,?_⟩⟩
 ·have hlong: ¬ (ctext (m+1) x.l).length<32:=λe=>by rw[gM e] at hh;have:=lT hh;omega
  rw[if_neg hlong] at hkB;refine⟨⟨by omega,trivial,by omega,by omega⟩,λc hc hd hd2=> ?_⟩;have hW:=Kb (Q:=Q) hd hd2 h6 (VB hy);refine⟨⟨x.nb+1,c,λj=>if j<x.nb then x.f j else UI [y1] (j - x.nb),x.P.or Q⟩,⟨hc,?_⟩,hkr.symm,⟨rfl,rfl⟩,Ci rfl rfl rfl λ_ _=>rfl,aa.refl _,aa.refl _⟩
  rw[hkB];exact hW
 ·have hshort:(ctext (m+1) x.l).length<32:=by
   by_cases e:(ctext (m+1) x.l).length<32
   ·exact e
   ·rw[(i9 e).1] at hh;cases hh
  rw[if_pos hshort,c5] at hkB;have hn2:=CN hb1;rw[htail,← hkB] at hn2;refine⟨⟨by omega,λh=> ?_,?_,?_⟩,λc hc hd hd2=> ?_⟩
  ·have:=hb2 h;exact⟨this.1,by show 0+Q.nb y1<=_;rw[O];exact this.2⟩
  ·show 2*(x.nb+Q.nb y1)*8<=_;omega
  ·show x.nb+Q.nb y1<_;omega
  have hW:=Kb (Q:=Q) hd hd2 h6 hb1;refine⟨⟨x.nb+Q.nb y1,c,λj=>if j<x.nb then x.f j else Q.g (Q.fb y1) (j - x.nb),x.P.or Q⟩,⟨hc,?_⟩,hkr.symm,⟨rfl,rfl⟩,Ci rfl rfl rfl λ_ _=>rfl,aa.refl _,aa.refl _⟩
  rw[hkB];exact hW
theorem Wo {m:Nat}(h:az Tryz.prog 63 (oI m)):az Tryz.prog 101 (cD (qQ m)) :=
 gx (n:=20) (fn:=Tryz.f101) Tryz.func101 (by kernel_rfl) (by kernel_rfl) (qQ m) λx hx=>⟨Dq m,Zj h,by rfl,by
  cases m with
  | zero=>exact O3 x hx
  | succ m=>exact O2 m x hx⟩
def Pd.top (P:Pd)(a a1:Nat)(t:List UInt8)(nb cb:Nat)(f:Nat->Nat):Pd :=
 {D:=λb=>P.D b||b.beq a1,cS:=λb=>bif P.D b then P.cS b else t,fb:=λb=>bif P.D b then P.fb b else a,nb:=λb=>bif P.D b then P.nb b else nb,cb:=λb=>bif P.D b then P.cb b else cb,
  D2:=λb=>P.D2 b||b.beq a&& !(u&&nb.beq 0),n2:=λb=>bif P.D2 b then P.n2 b else nb,g:=λb i=>bif P.D2 b then P.g b i else f i}
def Pd.one (a a1:Nat)(t:List UInt8)(nb cb:Nat)(f:Nat->Nat):Pd :={D:=λb=>b.beq a1,cS:=λ_=>t,fb:=λ_=>a,nb:=λ_=>nb,cb:=λ_=>cb,D2:=λb=>b.beq a&& !(u&&nb.beq 0),n2:=λ_=>nb,g:=λ_=>f}
theorem aav (P:Pd)(a a1:Nat)(t:List UInt8)(nb cb:Nat)(f:Nat->Nat):P.top a a1 t nb cb f=P.or (Pd.one a a1 t nb cb f):=rfl
theorem U1 {P:Pd}{d a a1 nb cb:Nat}{t:List UInt8}{f:Nat->Nat}{B:List (List UInt8)}(hd: ∀ b,P.D b=u->b.beq a1=w)(hd2: ∀ b,P.D2 b=u->(b.beq a&& !(u&&nb.beq 0))=w)(h:kj P d nb f B) :
  Told (P.top a a1 t nb cb f) (d+1) a1 (t::B):=by
 obtain⟨Ks,h1,h2,h3⟩:=h;have e:a1.beq a1=true:=aK a1;have hp:P.D a1=false:=by
  cases h:P.D a1 with
  | false=>rfl
  | true=>rw[hd a1 h] at e;cases e
 have e2:(P.top a a1 t nb cb f).nb a1=nb:=by show(bif P.D a1 then _ else _)=_;rw[hp];rfl
 have e3:(P.top a a1 t nb cb f).fb a1=a:=by show(bif P.D a1 then _ else _)=_;rw[hp];rfl
 have e4:(P.top a a1 t nb cb f).cS a1=t:=by show(bif P.D a1 then _ else _)=_;rw[hp];rfl
 have hn:0<nb->(a.beq a&& !(u&&nb.beq 0))=true:=λh=>by
  have:nb.beq 0=false:=by cases nb with
   | zero=>omega
   | succ n=>rfl
  rw[this,show a.beq a=u from aK a];rfl
 have hp2:0<nb->P.D2 a=false:=λh=>by
  cases g:P.D2 a with
  | false=>rfl
  | true=>have:=hd2 a g;rw[hn h] at this;cases this
 refine⟨by show(P.D a1||a1.beq a1)=u;rw[e,S],Ks,e2.trans h1,λh=> ?_,by rw[e4,h2],λi L' hi=> ?_⟩
 ·rw[← h1] at h;rw[e3];refine⟨by show(P.D2 a||_)=u;rw[hn h,S],?_⟩;show _<=(bif P.D2 a then _ else nb)
  rw[hp2 h,h1];exact N _
 ·have hk:0<Ks.length:=aN (F _) (an.1 hi).1;have:(P.top a a1 t nb cb f).g ((P.top a a1 t nb cb f).fb a1) i=f i:=by rw[e3];show(bif P.D2 a then _ else f i)=_;rw[hp2 (by omega)];rfl
  rw[this,aav];exact yB (h3 i L' hi)
def Pd.leaf (a:Nat)(t:List UInt8):Pd:={D:=λb=>b.beq a,cS:=λ_=>t,fb:=λ_=>0,nb:=λ_=>0,cb:=λ_=>0,D2:=λ_=>w,n2:=λ_=>0,g:=λ_ _=>0}
theorem QB (d a:Nat)(t:List UInt8):Told (Pd.leaf a t) (d+1) a [t]:=⟨aK a,[],rfl,λh=>absurd h (Nat.lt_irrefl 0),rfl,λi L' hi=>by simp at hi⟩
def qO (i:Nat)(p:List UInt8):Bool:=match p with
 | []=>w
 | b::_=>decide (b.toNat<i)
theorem KZ (i:Nat)(p:List UInt8):(kW i p=u->qO i p=w/\qO (i+1) p=u)/\(kW i p=w->qO (i+1) p=qO i p):=by
 cases p with
 | nil=>exact⟨λh=>(by cases h),λ_=>rfl⟩
 | cons b q =>
   refine⟨λh=> ?_,λh=> ?_⟩
   ·have h:b.toNat=i:=of_decide_eq_true h;exact⟨decide_eq_false (by omega),decide_eq_true (by omega)⟩
   ·have h: ¬ b.toNat=i:=of_decide_eq_false h;show A (b.toNat<i+1)=A (b.toNat<i);exact decide_eq_decide.2 (by omega)
theorem HF (i:Nat): ∀ l:List Rw,(l.filter λr=>qO i r.1).length+(bB i l).length=(l.filter λr=>qO (i+1) r.1).length
 | []=>rfl
 | x::l=>by
   have ih:=HF i l;obtain⟨h1,h2⟩:=KZ i x.1;unfold bB at ih ⊢;rw[Z,Z,Z];cases h:kW i x.1 with
   | true =>obtain⟨g1,g2⟩:=h1 h;rw[g1,g2];simp only[if_true,bf,if_false,I];omega
   | false =>rw[h2 h];cases qO i x.1<;>simp only[if_true,bf,if_false,I]<;>omega
def lY (l:List Rw):Nat->Nat
 | 0=>0
 | i+1=>lY l i+(aP l i).length
theorem xH (l:List Rw)(i:Nat):lY l i<=l.length:=by
 match l with
 | []=>induction i with
   | zero=>exact N _
   | succ i ih=>exact ih
 | [r]=>induction i with
   | zero=>exact F _
   | succ i ih=>exact ih
 | r::s::t =>
   by_cases hk:0<bH r.1 ((s::t).getLastD r).1
   ·cases i with
    | zero=>exact F _
    | succ i =>
      induction i with
      | zero =>show 0+(aP (r::s::t) 0).length<=_;rw[cI,if_pos hk,if_pos rfl,O,b7,T];exact N _
      | succ i ih =>show lY (r::s::t) (i+1)+(aP (r::s::t) (i+1)).length<=_;rw[cI,if_pos hk,if_neg (c! i)];exact ih
   ·have:lY (r::s::t) i<=((r::s::t).filter λx=>qO i x.1).length:=by
     induction i with
     | zero=>exact F _
     | succ i ih =>show lY (r::s::t) i+(aP (r::s::t) i).length<=_;rw[cI,if_neg hk,b7,T,← HF i (r::s::t)];omega
    exact aM this (cl _ _)
theorem iM (m:Nat)(l:List Rw)(i:Nat):fK m l (i+1)=fK m l i++mC m (aP l i):=by unfold fK;rw[List.range_succ,List.flatMap_append];simp
theorem nF (m:Nat)(l:List Rw):cw (m+1) l=fK m l 16:=rfl
mutual
theorem Bj: ∀(m:Nat) (l:List Rw),(mC m l).length<=(m+1)*l.length
 | m,l=>by
   unfold mC;by_cases h:l=[]
   ·rw[if_pos h];exact F _
   ·rw[if_neg h];have hb:=w9 m l;have hp:1<=l.length:=List.length_pos_iff.2 h;have:(if(ctext m l).length<32 then([]:List (List UInt8))else [ctext m l]).length<=1:=by split<;>simp
    rw[J,Nat.add_mul,Nat.one_mul];omega
 termination_by m=>(m,1)
theorem w9: ∀(m:Nat) (l:List Rw),(cw m l).length<=m*l.length
 | 0,_=>F _
 | m+1,l=>by
   have: ∀ i,(fK m l i).length<=(m+1)*lY l i:=λi=>by
    induction i with
    | zero=>exact F _
    | succ i ih =>have:=Bj m (aP l i);rw[iM,J,lY,c6];omega
   rw[nF];exact aM (this 16) (c8 _ (xH l 16))
 termination_by m=>(m,0)
end
theorem G2 (m:Nat)(l:List Rw)(i:Nat):(fK m l i).length<=(m+1)*l.length:=by
 have: ∀ i,(fK m l i).length<=(m+1)*lY l i:=λi=>by
  induction i with
  | zero=>exact F _
  | succ i ih =>have:=Bj m (aP l i);rw[iM,J,lY,c6];omega
 exact aM (this i) (c8 _ (xH l i))
theorem Xs (m:Nat)(x:List Rw×Nat):cZ (.n (.s 0 (.n (.s 0 (.n .k (.s 0 .k))) (.s 0 (.n .k (.s 0 .k))))) (.n (.s 4 (.n (.s 0 (.n .k (.s 0 .k))) (.s 0 (.n .k (.s 0 .k))))) (.s 5 (.n (.s 11 (.n (.s 0 .k) (.s 0 (.n .k (.s 1 (.n .k (.s 3 (.n (.s 0 (.n .k (.s 0 .k))) (.s 0 (.n .k (.s 0 .k))))))))))) (.n (.s 0 (.n .k (.s 1 (.n .k (.s 2 (.n .k .t)))))) (.n (.s 0 (.n (.s 0 .k) (.s 1 (.n .k (.n .k (.s 4 (.n (.s 0 .k) (.s 0 (.n .k (.s 1 (.n (.s 0 .k) (.s 0 (.n .k (.n .k (.n .k (.s 4 (.n .k (.s 1 (.n (.s 0 .k) (.s 0 (.n .k (.n .k (.n .k (.n .k .t)))))))))))))))))))))))) (.s 1 (.n (.s 2 (.n (.s 0 (.n .k (.s 0 .k))) (.s 0 (.n .k (.s 0 .k))))) (.s 0 (.n (.s 0 (.n .k (.s 0 .k))) (.s 0 (.n .k (.s 0 .k))))))))))))) (runM (M1 m x.1) 63 Tryz.f63 (xg (m+1)) x) ((λR0:Nat->(Nat×ki)->SV=>((λR1:Nat->(Nat×ki)->(tg)->SV=>((λR2:Nat->(Nat×ki)->SV=>((λP0:(List Rw×Nat×Nat)->SB=>(((A ((x.1.length:Int)=0)=u->Fits {k:=(0:Int),p:=[],v:=[],r:=fun(u160:Nat)=>[[],[],[],[],[],[],[],[],[],[],[],[],[],[],[],[]].getD u160 []:Nd}/\(aU {k:=(0:Int),p:=[],v:=[],r:=fun(u159:Nat)=>[[],[],[],[],[],[],[],[],[],[],[],[],[],[],[],[]].getD u159 []:Nd}=u->∀(u158:Nat),∃(u157:Nat×Pd),Told u157.2 (m+1+(1:Nat)) u157.1 (b8 (m+1) x.1)/\u158=u157.1/\aa (SB.dR (fun(u156:Nat)=>u156.beq u158) [aq.str fun(_u155:Nat)=>cR {k:=(0:Int),p:=[],v:=[],r:=fun(u154:Nat)=>[[],[],[],[],[],[],[],[],[],[],[],[],[],[],[],[]].getD u154 []:Nd},aq.bU 0 1 u (fun(_u153:Nat)=>(0:Nat)) (fun(_u152:Nat)=>(0:Nat)) fun(_u151:Nat)=>(0:Nat)] 2 165 w) (u157.2.parts 2)/\∀(u150:Nat),¬SB.fR 0 (u157.2.lists 1) u150)/\(aU {k:=(0:Int),p:=[],v:=[],r:=fun(u149:Nat)=>[[],[],[],[],[],[],[],[],[],[],[],[],[],[],[],[]].getD u149 []:Nd}=w->∀(u148:Nat),∃(u147:Nat×Pd),Told u147.2 (m+1+(1:Nat)) u147.1 (b8 (m+1) x.1)/\u148=u147.1 /\aa (SB.dR (fun(u146:Nat)=>u146.beq u148) [aq.str fun(_u145:Nat)=>[],aq.bU 0 1 u (fun(_u144:Nat)=>(0:Nat)) (fun(_u143:Nat)=>(0:Nat)) fun(_u142:Nat)=>(0:Nat)] 2 165 w) (u147.2.parts 2)/\∀(u141:Nat),¬SB.fR 0 (u147.2.lists 1) u141))/\(A ((x.1.length:Int)=0)=w->(A ((x.1.length:Int)=1)=u->((0:Int)<=(0:Int)/\0<(x.1.length:Int))/\0<x.1.length/\((0:Int)<=(0:Int)/\0<(x.1.length:Int))/\0<x.1.length/\Fits {k:=(1:Int),p:=(x.1.getD 0 ([],[])).1,v:=(x.1.getD 0 ([],[])).2,r:=fun(u140:Nat)=>[[],[],[],[],[],[],[],[],[],[],[],[],[],[],[],[]].getD u140 []:Nd}/\(aU {k:=(1:Int),p:=(x.1.getD 0 ([],[])).1,v:=(x.1.getD 0 ([],[])).2,r:=fun(u139:Nat)=>[[],[],[],[],[],[],[],[],[],[],[],[],[],[],[],[]].getD u139 []:Nd}=u->∀(u138:Nat),∃(u137:Nat×Pd),Told u137.2 (m+1+(1:Nat)) u137.1 (b8 (m+1) x.1)/\u138=u137.1 /\aa (SB.dR (fun(u136:Nat)=>u136.beq u138) [aq.str fun(_u135:Nat)=>cR {k:=(1:Int),p:=(x.1.getD 0 ([],[])).1,v:=(x.1.getD 0 ([],[])).2,r:=fun(u134:Nat)=>[[],[],[],[],[],[],[],[],[],[],[],[],[],[],[],[]].getD u134 []:Nd},aq.bU 0 1 u (fun(_u133:Nat)=>(0:Nat)) (fun(_u132:Nat)=>(0:Nat)) fun(_u131:Nat)=>(0:Nat)] 2 165 w) (u137.2.parts 2)/\∀(u130:Nat),¬SB.fR 0 (u137.2.lists 1) u130)/\(aU {k:=(1:Int),p:=(x.1.getD 0 ([],[])).1,v:=(x.1.getD 0 ([],[])).2,r:=fun(u129:Nat)=>[[],[],[],[],[],[],[],[],[],[],[],[],[],[],[],[]].getD u129 []:Nd}=w->∀(u128:Nat),∃(u127:Nat×Pd),Told u127.2 (m+1+(1:Nat)) u127.1 (b8 (m+1) x.1)/\u128=u127.1/\aa (SB.dR (fun(u126:Nat)=>u126.beq u128) [aq.str fun(_u125:Nat)=>[],aq.bU 0 1 u (fun(_u124:Nat)=>(0:Nat)) (fun(_u123:Nat)=>(0:Nat)) fun(_u122:Nat)=>(0:Nat)] 2 165 w) (u127.2.parts 2)/\∀(u121:Nat),¬SB.fR 0 (u127.2.lists 1) u121))/\(A ((x.1.length:Int)=1)=w->((0:Int)<=(0:Int)/\0<(x.1.length:Int)) /\0<x.1.length/\I6 ((x.1.length:Int) - 1)/\(0<=(x.1.length:Int) - 1/\(x.1.length:Int) - 1<(x.1.length:Int))/\0+((x.1.length:Int) - 1).toNat<x.1.length/\(x.1.getD 0 ([],[])).1.length<9223372036854775807/\(A (0<(↑(bH (x.1.getD 0 ([],[])).1 (x.1.getD (0+((x.1.length:Int) - 1).toNat) ([],[])).1):Int))=u->((0:Int)<=(0:Int)/\0<(x.1.length:Int))/\0<x.1.length/\I6 ((x.1.length:Int) - 1)/\(0<=(x.1.length:Int) - 1/\(x.1.length:Int) - 1<(x.1.length:Int))/\0+((x.1.length:Int) - 1).toNat<x.1.length/\(x.1.getD 0 ([],[])).1.length<9223372036854775807/\((0:Int)<=(0:Int)/\0<(x.1.length:Int))/\0<x.1.length/\((0:Int)<=(0:Int)/\0<=(↑(bH (x.1.getD 0 ([],[])).1 (x.1.getD (0+((x.1.length:Int) - 1).toNat) ([],[])).1):Int) /\(↑(bH (x.1.getD 0 ([],[])).1 (x.1.getD (0+((x.1.length:Int) - 1).toNat) ([],[])).1):Int)<=(↑(x.1.getD 0 ([],[])).1.length:Int))/\(((w=w/\0+x.1.length<=x.1.length)/\True/\True)/\0<=(↑(bH (x.1.getD 0 ([],[])).1 (x.1.getD (0+((x.1.length:Int) - 1).toNat) ([],[])).1):Int)/\x.1.length<=1000/\∀(u120:Nat),u120<x.1.length->(↑(bH (x.1.getD 0 ([],[])).1 (x.1.getD (0+((x.1.length:Int) - 1).toNat) ([],[])).1):Int).toNat<=(x.1.getD u120 ([],[])).1.length)/\∀(u119:Nat),(b7 (↑(bH (x.1.getD 0 ([],[])).1 (x.1.getD (0+((x.1.length:Int) - 1).toNat) ([],[])).1):Int).toNat (av x.1.length (fun(u118:Nat)=>(x.1.getD u118 ([],[])).1) fun(u117:Nat)=>(x.1.getD u117 ([],[])).2)).length<=u119->∃(u116:tg),(cg m u116.l/\u116.l.length<=1000/\m<=13/\u116.nb<=u116.cb/\(u116.B++mC m u116.l).length<=100000/\kj u116.P (m+1) u116.nb u116.f u116.B) /\((b7 (↑(bH (x.1.getD 0 ([],[])).1 (x.1.getD (0+((x.1.length:Int) - 1).toNat) ([],[])).1):Int).toNat (av x.1.length (fun(u115:Nat)=>(x.1.getD u115 ([],[])).1) fun(u114:Nat)=>(x.1.getD u114 ([],[])).2)).length=u116.l.length/\u119=u116.c)/\aa (SB.rows w (b7 (↑(bH (x.1.getD 0 ([],[])).1 (x.1.getD (0+((x.1.length:Int) - 1).toNat) ([],[])).1):Int).toNat (av x.1.length (fun(u113:Nat)=>(x.1.getD u113 ([],[])).1) fun(u112:Nat)=>(x.1.getD u112 ([],[])).2)).length [bK (b7 (↑(bH (x.1.getD 0 ([],[])).1 (x.1.getD (0+((x.1.length:Int) - 1).toNat) ([],[])).1):Int).toNat (av x.1.length (fun(u111:Nat)=>(x.1.getD u111 ([],[])).1) fun(u110:Nat)=>(x.1.getD u110 ([],[])).2)),bL (b7 (↑(bH (x.1.getD 0 ([],[])).1 (x.1.getD (0+((x.1.length:Int) - 1).toNat) ([],[])).1):Int).toNat (av x.1.length (fun(u109:Nat)=>(x.1.getD u109 ([],[])).1) fun(u108:Nat)=>(x.1.getD u108 ([],[])).2))] w (u119*2) 174) (SB.rows w u116.l.length [bK u116.l,bL u116.l] u (u116.c*2) 174)/\u116.nb=0 /\(SB.rows u u116.nb [aq.ref 3 u116.f] w (u116.cb*1) 106).no=u/\(∀(u107:Nat),¬SB.fR 0 (u116.P.parts 4) u107)/\(∀(u106:Nat),¬SB.fR 0 (u116.P.lists 3) u106)/\∀(u105:ki),u105.nb<=u105.cb/\kj u105.P (m+1) u105.nb u105.f (u116.B++mC m u116.l)->Fits {k:=(2:Int),p:=cj (x.1.getD 0 ([],[])).1 R (G (K 81)) 0 (↑(bH (x.1.getD 0 ([],[])).1 (x.1.getD (0+((x.1.length:Int) - 1).toNat) ([],[])).1):Int),v:=[],r:=fun(u104:Nat)=>[iQ m u116.l,[],[],[],[],[],[],[],[],[],[],[],[],[],[],[]].getD u104 []:Nd}/\(aU {k:=(2:Int),p:=cj (x.1.getD 0 ([],[])).1 R (G (K 81)) 0 (↑(bH (x.1.getD 0 ([],[])).1 (x.1.getD (0+((x.1.length:Int) - 1).toNat) ([],[])).1):Int),v:=[],r:=fun(u103:Nat)=>[iQ m u116.l,[],[],[],[],[],[],[],[],[],[],[],[],[],[],[]].getD u103 []:Nd}=u->∀(u102:Nat),(∀(u101:Nat),u105.P.D2 u101=u->(u101.beq u102&& !(u&&u105.nb.beq 0))=w)->∀(u100:Nat),(∀(u99:Nat),u105.P.D u99=u->u99.beq u100=w) ->∃(u98:Nat×Pd),Told u98.2 (m+1+(1:Nat)) u98.1 (b8 (m+1) x.1)/\u100=u98.1/\aa (SB.dR (fun(u97:Nat)=>u105.P.D u97||u97.beq u100) [aq.str λu96=>bif u105.P.D u96 then u105.P.cS u96 else cR {k:=(2:Int),p:=cj (x.1.getD 0 ([],[])).1 R (G (K 81)) 0 (↑(bH (x.1.getD 0 ([],[])).1 (x.1.getD (0+((x.1.length:Int) - 1).toNat) ([],[])).1):Int),v:=[],r:=fun(u95:Nat)=>[iQ m u116.l,[],[],[],[],[],[],[],[],[],[],[],[],[],[],[]].getD u95 []:Nd},aq.bU (bif(id (bif(id 8).beq 9 then(8:Nat)else id 8)).beq 1 then(7:Nat)else id (bif(id 8).beq 9 then(8:Nat)else id 8)) 1 u (fun(u94:Nat)=>bif u105.P.D u94 then u105.P.fb u94 else u102) (fun(u93:Nat)=>bif u105.P.D u93 then u105.P.nb u93 else u105.nb) fun(u92:Nat)=>bif u105.P.D u92 then u105.P.cb u92 else u105.cb] 2 165 w) (u98.2.parts 2) /\aa (SB.dD (fun(u91:Nat)=>u105.P.D2 u91||u91.beq u102&& !(u&&u105.nb.beq 0)) (fun(u90:Nat)=>bif u105.P.D2 u90 then u105.P.n2 u90 else u105.nb) [bW.ref (bif(id (bif(id 7).beq 9 then(8:Nat)else id 7)).beq 1 then(7:Nat)else id (bif(id 7).beq 9 then(8:Nat)else id 7)) fun(b i:Nat)=>bif u105.P.D2 b then u105.P.g b i else u105.f i] w) (u98.2.lists 1))/\(aU {k:=(2:Int),p:=cj (x.1.getD 0 ([],[])).1 R (G (K 81)) 0 (↑(bH (x.1.getD 0 ([],[])).1 (x.1.getD (0+((x.1.length:Int) - 1).toNat) ([],[])).1):Int),v:=[],r:=fun(u89:Nat)=>[iQ m u116.l,[],[],[],[],[],[],[],[],[],[],[],[],[],[],[]].getD u89 []:Nd}=w->∀(u88:Nat),(∀(u87:Nat),u105.P.D2 u87=u->(u87.beq u88&& !(u&&u105.nb.beq 0))=w)->∀(u86:Nat),(∀(u85:Nat),u105.P.D u85=u->u85.beq u86=w)->∃(u84:Nat×Pd),Told u84.2 (m+1+(1:Nat)) u84.1 (b8 (m+1) x.1)/\u86=u84.1 /\aa (SB.dR (fun(u83:Nat)=>u105.P.D u83||u83.beq u86) [aq.str λu82=>bif u105.P.D u82 then u105.P.cS u82 else [],aq.bU (bif(id (bif(id 8).beq 9 then(8:Nat)else id 8)).beq 1 then(7:Nat)else id (bif(id 8).beq 9 then(8:Nat)else id 8)) 1 u (fun(u81:Nat)=>bif u105.P.D u81 then u105.P.fb u81 else u88) (fun(u80:Nat)=>bif u105.P.D u80 then u105.P.nb u80 else u105.nb) fun(u79:Nat)=>bif u105.P.D u79 then u105.P.cb u79 else u105.cb] 2 165 w) (u84.2.parts 2)/\aa (SB.dD (fun(u78:Nat)=>u105.P.D2 u78||u78.beq u88&& !(u&&u105.nb.beq 0)) (fun(u77:Nat)=>bif u105.P.D2 u77 then u105.P.n2 u77 else u105.nb) [bW.ref (bif(id (bif(id 7).beq 9 then(8:Nat)else id 7)).beq 1 then(7:Nat)else id (bif(id 7).beq 9 then(8:Nat)else id 7)) fun(b i:Nat)=>bif u105.P.D2 b then u105.P.g b i else u105.f i] w) (u84.2.lists 1)))/\(A (0<(↑(bH (x.1.getD 0 ([],[])).1 (x.1.getD (0+((x.1.length:Int) - 1).toNat) ([],[])).1):Int))=w->(∃(u76:Nat×ki),(u76.1<=16/\u76.2.nb<=u76.2.cb/\kj u76.2.P (m+1) u76.2.nb u76.2.f (fK m x.1 u76.1)) /\0=(u76.1:Int)/\u76.2.nb=0/\(SB.rows u u76.2.nb [aq.ref ((4:Nat)) u76.2.f] w (u76.2.cb*1) 106).no=u/\(∀(u75:Nat),¬SB.fR 0 (u76.2.P.parts ((5:Nat))) u75)/\(∀(u74:Nat),¬SB.fR 0 (u76.2.P.lists ((4:Nat))) u74)/\aa (SB.cells (SV.int .i64 u 3::SV.str u []::SV.str u []::Kf) 19 138) (SB.cells (SV.int .i64 w 3::SV.str w []::SV.str w []::cV (λi=>R0 i u76) []) 19 138))/\∀(u73:Nat×ki),u73.1<=16/\u73.2.nb<=u73.2.cb/\kj u73.2.P (m+1) u73.2.nb u73.2.f (fK m x.1 u73.1)->(A ((u73.1:Int)<16)=u->∃(u72:List Rw×Nat×Nat),u72.1.length<=1000 /\(x.1.length=u72.1.length/\x.2=u72.2.1)/\aa (SB.rows w x.1.length [bK x.1,bL x.1] u (x.2*2) 174) (SB.rows w u72.1.length [bK u72.1,bL u72.1] u (u72.2.1*2) 174)/\aa (SB.cells [SV.int .i64 w (u73.1:Int)] 1 3) (P0 u72)/\∀(u71:Nat),(bB u72.2.2 u72.1).length<=u71->G (P0 u72)=G (SB.cells [SV.int .i64 w (u73.1:Int)] 1 3)/\(((u=u/\0+(bB u72.2.2 u72.1).length<=(bB u72.2.2 u72.1).length)/\True/\True)/\(0:Int)<=(1:Int)/\(bB u72.2.2 u72.1).length<=1000/\∀(u70:Nat),u70<(bB u72.2.2 u72.1).length->1<=((bB u72.2.2 u72.1).getD u70 ([],[])).1.length)/\∀(u69:Nat),(b7 1 (av (bB u72.2.2 u72.1).length (fun(u68:Nat)=>((bB u72.2.2 u72.1).getD u68 ([],[])).1) fun(u67:Nat)=>((bB u72.2.2 u72.1).getD u67 ([],[])).2)).length<=u69->G (P0 u72)=G (P0 u72)/\∃(u66:tg),(cg m u66.l/\u66.l.length<=1000/\m<=13/\u66.nb<=u66.cb/\(u66.B++mC m u66.l).length<=100000/\kj u66.P (m+1) u66.nb u66.f u66.B) /\((b7 1 (av (bB u72.2.2 u72.1).length (fun(u65:Nat)=>((bB u72.2.2 u72.1).getD u65 ([],[])).1) fun(u64:Nat)=>((bB u72.2.2 u72.1).getD u64 ([],[])).2)).length=u66.l.length/\u69=u66.c)/\aa (SB.rows w (b7 1 (av (bB u72.2.2 u72.1).length (fun(u63:Nat)=>((bB u72.2.2 u72.1).getD u63 ([],[])).1) fun(u62:Nat)=>((bB u72.2.2 u72.1).getD u62 ([],[])).2)).length [bK (b7 1 (av (bB u72.2.2 u72.1).length (fun(u61:Nat)=>((bB u72.2.2 u72.1).getD u61 ([],[])).1) fun(u60:Nat)=>((bB u72.2.2 u72.1).getD u60 ([],[])).2)),bL (b7 1 (av (bB u72.2.2 u72.1).length (fun(u59:Nat)=>((bB u72.2.2 u72.1).getD u59 ([],[])).1) fun(u58:Nat)=>((bB u72.2.2 u72.1).getD u58 ([],[])).2))] w (u69*2) 174) (SB.rows w u66.l.length [bK u66.l,bL u66.l] u (u66.c*2) 174)/\(u73.2.nb=u66.nb/\u73.2.cb=u66.cb)/\aa (SB.rows u u73.2.nb [aq.ref ((4:Nat)) u73.2.f] w (u73.2.cb*1) 106) (SB.rows u u66.nb [aq.ref 3 u66.f] w (u66.cb*1) 106) /\aa (SB.dR u73.2.P.D [aq.str u73.2.P.cS,aq.bU ((5:Nat)) 1 u u73.2.P.fb u73.2.P.nb u73.2.P.cb] 2 165 w) (u66.P.parts 4)/\aa (SB.dD u73.2.P.D2 u73.2.P.n2 [bW.ref ((4:Nat)) u73.2.P.g] w) (u66.P.lists 3)/\∀(u57:ki),u57.nb<=u57.cb/\kj u57.P (m+1) u57.nb u57.f (u66.B++mC m u66.l)->G (P0 u72)=G (P0 u72)/\(0<=(u73.1:Int)/\(u73.1:Int)<16)/\(u73.1:Int).toNat<16/\I6 ((u73.1:Int)+1)/\∃(u56:Nat×ki),((u56.1<=16/\u56.2.nb<=u56.2.cb/\kj u56.2.P (m+1) u56.2.nb u56.2.f (fK m x.1 u56.1))/\16 - u56.1<16 - u73.1)/\(u73.1:Int)+1=(u56.1:Int)/\(u57.nb=u56.2.nb/\u57.cb=u56.2.cb)/\aa (SB.rows u u57.nb [aq.ref 4 u57.f] w (u57.cb*1) 106) (SB.rows u u56.2.nb [aq.ref ((4:Nat)) u56.2.f] w (u56.2.cb*1) 106) /\aa (SB.dR u57.P.D [aq.str u57.P.cS,aq.bU 5 1 u u57.P.fb u57.P.nb u57.P.cb] 2 165 w) (u56.2.P.parts ((5:Nat)))/\aa (SB.dD u57.P.D2 u57.P.n2 [bW.ref 4 u57.P.g] w) (u56.2.P.lists ((4:Nat)))/\aa (SB.cells (SV.int .i64 w 3::SV.str w []::SV.str w []::cV (λi=>R1 i u73 u66) []) 19 138) (SB.cells (SV.int .i64 w 3::SV.str w []::SV.str w []::cV (λi=>R2 i u56) []) 19 138))/\(A ((u73.1:Int)<16)=w->((0:Int)<=(0:Int)/\0<(x.1.length:Int))/\0<x.1.length/\(A ((x.1.getD 0 ([],[])).1=[])=u->((0:Int)<=(0:Int)/\0<(x.1.length:Int))/\0<x.1.length /\Fits {k:=(3:Int),p:=[],v:=(x.1.getD 0 ([],[])).2,r:=fun(u55:Nat)=>(cV (kL m x.1 u73.1) []).getD u55 []:Nd}/\(aU {k:=(3:Int),p:=[],v:=(x.1.getD 0 ([],[])).2,r:=fun(u54:Nat)=>(cV (kL m x.1 u73.1) []).getD u54 []:Nd}=u->∀(u53:Nat),(∀(u52:Nat),u73.2.P.D2 u52=u->(u52.beq u53&& !(u&&u73.2.nb.beq 0))=w) ->∀(u51:Nat),(∀(u50:Nat),u73.2.P.D u50=u->u50.beq u51=w)->∃(u49:Nat×Pd),Told u49.2 (m+1+(1:Nat)) u49.1 (b8 (m+1) x.1)/\u51=u49.1 /\aa (SB.dR (fun(u48:Nat)=>u73.2.P.D u48||u48.beq u51) [aq.str λu47=>bif u73.2.P.D u47 then u73.2.P.cS u47 else cR {k:=(3:Int),p:=[],v:=(x.1.getD 0 ([],[])).2,r:=fun(u46:Nat)=>(cV (kL m x.1 u73.1) []).getD u46 []:Nd},aq.bU (bif(id (bif(id ((5:Nat))).beq ((3:Nat))then(5:Nat)else id ((5:Nat)))).beq 1 then(4:Nat)else id (bif(id ((5:Nat))).beq ((3:Nat))then(5:Nat)else id ((5:Nat)))) 1 u (fun(u45:Nat)=>bif u73.2.P.D u45 then u73.2.P.fb u45 else u53) (fun(u44:Nat)=>bif u73.2.P.D u44 then u73.2.P.nb u44 else u73.2.nb) fun(u43:Nat)=>bif u73.2.P.D u43 then u73.2.P.cb u43 else u73.2.cb] 2 165 w) (u49.2.parts 2) /\aa (SB.dD (fun(u42:Nat)=>u73.2.P.D2 u42||u42.beq u53&& !(u&&u73.2.nb.beq 0)) (fun(u41:Nat)=>bif u73.2.P.D2 u41 then u73.2.P.n2 u41 else u73.2.nb) [bW.ref (bif(id (bif(id ((4:Nat))).beq ((3:Nat))then(5:Nat)else id ((4:Nat)))).beq 1 then(4:Nat)else id (bif(id ((4:Nat))).beq ((3:Nat))then(5:Nat)else id ((4:Nat)))) fun(b i:Nat)=>bif u73.2.P.D2 b then u73.2.P.g b i else u73.2.f i] w) (u49.2.lists 1)) /\(aU {k:=(3:Int),p:=[],v:=(x.1.getD 0 ([],[])).2,r:=fun(u40:Nat)=>(cV (kL m x.1 u73.1) []).getD u40 []:Nd}=w->∀(u39:Nat),(∀(u38:Nat),u73.2.P.D2 u38=u->(u38.beq u39&& !(u&&u73.2.nb.beq 0))=w)->∀(u37:Nat),(∀(u36:Nat),u73.2.P.D u36=u->u36.beq u37=w)->∃(u35:Nat×Pd),Told u35.2 (m+1+(1:Nat)) u35.1 (b8 (m+1) x.1)/\u37=u35.1 /\aa (SB.dR (fun(u34:Nat)=>u73.2.P.D u34||u34.beq u37) [aq.str λu33=>bif u73.2.P.D u33 then u73.2.P.cS u33 else [],aq.bU (bif(id (bif(id ((5:Nat))).beq ((3:Nat))then(5:Nat)else id ((5:Nat)))).beq 1 then(4:Nat)else id (bif(id ((5:Nat))).beq ((3:Nat))then(5:Nat)else id ((5:Nat)))) 1 u (fun(u32:Nat)=>bif u73.2.P.D u32 then u73.2.P.fb u32 else u39) (fun(u31:Nat)=>bif u73.2.P.D u31 then u73.2.P.nb u31 else u73.2.nb) fun(u30:Nat)=>bif u73.2.P.D u30 then u73.2.P.cb u30 else u73.2.cb] 2 165 w) (u35.2.parts 2) /\aa (SB.dD (fun(u29:Nat)=>u73.2.P.D2 u29||u29.beq u39&& !(u&&u73.2.nb.beq 0)) (fun(u28:Nat)=>bif u73.2.P.D2 u28 then u73.2.P.n2 u28 else u73.2.nb) [bW.ref (bif(id (bif(id ((4:Nat))).beq ((3:Nat))then(5:Nat)else id ((4:Nat)))).beq 1 then(4:Nat)else id (bif(id ((4:Nat))).beq ((3:Nat))then(5:Nat)else id ((4:Nat)))) fun(b i:Nat)=>bif u73.2.P.D2 b then u73.2.P.g b i else u73.2.f i] w) (u35.2.lists 1)))/\(A ((x.1.getD 0 ([],[])).1=[])=w ->Fits {k:=(3:Int),p:=[],v:=[],r:=fun(u27:Nat)=>(cV (kL m x.1 u73.1) []).getD u27 []:Nd}/\(aU {k:=(3:Int),p:=[],v:=[],r:=fun(u26:Nat)=>(cV (kL m x.1 u73.1) []).getD u26 []:Nd}=u->∀(u25:Nat),(∀(u24:Nat),u73.2.P.D2 u24=u->(u24.beq u25&& !(u&&u73.2.nb.beq 0))=w)->∀(u23:Nat),(∀(u22:Nat),u73.2.P.D u22=u->u22.beq u23=w) ->∃(u21:Nat×Pd),Told u21.2 (m+1+(1:Nat)) u21.1 (b8 (m+1) x.1)/\u23=u21.1 /\aa (SB.dR (fun(u20:Nat)=>u73.2.P.D u20||u20.beq u23) [aq.str λu19=>bif u73.2.P.D u19 then u73.2.P.cS u19 else cR {k:=(3:Int),p:=[],v:=[],r:=fun(u18:Nat)=>(cV (kL m x.1 u73.1) []).getD u18 []:Nd},aq.bU (bif(id (bif(id ((5:Nat))).beq ((3:Nat))then(5:Nat)else id ((5:Nat)))).beq 1 then(4:Nat)else id (bif(id ((5:Nat))).beq ((3:Nat))then(5:Nat)else id ((5:Nat)))) 1 u (fun(u17:Nat)=>bif u73.2.P.D u17 then u73.2.P.fb u17 else u25) (fun(u16:Nat)=>bif u73.2.P.D u16 then u73.2.P.nb u16 else u73.2.nb) fun(u15:Nat)=>bif u73.2.P.D u15 then u73.2.P.cb u15 else u73.2.cb] 2 165 w) (u21.2.parts 2) /\aa (SB.dD (fun(u14:Nat)=>u73.2.P.D2 u14||u14.beq u25&& !(u&&u73.2.nb.beq 0)) (fun(u13:Nat)=>bif u73.2.P.D2 u13 then u73.2.P.n2 u13 else u73.2.nb) [bW.ref (bif(id (bif(id ((4:Nat))).beq ((3:Nat))then(5:Nat)else id ((4:Nat)))).beq 1 then(4:Nat)else id (bif(id ((4:Nat))).beq ((3:Nat))then(5:Nat)else id ((4:Nat)))) fun(b i:Nat)=>bif u73.2.P.D2 b then u73.2.P.g b i else u73.2.f i] w) (u21.2.lists 1)) /\(aU {k:=(3:Int),p:=[],v:=[],r:=fun(u12:Nat)=>(cV (kL m x.1 u73.1) []).getD u12 []:Nd}=w->∀(u11:Nat),(∀(u10:Nat),u73.2.P.D2 u10=u->(u10.beq u11&& !(u&&u73.2.nb.beq 0))=w)->∀(u9:Nat),(∀(u8:Nat),u73.2.P.D u8=u->u8.beq u9=w)->∃(u7:Nat×Pd),Told u7.2 (m+1+(1:Nat)) u7.1 (b8 (m+1) x.1)/\u9=u7.1 /\aa (SB.dR (fun(u6:Nat)=>u73.2.P.D u6||u6.beq u9) [aq.str λu5=>bif u73.2.P.D u5 then u73.2.P.cS u5 else [],aq.bU (bif(id (bif(id ((5:Nat))).beq ((3:Nat))then(5:Nat)else id ((5:Nat)))).beq 1 then(4:Nat)else id (bif(id ((5:Nat))).beq ((3:Nat))then(5:Nat)else id ((5:Nat)))) 1 u (fun(u4:Nat)=>bif u73.2.P.D u4 then u73.2.P.fb u4 else u11) (fun(u3:Nat)=>bif u73.2.P.D u3 then u73.2.P.nb u3 else u73.2.nb) fun(u2:Nat)=>bif u73.2.P.D u2 then u73.2.P.cb u2 else u73.2.cb] 2 165 w) (u7.2.parts 2) /\aa (SB.dD (fun(u1:Nat)=>u73.2.P.D2 u1||u1.beq u11&& !(u&&u73.2.nb.beq 0)) (fun(u0:Nat)=>bif u73.2.P.D2 u0 then u73.2.P.n2 u0 else u73.2.nb) [bW.ref (bif(id (bif(id ((4:Nat))).beq ((3:Nat))then(5:Nat)else id ((4:Nat)))).beq 1 then(4:Nat)else id (bif(id ((4:Nat))).beq ((3:Nat))then(5:Nat)else id ((4:Nat)))) fun(b i:Nat)=>bif u73.2.P.D2 b then u73.2.P.g b i else u73.2.f i] w) (u7.2.lists 1)))))))))) (fun(u72:List Rw×Nat×Nat)=>(SB.cells [SV.int .i64 w (u72.2.2:Int)] 1 3)))) (fun(n0:Nat) (u56:Nat×ki)=>SV.str w (kL m x.1 u56.1 n0)))) (fun(n0:Nat) (u73:Nat×ki) (u66:tg)=>SV.str w (if(u73.1:Int).toNat=n0 then iQ m u66.l else kL m x.1 u73.1 n0)))) (fun(n0:Nat) (u76:Nat×ki)=>SV.str w (kL m x.1 u76.1 n0))):=⟨by kernel_rfl,by kernel_rfl⟩
theorem vj {m:Nat}{l:List Rw}(hm:m<=12)(h:cg (m+1) l):Fits (dh (m+1) l):=λj hj=>by
 rw[rR m l hj];split
 ·decide
 ·rename_i hk;have:=Jd (k8 (m:=m) (by omega) (gA h j) hk);omega
theorem V4 {m:Nat}{r s:Rw}{t:List Rw}(hk:0<bH r.1 ((s::t).getLastD r).1):dh (m+1) (r::s::t)=⟨2,r.1.take (bH r.1 ((s::t).getLastD r).1),[],bC (iQ m (b7 (bH r.1 ((s::t).getLastD r).1) (r::s::t)))⟩:=by show gN _ (r::s::t)=_;unfold gN;dsimp only;rw[if_pos hk,cI,if_pos hk,if_pos rfl];rfl
theorem Kx {m:Nat}{r s:Rw}{t:List Rw}(hk: ¬ 0<bH r.1 ((s::t).getLastD r).1):dh (m+1) (r::s::t)=⟨3,[],if r.1=[] then r.2 else [],dx (kL m (r::s::t) 16)⟩:=by show gN _ (r::s::t)=_;unfold gN;dsimp only;rw[if_neg hk];rfl
theorem OE {m:Nat}{r s:Rw}{t:List Rw}(hk:0<bH r.1 ((s::t).getLastD r).1):cw (m+1) (r::s::t)=mC m (b7 (bH r.1 ((s::t).getLastD r).1) (r::s::t)):=by
 rw[nF];have: ∀ i,fK m (r::s::t) (i+1)=mC m (b7 (bH r.1 ((s::t).getLastD r).1) (r::s::t)):=λi=>by
  induction i with
  | zero=>rw[iM,cI,if_pos hk,if_pos rfl];rfl
  | succ i ih =>rw[iM,ih,cI,if_pos hk,if_neg (c! i)];show _++[]=_;rw[bO]
 exact this 15
theorem Av {m:Nat}{l:List Rw}(h: ∀ i,aP l i=[]):cw (m+1) l=[]:=by
 rw[nF];have: ∀ i,fK m l i=[]:=λi=>by
  induction i with
  | zero=>rfl
  | succ i ih=>rw[iM,ih,h i];rfl
 exact this 16
theorem EU (P:Pd)(d:Nat)(f:Nat->Nat):kj P d 0 f []:=⟨[],rfl,rfl,λi L' hi=>by simp at hi⟩
def Pd.none:Pd:={D:=λ_=>w,cS:=λ_=>[],fb:=λ_=>0,nb:=λ_=>0,cb:=λ_=>0,D2:=λ_=>w,n2:=λ_=>0,g:=λ_ _=>0}
theorem vO (k a:Nat): ¬ SB.fR 0 (Pd.none.parts k) a:=λh=>X (show w=u from h)
theorem vN (k a:Nat): ¬ SB.fR 0 (Pd.none.lists k) a:=λh=>X (show w=u from h)
theorem vk {k k' tot:Nat}{D:Nat->Bool}{cS:Nat->List UInt8}{fb nb cb:Nat->Nat}{ty:TypeId}:aa (.dR D [.str cS,.bU k 1 u fb nb cb] tot ty w) (.dR D [.str cS,.bU k' 1 u fb nb cb] tot ty w) :=⟨rfl,λ_ a h=>⟨h,λE o hb=>((aa.cells (cs:=[(aq.str cS).at a,(aq.bU k 1 u fb nb cb).at a]) (cs':=[(aq.str cS).at a,(aq.bU k' 1 u fb nb cb).at a]) (tot:=tot) (ty:=ty) (λ_=>rfl) rfl).old rfl).2.1 E o hb,id⟩⟩
theorem AB {m:Nat}{l:List Rw}{t:List UInt8}(ht:t=ctext (m+1) l)(hb:cw (m+1) l=[])(a:Nat): ∃(x:Nat×Pd),Told x.2 (m+1+1) x.1 (b8 (m+1) l)/\a=x.1 /\
  aa (.dR (λb=>b.beq a) [.str λ_=>t,.bU 0 1 u (λ_=>0) (λ_=>0) λ_=>0] 2 165 w) (x.2.parts 2)/\∀ a,¬ SB.fR 0 (x.2.lists 1) a:=by
 refine⟨(a,Pd.leaf a t),?_,rfl,vk,λb h=>X (show w=u from h)⟩
 have:=QB (m+1) a t;unfold b8;rw[hb,← ht];exact this
theorem OT (r:Rw)(t:List Rw):(r::t).getD t.length ([],[])=t.getLastD r:=by
 rw[ag,List.getLastD_eq_getLast?,List.getLast?_eq_getElem?];cases t with
 | nil=>rfl
 | cons s t=>simp
theorem AZ {k k':Nat}{D:Nat->Bool}{n:Nat->Nat}{g:Nat->Nat->Nat}:aa (.dD D n [.ref k g] w) (.dD D n [.ref k' g] w) :=
 ⟨rfl,λ_ a h=>⟨h,λE o ⟨c,ty,fr,h1,h2⟩=>⟨c,ty,fr,h1,λi j col hi hj=>by
  match j,hj with
  | 0,hj=>injection hj with hj;subst hj;have e:=h2 i 0 (bW.at a (.ref k g)) hi rfl;exact e
  | j+1,hj=>simp at hj⟩,id⟩⟩
theorem xj {m a a1 nb cb k k2:Nat}{l:List Rw}{t:List UInt8}{P:Pd}{f:Nat->Nat}{B:List (List UInt8)}(ht:t=ctext (m+1) l)(hb:cw (m+1) l=B)(hd2: ∀ b,P.D2 b=u->(b.beq a&& !(u&&nb.beq 0))=w)(hd: ∀ b,P.D b=u->b.beq a1=w)(h:kj P (m+1) nb f B) :
  ∃(x:Nat×Pd),Told x.2 (m+1+1) x.1 (b8 (m+1) l)/\a1=x.1 /\
   aa (.dR (λb=>P.D b||b.beq a1) [.str λb=>bif P.D b then P.cS b else t,.bU k 1 u (λb=>bif P.D b then P.fb b else a) (λb=>bif P.D b then P.nb b else nb) λb=>bif P.D b then P.cb b else cb] 2 165 w) (x.2.parts 2) /\
   aa (.dD (λb=>P.D2 b||b.beq a&& !(u&&nb.beq 0)) (λb=>bif P.D2 b then P.n2 b else nb) [.ref k2 λb i=>bif P.D2 b then P.g b i else f i] w) (x.2.lists 1):=by
 refine⟨(a1,P.top a a1 t nb cb f),?_,rfl,vk,AZ⟩;have:=U1 (cb:=cb) (t:=t) hd hd2 h;unfold b8;rw[hb,← ht];exact this
theorem Ky {m:Nat}{l:List Rw}(h:cg m l)(hl:l≠[]):(dh m l).k≠0:=by
 match m,h with
 | 0,ho =>
   cases l with
   | nil=>exact absurd rfl hl
   | cons x y=>exact absurd (ho.len x (M ..)) (c9 _)
 | m+1,_=>exact(Sg hl).1
theorem wZ {m:Nat}{l:List Rw}{i:Nat}(hi:i<16)(hk:aP l i≠[]){t:List UInt8}(ht:t∈ cw m (aP l i)):t∈ cw (m+1) l:=by unfold cw;refine cG.2 ⟨i,c4.2 hi,?_⟩;rw[if_neg hk];exact List.mem_append_right _ ht
theorem Ax {m:Nat}{l:List Rw}{i:Nat}(hi:i<16)(hk:aP l i≠[])(hl: ¬ (ctext m (aP l i)).length<32):ctext m (aP l i)∈ cw (m+1) l:=by unfold cw;refine cG.2 ⟨i,c4.2 hi,?_⟩;rw[if_neg hk,if_neg hl];exact List.mem_append_left _ (M ..)
theorem l9 (b:UInt8)(k:List UInt8):ak (b::k)=C (b.toNat / 16)::C (b.toNat% 16)::ak k:=by
 have hb:ai (b::k) 0=(b.toNat:Int):=rfl;have e0:kI (b::k) 0=(b.toNat:Int) / 16:=by unfold kI;rw[if_pos rfl];rfl
 have e1:kI (b::k) 1=(b.toNat:Int)% 16:=by unfold kI;rw[if_neg (by decide)];rfl
 have e2: ∀ j:Nat,kI (b::k) (j+2)=kI k j:=λj=>by
  unfold kI;have:(((j+2:Nat):Int) / 2)=((j / 2+1:Nat):Int):=by omega
  have h2:((j:Int) / 2)=((j / 2:Nat):Int):=by omega
  have h3:(j+2)% 2=j% 2:=by omega
  rw[h3,this,bZ,h2]
 have hn:2*(b::k).length=2*k.length+1+1:=by rw[I];omega
 unfold ak di;rw[hn,ay,V,W,ay,V,W];simp only[O,Function.comp,e0,e1,Nat.succ_eq_add_one];refine congr (congrArg _ ?_) (congr (congrArg _ ?_) ?_)
 ·congr 1
 ·congr 1
 ·refine cx λj _=> ?_;show C (kI (b::k) (j+2)).toNat=_;rw[e2]
theorem I0 (a b:UInt8)(p:List UInt8)(ha:a.toNat<16)(hb:b.toNat<16):aX (a::b::p)=C (a.toNat*16+b.toNat)::aX p:=by
 have e0:iu (a::b::p) 0=(a.toNat:Int)*16+(b.toNat:Int):=by have h1:ai (a::b::p) (2*((0:Nat):Int))=(a.toNat:Int):=rfl;have h2:ai (a::b::p) (2*((0:Nat):Int)+1)=(b.toNat:Int):=rfl;unfold iu;rw[h1,h2,NU ⟨by omega,by omega⟩ ⟨by omega,by omega⟩]
 have e2: ∀ j:Nat,iu (a::b::p) (j+1)=iu p j:=λj=>by
  unfold iu
  rw[show(2*((j+1:Nat):Int))=((2*j+1+1:Nat):Int)by push_cast;omega,bZ,bZ,
   show(((2*j+1+1:Nat):Int)+1)=((2*j+1+1+1:Nat):Int)by push_cast;omega,bZ,bZ]
  rw[show((2*j+1:Nat):Int)=2*(j:Int)+1 by push_cast;omega,show((2*j:Nat):Int)=2*(j:Int)by push_cast;omega]
 have hn:(a::b::p).length / 2=p.length / 2+1:=by rw[I,I];omega
 unfold aX di;rw[hn,ay,V,W];simp only[O,e0];refine congr (congrArg _ ?_) (cx λj _=>by show C (iu (a::b::p) (j+1)).toNat=_;rw[e2])
 congr 1
theorem sF (b:UInt8):(C (b.toNat / 16)).toNat=b.toNat / 16/\(C (b.toNat% 16)).toNat=b.toNat% 16:=by
 have:=b.toNat_lt;constructor
 ·rw[d_];omega
 ·rw[d_];omega
theorem pE: ∀(k:List UInt8),aX (ak k)=k
 | []=>rfl
 | b::k=>by have hb:=b.toNat_lt;obtain⟨h1,h2⟩:=sF b;rw[l9,I0 _ _ _ (by rw[h1];omega) (by rw[h2];omega),pE k,h1,h2];congr 1;rw[show b.toNat / 16*16+b.toNat% 16=b.toNat by omega,UInt8.ofNat_toNat]
theorem vM: ∀(k:List UInt8) (b:UInt8),b∈ ak k->b.toNat<16
 | [],b,h=>by cases h
 | c::k,b,h=>by
   have hc:=c.toNat_lt;obtain⟨h1,h2⟩:=sF c;rw[l9] at h;rcases cy.1 h with rfl | h
   ·rw[h1];omega
   ·rcases cy.1 h with rfl | h
    ·rw[h2];omega
    ·exact vM k b h
theorem BY (k:List UInt8):kC (ak k)=true:=by unfold kC;rw[LP (vM k),n4,decide_eq_true (by omega)];rfl
theorem i6 (a b:UInt8)(p q:List UInt8):H (a::p) (b::q)=(A (a<b)||(A (a=b)&&H p q)):=by
 show(A (a<b)||(a==b&&H p q))=_;by_cases e:a=b
 ·subst e;simp
 ·simp[e]
theorem su: ∀ {a b:List UInt8},H a b=u->H (ak a) (ak b)=u
 | [],[],h=>by cases h
 | [],b::q,_=>by rw[l9];rfl
 | a::p,[],h=>by cases h
 | a::p,b::q,h=>by
   have ha:=a.toNat_lt;have hb:=b.toNat_lt;obtain⟨a1,a2⟩:=sF a;obtain⟨b1,b2⟩:=sF b;rw[i6,bx,a!,decide_eq_true_eq,decide_eq_true_eq] at h;rw[l9,l9,i6,i6];rcases h with h | ⟨rfl,h⟩
   ·have hlt:a.toNat<b.toNat:=a_.1 h;by_cases h1:a.toNat / 16<b.toNat / 16
    ·have:C (a.toNat / 16)<C (b.toNat / 16):=a_.2 (by rw[a1,b1];exact h1);rw[decide_eq_true this];rfl
    ·have e1:C (a.toNat / 16)=C (b.toNat / 16):=by congr 1;omega
     have:C (a.toNat% 16)<C (b.toNat% 16):=a_.2 (by rw[a2,b2];omega);rw[decide_eq_true e1,decide_eq_true this];simp
   ·rw[decide_eq_true rfl,decide_eq_true rfl,su h];simp
theorem ur: ∀ {a b c:List UInt8},H a b=u->H b c=u->H a c=u
 | [],[],_,h,_=>by cases h
 | _::_,[],_,h,_=>by cases h
 | _,_::_,[],_,h=>by cases h
 | [],_::_,_::_,_,_=>rfl
 | a::p,b::q,c::r,h,h'=>by
   rw[i6,bx,a!,decide_eq_true_eq,decide_eq_true_eq] at h h' ⊢;rcases h with h | ⟨rfl,h⟩
   ·rcases h' with h' | ⟨rfl,_⟩
    ·exact .inl (UInt8.lt_trans h h')
    ·exact .inl h
   ·rcases h' with h' | ⟨rfl,h'⟩
    ·exact .inl h'
    ·exact .inr ⟨rfl,ur h h'⟩
structure tK (l:List (List UInt8×List UInt8)):Prop where
 yb:l.Pairwise λa b=>H a.1 b.1=u
 key: ∀ x,x∈ l->x.1≠[]/\x.1.length<=6
 val: ∀ x,x∈ l->0<x.2.length/\x.2.length<=80
theorem rS {l:List (List UInt8×List UInt8)}(h:tK l):cg 13 (rowsOf l):=by
 refine⟨?_,λx hx=> ?_,λx hx b hb=> ?_,λx hx=> ?_⟩
 ·unfold tM rowsOf;rw[List.pairwise_map];exact h.yb.imp su
 all_goals
  obtain⟨e,he,rfl⟩:=List.mem_map.1 hx
 ·have:=(h.key e he).2;show(ak e.1).length<13;rw[n4];omega
 ·exact vM e.1 b hb
 ·exact h.val e he
theorem IC (fr to:List UInt8)(l:List (List UInt8×List UInt8)):gI fr to [] (rowsOf l)=aj fr to l:=by
 unfold gI rowsOf aj;rw[List.filter_map,W];have e:((λr:Rw=>hasB fr to (cat [] r.1))∘ λe:List UInt8×List UInt8=>(ak e.1,e.2))=λe=>hasB fr to (ak e.1):=rfl;rw[e];have: ∀ l:List (List UInt8×List UInt8),l.map ((λr:Rw=>(aX (cat [] r.1),r.2))∘ λe=>(ak e.1,e.2))=l:=λl=>by
  induction l with
  | nil=>rfl
  | cons x r ih =>rw[V,ih];show(aX (ak x.1),x.2)::r=x::r;rw[pE]
 exact this _
theorem CP (m:Nat):aU (dh m [])=true:=by cases m<;>kernel_rfl
theorem od {z:Bool}{n tot:Nat}{cs:List aq}{ty:TypeId}:aa (.rows z n cs w tot ty) (.rows z n cs u tot ty) :=aa.of rfl rfl λhno=>⟨hno,λE o ⟨c,fr,h1,_,h3⟩=>⟨c,fr,h1,λh=>(by cases h),h3⟩,λh=>(by cases h)⟩
theorem Jk {n n' k k' c c':Nat}{f f':Nat->Nat}{ty:TypeId}(hn:n=n')(hc:c=c')(hf: ∀ i,i<n->f i=f' i):aa (.rows u n [.ref k f] w (c*1) ty) (.rows u n' [.ref k' f'] w (c'*1) ty):=by
 refine gZ hn (by rw[hc]) rfl λj d d' h1 h2 i hi E=> ?_
 match j,h1,h2 with
 | 0,h1,h2 =>injection h1 with h1;injection h2 with h2;subst h1;subst h2;show(SV.fI k' (f' i) 0).val E=(SV.fI k (f i) 0).val E;rw[hf i hi];rfl
 | j+1,h1,_=>simp at h1
theorem Uu (m:Nat)(l:List Rw)(i j:Nat):(if i=j then iQ m (aP l i)else kL m l i j)=kL m l (i+1) j:=by
 unfold kL;by_cases h:i=j
 ·subst h;rw[if_pos rfl,if_pos (Nat.lt_succ_self _)]
 ·rw[if_neg h];by_cases h2:j<i
  ·rw[if_pos h2,if_pos (by omega)]
  ·rw[if_neg h2,if_neg (by omega)]
theorem G9 (m:Nat)(x:List Rw×Nat)(hx:(xg (m+1)).pre x):aB (runM (M1 m x.1) 63 Tryz.f63 (xg (m+1)) x):=by
 refine aB.pr (Xs m x) ?_;obtain⟨h1,h2,h3⟩:=hx;obtain⟨l,c⟩:=x;have h1:cg (m+1) l:=h1;have h2:l.length<=1000:=h2;simp only[Int.toNat_natCast,O,true_and,decide_eq_true_eq,decide_eq_false_iff_not];refine⟨λh0=> ?_,λh0=>⟨λh5=> ?_,λh5=> ?_⟩⟩
 ·have hl:l=[]:=b!.1 (by omega);subst hl;exact⟨vj (m:=m) (l:=[]) (by omega) h1,λ_ a=>AB (m:=m) (l:=[]) rfl (Av λ_=>rfl) a,λhv=>absurd (CP (m+1)) (by rw[show aU (dh (m+1) [])=w from hv];decide)⟩
 ·obtain⟨r,hr⟩: ∃ r,l=[r]:=List.length_eq_one_iff.1 (by omega);subst hr;refine⟨⟨Int.le_refl 0,Int.one_pos⟩,c_,⟨Int.le_refl 0,Int.one_pos⟩,c_,vj (m:=m) (l:=[r]) (by omega) h1,λ_ a=>AB (m:=m) (l:=[r]) rfl (Av λ_=>rfl) a,λhv=> ?_⟩;have:=dZ (m:=m+1) (l:=[r]) (by omega) h1 (Y _ _);rw[show aU (dh (m+1) [r])=w from hv] at this;cases this
 ·obtain⟨r,s,t,hl⟩: ∃ r s t,l=r::s::t:=by
   match l,h0,h5 with
   | [],h0,_=>exact absurd rfl h0
   | [_],_,h5=>exact absurd rfl h5
   | r::s::t,_,_=>exact⟨r,s,t,rfl⟩
  have hpos:0<l.length:=by rw[hl];exact aZ _
  have hr:l.getD 0 ([],[])=r:=by rw[hl];rfl
  have he:l.getD ((l.length:Int) - 1).toNat ([],[])=(s::t).getLastD r:=by
   have:((l.length:Int) - 1).toNat=(s::t).length:=by rw[hl,I];omega
   rw[this,hl];exact OT r (s::t)
  have hrl:=h1.len r (by rw[hl];exact M ..);rw[hr,he];refine⟨⟨by omega,by omega⟩,hpos,⟨by omega,by omega⟩,⟨by omega,by omega⟩,by omega,by omega,λhk=> ?_,λhk=> ?_⟩
  ·have hc:=(zS r.1 ((s::t).getLastD r).1).1;rw[D9];have hrc: ∀ x,x∈ l->bH r.1 ((s::t).getLastD r).1<=x.1.length:=λx hx=>by have:=sM (by rw[← hl];exact h1.yb) (x:=x) (by rw[← hl];exact hx);have:=congrArg List.length this;rw[ct,ct] at this;omega
   refine⟨⟨by omega,by omega⟩,hpos,⟨by omega,by omega⟩,⟨by omega,by omega⟩,by omega,by omega,⟨by omega,by omega⟩,hpos,⟨by omega,by omega,by omega⟩,⟨?_,?_⟩,λc' hc'=> ?_⟩
   ·simp
   ·exact⟨by omega,h2,λi hi=>hrc _ (by rw[ag,bS hi];exact b_ hi)⟩
   ·have hkid:aP l 0=b7 (bH r.1 ((s::t).getLastD r).1) l:=by rw[hl,cI,if_pos (by omega),if_pos rfl]
    have hR:=gA h1 0;rw[hkid] at hR;have hlen:(b7 (bH r.1 ((s::t).getLastD r).1) l).length=l.length:=T _;have hB:=Bj m (b7 (bH r.1 ((s::t).getLastD r).1) l);have hB':(m+1)*l.length<=13*1000:=c7 (by omega) h2;rw[hlen] at hB;refine⟨⟨_,c',0,0,λ_=>0,Pd.none,[]⟩,⟨hR,by show(b7 _ l).length<=_;omega,by omega,N _,by rw[c5];show(mC m (b7 _ l)).length<=_;omega,EU _ _ _⟩,⟨rfl,rfl⟩,od,rfl,rfl,vO _,vN _,λy hy=> ?_⟩;have e:dh (m+1) l=⟨2,r.1.take (bH r.1 ((s::t).getLastD r).1),[],bC (iQ m (b7 (bH r.1 ((s::t).getLastD r).1) l))⟩:=by rw[hl];exact V4 (by omega)
    have es:cj r.1 R (G (K 81)) 0 (bH r.1 ((s::t).getLastD r).1:Int)=r.1.take (bH r.1 ((s::t).getLastD r).1):=by unfold cj;simp
    have eb:cw (m+1) l=mC m (b7 (bH r.1 ((s::t).getLastD r).1) l):=by rw[hl];exact OE (by omega)
    have hv:=dZ (m:=m+1) (l:=l) (by omega) h1 (by rw[hl];exact Y _ _);have hf:=vj (m:=m) (l:=l) (by omega) h1;rw[e] at hf hv;rw[es];exact⟨hf,λ_ a hd2 a1 hd=>xj (l:=l) (congrArg cR e).symm eb hd2 hd hy.2,λhn=>absurd (hv.symm.trans hn) (by decide)⟩
  ·refine⟨⟨(0,⟨0,0,λ_=>0,Pd.none⟩),⟨F _,N _,EU _ _ _⟩,rfl,rfl,rfl,vO _,vN _,aa.cells (λ_=>rfl) rfl⟩,λy hy=>⟨λh=> ?_,λh=> ?_⟩⟩
   ·obtain⟨y1,y2,y3⟩:=hy;have hkid:aP l y.1=b7 1 (bB y.1 l):=by rw[hl,cI,if_neg (by omega)]
    have hR:=gA h1 y.1;have hbl:=G2 m l (y.1+1);rw[iM] at hbl;rw[hkid] at hR hbl;have hB':(m+1)*l.length<=13*1000:=c7 (by omega) h2;have hcl:(bB y.1 l).length<=l.length:=cl _ _;have hdl:(b7 1 (bB y.1 l)).length=(bB y.1 l).length:=T _;refine⟨(l,c,y.1),h2,⟨rfl,rfl⟩,aa.refl _,aa.refl _,λc1 hc1=>⟨rfl,⟨by simp,by decide,by show(bB y.1 l).length<=_;omega,λi hi=> ?_⟩,λc2 hc2=> ?_⟩⟩
    ·have hm:(bB y.1 l).getD i ([],[])∈ bB y.1 l:=by rw[ag,bS hi];exact b_ hi
     have hh:=(List.mem_filter.1 hm).2;show 1<=((bB y.1 l).getD i ([],[])).1.length;cases hp:((bB y.1 l).getD i ([],[])).1 with
     | nil=>rw[hp] at hh;cases hh
     | cons b q=>exact aZ _
    ·rw[D9];refine⟨⟨b7 1 (bB y.1 l),c2,y.2.nb,y.2.cb,y.2.f,y.2.P,fK m l y.1⟩,⟨hR,by show(b7 1 _).length<=_;omega,by omega,y2,by show(fK m l y.1++mC m (b7 1 (bB y.1 l))).length<=_;omega,y3⟩,⟨rfl,rfl⟩,od,⟨rfl,rfl⟩,Jk rfl rfl λ_ _=>rfl,vk,AZ,λv hv=> ?_⟩;have hW:kj v.P (m+1) v.nb v.f (fK m l (y.1+1)):=by rw[iM,hkid];exact hv.2
     refine⟨⟨by omega,by omega⟩,by omega,⟨by omega,by omega⟩,(y.1+1,v),⟨⟨by show y.1+1<=16;omega,hv.1,hW⟩,by show 16 - (y.1+1)<_;omega⟩,by show(y.1:Int)+1=((y.1+1:Nat):Int);omega,⟨rfl,rfl⟩,Jk rfl rfl λ_ _=>rfl,vk,AZ,?_⟩;rw[← hkid];simp only[Uu];exact aa.cells (λ_=>rfl) rfl
   ·obtain⟨y1,y2,y3⟩:=hy;have hy:y.1=16:=by omega
    rw[hy] at y3 ⊢;have e:dh (m+1) l=⟨3,[],if r.1=[] then r.2 else [],dx (kL m l 16)⟩:=by rw[hl];exact Kx (by omega)
    have hv:=dZ (m:=m+1) (l:=l) (by omega) h1 (by rw[hl];exact Y _ _);have hf:=vj (m:=m) (l:=l) (by omega) h1;rw[e] at hf hv;refine⟨⟨by omega,by omega⟩,hpos,λhn=> ?_,λhn=> ?_⟩
    ·rw[if_pos hn] at e hf hv;exact⟨⟨by omega,by omega⟩,hpos,hf,λ_ a hd2 a1 hd=>xj (l:=l) (congrArg cR e).symm (nF m l) hd2 hd y3,λhx=>absurd (hv.symm.trans hx) (by decide)⟩
    ·rw[if_neg hn] at e hf hv;exact⟨hf,λ_ a hd2 a1 hd=>xj (l:=l) (congrArg cR e).symm (nF m l) hd2 hd y3,λhx=>absurd (hv.symm.trans hx) (by decide)⟩
theorem Rr {m:Nat}(h:az Tryz.prog 101 (cD (qQ m))):az Tryz.prog 63 (cD (xg (m+1))) :=gx (n:=20) (fn:=Tryz.f63) Tryz.func63 (by kernel_rfl) (by kernel_rfl) (xg (m+1)) λx hx=>⟨M1 m x.1,Ze h x.1,by rfl,G9 m x hx⟩
theorem Dp: ∀ m:Nat,az Tryz.prog 63 (oI m)
 | 0=>Kq
 | m+1=>Rr (Wo (Dp m))
end Go.Proofs.YtoibaecagklkaaaGreatDoor
