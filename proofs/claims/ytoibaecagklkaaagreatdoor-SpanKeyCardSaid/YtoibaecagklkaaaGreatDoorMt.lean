/-
  Canon: hold: the contract.
-/
import Derived.Test.YtoibaecagklkaaaGreatDoorMs
import Derived.Test.YtoibaecagklkaaaGreatDoorMq
import Derived.Test.YtoibaecagklkaaaGreatDoorMr
import Derived.Test.YtoibaecagklkaaaGreatDoorMp
open Bool renaming eq_iff_iff->c4,false->F,false_eq_true->c5,or_eq_true->c_,or_true->c!,true->C
open Decidable renaming decide->J
open Go.IntKind renaming i64->I
open Go.Proofs.Tryz renaming f101->bf,f80->bH,f81->bW,prog->T
open List renaming append_assoc->d_,append_nil->a_,filter_cons->b_,flatMap_append->d!,getD_eq_getElem?_getD->ag,getElem?_append_left->ej,getElem?_eq_getElem->ek,getElem?_eq_some_iff->en,getElem?_map->ep,length_append->W,length_cons->eu,length_filter_le->ez,length_map->an,map->eB,mem_append->a!,mem_append_left->ax,mem_append_right->b!,mem_cons_self->X,mem_flatMap->cl,mem_range->eC,mem_singleton->Y,nil_append->ct,pairwise_singleton->eL,range->O,range_succ->eM
open Nat renaming add_assoc->eP,beq_refl->ay,le_refl->R,le_trans->cx,lt_irrefl->cy,mul_add->eR,mul_le_mul_left->eT,not_lt_zero->aP,succ_pos->eW,zero_add->Z,zero_le->S
open Option renaming none->H,some->M
namespace Go.Proofs.YtoibaecagklkaaaGreatDoor
open Go Sx
variable {Fr:List (List UInt8)}{l:List Rw}{r s t:List UInt8}{met:List UInt8->Int}{a b c c' i k m n:Nat}{f:Nat->List UInt8}
section
open Go Sx
set_option maxRecDepth 20000
theorem Ch {n' k':Nat}{f f':Nat->Nat}{ty:TypeId}(hn:n=n')(hc:c=c')(hk:k=k')(hf: ∀ i,i<n->f i=f' i):aa (.rows C n [.ref k f] F (c*1) ty) (.rows C n' [.ref k' f'] F (c'*1) ty):=by
 subst hk;refine kg hn (by rw[hc]) rfl λj d d' h1 h2 i hi E=> ?_
 match j,h1,h2 with
 | 0,h1,h2 =>injection h1 with h1;injection h2 with h2;subst h1;subst h2;simp only[ak.at,hf i hi]
 | j+1,h1,_=>simp at h1
theorem DO {x:tn}(hl:x.l=[])(h:ko x.P (m+1) x.nb x.f x.B):ko x.P (m+1) x.nb x.f (x.B++mP m x.l):=by rw[hl,show mP m []=[] from rfl,a_];exact h
theorem Py (x:tn)(hx:(qU 0).pre x):az (runM (Dt 0) 101 bf (qU 0) x):=by
 refine az.pr (Ys x) ?_;obtain⟨h1,h2,h3,h4,h5,h6⟩:=hx;have hl:x.l=[]:=by
  cases e:x.l with
  | nil=>rfl
  | cons r l=>rw[e] at h1;exact absurd (h1.len r (X ..)) (aP _)
 refine⟨λ_=>⟨⟨x.nb,x.cb,x.f,x.P⟩,⟨h4,DO hl h6⟩,by rw[hl];rfl,⟨rfl,rfl⟩,aa.refl _,aa.refl _,aa.refl _⟩,λh=> ?_⟩;rw[hl] at h;exact absurd h (by decide)
theorem Px (m:Nat)(x:tn)(hx:(qU (m+1)).pre x):az (runM (Dt (m+1)) 101 bf (qU (m+1)) x):=by
 refine az.pr (abH m x) ?_;obtain⟨h1,h2,h3,h4,h5,h6⟩:=hx;refine⟨λh=> ?_,λh=> ?_⟩
 ·have hl:x.l=[]:=List.length_eq_zero_iff.1 (by have:=of_decide_eq_true h;omega);exact⟨⟨x.nb,x.cb,x.f,x.P⟩,⟨h4,DO hl h6⟩,by rw[hl];rfl,⟨rfl,rfl⟩,aa.refl _,aa.refl _,aa.refl _⟩
 have hl:x.l≠[]:=λe=>by have:=of_decide_eq_false h;rw[e] at this;exact this rfl
 refine⟨(x.l,x.c),⟨h1,h2,h3⟩,⟨rfl,rfl⟩,aa.refl _,λy hy=> ?_⟩;obtain⟨y1,Q⟩:=y;have hy:Told Q (m+1+1) y1 (cM (m+1) x.l):=hy;obtain⟨hb1,hb2,hb3,hb4⟩:=CO hy;have ht:Q.cR y1=ctext (m+1) x.l:=by injection hb3 with e _;exact e.symm
 have htail:(cM (m+1) x.l).tail=cr (m+1) x.l:=rfl;have h700:=lD h3 h1 hl;have hrl:=Jq h700;have hnb:=CP h6;rw[W] at h5;have hkB:mP (m+1) x.l=(if(ctext (m+1) x.l).length<32 then [] else [ctext (m+1) x.l])++cr (m+1) x.l:=if_neg hl
 have hkr:iU (m+1) x.l=dZ (ctext (m+1) x.l):=if_neg hl;show Q.D y1=C/\(Q.cR y1).length<_/\_;rw[ht];refine⟨hb4,by omega,by omega,λhh=> ?_,λhh=>⟨hb4,?_⟩⟩
 ·have hlong: ¬ (ctext (m+1) x.l).length<32:=λe=>by rw[gA e] at hh;have:=kH hh;omega
  rw[if_neg hlong] at hkB;refine⟨⟨by omega,trivial,by omega,by omega⟩,λc hc hd hd2=> ?_⟩;have hW:=Kr (Q:=Q) hd hd2 h6 (Wf hy);refine⟨⟨x.nb+1,c,λj=>if j<x.nb then x.f j else Vk [y1] (j - x.nb),x.P.or Q⟩,⟨hc,?_⟩,hkr.symm,⟨rfl,rfl⟩,Ch rfl rfl rfl λ_ _=>rfl,aa.refl _,aa.refl _⟩
  rw[hkB];exact hW
 ·have hshort:(ctext (m+1) x.l).length<32:=by
   by_cases e:(ctext (m+1) x.l).length<32
   ·exact e
   ·rw[(gJ e).1] at hh;cases hh
  rw[if_pos hshort,ct] at hkB;have hn2:=CP hb1;rw[htail,← hkB] at hn2;refine⟨⟨by omega,λh=> ?_,?_,?_⟩,λc hc hd hd2=> ?_⟩
  ·have:=hb2 h;exact⟨this.1,by show 0+Q.nb y1<=_;rw[Z];exact this.2⟩
  ·show 2*(x.nb+Q.nb y1)*8<=_;omega
  ·show x.nb+Q.nb y1<_;omega
  have hW:=Kr (Q:=Q) hd hd2 h6 hb1;refine⟨⟨x.nb+Q.nb y1,c,λj=>if j<x.nb then x.f j else Q.g (Q.fb y1) (j - x.nb),x.P.or Q⟩,⟨hc,?_⟩,hkr.symm,⟨rfl,rfl⟩,Ch rfl rfl rfl λ_ _=>rfl,aa.refl _,aa.refl _⟩
  rw[hkB];exact hW
theorem Xi (h:av T 63 (oV m)):av T 101 (cF (qU m)) :=
 fH (n:=20) (fn:=bf) Tryz.func101 (by kernel_rfl) (by kernel_rfl) (qU m) λx hx=>⟨Dt m,aal h,by rfl,by
  cases m with
  | zero=>exact Py x hx
  | succ m=>exact Px m x hx⟩
def Pd.top (P:Pd)(a a1:Nat)(t:List UInt8)(nb cb:Nat)(f:Nat->Nat):Pd :=
 {D:=λb=>P.D b||b.beq a1,cR:=λb=>bif P.D b then P.cR b else t,fb:=λb=>bif P.D b then P.fb b else a,nb:=λb=>bif P.D b then P.nb b else nb,cb:=λb=>bif P.D b then P.cb b else cb,
  D2:=λb=>P.D2 b||b.beq a&& !(C&&nb.beq 0),n2:=λb=>bif P.D2 b then P.n2 b else nb,g:=λb i=>bif P.D2 b then P.g b i else f i}
def Pd.one (a a1:Nat)(t:List UInt8)(nb cb:Nat)(f:Nat->Nat):Pd :={D:=λb=>b.beq a1,cR:=λ_=>t,fb:=λ_=>a,nb:=λ_=>nb,cb:=λ_=>cb,D2:=λb=>b.beq a&& !(C&&nb.beq 0),n2:=λ_=>nb,g:=λ_=>f}
theorem abC (P:Pd)(a a1:Nat)(t:List UInt8)(nb cb:Nat)(f:Nat->Nat):P.top a a1 t nb cb f=P.or (Pd.one a a1 t nb cb f):=rfl
theorem VB {P:Pd}{d a1 nb cb:Nat}{f:Nat->Nat}{B:List (List UInt8)}(hd: ∀ b,P.D b=C->b.beq a1=F)(hd2: ∀ b,P.D2 b=C->(b.beq a&& !(C&&nb.beq 0))=F)(h:ko P d nb f B) :
  Told (P.top a a1 t nb cb f) (d+1) a1 (t::B):=by
 obtain⟨Ks,h1,h2,h3⟩:=h;have e:a1.beq a1=true:=ay a1;have hp:P.D a1=false:=by
  cases h:P.D a1 with
  | false=>rfl
  | true=>rw[hd a1 h] at e;cases e
 have e2:(P.top a a1 t nb cb f).nb a1=nb:=by show(bif P.D a1 then _ else _)=_;rw[hp];rfl
 have e3:(P.top a a1 t nb cb f).fb a1=a:=by show(bif P.D a1 then _ else _)=_;rw[hp];rfl
 have e4:(P.top a a1 t nb cb f).cR a1=t:=by show(bif P.D a1 then _ else _)=_;rw[hp];rfl
 have hn:0<nb->(a.beq a&& !(C&&nb.beq 0))=true:=λh=>by
  have:nb.beq 0=false:=by cases nb with
   | zero=>omega
   | succ n=>rfl
  rw[this,show a.beq a=C from ay a];rfl
 have hp2:0<nb->P.D2 a=false:=λh=>by
  cases g:P.D2 a with
  | false=>rfl
  | true=>have:=hd2 a g;rw[hn h] at this;cases this
 refine⟨by show(P.D a1||a1.beq a1)=C;rw[e,c!],Ks,e2.trans h1,λh=> ?_,by rw[e4,h2],λi L' hi=> ?_⟩
 ·rw[← h1] at h;rw[e3];refine⟨by show(P.D2 a||_)=C;rw[hn h,c!],?_⟩;show _<=(bif P.D2 a then _ else nb)
  rw[hp2 h,h1];exact R _
 ·have hk:0<Ks.length:=Nat.lt_of_le_of_lt (S _) (en.1 hi).1;have:(P.top a a1 t nb cb f).g ((P.top a a1 t nb cb f).fb a1) i=f i:=by rw[e3];show(bif P.D2 a then _ else f i)=_;rw[hp2 (by omega)];rfl
  rw[this,abC];exact yw (h3 i L' hi)
def Pd.leaf (a:Nat)(t:List UInt8):Pd:={D:=λb=>b.beq a,cR:=λ_=>t,fb:=λ_=>0,nb:=λ_=>0,cb:=λ_=>0,D2:=λ_=>F,n2:=λ_=>0,g:=λ_ _=>0}
theorem Q4 (d a:Nat)(t:List UInt8):Told (Pd.leaf a t) (d+1) a [t]:=⟨ay a,[],rfl,λh=>absurd h (cy 0),rfl,λi L' hi=>by simp at hi⟩
def qS (i:Nat)(p:List UInt8):Bool:=match p with
 | []=>F
 | b::_=>decide (b.toNat<i)
theorem Lf (i:Nat)(p:List UInt8):(k7 i p=C->qS i p=F/\qS (i+1) p=C)/\(k7 i p=F->qS (i+1) p=qS i p):=by
 cases p with
 | nil=>exact⟨λh=>(by cases h),λ_=>rfl⟩
 | cons b q =>
   refine⟨λh=> ?_,λh=> ?_⟩
   ·have h:b.toNat=i:=of_decide_eq_true h;exact⟨decide_eq_false (by omega),decide_eq_true (by omega)⟩
   ·have h: ¬ b.toNat=i:=of_decide_eq_false h;show J (b.toNat<i+1)=J (b.toNat<i);exact decide_eq_decide.2 (by omega)
theorem HV (i:Nat): ∀ l:List Rw,(l.filter λr=>qS i r.1).length+(bI i l).length=(l.filter λr=>qS (i+1) r.1).length
 | []=>rfl
 | x::l=>by
   have ih:=HV i l;obtain⟨h1,h2⟩:=Lf i x.1;unfold bI at ih ⊢;rw[b_,b_,b_];cases h:k7 i x.1 with
   | true =>obtain⟨g1,g2⟩:=h1 h;rw[g1,g2];simp only[if_true,c5,if_false,eu];omega
   | false =>rw[h2 h];cases qS i x.1<;>simp only[if_true,c5,if_false,eu]<;>omega
def mq (l:List Rw):Nat->Nat
 | 0=>0
 | i+1=>mq l i+(aB l i).length
theorem xE (l:List Rw)(i:Nat):mq l i<=l.length:=by
 match l with
 | []=>induction i with
   | zero=>exact R _
   | succ i ih=>exact ih
 | [r]=>induction i with
   | zero=>exact S _
   | succ i ih=>exact ih
 | r::s::t =>
   by_cases hk:0<bP r.1 ((s::t).getLastD r).1
   ·cases i with
    | zero=>exact S _
    | succ i =>
      induction i with
      | zero =>show 0+(aB (r::s::t) 0).length<=_;rw[cC,if_pos hk,if_pos rfl,Z,cq,an];exact R _
      | succ i ih =>show mq (r::s::t) (i+1)+(aB (r::s::t) (i+1)).length<=_;rw[cC,if_pos hk,if_neg (Nat.succ_ne_zero i)];exact ih
   ·have:mq (r::s::t) i<=((r::s::t).filter λx=>qS i x.1).length:=by
     induction i with
     | zero=>exact S _
     | succ i ih =>show mq (r::s::t) i+(aB (r::s::t) i).length<=_;rw[cC,if_neg hk,cq,an,← HV i (r::s::t)];omega
    exact cx this (ez _ _)
theorem iQ (m:Nat)(l:List Rw)(i:Nat):fR m l (i+1)=fR m l i++mP m (aB l i):=by unfold fR;rw[eM,d!];simp
theorem nT (m:Nat)(l:List Rw):cr (m+1) l=fR m l 16:=rfl
mutual
theorem Bl: ∀(m:Nat) (l:List Rw),(mP m l).length<=(m+1)*l.length
 | m,l=>by
   unfold mP;by_cases h:l=[]
   ·rw[if_pos h];exact S _
   ·rw[if_neg h];have hb:=wX m l;have hp:1<=l.length:=List.length_pos_iff.2 h;have:(if(ctext m l).length<32 then([]:List (List UInt8))else [ctext m l]).length<=1:=by split<;>simp
    rw[W,Nat.add_mul,Nat.one_mul];omega
 termination_by m=>(m,1)
theorem wX: ∀(m:Nat) (l:List Rw),(cr m l).length<=m*l.length
 | 0,_=>S _
 | m+1,l=>by
   have: ∀ i,(fR m l i).length<=(m+1)*mq l i:=λi=>by
    induction i with
    | zero=>exact S _
    | succ i ih =>have:=Bl m (aB l i);rw[iQ,W,mq,eR];omega
   rw[nT];exact cx (this 16) (eT _ (xE l 16))
 termination_by m=>(m,0)
end
theorem Ho (m:Nat)(l:List Rw)(i:Nat):(fR m l i).length<=(m+1)*l.length:=by
 have: ∀ i,(fR m l i).length<=(m+1)*mq l i:=λi=>by
  induction i with
  | zero=>exact S _
  | succ i ih =>have:=Bl m (aB l i);rw[iQ,W,mq,eR];omega
 exact cx (this i) (eT _ (xE l i))
def mQ (fr to:List UInt8):Nat->List Rw->List UInt8->List (List UInt8)
 | 0,_,_=>[]
 | m+1,l,p=>(O 16).flatMap λi=>if aB l i=[] then [] else bif bK fr to (dR (bn (m+1) l) p i)then(if(ctext m (aB l i)).length<32 then [] else [ctext m (aB l i)])++mQ fr to m (aB l i) (dR (bn (m+1) l) p i)else []
def cV (c:Nat->Nat):Nat->Nat
 | 0=>0
 | n+1=>cV c n+c n
def nP (fr to:List UInt8):Nat->List Rw->List UInt8->Nat
 | 0,_,_=>1
 | m+1,l,p=>1+cV (λi=>if aB l i=[] then 0 else bif bK fr to (dR (bn (m+1) l) p i)then nP fr to m (aB l i) (dR (bn (m+1) l) p i)else 0) 16
def jN (w:Sp)(s:Wk)(V:List (List UInt8))(E:List (List UInt8×List UInt8))(c:Nat):Wk:=V.foldl (λs t=>s.take w (aG t)) {s with lk:=s.lk+c,fs:=s.fs++E}
theorem qM (w:Sp)(a:Nat)(b:List (List UInt8×List UInt8)): ∀(V:List (List UInt8)) (s:Wk),V.foldl (λs t=>s.take w (aG t)) {s with lk:=a,fs:=b}={V.foldl (λs t=>s.take w (aG t)) s with lk:=a,fs:=b}
 | [],_=>rfl
 | t::V,s=>qM w a b V (s.take w (aG t))
theorem FO (w:Sp): ∀(V:List (List UInt8)) (s:Wk),(V.foldl (λs t=>s.take w (aG t)) s).lk=s.lk/\(V.foldl (λs t=>s.take w (aG t)) s).fs=s.fs
 | [],_=>⟨rfl,rfl⟩
 | t::V,s=>FO w V (s.take w (aG t))
theorem Fc (w:Sp)(s:Wk)(V:List (List UInt8))(E:List (List UInt8×List UInt8))(c:Nat):(jN w s V E c).lk=s.lk+c:=(FO w V _).1
theorem M7 (w:Sp)(s:Wk)(V:List (List UInt8))(E:List (List UInt8×List UInt8))(c:Nat):(jN w s V E c).fs=s.fs++E:=(FO w V _).2
theorem wU (w:Sp)(s:Wk)(V V':List (List UInt8))(E E':List (List UInt8×List UInt8))(c c':Nat):jN w (jN w s V E c) V' E' c'=jN w s (V++V') (E++E') (c+c'):=by
 have h1:=Fc w s V E c;have h2:=M7 w s V E c;have e:jN w (jN w s V E c) V' E' c'={V'.foldl (λs t=>s.take w (aG t)) (jN w s V E c)with lk:=(jN w s V E c).lk+c',fs:=(jN w s V E c).fs++E'}:=qM w _ _ V' _;have e':jN w s (V++V') (E++E') (c+c')={V'.foldl (λs t=>s.take w (aG t)) (V.foldl (λs t=>s.take w (aG t)) s)with lk:=s.lk+(c+c'),fs:=s.fs++(E++E')}:=by unfold jN;rw[qM,List.foldl_append]
 have e2:jN w s V E c={V.foldl (λs t=>s.take w (aG t)) s with lk:=s.lk+c,fs:=s.fs++E}:=qM w _ _ V s;rw[e,h1,h2,e',e2,qM];simp only[eP,d_]
theorem Hi (w:Sp)(s:Wk):jN w s [] [] 0=s:=by unfold jN;rw[a_];rfl
theorem Dm (w:Sp)(s:Wk)(t:List UInt8):s.take w (aG t)=jN w s [t] [] 0:=by unfold jN;rw[a_];rfl
def Full (w:Sp)(L:List (List UInt8)):Prop:=∀ t,t∈ L->bJ w (aG t)=C/\w.at (aG t)=t
theorem Full.mono {w:Sp}{L L':List (List UInt8)}(h:Full w L)(hs: ∀ t,t∈ L'->t∈ L):Full w L':=λt ht=>h t (hs t ht)
theorem J3 {c:Nat->Nat}(h:n<=m):cV c n<=cV c m:=by
 induction m with
 | zero=>have:n=0:=by omega
         subst this;exact R _
 | succ m ih =>
   by_cases e:n=m+1
   ·subst e;exact R _
   ·have:=ih (by omega);show _<=cV c m+c m;omega
theorem JF {w:Sp}{p:List UInt8}(s:Wk)(hk: ∀ x,x∈ l->k8 (cat p x.1)=C):s.iW w (bn m l) p=jN w s [] (xZ w.fr w.to p (bn m l)) 1:=by
 have e:(s.iW w (bn m l) p).fs=s.fs++xZ w.fr w.to p (bn m l):=by
  cases m with
  | zero=>show(if eS w dO p=C then s.fs++[(bl (cat p dO.p),dO.v)] else s.fs)=s.fs++[]
          rw[if_neg (by unfold eS;simp[dO]),a_]
  | succ m=>exact Yc s hk
 have:s.iW w (bn m l) p={s with lk:=s.lk+1,fs:=(s.iW w (bn m l) p).fs}:=rfl;rw[this,e];rfl
theorem lX (h:bV 0 l):l=[]:=by
 cases l with
 | nil=>rfl
 | cons r l=>exact absurd (h.len r (X ..)) (aP _)
theorem LQ (fr to p:List UInt8)(h:bV (m+1) l) :
  gx fr to p l=xZ fr to p (bn (m+1) l)++(O 16).flatMap λi=>gx fr to (dR (bn (m+1) l) p i) (aB l i):=by
 by_cases hl:l=[]
 ·subst hl;rw[kE (f:=λi=>gx fr to (dR (bn (m+1) []) p i) (aB [] i)) λi _=>rfl];rfl
 ·exact Ei fr to p hl h
theorem pU {α:Type}(f:Nat->List α)(n:Nat):(O (n+1)).flatMap f=(O n).flatMap f++f n:=by rw[eM,d!];simp
theorem Ka {w:Sp}: ∀ {m:Nat} {l:List Rw} {p:List UInt8} {j:Nat} {s:Wk},m<=13->bV m l->m<=j->0<j->Full w (mQ w.fr w.to m l p)->(∀ x,x∈ l->k8 (cat p x.1)=C)->s.lk+nP w.fr w.to m l p<=400 ->
  kZ w j s (bn m l) p=M (jN w s (mQ w.fr w.to m l p) (gx w.fr w.to p l) (nP w.fr w.to m l p))
 | m,l,p,0,s,_,_,_,h,_,_,_=>absurd h (cy 0)
 | 0,l,p,j+1,s,_,hr,_,_,_,hk,hl=>by
   have e:=lX hr;subst e;have hl:s.lk+1<=400:=hl;unfold kZ;rw[if_neg (by omega),JF (m:=0) (l:=[]) s hk];have key: ∀ n,n<=16->∀ s1:Wk,cu w (kZ w j) (bn 0 []) p n s1=M s1:=by
    intro n;induction n with
    | zero=>intro _ s1;rfl
    | succ n ih =>intro hn s1;unfold cu;rw[ih (by omega)];exact j9 (jT n (by omega))
   rw[key 16 (R _)];rfl
 | m+1,l,p,j+1,s,hm,hr,hj,_,hf,hk,hl=>by
   have hN:nP w.fr w.to (m+1) l p=1+cV (λi=>if aB l i=[] then 0 else bif bK w.fr w.to (dR (bn (m+1) l) p i)then nP w.fr w.to m (aB l i) (dR (bn (m+1) l) p i)else 0) 16:=rfl
   have hV:mQ w.fr w.to (m+1) l p=(O 16).flatMap λi=>if aB l i=[] then [] else bif bK w.fr w.to (dR (bn (m+1) l) p i)then(if(ctext m (aB l i)).length<32 then [] else [ctext m (aB l i)])++mQ w.fr w.to m (aB l i) (dR (bn (m+1) l) p i)else []:=rfl
   rw[hV] at hf ⊢;rw[hN] at hl ⊢;generalize hc:(λi=>if aB l i=[] then 0 else bif bK w.fr w.to (dR (bn (m+1) l) p i)then nP w.fr w.to m (aB l i) (dR (bn (m+1) l) p i)else 0)=c at hl ⊢
   generalize hV2:(λi=>if aB l i=[] then [] else bif bK w.fr w.to (dR (bn (m+1) l) p i)then(if(ctext m (aB l i)).length<32 then [] else [ctext m (aB l i)])++mQ w.fr w.to m (aB l i) (dR (bn (m+1) l) p i)else [])=V at hf ⊢
   unfold kZ;rw[if_neg (by omega),JF (m:=m+1) s hk];have key: ∀ n,n<=16->cu w (kZ w j) (bn (m+1) l) p n (jN w s [] (xZ w.fr w.to p (bn (m+1) l)) 1)=M (jN w s ((O n).flatMap V) (xZ w.fr w.to p (bn (m+1) l)++(O n).flatMap λi=>gx w.fr w.to (dR (bn (m+1) l) p i) (aB l i)) (1+cV c n)):=by
    intro n;induction n with
    | zero=>intro _;show M _=M _;simp[cV]
    | succ n ih =>
      intro hn;rw[ee (ih (by omega))];have hle:cV c (n+1)<=cV c 16:=J3 hn;have hs1:cV c (n+1)=cV c n+c n:=rfl;rw[pU,pU,hs1,← d_,← eP,← wU];have hlk:=Fc w s ((O n).flatMap V) (xZ w.fr w.to p (bn (m+1) l)++(O n).flatMap λi=>gx w.fr w.to (dR (bn (m+1) l) p i) (aB l i)) (1+cV c n);generalize jN w s ((O n).flatMap V) (xZ w.fr w.to p (bn (m+1) l)++(O n).flatMap λi=>gx w.fr w.to (dR (bn (m+1) l) p i) (aB l i)) (1+cV c n)=s1 at hlk ⊢;have hfn: ∀ t,t∈ V n->bJ w (aG t)=C/\w.at (aG t)=t:=λt ht=>hf t (cl.2 ⟨n,eC.2 (by omega),ht⟩);have ec:c n=if aB l n=[] then 0 else bif bK w.fr w.to (dR (bn (m+1) l) p n)then nP w.fr w.to m (aB l n) (dR (bn (m+1) l) p n)else 0:=by rw[← hc]
      have ev:V n=if aB l n=[] then [] else bif bK w.fr w.to (dR (bn (m+1) l) p n)then(if(ctext m (aB l n)).length<32 then [] else [ctext m (aB l n)])++mQ w.fr w.to m (aB l n) (dR (bn (m+1) l) p n)else []:=by rw[← hV2]
      by_cases he:aB l n=[]
      ·rw[j9 (by rw[lC m l (by omega),if_pos he]),ec,ev,if_pos he,if_pos he,he];show M s1=M (jN w s1 [] [] 0);rw[Hi]
      ·rw[if_neg he] at ec ev;cases hmt:bK w.fr w.to (dR (bn (m+1) l) p n)with
       | false =>rw[hmt,cond_false] at ec ev;rw[ry hmt,ec,ev,xS hmt,Hi]
       | true =>
         rw[hmt,cond_true] at ec ev;have ho:=fD hr n;have hv:=dg (m:=m) (by omega) ho he;have hk0:=AE ho he;have er:(bn (m+1) l).r n=dZ (ctext m (aB l n)):=by rw[lC m l (by omega),if_neg he]
         have hm0:0<m:=by
          cases m with
          | zero=>exact absurd (lX ho) he
          | succ m=>exact eW _
         have rest: ∀ s2:Wk,s2.lk=s1.lk->kZ w j s2 (bn m (aB l n)) (dR (bn (m+1) l) p n)=M (jN w s2 (mQ w.fr w.to m (aB l n) (dR (bn (m+1) l) p n)) (gx w.fr w.to (dR (bn (m+1) l) p n) (aB l n)) (nP w.fr w.to m (aB l n) (dR (bn (m+1) l) p n))):=λs2 h2 =>Ka (by omega) ho (by omega) (by omega) (λt ht=>hfn t (by rw[ev];exact b! _ ht)) (λx hx=>by obtain⟨z,hz,e⟩:=TL (p:=p) hr hx;rw[e];exact hk z hz) (by omega)
         have hne: ¬ (bn (m+1) l).r n=[]:=by rw[er];exact(vE hv hk0).2
         by_cases hs:(ctext m (aB l n)).length<32
         ·rw[if_pos hs,ct] at ev;have hin:bp ((bn (m+1) l).r n)=true:=by rw[er,gA hs];exact(n7 hv hk0 hs).1
          have hg:getD ((bn (m+1) l).r n)=bn m (aB l n):=by rw[er,gA hs];exact eD hv
          rw[jX hne hmt (Cr hin),hg,rest s1 rfl,ec,ev]
         ·rw[if_neg hs] at ev;obtain⟨h1,h2,h3⟩:=gJ hs;have hin:bp ((bn (m+1) l).r n)=false:=by
           cases h:bp ((bn (m+1) l).r n)with
           | false=>rfl
           | true=>rw[er] at h;have:=m6 h;omega
          obtain⟨f1,f2⟩:=hfn (ctext m (aB l n)) (by rw[ev];exact ax _ (X ..));rw[jX hne hmt (uL hin (by rw[er];exact h1) (by rw[er,h2];exact f1)),er,h2,f2,eD hv,rest (s1.take w (aG (ctext m (aB l n)))) rfl,Dm,wU,ec,ev,ct,Z]
   rw[key 16 (R _),← LQ w.fr w.to p hr]
theorem yo {K c:Nat->Nat}(h0: ∀ i,K i=0->c i=0)(h1: ∀ i,K i≠0->c i+2<=3*K i): ∀ n,cV c n=0∨(∃ i,i<n/\cV c n+2<=3*K i/\K i<=cV K n)∨cV c n+4<=3*cV K n
 | 0=>.inl rfl
 | n+1=>by
   have e1:cV c (n+1)=cV c n+c n:=rfl;have e2:cV K (n+1)=cV K n+K n:=rfl;rw[e1,e2];by_cases hz:K n=0
   ·rw[h0 n hz,hz];rcases yo h0 h1 n with h | ⟨i,hi,h,h'⟩ | h
    ·exact .inl (by omega)
    ·exact .inr (.inl ⟨i,by omega,by omega,by omega⟩)
    ·exact .inr (.inr (by omega))
   ·have:=h1 n hz;rcases yo h0 h1 n with h | ⟨i,hi,h,h'⟩ | h
    ·exact .inr (.inl ⟨n,by omega,by omega,by omega⟩)
    ·exact .inr (.inr (by omega))
    ·exact .inr (.inr (by omega))
theorem J4 (l:List Rw): ∀ n,cV (λi=>(aB l i).length) n=mq l n
 | 0=>rfl
 | n+1=>by show cV _ n+_=mq l n+_;rw[J4 l n]
theorem MZ (fr to:List UInt8): ∀ {m:Nat} {l:List Rw} {p:List UInt8},bV m l->l≠[]->nP fr to m l p+2<=3*l.length/\((∃ r s t,l=r::s::t/\¬ 0<bP r.1 ((s::t).getLastD r).1)->nP fr to m l p+3<=3*l.length)
 | 0,l,p,h,hl=>absurd (lX h) hl
 | m+1,[],p,h,hl=>absurd rfl hl
 | m+1,[r],p,h,hl=>by have e:nP fr to (m+1) [r] p=1:=rfl;rw[e];exact⟨by show 1+2<=3*1;omega,fun⟨_,_,_,h,_⟩=>by cases h⟩
 | m+1,r::s::t,p,h,_=>by
   generalize hc:(λi=>if aB (r::s::t) i=[] then 0 else bif bK fr to (dR (bn (m+1) (r::s::t)) p i)then nP fr to m (aB (r::s::t) i) (dR (bn (m+1) (r::s::t)) p i)else 0)=c
   have hN:nP fr to (m+1) (r::s::t) p=1+cV c 16:=by rw[← hc];rfl
   have hL:(r::s::t).length=t.length+2:=rfl;have c0: ∀ i,(aB (r::s::t) i).length=0->c i=0:=λi hi=>by rw[← hc];exact if_pos (List.eq_nil_of_length_eq_zero hi)
   have c1: ∀ i,(aB (r::s::t) i).length≠0->c i+2<=3*(aB (r::s::t) i).length:=λi hi=>by
    have hne:aB (r::s::t) i≠[]:=λe=>hi (by rw[e];rfl);have:=(MZ fr to (p:=dR (bn (m+1) (r::s::t)) p i) (fD h i) hne).1;rw[← hc];dsimp only;rw[if_neg hne];cases bK fr to (dR (bn (m+1) (r::s::t)) p i)with
    | true=>exact this
    | false=>show 0+2<=_;omega
   by_cases hk:0<bP r.1 ((s::t).getLastD r).1
   ·refine⟨?_,fun⟨_,_,_,e,hn⟩=>by injection e with e1 e;injection e with e2 e3;subst e1;subst e2;subst e3;exact absurd hk hn⟩;have k0:aB (r::s::t) 0=cq (bP r.1 ((s::t).getLastD r).1) (r::s::t):=by rw[cC,if_pos hk,if_pos rfl]
    have hne:aB (r::s::t) 0≠[]:=by rw[k0,qI];exact List.cons_ne_nil _ _
    have kl:(aB (r::s::t) 0).length=t.length+2:=by rw[k0];show(eB _ _).length=_;rw[an];rfl
    have hb:=(MZ fr to (p:=dR (bn (m+1) (r::s::t)) p 0) (fD h 0) hne).2 ⟨_,_,_,k0.trans (qI _),by have:((s.1.drop (bP r.1 ((s::t).getLastD r).1),s.2)::cq (bP r.1 ((s::t).getLastD r).1) t).getLastD (r.1.drop (bP r.1 ((s::t).getLastD r).1),r.2)=_:=xH (bP r.1 ((s::t).getLastD r).1) r (s::t);rw[this,xj];exact cy 0⟩
    have hc0:c 0+3<=3*(t.length+2):=by
     rw[← hc];dsimp only;rw[if_neg hne];cases bK fr to (dR (bn (m+1) (r::s::t)) p 0)with
     | true=>rw[← kl];exact hb
     | false=>show 0+3<=_;omega
    have hz: ∀ n,0<n->cV c n=c 0:=λn=>by
     induction n with
     | zero=>intro h;omega
     | succ n ih =>
       intro _;show cV c n+c n=_;by_cases e:n=0
       ·subst e;exact Z _
       ·rw[ih (by omega),c0 n (by rw[cC,if_pos hk,if_neg e];rfl)];rfl
    rw[hN,hz 16 (by decide),hL];omega
   ·have hlt: ∀ i,(aB (r::s::t) i).length<=t.length+1:=λi=>by
     rw[cC,if_neg hk];show(eB _ (bI i (r::s::t))).length<=_;rw[an];have hle:(bI i (r::s::t)).length<=(r::s::t).length:=ez _ _;by_cases e:(bI i (r::s::t)).length=(r::s::t).length
     ·have ha:=List.length_filter_eq_length_iff.1 e;have h1:=ha r (X ..);have h2:=ha _ (n9 r (s::t));refine absurd ?_ hk;generalize ((s::t).getLastD r)=z at h2 ⊢;obtain⟨a,v⟩:=r;obtain⟨b,v'⟩:=z;cases a with
      | nil=>cases h1
      | cons a q =>
        cases b with
        | nil=>cases h2
        | cons b q' =>have e1:a.toNat=i:=of_decide_eq_true h1;have e2:b.toNat=i:=of_decide_eq_true h2;have e:a=b:=UInt8.toNat_inj.1 (by omega);show 0<bP (a::q) (b::q');unfold bP;rw[if_pos e];exact eW _
     ·rw[hL] at hle e;omega
    have hS:=yo (K:=λi=>(aB (r::s::t) i).length) c0 c1 16;rw[J4] at hS;have hK:=xE (r::s::t) 16;rw[hL] at hK;have:nP fr to (m+1) (r::s::t) p+3<=3*(t.length+2):=by
     rw[hN];rcases hS with hS | ⟨i,_,hS,_⟩ | hS
     ·omega
     ·have:=hlt i;omega
     ·omega
    rw[hL];exact⟨by omega,λ_=>this⟩
theorem yE (fr to:List UInt8): ∀ {m:Nat} {l:List Rw} {p t:List UInt8},t∈ mQ fr to m l p->t∈ cr m l
 | 0,_,_,_,h=>by cases h
 | m+1,l,p,t,h=>by
   unfold mQ at h;obtain⟨i,hi,h⟩:=cl.1 h;unfold cr;refine cl.2 ⟨i,hi,?_⟩;by_cases e:aB l i=[]
   ·rw[if_pos e] at h;cases h
   ·rw[if_neg e] at h ⊢;cases hm:bK fr to (dR (bn (m+1) l) p i)with
    | false=>rw[hm] at h;cases h
    | true =>
      rw[hm,cond_true] at h;rcases a!.1 h with h | h
      ·exact ax _ h
      ·exact b! _ (yE fr to h)
structure It where
 D:Nat->Bool
 cR:Nat->List UInt8
 fb:Nat->Nat
 nb:Nat->Nat
 cb:Nat->Nat
 us:Nat->Int
 hd:Nat->Int
 D2:Nat->Bool
 n2:Nat->Nat
 rf:Nat->Nat->List UInt8
def It.items (A:It)(kR:Nat):SB:=.dV A.D [.str A.cR,.b7 kR 1 C A.fb A.nb A.cb,.int .i64 A.us,.int .i64 A.hd] 4 133 F
def It.lists (A:It):SB:=.dG A.D2 A.n2 [.str A.rf] F
def gz (t:List UInt8):Nat:=aV (getD t).r 16
def eY (t:List UInt8)(j:Nat):List UInt8:=cU (getD t).r 16 j
structure jG (f:Nat->List UInt8)(i:Nat)(A:It)(g:List UInt8->Nat):Prop where
 dom: ∀ h,aK f i h=C->A.D (g h)=C
 cR: ∀ h,aK f i h=C->A.cR (g h)=f (cB f i h).toNat
 nb: ∀ h,aK f i h=C->A.nb (g h)=gz (A.cR (g h))
 row: ∀ h,aK f i h=C->0<A.nb (g h)->A.D2 (A.fb (g h))=C/\A.nb (g h)<=A.n2 (A.fb (g h))/\∀ j,j<A.nb (g h)->A.rf (A.fb (g h)) j=eY (A.cR (g h)) j
 us: ∀ a,A.D a=C->A.us a=0/\A.hd a=0
def ni (n:Nat)(f:Nat->List UInt8):Bool:=(O n).all λi=>aY (f i)
noncomputable def LK:List (FuncId×PT):=(128,cw (sI λx=>M (Fits x,zT x)))::fY
theorem D6:bt T (λf=>aD f LK):=.cons Pu (b6 _) cZ
structure RdG where
 n:Nat
 f:Nat->List UInt8
 c:Nat
structure M6 where
 A:It
 g:List UInt8->Nat
def Z8 (n:Nat)(f:Nat->List UInt8)(y:M6)(k:Nat):Mem:=[(k,.fmap (aK f n) (.ref (k+1) y.g) H),(k+1,y.A.items (k+2)),(k+2,y.A.lists)]
def EC:gD :=
 {G:=RdG,n:=1,N:=4,pre:=λx=>x.n<=1000/\∀ i,i<x.n->(x.f i).length<=1000,args:=λx=>[.bx 0 1 C 0 x.n x.c],mem:=λx=>[(0,.rows C x.n [.str x.f] C (x.c*1) 9)],
  uT:=λx=>.fork (J (0<x.n)&&ni x.n x.f) λb=>match b with
   | true=>.all M6 λy=>.req (jG x.f x.n y.A y.g) (.ret (.aO [.map 1,.int .i64 C 0]) (Z8 x.n x.f y 1))
   | false=>.ret (.aO [.fI,.int .i64 C 2]) []}
def acF (st:Sx.St)(i:Nat):Nat:=match slot st.tmps i with
 | some (.map k)=>k
 | _=>0
noncomputable def WE (n:Nat)(f:Nat->List UInt8):bg :=
 {α:=Nat×M6,pre:=λ_ y=>c9 n (λi=>aY (f i)) y.1/\jG f y.1 y.2.A y.2.g,kY:=λ_ y=>n - y.1,fresh:=2,slots:=λ_ y=>[(16,.int .i64 F y.1)],
  mem:=λst y=>[(acF st 4,.fmap (aK f y.1) (.ref st.nx y.2.g) H),(st.nx,y.2.A.items (st.nx+1)),(st.nx+1,y.2.A.lists)]}
noncomputable def SC (x:RdG):fQ:={cv with cQ:=λf=>aD f LK,bD:=λh=>if h=80 then [(5,always (WE x.n x.f))] else []}
theorem aaG (x:RdG):Sx.Good T (SC x):=.of bX D6 bw
theorem Yz (x:RdG):dA (.s 0 (.n (.s 0 (.n .k (.n .k .t))) (.n (.s 2 (.n (.s 0 (.n (.s 1 (.n .k (.n .k (.n .k (.n .k .t))))) (.s 0 (.n (.s 1 (.n .k (.n .k (.n .k (.n .k .t))))) (.s 1 (.n .k (.n .k (.n .k (.n .k .t))))))))) .t)) (.n (.s 1 .k) .t)))) (runM (SC x) 80 bH EC x) ((λP0:(Nat×M6)->Nd=>(((J ((x.n:Int)=0)=C->(J (0<x.n)&&ni x.n x.f)=C->∃(u37:M6),jG x.f x.n u37.A u37.g/\False)/\(J ((x.n:Int)=0)=F->(∃(u36:Nat×M6),(c9 x.n (fun(u35:Nat)=>aY (x.f u35)) u36.1/\jG x.f u36.1 u36.2.A u36.2.g)/\0=(u36.1:Int)/\aa (SB.map [] 0) (SB.fmap (aK x.f u36.1) (aC.ref 2 u36.2.g) H)/\(∀(u34:Nat),¬SB.gb 0 (u36.2.A.items 3) u34)/\∀(u33:Nat),¬SB.gb 0 u36.2.A.lists u33)/\∀(u32:Nat×M6),c9 x.n (fun(u31:Nat)=>aY (x.f u31)) u32.1/\jG x.f u32.1 u32.2.A u32.2.g->(J ((u32.1:Int)<(x.n:Int))=C->(0<=(u32.1:Int)/\(u32.1:Int)<(x.n:Int))/\0+(u32.1:Int).toNat<x.n/\((x.f (0+(u32.1:Int).toNat)).length<=9223372036854775808/\(x.f (0+(u32.1:Int).toNat)).length<1099511627776)/\(aY (x.f (0+(u32.1:Int).toNat))=C->(True/\Qj [x.f (0+(u32.1:Int).toNat)])/\(aK x.f u32.1 (aG (flat [x.f (0+(u32.1:Int).toNat)]))=C->I6 ((u32.1:Int)+1) /\∃(u30:Nat×M6),((c9 x.n (fun(u29:Nat)=>aY (x.f u29)) u30.1/\jG x.f u30.1 u30.2.A u30.2.g)/\x.n - u30.1<x.n - u32.1)/\(u32.1:Int)+1=(u30.1:Int)/\aa (SB.fmap (aK x.f u32.1) (aC.ref 2 u32.2.g) H) (SB.fmap (aK x.f u30.1) (aC.ref 2 u30.2.g) H)/\aa (SB.dV u32.2.A.D [ak.str u32.2.A.cR,ak.b7 3 1 C u32.2.A.fb u32.2.A.nb u32.2.A.cb,ak.int I u32.2.A.us,ak.int I u32.2.A.hd] 4 133 F) (u30.2.A.items 3)/\aa (SB.dG u32.2.A.D2 u32.2.A.n2 [b9.str u32.2.A.rf] F) u30.2.A.lists)/\(aK x.f u32.1 (aG (flat [x.f (0+(u32.1:Int).toNat)]))=F->Fits (P0 u32).again/\(aX (P0 u32).again=C->∀(u28:Nat),aV (P0 u32).again.r 16<=u28->∀(u27:Nat),(∀(u26:Nat),u32.2.A.D2 u26=C->(u26.beq u27&& !(C&&(aV (P0 u32).again.r 16).beq 0))=F)->∀(u25:Nat),(∀(u24:Nat),u32.2.A.D u24=C->u24.beq u25=F)->I6 ((u32.1:Int)+1)/\∃(u23:Nat×M6),((c9 x.n (fun(u22:Nat)=>aY (x.f u22)) u23.1 /\jG x.f u23.1 u23.2.A u23.2.g)/\x.n - u23.1<x.n - u32.1)/\(u32.1:Int)+1=(u23.1:Int)/\aa (SB.fmap (dN (aK x.f u32.1) (aG (flat [x.f (0+(u32.1:Int).toNat)]))) (aC.ref (bif(id (bif(id 2).beq 6 then(3:Nat)else id 2)).beq 7 then(2:Nat)else id (bif(id 2).beq 6 then(3:Nat)else id 2)) (we u32.2.g (aG (flat [x.f (0+(u32.1:Int).toNat)])) u25)) H) (SB.fmap (aK x.f u23.1) (aC.ref 2 u23.2.g) H) /\aa (SB.dV (fun(u21:Nat)=>u32.2.A.D u21||u21.beq u25) [ak.str λu20=>bif u32.2.A.D u20 then u32.2.A.cR u20 else x.f (0+(u32.1:Int).toNat),ak.b7 (bif(id (bif(id 3).beq 6 then(3:Nat)else id 3)).beq 7 then(2:Nat)else id (bif(id 3).beq 6 then(3:Nat)else id 3)) 1 C (fun(u19:Nat)=>bif u32.2.A.D u19 then u32.2.A.fb u19 else u27) (fun(u18:Nat)=>bif u32.2.A.D u18 then u32.2.A.nb u18 else aV (P0 u32).again.r 16) fun(u17:Nat)=>bif u32.2.A.D u17 then u32.2.A.cb u17 else u28,ak.int I fun(u16:Nat)=>bif u32.2.A.D u16 then u32.2.A.us u16 else(0:Int),ak.int I fun(u15:Nat)=>bif u32.2.A.D u15 then u32.2.A.hd u15 else(0:Int)] 4 133 F) (u23.2.A.items 3)/\aa (SB.dG (fun(u14:Nat)=>u32.2.A.D2 u14||u14.beq u27&& !(C&&(aV (P0 u32).again.r 16).beq 0)) (fun(u13:Nat)=>bif u32.2.A.D2 u13 then u32.2.A.n2 u13 else aV (P0 u32).again.r 16) [b9.str fun(b i:Nat)=>bif u32.2.A.D2 b then u32.2.A.rf b i else cU (P0 u32).again.r 16 i] F) u23.2.A.lists)/\(aX (P0 u32).again=F ->∀(u12:Nat),(∀(u11:Nat),u32.2.A.D u11=C->u11.beq u12=F)->I6 ((u32.1:Int)+1)/\∃(u10:Nat×M6),((c9 x.n (fun(u9:Nat)=>aY (x.f u9)) u10.1/\jG x.f u10.1 u10.2.A u10.2.g)/\x.n - u10.1<x.n - u32.1)/\(u32.1:Int)+1=(u10.1:Int)/\aa (SB.fmap (dN (aK x.f u32.1) (aG (flat [x.f (0+(u32.1:Int).toNat)]))) (aC.ref (bif(id 2).beq 6 then(2:Nat)else id 2) (we u32.2.g (aG (flat [x.f (0+(u32.1:Int).toNat)])) u12)) H) (SB.fmap (aK x.f u10.1) (aC.ref 2 u10.2.g) H) /\aa (SB.dV (fun(u8:Nat)=>u32.2.A.D u8||u8.beq u12) [ak.str λu7=>bif u32.2.A.D u7 then u32.2.A.cR u7 else x.f (0+(u32.1:Int).toNat),ak.b7 (bif(id 3).beq 6 then(2:Nat)else id 3) 1 C (fun(u6:Nat)=>bif u32.2.A.D u6 then u32.2.A.fb u6 else(0:Nat)) (fun(u5:Nat)=>bif u32.2.A.D u5 then u32.2.A.nb u5 else(0:Nat)) fun(u4:Nat)=>bif u32.2.A.D u4 then u32.2.A.cb u4 else(0:Nat),ak.int I fun(u3:Nat)=>bif u32.2.A.D u3 then u32.2.A.us u3 else(0:Int),ak.int I fun(u2:Nat)=>bif u32.2.A.D u2 then u32.2.A.hd u2 else(0:Int)] 4 133 F) (u10.2.A.items 3)/\aa (SB.dG u32.2.A.D2 u32.2.A.n2 [b9.str u32.2.A.rf] F) u10.2.A.lists)))/\(aY (x.f (0+(u32.1:Int).toNat))=F->(J (0<x.n)&&ni x.n x.f)=C->∃(u1:M6),jG x.f x.n u1.A u1.g/\False))/\(J ((u32.1:Int)<(x.n:Int))=F->((J (0<x.n)&&ni x.n x.f)=C->∃(u0:M6),jG x.f x.n u0.A u0.g/\aa (SB.fmap (aK x.f u32.1) (aC.ref 2 u32.2.g) H) (SB.fmap (aK x.f x.n) (aC.ref 2 u0.g) H) /\aa (SB.dV u32.2.A.D [ak.str u32.2.A.cR,ak.b7 3 1 C u32.2.A.fb u32.2.A.nb u32.2.A.cb,ak.int I u32.2.A.us,ak.int I u32.2.A.hd] 4 133 F) (u0.A.items 3)/\aa (SB.dG u32.2.A.D2 u32.2.A.n2 [b9.str u32.2.A.rf] F) u0.A.lists)/\((J (0<x.n)&&ni x.n x.f)=F->False)))))) (fun(u32:Nat×M6)=>(getD (x.f (0+(u32.1:Int).toNat))))):=⟨by kernel_rfl,by kernel_rfl⟩
theorem uh {r r':Nat->List UInt8}: ∀ k,(∀ j,j<k->r j=r' j)->aV r k=aV r' k/\∀ j,cU r k j=cU r' k j
 | 0,_=>⟨rfl,λ_=>rfl⟩
 | k+1,h=>by
   obtain⟨h1,h2⟩:=uh k λj hj=>h j (by omega);have e:=h k (Nat.lt_succ_self k);refine⟨by simp only[aV,e,h1],λj=> ?_⟩;simp only[cU,e,h1];cases aQ (r' k)with
   | false=>simp only[cond_false];exact h2 j
   | true=>simp only[cond_true];rw[h2 j]
theorem M8 (x:Nd)(j:Nat)(hj:j<16):x.again.r j=x.r j:=by
 match j,hj with
 | 0,_=>exact rfl
 | 1,_=>exact rfl
 | 2,_=>exact rfl
 | 3,_=>exact rfl
 | 4,_=>exact rfl
 | 5,_=>exact rfl
 | 6,_=>exact rfl
 | 7,_=>exact rfl
 | 8,_=>exact rfl
 | 9,_=>exact rfl
 | 10,_=>exact rfl
 | 11,_=>exact rfl
 | 12,_=>exact rfl
 | 13,_=>exact rfl
 | 14,_=>exact rfl
 | 15,_=>exact rfl
 | j+16,h=>exact absurd h (by omega)
theorem K5 {D D':Nat->Bool}{cs cs':List ak}{tot:Nat}{ty:TypeId}{ro:Bool}(hD:D=D')(hl:cs'.length<=cs.length)(h: ∀ b,D b=C->∀(k:Nat) (c c':ak),cs[k]?=M c->cs'[k]?=M c'->∀ E,(c'.at b).val E=(c.at b).val E):aa (.dV D cs tot ty F) (.dV D' cs' tot ty ro):=by
 subst hD;refine⟨rfl,λb a ha=>⟨ha,λE o ⟨c,fr,h1,h2,h3,h4⟩=>⟨c,fr,h1,h2,λi u hu=> ?_,h4⟩,λ_=>rfl⟩⟩;rw[ep] at hu;cases hc:cs'[i]? with
 | none=>rw[hc] at hu;cases hu
 | some c1 =>rw[hc] at hu;injection hu with hu;subst hu;have hi:=(en.1 hc).1;have h0:cs[i]?=M (cs[i]'(by omega)):=ek (by omega);rw[h a ha i _ c1 h0 hc E];exact h3 i _ (by rw[ep,h0];rfl)
def It.add (A:It)(b a:Nat)(t:List UInt8)(n c:Nat)(r:Nat->List UInt8):It :=
 ⟨λx=>A.D x||x.beq b,λx=>bif A.D x then A.cR x else t,λx=>bif A.D x then A.fb x else a,λx=>bif A.D x then A.nb x else n,λx=>bif A.D x then A.cb x else c,λx=>bif A.D x then A.us x else 0,λx=>bif A.D x then A.hd x else 0,
  λx=>A.D2 x||(x.beq a&& !(C&&n.beq 0)),λx=>bif A.D2 x then A.n2 x else n,λx i=>bif A.D2 x then A.rf x i else r i⟩
theorem It.rR {A:It}{r:Nat->List UInt8}{x:Nat}(h:A.D x=C):(A.add b a t n c r).D x=C/\(A.add b a t n c r).cR x=A.cR x/\(A.add b a t n c r).fb x=A.fb x/\(A.add b a t n c r).nb x=A.nb x/\(A.add b a t n c r).us x=A.us x/\(A.add b a t n c r).hd x=A.hd x:=by simp only[It.add,h,Bool.true_or,cond_true,and_self]
theorem It.uX {A:It}{r:Nat->List UInt8}(h:A.D b=F):(A.add b a t n c r).D b=C/\(A.add b a t n c r).cR b=t/\(A.add b a t n c r).fb b=a/\(A.add b a t n c r).nb b=n/\(A.add b a t n c r).us b=0/\(A.add b a t n c r).hd b=0:=by simp[It.add,h]
theorem It.Ww {A:It}{r:Nat->List UInt8}{x:Nat}(h:A.D2 x=C):(A.add b a t n c r).D2 x=C/\(A.add b a t n c r).n2 x=A.n2 x/\∀ i,(A.add b a t n c r).rf x i=A.rf x i:=by simp[It.add,h]
theorem It.RD {A:It}{r:Nat->List UInt8}(hn:0<n)(h:A.D2 a=F):(A.add b a t n c r).D2 a=C/\(A.add b a t n c r).n2 a=n/\∀ i,(A.add b a t n c r).rf a i=r i:=by
 have:n.beq 0=false:=by cases n with
  | zero=>omega
  | succ n=>rfl
 simp[It.add,h,this]
theorem Xb {A:It}{g:List UInt8->Nat}(h:jG f i A g)(hd:aK f i (aG (f i))=C):jG f (i+1) A g:=by
 obtain⟨e1,e2⟩:=rZ hd;have e: ∀ t,aK f (i+1) t=C->aK f i t=true:=λt ht=>by rw[e1 t];exact ht
 exact⟨λt ht=>h.dom t (e t ht),λt ht=>by rw[← e2 t];exact h.cR t (e t ht),λt ht=>h.nb t (e t ht),λt ht=>h.row t (e t ht),h.us⟩
theorem Xa {A:It}{g:List UInt8->Nat}(h:jG f i A g)(hd:aK f i (aG (f i))=F){a1:Nat}(hD: ∀ b,A.D b=C->b.beq a1=F)(hD2: ∀ b,A.D2 b=C->(b.beq a&& !(C&&(gz (f i)).beq 0))=F) :
  jG f (i+1) (A.add a1 a (f i) (gz (f i)) c (eY (f i))) (we g (aG (f i)) a1):=by
 have hn1:A.D a1=false:=by
  cases e:A.D a1 with
  | false=>rfl
  | true=>have:=hD a1 e;rw[ay] at this;cases this
 have cases': ∀ t,aK f (i+1) t=C->(aK f i t=C/\t≠aG (f i))∨t=aG (f i):=λt ht=>by
  by_cases e:t=aG (f i)
  ·exact .inr e
  ·left;have:(aK f i t||decide (t=aG (f i)))=true:=ht;rw[decide_eq_false e,Bool.or_false] at this;exact⟨this,e⟩
 have g0: ∀ t,t≠aG (f i)->we g (aG (f i)) a1 t=g t:=λt e=>by unfold we;rw[decide_eq_false e];rfl
 have g1:we g (aG (f i)) a1 (aG (f i))=a1:=by unfold we;simp
 have f0: ∀ t,aK f i t=C->cB f (i+1) t=cB f i t:=λt e=>by rw[mZ,e];rfl
 have f1:cB f (i+1) (aG (f i))=i:=by rw[mZ,hd];simp
 refine⟨λt ht=> ?_,λt ht=> ?_,λt ht=> ?_,λt ht hp=> ?_,λb hb=> ?_⟩
 ·rcases cases' t ht with ⟨e,e2⟩ | rfl
  ·rw[g0 t e2];exact(It.rR (h.dom t e)).1
  ·rw[g1];exact(It.uX hn1).1
 ·rcases cases' t ht with ⟨e,e2⟩ | rfl
  ·rw[g0 t e2,(It.rR (h.dom t e)).2.1,f0 t e];exact h.cR t e
  ·rw[g1,(It.uX hn1).2.1,f1];rfl
 ·rcases cases' t ht with ⟨e,e2⟩ | rfl
  ·rw[g0 t e2,(It.rR (h.dom t e)).2.1,(It.rR (h.dom t e)).2.2.2.1];exact h.nb t e
  ·rw[g1,(It.uX hn1).2.1,(It.uX hn1).2.2.2.1]
 ·rcases cases' t ht with ⟨e,e2⟩ | rfl
  ·have o:=It.rR (b:=a1) (a:=a) (t:=f i) (n:=gz (f i)) (c:=c) (r:=eY (f i)) (h.dom t e);rw[g0 t e2] at hp ⊢;rw[o.2.1,o.2.2.1,o.2.2.2.1];rw[o.2.2.2.1] at hp;obtain⟨q1,q2,q3⟩:=h.row t e hp;have o2:=It.Ww (b:=a1) (a:=a) (t:=f i) (n:=gz (f i)) (c:=c) (r:=eY (f i)) q1;exact⟨o2.1,by rw[o2.2.1];exact q2,λj hj=>by rw[o2.2.2];exact q3 j hj⟩
  ·have o:=It.uX (a:=a) (t:=f i) (n:=gz (f i)) (c:=c) (r:=eY (f i)) hn1;rw[g1] at hp ⊢;rw[o.2.1,o.2.2.1,o.2.2.2.1];rw[o.2.2.2.1] at hp;have ha:A.D2 a=false:=by
    cases e:A.D2 a with
    | false=>rfl
    | true =>
      have:=hD2 a e;have hb:(gz (f i)).beq 0=false:=by
       cases e:gz (f i)with
       | zero=>omega
       | succ n=>rfl
      rw[ay,hb] at this;cases this
   have o2:=It.RD (A:=A) (b:=a1) (t:=f i) (c:=c) (r:=eY (f i)) hp ha;exact⟨o2.1,by rw[o2.2.1];exact R _,λj _=>o2.2.2 j⟩
 ·by_cases e:A.D b=C
  ·have o:=It.rR (b:=a1) (a:=a) (t:=f i) (n:=gz (f i)) (c:=c) (r:=eY (f i)) e;rw[o.2.2.2.2.1,o.2.2.2.2.2];exact h.us b e
  ·have e:A.D b=false:=by simpa using e
   simp[It.add,e]
def It.none:It:=⟨λ_=>F,λ_=>[],λ_=>0,λ_=>0,λ_=>0,λ_=>0,λ_=>0,λ_=>F,λ_=>0,λ_ _=>[]⟩
theorem Tm (f:Nat->List UInt8)(g:List UInt8->Nat):jG f 0 It.none g:=⟨(λ_ h=>by cases h),(λ_ h=>by cases h),(λ_ h=>by cases h),(λ_ h=>by cases h),λ_ h=>by cases h⟩
theorem Kj {x:Nd}(h:aX x=C):Fits x:=λj hj=>by have:=(gi h).ref j hj;omega
theorem K7 {x:Nd}(h:Fits x):Fits x.again:=λj hj=>by rw[M8 x j hj];exact h j hj
theorem JV (x:RdG)(hx:EC.pre x):az (runM (SC x) 80 bH EC x):=by
 refine az.pr (Yz x) ?_;obtain⟨hn,hf⟩:=hx;simp only[Int.toNat_natCast,Z,true_and,decide_eq_true_eq,decide_eq_false_iff_not];refine⟨λh0 h=> ?_,λh0=>⟨⟨(0,⟨It.none,λ_=>0⟩),⟨c9.zero _ _,Tm _ _⟩,rfl,aa.DK λ_=>rfl,λa h=>absurd (show F=C from h) (by decide),λa h=>absurd (show F=C from h) (by decide)⟩,λy hy=>⟨λhlt=> ?_,λhge=> ?_⟩⟩⟩
 ·have: ¬ 0<x.n:=by omega
  rw[decide_eq_false this] at h;cases h
 ·obtain⟨i,A,g⟩:=y;obtain⟨hi,hg⟩:=hy;have hlt:(i:Int)<(x.n:Int):=hlt;have hlt':i<x.n:=by omega
  have hlen:(x.f i).length<=1000:=hf i hlt';have ef:flat [x.f i]=x.f i:=by unfold flat;simp
  refine⟨⟨by show(0:Int)<=(i:Int);omega,hlt⟩,hlt',⟨by show(x.f i).length<=_;omega,by show(x.f i).length<_;omega⟩,λhG=>⟨⟨by rw[ef];show(x.f i).length<_;omega,by show 1<_;decide⟩,?_⟩,λhG h=> ?_⟩
  ·have hG:aY (x.f i)=true:=hG;have hv:=lP hG;have hN: ∀ j,j<16->(getD (x.f i)).again.r j=(getD (x.f i)).r j:=M8 _;have eN:aV (getD (x.f i)).again.r 16=gz (x.f i):=(uh 16 hN).1;have eA: ∀ j,cU (getD (x.f i)).again.r 16 j=eY (x.f i) j:=(uh 16 hN).2;have hv2:aX (getD (x.f i)).again=true:=(sY (pZ (getD (x.f i)))).trans hv;have next:c9 x.n (λi=>aY (x.f i)) (i+1):=hi.next hlt hG
   show(aK x.f i (aG (flat [x.f i]))=C->_)/\(aK x.f i (aG (flat [x.f i]))=F->_)
   rw[ef];refine⟨λhd=>⟨⟨by show _<=(i:Int)+1;omega,by show(i:Int)+1<=_;omega⟩,(i+1,⟨A,g⟩),⟨⟨next,Xb hg hd⟩,by show x.n - (i+1)<x.n - i;omega⟩,by show(i:Int)+1=((i+1:Nat):Int);omega,aa.fmap (rZ hd).1 λt=>rfl,aa.refl _,aa.refl _⟩,λhd=>⟨K7 (Kj hv),λ_ c hc a hD2 a1 hD=>⟨⟨by show _<=(i:Int)+1;omega,by show(i:Int)+1<=_;omega⟩,(i+1,⟨A.add a1 a (x.f i) (gz (x.f i)) c (eY (x.f i)),we g (aG (x.f i)) a1⟩),⟨⟨next,Xa hg hd hD (by rw[← eN];exact hD2)⟩,by show x.n - (i+1)<x.n - i;omega⟩,by show(i:Int)+1=((i+1:Nat):Int);omega,aa.fmap (λt=>rfl) (λt=>rfl),?_,?_⟩,λhv'=> ?_⟩⟩
   ·refine K5 rfl (R _) λb hb k c1 c2 h1 h2 E=> ?_
    match k,h1,h2 with
    | 0,h1,h2 =>injection h1 with h1;injection h2 with h2;subst h1;subst h2;rfl
    | 1,h1,h2 =>
      injection h1 with h1;injection h2 with h2;subst h1;subst h2;show SV.val E (ak.at b (.b7 _ 1 C _ _ _))=SV.val E (ak.at b (.b7 _ 1 C _ (λu=>bif A.D u then A.nb u else aV (getD (x.f i)).again.r 16) _))
      rw[eN];rfl
    | 2,h1,h2 =>injection h1 with h1;injection h2 with h2;subst h1;subst h2;rfl
    | 3,h1,h2 =>injection h1 with h1;injection h2 with h2;subst h1;subst h2;rfl
    | k+4,h1,_=>simp at h1
   ·have e1:(fun(b j:Nat)=>bif A.D2 b then A.rf b j else cU (getD (x.f i)).again.r 16 j)=(fun(b j:Nat)=>bif A.D2 b then A.rf b j else eY (x.f i) j):=by funext b j;rw[eA j]
    show aa (.dG (λb=>A.D2 b||b.beq a&& !(C&&(aV (getD (x.f i)).again.r 16).beq 0)) (λb=>bif A.D2 b then A.n2 b else aV (getD (x.f i)).again.r 16) [.str λb j=>bif A.D2 b then A.rf b j else cU (getD (x.f i)).again.r 16 j] F) _
    rw[e1,eN];exact aa.refl _
   ·rw[hv2] at hv';cases hv'
  ·have hG:aY (x.f i)=false:=hG;have:ni x.n x.f=false:=List.all_eq_false.2 ⟨i,eC.2 hlt',by rw[hG];decide⟩;rw[this,Bool.and_false] at h;cases h
 ·obtain⟨i,A,g⟩:=y;obtain⟨hi,hg⟩:=hy;have hge: ¬ (i:Int)<(x.n:Int):=hge;have e:i=x.n:=by have:=hi.le;omega
  subst e;have hr:ni x.n x.f=true:=hi.done hge;have h0':0<x.n:=by omega
  exact⟨λ_=>⟨⟨A,g⟩,hg,aa.refl _,aa.refl _,aa.refl _⟩,λh=>by rw[hr,decide_eq_true h0'] at h;cases h⟩
theorem Vq:av T 80 (cF EC) :=fH (n:=20) (fn:=bH) Tryz.func80 (by kernel_rfl) (by kernel_rfl) EC λx hx=>⟨_,aaG x,rfl,JV x hx⟩
def cG (l:List (List UInt8))(s:List UInt8):Bool:=J (s∈ l)
def qq (n:Nat)(f:Nat->List UInt8)(h:List UInt8):List UInt8:=f (cB f n h).toNat
def Clo (n:Nat)(f:Nat->List UInt8):Prop:=∀ h,aK f n h=C->∀ j,j<gz (qq n f h)->aK f n (eY (qq n f h) j)=C
structure k5 (n:Nat)(f:Nat->List UInt8)(root:List UInt8)(Fr:List (List UInt8))(k:Nat):Prop where
 root:root∈ Fr
 nod:Fr.Nodup
 dom: ∀ h,h∈ Fr->aK f n h=C
 clo: ∀ q,q<k->q<Fr.length->∀ j,j<gz (qq n f (Fr.getD q []))->eY (qq n f (Fr.getD q [])) j∈ Fr
structure iZ (Fr:List (List UInt8))(met:List UInt8->Int)(b:Nat):Prop where
 pos: ∀ h,h∈ Fr->1<=met h/\met h<=b
structure Wq where
 n:Nat
 f:Nat->List UInt8
 A:It
 g:List UInt8->Nat
 room:Int
 root:List UInt8
def It.aaP (A:It)(kR:Nat):SB:=.dV A.D [.str A.cR,.b7 kR 1 C A.fb A.nb A.cb,.int .i64 A.us,.int .i64 A.hd] 4 133 C
def It.aaY (A:It):SB:=.dG A.D2 A.n2 [.str A.rf] C
def fq (room:Int)(k:Nat):SB:=.cells [.int .i64 F room,.map k] 2 126
def jm (Fr:List (List UInt8))(c:Nat):SB:=.rows C Fr.length [.str λq=>Fr.getD q []] F (c*1) 9
def oB:gD :=
 {G:=Wq,n:=5,N:=6,pre:=λx=>x.n<=1000/\jG x.f x.n x.A x.g/\aK x.f x.n x.root=C/\Clo x.n x.f,args:=λx=>[.ptr 0 C 0,.str F x.root,.map 2],
  mem:=λx=>[(0,fq x.room 1),(1,.map [] 0),(2,.fmap (aK x.f x.n) (.ref 3 x.g) H),(3,x.A.aaP 4),(4,x.A.aaY)],
  uT:=λx=>.all (List (List UInt8)×Nat) λy=>.req (k5 x.n x.f x.root y.1 y.1.length/\y.1.length<=y.2) (.ret (.aO [.bx 5 1 C 0 y.1.length y.2,.int .i64 C 0]) [(0,fq x.room 1),(1,.map [] 0),(2,.fmap (aK x.f x.n) (.ref 3 x.g) H),(5,jm y.1 y.2)])}
structure Ku where
 i:Nat
 Fr:List (List UInt8)
 c:Nat
 met:List UInt8->Int
def RQ (st:Sx.St)(y:Ku):Mem:=[(qk st 8,.cells [.bx st.nx 1 C 0 y.Fr.length y.c] 1 29),(st.nx,jm y.Fr y.c),(Za st 9,.fmap (cG y.Fr) (.int .i64 y.met) H)]
def KB (st:Sx.St):List Nat:=match st.m.get (qk st 8)with
 | some (.cells [.bx k _ _ _ _ _] _ _)=>[k]
 | some (.cells [.slc k _ _ _ _] _ _)=>[k]
 | _=>[]
noncomputable def ab6 (x:Wq):bg :=
 {α:=Ku,pre:=λ_ y=>y.i<=y.Fr.length/\y.Fr.length<=y.c/\k5 x.n x.f x.root y.Fr y.i/\iZ y.Fr y.met (1+16*y.i),kY:=λ_ y=>x.n - y.i,fresh:=1,slots:=λ_ y=>[(12,.int .i64 F y.i),(11,.bool C C)],
  mem:=RQ,drop:=KB}
noncomputable def ZK (x:Wq)(i:Int)(h:List UInt8):bg :=
 {α:=Nat×Ku,pre:=λ_ y=>y.1<=gz (qq x.n x.f h)/\(i=(y.2.i:Int)/\h=y.2.Fr.getD y.2.i []/\y.2.i<y.2.Fr.length)/\y.2.Fr.length<=y.2.c/\k5 x.n x.f x.root y.2.Fr y.2.i/\iZ y.2.Fr y.2.met (1+16*y.2.i+y.1)/\(∀ j,j<y.1->eY (qq x.n x.f h) j∈ y.2.Fr),
  kY:=λ_ y=>gz (qq x.n x.f h) - y.1,fresh:=1,slots:=λ_ y=>[(36,.int .i64 F y.1),(11,.bool C C)],mem:=λst y=>RQ st y.2,drop:=KB}
noncomputable def ZJ (x:Wq):bg :={α:=Ku,pre:=λ_ y=>y.i=0/\y.Fr.length<=y.c/\k5 x.n x.f x.root y.Fr 0/\iZ y.Fr y.met 1,kY:=λ_ _=>0,fresh:=1,slots:=λ_ _=>[(11,.bool C C)],mem:=RQ,drop:=KB}
noncomputable def ZS (x:Wq):td:=[(1004,always (ZJ x)),(6,always (ab6 x)),(9,λst=>match slot st.tmps 12,slot st.tmps 30 with
 | some (.int _ _ i),M (.str _ h)=>M (one (ZK x i h))
 | _,_=>H)]
noncomputable def Sv (x:Wq):fQ:={cv with cQ:=λf=>aD f LK,bD:=λh=>if h=81 then ZS x else []}
theorem aaz (x:Wq):Sx.Good T (Sv x):=.of bX D6 bw
theorem Re (x:Wq):dA (.n (.n (.n (.s 0 (.n .k (.s 0 (.n (.s 0 .k) (.s 0 (.n .k (.n .k .t))))))) (.s 0 (.n .k (.s 0 (.n (.s 0 .k) (.s 0 (.n .k (.n .k .t)))))))) (.n (.s 0 (.n .k (.s 0 (.n (.s 0 .k) (.s 0 (.n .k (.n .k .t))))))) (.s 0 (.n .k (.s 0 (.n (.s 0 .k) (.s 0 (.n .k (.n .k .t))))))))) (.n (.s 0 (.n .k (.s 1 (.n (.s 0 .k) (.s 0 (.n .k (.n .k .t))))))) (.n (.s 1 (.n (.s 0 (.n (.s 0 (.n .k (.s 1 (.n (.s 0 .k) (.s 0 (.n .k (.n .k .t))))))) (.n (.s 2 (.n (.s 1 (.n .k (.s 1 (.n (.s 0 .k) (.s 0 (.n .k (.n .k .t))))))) (.s 1 (.n (.s 1 (.n .k (.n .k (.s 0 (.n (.s 0 .k) (.s 0 (.n .k (.n .k .t)))))))) .t)))) (.s 1 (.n .k (.s 1 (.n (.s 0 .k) (.s 0 (.n .k (.n .k .t)))))))))) .t)) (.s 0 (.n (.s 0 .k) (.s 4 .k)))))) (runM (Sv x) 81 bW oB x) ((((J (x.root=x.root)=C->∀(u26:Nat),1<=u26->(aK x.f x.n x.root=C->∃(u25:Ku),(u25.i=0/\u25.Fr.length<=u25.c/\k5 x.n x.f x.root u25.Fr 0/\iZ u25.Fr u25.met 1)/\(!false)=C/\(1=u25.Fr.length/\u26=u25.c)/\0<u25.Fr.length/\aa (SB.cells [SV.str F x.root] (u26*1) 9) (jm u25.Fr u25.c)/\aa (SB.map [((0:Nat),SV.str F x.root,SV.int .i64 C 1)] 1) (SB.fmap (cG u25.Fr) (aC.int I u25.met) H))/\(aK x.f x.n x.root=F->∃(u24:Ku),(u24.i=0/\u24.Fr.length<=u24.c/\k5 x.n x.f x.root u24.Fr 0/\iZ u24.Fr u24.met 1)/\(!true)=C/\(1=u24.Fr.length/\u26=u24.c)/\0<u24.Fr.length/\aa (SB.cells [SV.str F x.root] (u26*1) 9) (jm u24.Fr u24.c)/\aa (SB.map [((0:Nat),SV.str F x.root,SV.int .i64 C 1)] 1) (SB.fmap (cG u24.Fr) (aC.int I u24.met) H)))/\(J (x.root=x.root)=F->∀(u23:Nat),1<=u23->(aK x.f x.n x.root=C->∃(u22:Ku),(u22.i=0/\u22.Fr.length<=u22.c/\k5 x.n x.f x.root u22.Fr 0/\iZ u22.Fr u22.met 1)/\(!false)=C/\(1=u22.Fr.length/\u23=u22.c)/\0<u22.Fr.length /\aa (SB.cells [SV.str F x.root] (u23*1) 9) (jm u22.Fr u22.c)/\aa (SB.map [((0:Nat),SV.str F x.root,SV.int .i64 C 1)] 1) (SB.fmap (cG u22.Fr) (aC.int I u22.met) H))/\(aK x.f x.n x.root=F->∃(u21:Ku),(u21.i=0/\u21.Fr.length<=u21.c/\k5 x.n x.f x.root u21.Fr 0/\iZ u21.Fr u21.met 1)/\(!true)=C/\(1=u21.Fr.length/\u23=u21.c)/\0<u21.Fr.length/\aa (SB.cells [SV.str F x.root] (u23*1) 9) (jm u21.Fr u21.c)/\aa (SB.map [((0:Nat),SV.str F x.root,SV.int .i64 C 1)] 1) (SB.fmap (cG u21.Fr) (aC.int I u21.met) H))))/\∀(u20:Ku),u20.i=0/\u20.Fr.length<=u20.c/\k5 x.n x.f x.root u20.Fr 0/\iZ u20.Fr u20.met 1->(∃(u19:Ku),(u19.i<=u19.Fr.length/\u19.Fr.length<=u19.c/\k5 x.n x.f x.root u19.Fr u19.i/\iZ u19.Fr u19.met ((1:Nat)+16*u19.i))/\0=(u19.i:Int)/\(u20.Fr.length=u19.Fr.length/\u20.c=u19.c)/\aa (SB.rows C u20.Fr.length [ak.str λu18=>u20.Fr.getD u18 []] F (u20.c*1) 9) (jm u19.Fr u19.c) /\aa (SB.fmap (cG u20.Fr) (aC.int I u20.met) H) (SB.fmap (cG u19.Fr) (aC.int I u19.met) H))/\∀(u17:Ku),u17.i<=u17.Fr.length/\u17.Fr.length<=u17.c/\k5 x.n x.f x.root u17.Fr u17.i/\iZ u17.Fr u17.met ((1:Nat)+16*u17.i)->(J ((u17.i:Int)<(u17.Fr.length:Int))=C->(0<=(u17.i:Int)/\(u17.i:Int)<(u17.Fr.length:Int))/\0+(u17.i:Int).toNat<u17.Fr.length/\(aK x.f x.n (u17.Fr.getD (0+(u17.i:Int).toNat) [])=C->x.A.D (x.g (u17.Fr.getD (0+(u17.i:Int).toNat) []))=C/\(∃(u16:Nat×Ku),(u16.1<=gz (qq x.n x.f (u17.Fr.getD (0+(u17.i:Int).toNat) []))/\((u17.i:Int)=(u16.2.i:Int)/\u17.Fr.getD (0+(u17.i:Int).toNat) []=u16.2.Fr.getD u16.2.i []/\u16.2.i<u16.2.Fr.length)/\u16.2.Fr.length<=u16.2.c/\k5 x.n x.f x.root u16.2.Fr u16.2.i/\iZ u16.2.Fr u16.2.met ((1:Nat)+16*u16.2.i+u16.1)/\∀(u15:Nat),u15<u16.1->eY (qq x.n x.f (u17.Fr.getD (0+(u17.i:Int).toNat) [])) u15∈ u16.2.Fr)/\0=(u16.1:Int)/\(u17.Fr.length=u16.2.Fr.length/\u17.c=u16.2.c) /\aa (SB.rows C u17.Fr.length [ak.str λu14=>u17.Fr.getD u14 []] F (u17.c*1) 9) (jm u16.2.Fr u16.2.c)/\aa (SB.fmap (cG u17.Fr) (aC.int I u17.met) H) (SB.fmap (cG u16.2.Fr) (aC.int I u16.2.met) H))/\∀(u13:Nat×Ku),(u13.1<=gz (qq x.n x.f (u17.Fr.getD (0+(u17.i:Int).toNat) []))/\((u17.i:Int)=(u13.2.i:Int)/\u17.Fr.getD (0+(u17.i:Int).toNat) []=u13.2.Fr.getD u13.2.i []/\u13.2.i<u13.2.Fr.length)/\u13.2.Fr.length<=u13.2.c/\k5 x.n x.f x.root u13.2.Fr u13.2.i/\iZ u13.2.Fr u13.2.met ((1:Nat)+16*u13.2.i+u13.1)/\∀(u12:Nat),u12<u13.1->eY (qq x.n x.f (u17.Fr.getD (0+(u17.i:Int).toNat) [])) u12∈ u13.2.Fr)->(J ((u13.1:Int)<(↑(x.A.nb (x.g (u17.Fr.getD (0+(u17.i:Int).toNat) []))):Int))=C->(0<=(u13.1:Int)/\(u13.1:Int)<(↑(x.A.nb (x.g (u17.Fr.getD (0+(u17.i:Int).toNat) []))):Int))/\(x.A.D2 (x.A.fb (x.g (u17.Fr.getD (0+(u17.i:Int).toNat) [])))=C/\0+(u13.1:Int).toNat<x.A.n2 (x.A.fb (x.g (u17.Fr.getD (0+(u17.i:Int).toNat) [])))) /\I6 (dflt (cG u13.2.Fr (x.A.rf (x.A.fb (x.g (u17.Fr.getD (0+(u17.i:Int).toNat) []))) (0+(u13.1:Int).toNat))) (u13.2.met (x.A.rf (x.A.fb (x.g (u17.Fr.getD (0+(u17.i:Int).toNat) []))) (0+(u13.1:Int).toNat)))+1) /\(J (1<dflt (dN (cG u13.2.Fr) (x.A.rf (x.A.fb (x.g (u17.Fr.getD (0+(u17.i:Int).toNat) []))) (0+(u13.1:Int).toNat)) (x.A.rf (x.A.fb (x.g (u17.Fr.getD (0+(u17.i:Int).toNat) []))) (0+(u13.1:Int).toNat))) (fK u13.2.met (x.A.rf (x.A.fb (x.g (u17.Fr.getD (0+(u17.i:Int).toNat) []))) (0+(u13.1:Int).toNat)) (dflt (cG u13.2.Fr (x.A.rf (x.A.fb (x.g (u17.Fr.getD (0+(u17.i:Int).toNat) []))) (0+(u13.1:Int).toNat))) (u13.2.met (x.A.rf (x.A.fb (x.g (u17.Fr.getD (0+(u17.i:Int).toNat) []))) (0+(u13.1:Int).toNat)))+1) (x.A.rf (x.A.fb (x.g (u17.Fr.getD (0+(u17.i:Int).toNat) []))) (0+(u13.1:Int).toNat))))=C->I6 ((u13.1:Int)+1)/\∃(u11:Nat×Ku),((u11.1<=gz (qq x.n x.f (u17.Fr.getD (0+(u17.i:Int).toNat) []))/\((u17.i:Int)=(u11.2.i:Int)/\u17.Fr.getD (0+(u17.i:Int).toNat) []=u11.2.Fr.getD u11.2.i []/\u11.2.i<u11.2.Fr.length)/\u11.2.Fr.length<=u11.2.c/\k5 x.n x.f x.root u11.2.Fr u11.2.i/\iZ u11.2.Fr u11.2.met ((1:Nat)+16*u11.2.i+u11.1) /\∀(u10:Nat),u10<u11.1->eY (qq x.n x.f (u17.Fr.getD (0+(u17.i:Int).toNat) [])) u10∈ u11.2.Fr)/\gz (qq x.n x.f (u17.Fr.getD (0+(u17.i:Int).toNat) [])) - u11.1<gz (qq x.n x.f (u17.Fr.getD (0+(u17.i:Int).toNat) [])) - u13.1)/\(u13.1:Int)+1=(u11.1:Int)/\(u13.2.Fr.length=u11.2.Fr.length/\u13.2.c=u11.2.c)/\aa (SB.rows C u13.2.Fr.length [ak.str λu9=>u13.2.Fr.getD u9 []] F (u13.2.c*1) 9) (jm u11.2.Fr u11.2.c)/\aa (SB.fmap (dN (cG u13.2.Fr) (x.A.rf (x.A.fb (x.g (u17.Fr.getD (0+(u17.i:Int).toNat) []))) (0+(u13.1:Int).toNat))) (aC.int I (fK u13.2.met (x.A.rf (x.A.fb (x.g (u17.Fr.getD (0+(u17.i:Int).toNat) []))) (0+(u13.1:Int).toNat)) (dflt (cG u13.2.Fr (x.A.rf (x.A.fb (x.g (u17.Fr.getD (0+(u17.i:Int).toNat) []))) (0+(u13.1:Int).toNat))) (u13.2.met (x.A.rf (x.A.fb (x.g (u17.Fr.getD (0+(u17.i:Int).toNat) []))) (0+(u13.1:Int).toNat)))+1))) H) (SB.fmap (cG u11.2.Fr) (aC.int I u11.2.met) H)) /\(J (1<dflt (dN (cG u13.2.Fr) (x.A.rf (x.A.fb (x.g (u17.Fr.getD (0+(u17.i:Int).toNat) []))) (0+(u13.1:Int).toNat)) (x.A.rf (x.A.fb (x.g (u17.Fr.getD (0+(u17.i:Int).toNat) []))) (0+(u13.1:Int).toNat))) (fK u13.2.met (x.A.rf (x.A.fb (x.g (u17.Fr.getD (0+(u17.i:Int).toNat) []))) (0+(u13.1:Int).toNat)) (dflt (cG u13.2.Fr (x.A.rf (x.A.fb (x.g (u17.Fr.getD (0+(u17.i:Int).toNat) []))) (0+(u13.1:Int).toNat))) (u13.2.met (x.A.rf (x.A.fb (x.g (u17.Fr.getD (0+(u17.i:Int).toNat) []))) (0+(u13.1:Int).toNat)))+1) (x.A.rf (x.A.fb (x.g (u17.Fr.getD (0+(u17.i:Int).toNat) []))) (0+(u13.1:Int).toNat))))=F->(0+u13.2.Fr.length<=u13.2.Fr.length/\True/\2*(u13.2.Fr.length+1)*16<=(281474976710656:Nat)/\u13.2.Fr.length+1<(9223372036854775808:Nat))/\∀(u8:Nat),u13.2.Fr.length+1<=u8->(aK x.f x.n (x.A.rf (x.A.fb (x.g (u17.Fr.getD (0+(u17.i:Int).toNat) []))) (0+(u13.1:Int).toNat))=C->I6 ((u13.1:Int)+1) /\∃(u7:Nat×Ku),((u7.1<=gz (qq x.n x.f (u17.Fr.getD (0+(u17.i:Int).toNat) []))/\((u17.i:Int)=(u7.2.i:Int)/\u17.Fr.getD (0+(u17.i:Int).toNat) []=u7.2.Fr.getD u7.2.i []/\u7.2.i<u7.2.Fr.length)/\u7.2.Fr.length<=u7.2.c/\k5 x.n x.f x.root u7.2.Fr u7.2.i/\iZ u7.2.Fr u7.2.met ((1:Nat)+16*u7.2.i+u7.1)/\∀(u6:Nat),u6<u7.1->eY (qq x.n x.f (u17.Fr.getD (0+(u17.i:Int).toNat) [])) u6∈ u7.2.Fr)/\gz (qq x.n x.f (u17.Fr.getD (0+(u17.i:Int).toNat) [])) - u7.1<gz (qq x.n x.f (u17.Fr.getD (0+(u17.i:Int).toNat) [])) - u13.1)/\(u13.1:Int)+1=(u7.1:Int)/\(!false)=C/\(u13.2.Fr.length+1=u7.2.Fr.length/\u8=u7.2.c)/\aa (SB.rows C (u13.2.Fr.length+1) [ak.str λu5=>if u5<u13.2.Fr.length then u13.2.Fr.getD u5 [] else bT [x.A.rf (x.A.fb (x.g (u17.Fr.getD (0+(u17.i:Int).toNat) []))) (0+(u13.1:Int).toNat)] (u5 - u13.2.Fr.length)] F (u8*1) 9) (jm u7.2.Fr u7.2.c) /\aa (SB.fmap (dN (cG u13.2.Fr) (x.A.rf (x.A.fb (x.g (u17.Fr.getD (0+(u17.i:Int).toNat) []))) (0+(u13.1:Int).toNat))) (aC.int I (fK u13.2.met (x.A.rf (x.A.fb (x.g (u17.Fr.getD (0+(u17.i:Int).toNat) []))) (0+(u13.1:Int).toNat)) (dflt (cG u13.2.Fr (x.A.rf (x.A.fb (x.g (u17.Fr.getD (0+(u17.i:Int).toNat) []))) (0+(u13.1:Int).toNat))) (u13.2.met (x.A.rf (x.A.fb (x.g (u17.Fr.getD (0+(u17.i:Int).toNat) []))) (0+(u13.1:Int).toNat)))+1))) H) (SB.fmap (cG u7.2.Fr) (aC.int I u7.2.met) H))/\(aK x.f x.n (x.A.rf (x.A.fb (x.g (u17.Fr.getD (0+(u17.i:Int).toNat) []))) (0+(u13.1:Int).toNat))=F->∃(u4:List (List UInt8)×Nat),(k5 x.n x.f x.root u4.1 u4.1.length/\u4.1.length<=u4.2)/\False)))/\(J ((u13.1:Int)<(↑(x.A.nb (x.g (u17.Fr.getD (0+(u17.i:Int).toNat) []))):Int))=F->I6 ((u17.i:Int)+1)/\∃(u3:Ku),((u3.i<=u3.Fr.length/\u3.Fr.length<=u3.c/\k5 x.n x.f x.root u3.Fr u3.i/\iZ u3.Fr u3.met ((1:Nat)+16*u3.i))/\x.n - u3.i<x.n - u17.i) /\(u17.i:Int)+1=(u3.i:Int)/\(u13.2.Fr.length=u3.Fr.length/\u13.2.c=u3.c)/\aa (SB.rows C u13.2.Fr.length [ak.str λu2=>u13.2.Fr.getD u2 []] F (u13.2.c*1) 9) (jm u3.Fr u3.c)/\aa (SB.fmap (cG u13.2.Fr) (aC.int I u13.2.met) H) (SB.fmap (cG u3.Fr) (aC.int I u3.met) H)))/\(aK x.f x.n (u17.Fr.getD (0+(u17.i:Int).toNat) [])=F->False))/\(J ((u17.i:Int)<(u17.Fr.length:Int))=F->∃(u1:List (List UInt8)×Nat),(k5 x.n x.f x.root u1.1 u1.1.length/\u1.1.length<=u1.2)/\(u17.Fr.length=u1.1.length/\u17.c=u1.2)/\aa (SB.rows C u17.Fr.length [ak.str λu0=>u17.Fr.getD u0 []] F (u17.c*1) 9) (jm u1.1 u1.2)))):=⟨by kernel_rfl,by kernel_rfl⟩
theorem I8: ∀(n:Nat) (l:List Nat),l.Nodup->(∀ a,a∈ l->a<n)->l.length<=n
 | 0,[],_,_=>R _
 | 0,a::_,_,h=>absurd (h a (X ..)) (aP _)
 | n+1,l,hd,h=>by
   have h1:=I8 n (l.erase n) (hd.erase n) λa ha=>by have h2:=(hd.mem_erase_iff).1 ha;have:=h a h2.2;have:=h2.1;omega
   have:=List.length_erase (a:=n) (l:=l);by_cases e:n∈ l
   ·rw[if_pos e] at this;omega
   ·rw[if_neg e] at this;omega
theorem k5.len {root:List UInt8}(h:k5 n f root Fr k):Fr.length<=n:=by
 have:=I8 n (Fr.map λt=>(cB f n t).toNat) ?_ ?_
 ·rwa [an] at this
 ·refine List.pairwise_map.2 (h.nod.imp_of_mem λ{a b} ha hb hne e=>hne ?_);obtain⟨_,_,h1⟩:=gT f n a (h.dom a ha);obtain⟨_,_,h2⟩:=gT f n b (h.dom b hb);rw[← h1,← h2,e]
 ·intro a ha;obtain⟨t,ht,rfl⟩:=List.mem_map.1 ha;obtain⟨h1,h2,_⟩:=gT f n t (h.dom t ht);omega
theorem has_add (l:List (List UInt8))(s t:List UInt8):dN (cG l) s t=cG (l++[s]) t:=by unfold dN cG;rw[c4,c_,decide_eq_true_eq,decide_eq_true_eq,decide_eq_true_eq,a!,Y]
theorem Xh {l:List (List UInt8)}(h:s∈ l)(t:List UInt8):dN (cG l) s t=cG l t:=by unfold dN cG;rw[c4,c_,decide_eq_true_eq,decide_eq_true_eq];exact⟨λe=>e.elim id λe=>e▸ h,.inl⟩
theorem Xz (h:iZ Fr met b)(r:List UInt8) :
  (dflt (dN (cG Fr) r r) (fK met r (dflt (cG Fr r) (met r)+1) r)=dflt (cG Fr r) (met r)+1)/\(1<dflt (cG Fr r) (met r)+1↔r∈ Fr)/\0<=dflt (cG Fr r) (met r)/\dflt (cG Fr r) (met r)<=b:=by
 have h1:dN (cG Fr) r r=true:=by unfold dN;simp
 have h2: ∀ v,fK met r v r=v:=λv=>by unfold fK;simp
 rw[h1,h2];refine⟨rfl,?_⟩;by_cases e:r∈ Fr
 ·have hh:cG Fr r=true:=decide_eq_true e;rw[hh];have:=h.pos r e;exact⟨⟨λ_=>e,λ_=>by show 1<met r+1;omega⟩,by show 0<=met r;omega,by show met r<=b;exact this.2⟩
 ·have hh:cG Fr r=false:=decide_eq_false e;rw[hh];exact⟨⟨λh=>absurd h (by show ¬ (1:Int)<0+1;decide),λh=>absurd h e⟩,Int.le_refl _,by show(0:Int)<=b;omega⟩
theorem XB (h:iZ Fr met b)(hr:r∈ Fr):iZ Fr (fK met r (dflt (cG Fr r) (met r)+1)) (b+1):=⟨λt ht=>by
 have hh:cG Fr r=true:=decide_eq_true hr;rw[hh];unfold fK;have h1:=h.pos r hr;have h2:=h.pos t ht;by_cases e:t=r
 ·rw[decide_eq_true e];show 1<=met r+1/\met r+1<=_;omega
 ·rw[decide_eq_false e];show 1<=met t/\met t<=_;omega⟩
theorem Xy (h:iZ Fr met b)(hr:r∉ Fr):iZ (Fr++[r]) (fK met r (dflt (cG Fr r) (met r)+1)) (b+1):=⟨λt ht=>by
 have hh:cG Fr r=false:=decide_eq_false hr;rw[hh];unfold fK;by_cases e:t=r
 ·rw[decide_eq_true e];show(1:Int)<=0+1/\(0:Int)+1<=_;omega
 ·rw[decide_eq_false e];rcases a!.1 ht with ht | ht
  ·have h2:=h.pos t ht;show 1<=met t/\met t<=_;omega
  ·rw[Y] at ht;exact absurd ht e⟩
theorem k5.add {root:List UInt8}(h:k5 n f root Fr k)(hk:k<=Fr.length)(hr:r∉ Fr)(hd:aK f n r=C):k5 n f root (Fr++[r]) k:=by
 refine⟨ax _ h.root,?_,λt ht=> ?_,λq hq hql j hj=> ?_⟩
 ·rw[List.nodup_append];exact⟨h.nod,eL _ _,λa ha b hb e=>hr (by rw[Y] at hb;rw[← hb,← e];exact ha)⟩
 ·rcases a!.1 ht with ht | ht
  ·exact h.dom t ht
  ·rw[Y] at ht;rw[ht];exact hd
 ·have e:(Fr++[r]).getD q []=Fr.getD q []:=by rw[ag,ag,ej (by omega)]
  rw[e] at hj ⊢;exact ax _ (h.clo q hq (by omega) j hj)
theorem Tg (h:i<Fr.length):(Fr++[r]).getD i []=Fr.getD i []:=by rw[ag,ag,ej h]
theorem Pt {u:List (List UInt8)}(hc:c=c'):aa (.rows C (u.length+1) [.str λj=>if j<u.length then u.getD j [] else bT [s] (j - u.length)] F (c*1) 9) (jm (u++[s]) c'):=by
 subst hc;refine kg (by simp) rfl rfl λk c c' h1 h2 i hi E=> ?_
 match k,h1,h2 with
 | 0,h1,h2 =>
   injection h1 with h1;injection h2 with h2;subst h1;subst h2;simp only[ak.at,SV.val];rw[rF u s [] i hi];by_cases h:i<u.length
   ·rw[if_pos h,if_pos h]
   ·rw[if_neg h,if_neg h];rfl
 | k+1,h1,_=>simp at h1
theorem Tv (hc:c=c')(h1c:1<=c):aa (.cells [.str F s] (c*1) 9) (jm [s] c'):=by
 subst hc;refine aa.of rfl rfl λ_=>⟨rfl,λE o ⟨c0,fr,h1,h2,h3,h4⟩=>⟨c0,fr,h1,λ_=>h2,by show 1*1<=c0.size;omega,h4,λi k col hi hk=> ?_⟩,id⟩
 have hi:i<1:=hi;have e:i=0:=by omega
 subst e
 match k,hk with
 | 0,hk =>injection hk with hk;subst hk;exact h3 0 _ rfl
 | k+1,hk=>simp at hk
theorem XA (s:List UInt8):aa (.map [(0,.str F s,.int .i64 C 1)] 1) (.fmap (cG [s]) (.int .i64 λ_=>1) H):=by
 refine aa.of rfl rfl λ_=>⟨rfl,λE o h=> ?_,id⟩
 have h:o=.map (ey E [(0,.str F s,.int .i64 C 1)]).toArray 1:=h;have h2:=(wS.nil (.int .i64 λ_=>1) 0).add (c':=.int .i64 λ_=>1) (s:=s) (u:=.int .i64 1) ⟨rfl,λ_ _=>rfl⟩ (by simp) (pend':=H) (λ_ _ h=>by cases h);refine⟨_,_,h,?_⟩;have e:dN (λ_=>F) s=cG [s]:=by funext t;unfold dN cG;rw[Bool.false_or];simp
 rw[e] at h2;exact h2
theorem Db (x:Wq)(hx:oB.pre x):az (runM (Sv x) 81 bW oB x):=by
 refine az.pr (Re x) ?_;obtain⟨hn,hG,hroot,hclo⟩:=hx;simp only[Int.toNat_natCast,Z,true_and,Bool.not_eq_true',Bool.not_false,decide_eq_true_eq,decide_eq_false_iff_not];refine⟨⟨λ_ c hc=>⟨λ_=>⟨⟨0,[x.root],c,λ_=>1⟩,⟨rfl,hc,⟨X ..,eL _ _,λt ht=>by rw[Y] at ht;rw[ht];exact hroot,λq hq=>absurd hq (aP _)⟩,⟨λ_ _=>⟨Int.le_refl _,Int.le_refl _⟩⟩⟩,⟨rfl,rfl⟩,Nat.one_pos,Tv rfl hc,XA _⟩,λh=>by rw[hroot] at h;cases h⟩,λh=>absurd trivial h⟩,λy ⟨y1,y2,y3,y4⟩=>⟨?_,λz ⟨z1,z2,z3,z4⟩=>⟨λhlt=> ?_,λhge=> ?_⟩⟩⟩
 ·exact⟨y,⟨by omega,y2,by rw[y1];exact y3,by rw[y1];exact y4⟩,by rw[y1];rfl,⟨rfl,rfl⟩,aa.refl _,aa.refl _⟩
 ·have hlt:(z.i:Int)<(z.Fr.length:Int):=hlt;have hlt':z.i<z.Fr.length:=by omega
  have hmem:z.Fr.getD z.i []∈ z.Fr:=by rw[ag,ek hlt'];exact List.getElem_mem hlt'
  have hd:=z3.dom _ hmem;have hL:=z3.len;have hT:x.A.cR (x.g (z.Fr.getD z.i []))=qq x.n x.f (z.Fr.getD z.i []):=hG.cR _ hd;have hnb:x.A.nb (x.g (z.Fr.getD z.i []))=gz (qq x.n x.f (z.Fr.getD z.i [])):=(hG.nb _ hd).trans (congrArg gz hT);have h16:gz (qq x.n x.f (z.Fr.getD z.i []))<=16:=vt _ 16;refine⟨⟨by omega,hlt⟩,hlt',λ_=>⟨hG.dom _ hd,⟨(0,z),⟨S _,⟨rfl,rfl,hlt'⟩,z2,z3,z4,λj hj=>absurd hj (aP _)⟩,rfl,⟨rfl,rfl⟩,aa.refl _,aa.refl _⟩,λw ⟨w1,⟨w2,w3,w4⟩,w5,w6,w7,w8⟩=>⟨λhj=> ?_,λhj=> ?_⟩⟩,λh=>by rw[hd] at h;cases h⟩
  ·have hj':w.1<x.A.nb (x.g (z.Fr.getD z.i [])):=by omega
   obtain⟨r1,r2,r3⟩:=hG.row _ hd (by omega);have hr:x.A.rf (x.A.fb (x.g (z.Fr.getD z.i []))) w.1=eY (qq x.n x.f (z.Fr.getD z.i [])) w.1:=by rw[r3 w.1 hj',hT]
   have hrd:=hclo _ hd w.1 (by omega);have hwl:=w6.len;rw[hr];generalize hrr:eY (qq x.n x.f (z.Fr.getD z.i [])) w.1=r at hrd ⊢;obtain⟨e1,e2,e3,e4⟩:=Xz w7 r;rw[e1];have hb:1+16*w.2.i+w.1<=20000:=by omega
   have e4:dflt (cG w.2.Fr r) (w.2.met r)<=20000:=Int.le_trans e4 (by omega);have more: ∀ Fr':List (List UInt8),(∀ t,t∈ w.2.Fr->t∈ Fr')->r∈ Fr'->∀ j,j<w.1+1->eY (qq x.n x.f (z.Fr.getD z.i [])) j∈ Fr':=λFr' hs hr' j hj=>by
    by_cases e:j=w.1
    ·rw[e,hrr];exact hr'
    ·exact hs _ (w8 j (by omega))
   refine⟨⟨by omega,hj⟩,⟨r1,Nat.lt_of_lt_of_le hj' r2⟩,⟨by omega,by omega⟩,λh1=> ?_,λh1=>⟨⟨R _,by omega,by omega⟩,λc hc=>⟨λ_=> ?_,λh=>by rw[hrd] at h;cases h⟩⟩⟩
   ·have hin:=e2.1 h1;exact⟨⟨by omega,by omega⟩,(w.1+1,⟨w.2.i,w.2.Fr,w.2.c,fK w.2.met r (dflt (cG w.2.Fr r) (w.2.met r)+1)⟩),⟨⟨by show w.1+1<=_;omega,⟨w2,w3,w4⟩,w5,w6,XB w7 hin,more _ (λ_ h=>h) hin⟩,by show _ - (w.1+1)<_;omega⟩,by show(w.1:Int)+1=((w.1+1:Nat):Int);omega,⟨rfl,rfl⟩,aa.refl _,aa.fmap (Xh hin) λ_=>rfl⟩
   ·have hin:r∉ w.2.Fr:=λe=>h1 (e2.2 e);exact⟨⟨by omega,by omega⟩,(w.1+1,⟨w.2.i,w.2.Fr++[r],c,fK w.2.met r (dflt (cG w.2.Fr r) (w.2.met r)+1)⟩),⟨⟨by show w.1+1<=_;omega,⟨w2,by show _=(w.2.Fr++[r]).getD w.2.i [];rw[Tg w4];exact w3,by show w.2.i<(w.2.Fr++[r]).length;rw[W];omega⟩,by show(w.2.Fr++[r]).length<=c;rw[W];exact hc,w6.add (by omega) hin hrd,Xy w7 hin,more _ (λ_ h=>ax _ h) (b! _ (Y.2 rfl))⟩,by show _ - (w.1+1)<_;omega⟩,by show(w.1:Int)+1=((w.1+1:Nat):Int);omega,⟨by show _=(w.2.Fr++[r]).length;rw[W];rfl,rfl⟩,Pt rfl,aa.fmap (has_add _ _) λ_=>rfl⟩
  ·have hwl:=w6.len;have ei:w.2.i=z.i:=by omega
   refine⟨⟨by omega,by omega⟩,⟨z.i+1,w.2.Fr,w.2.c,w.2.met⟩,⟨⟨by show z.i+1<=w.2.Fr.length;omega,w5,⟨w6.root,w6.nod,w6.dom,λq hq hql j hjj=> ?_⟩,⟨λt ht=> ?_⟩⟩,by show x.n - (z.i+1)<x.n - z.i;omega⟩,by show(z.i:Int)+1=((z.i+1:Nat):Int);omega,⟨rfl,rfl⟩,aa.refl _,aa.refl _⟩
   ·by_cases e:q=w.2.i
    ·subst e;rw[← w3] at hjj ⊢;exact w8 j (by omega)
    ·exact w6.clo q (by have:q<z.i+1:=hq;omega) hql j hjj
   ·have:=w7.pos t ht;show 1<=w.2.met t/\w.2.met t<=((1+16*(z.i+1):Nat):Int)
    omega
 ·have e:z.i=z.Fr.length:=by have: ¬ (z.i:Int)<(z.Fr.length:Int):=hge;omega
  rw[e] at z3;exact⟨(z.Fr,z.c),⟨z3,z2⟩,⟨rfl,rfl⟩,aa.refl _⟩
theorem Mj:av T 81 (cF oB) :=fH (n:=20) (fn:=bW) Tryz.func81 (by kernel_rfl) (by kernel_rfl) oB λx hx=>⟨_,aaz x,rfl,Db x hx⟩
end
end Go.Proofs.YtoibaecagklkaaaGreatDoor
