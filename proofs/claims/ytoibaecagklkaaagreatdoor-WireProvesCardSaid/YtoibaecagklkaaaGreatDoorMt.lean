/- A part of the proof. -/
import Derived.Test.YtoibaecagklkaaaGreatDoorMs
open Bool renaming eq_iff_iff->cx,false->F,false_eq_true->cy,or_eq_true->cD,or_true->c5,true->C
open Go.IntKind renaming i64->J
open Go.Proofs.Tryz renaming f101->a!,f80->bE,f81->b5,prog->R
open List renaming append_assoc->c6,append_nil->aO,filter_cons->b6,flatMap_append->c7,getD_eq_getElem?_getD->Z,getElem?_append_left->c_,getElem?_eq_getElem->c!,getElem?_eq_some_iff->d_,getElem?_map->d!,length_append->T,length_cons->ej,length_filter_le->ek,length_map->ag,map->en,mem_append->a_,mem_append_left->an,mem_append_right->b9,mem_cons_self->W,mem_flatMap->b_,mem_range->ep,mem_singleton->X,nil_append->b!,pairwise_singleton->eu,range->M,range_succ->ez
open Nat renaming add_assoc->eB,beq_refl->az,le_refl->O,le_trans->cl,lt_irrefl->ct,mul_add->eC,mul_le_mul_left->eL,not_lt_zero->aC,succ_pos->eM,zero_add->Y,zero_le->S
open Option renaming none->H,some->I
namespace Go.Proofs.YtoibaecagklkaaaGreatDoor
open Go Sx
variable {Fr:List f_}{l:List Rw}{r s t:f_}{met:f_->Int}{a b c c' i k m n:Nat}{f:Nat->f_}
section
open Go Sx
set_option maxRecDepth 20000
theorem DB {n' k':Nat}{f f':Nat->Nat}{ty:TypeId}(hn:n=n')(hc:c=c')(hk:k=k')(hf: ∀ i,i<n->f i=f' i):aa (.rows C n [.ref k f] F (c*1) ty) (.rows C n' [.ref k' f'] F (c'*1) ty):=by
 subst hk;refine kW hn (by rw[hc]) rfl λj d d' h1 h2 i hi E=> ?_
 match j,h1,h2 with
 | 0,h1,h2 =>injection h1 with h1;injection h2 with h2;subst h1;subst h2;simp only[av.at,hf i hi]
 | j+1,h1,_=>simp at h1
theorem Fs {x:uE}(hl:x.l=[])(h:kZ x.P (m+1) x.nb x.f x.B):kZ x.P (m+1) x.nb x.f (x.B++nC m x.l):=by rw[hl,show nC m []=[] from rfl,aO];exact h
theorem Sy (x:uE)(hx:(sk 0).pre x):ay (runM (EW 0) 101 a! (sk 0) x):=by
 refine ay.pr (abp x) ?_;obtain⟨h1,h2,h3,h4,h5,h6⟩:=hx;have hl:x.l=[]:=by
  cases e:x.l with
  | nil=>rfl
  | cons r l=>rw[e] at h1;exact absurd (h1.len r (W ..)) (aC _)
 refine⟨λ_=>⟨⟨x.nb,x.cb,x.f,x.P⟩,⟨h4,Fs hl h6⟩,by rw[hl];rfl,⟨rfl,rfl⟩,aa.refl _,aa.refl _,aa.refl _⟩,λh=> ?_⟩;rw[hl] at h;exact absurd h (by decide)
theorem Sw (m:Nat)(x:uE)(hx:(sk (m+1)).pre x):ay (runM (EW (m+1)) 101 a! (sk (m+1)) x):=by
 refine ay.A5 (aeR m x) (by delta Bk Fk;exact rfl) ?_;obtain⟨h1,h2,h3,h4,h5,h6⟩:=hx;refine⟨λh=> ?_,λh=> ?_⟩
 ·have hl:x.l=[]:=List.length_eq_zero_iff.1 (by have:=l_ h;omega);exact⟨⟨x.nb,x.cb,x.f,x.P⟩,⟨h4,Fs hl h6⟩,by rw[hl];rfl,⟨rfl,rfl⟩,aa.refl _,aa.refl _,aa.refl _⟩
 have hl:x.l≠[]:=λe=>by have:=m_ h;rw[e] at this;exact this rfl
 refine⟨(x.l,x.c),⟨h1,h2,h3⟩,⟨rfl,rfl⟩,aa.refl _,λy hy=> ?_⟩;obtain⟨y1,Q⟩:=y;have hy:Told Q (m+1+1) y1 (cX (m+1) x.l):=hy;obtain⟨hb1,hb2,hb3,hb4⟩:=Pn hy;have ht:Q.dm y1=ctext (m+1) x.l:=by injection hb3 with e _;exact e.symm
 have htail:(cX (m+1) x.l).tail=cR (m+1) x.l:=rfl;have h700:=p6 h3 h1 hl;have hrl:=LC h700;have hnb:=Ed h6;rw[T] at h5;have hkB:nC (m+1) x.l=(if(ctext (m+1) x.l).length<32 then [] else [ctext (m+1) x.l])++cR (m+1) x.l:=s_ hl
 have hkr:jl (m+1) x.l=eY (ctext (m+1) x.l):=s_ hl;show Q.D y1=C/\(Q.dm y1).length<_/\_;rw[ht];refine⟨hb4,by omega,by omega,λhh=> ?_,λhh=>⟨hb4,?_⟩⟩
 ·have hlong: ¬ (ctext (m+1) x.l).length<32:=λe=>by rw[iC e] at hh;have:=lg hh;omega
  rw[s_ hlong] at hkB;refine⟨⟨by omega,trivial,by omega,by omega⟩,λc hc hd hd2=> ?_⟩;have hW:=Mt (Q:=Q) hd hd2 h6 (Zg hy);refine⟨⟨x.nb+1,c,λj=>if j<x.nb then x.f j else Yf [y1] (j-x.nb),x.P.or Q⟩,⟨hc,?_⟩,hkr.symm,⟨rfl,rfl⟩,DB rfl rfl rfl λ_ _=>rfl,aa.refl _,aa.refl _⟩
  rw[hkB];exact hW
 ·have hshort:(ctext (m+1) x.l).length<32:=by
   by_cases e:(ctext (m+1) x.l).length<32
   ·exact e
   ·rw[(iN e).1] at hh;cases hh
  rw[r_ hshort,b!] at hkB;have hn2:=Ed hb1;rw[htail,← hkB] at hn2;refine⟨⟨by omega,λh=> ?_,?_,?_⟩,λc hc hd hd2=> ?_⟩
  ·have:=hb2 h;exact⟨this.1,by show 0+Q.nb y1<=_;rw[Y];exact this.2⟩
  ·show 2*(x.nb+Q.nb y1)*8<=_;omega
  ·show x.nb+Q.nb y1<_;omega
  have hW:=Mt (Q:=Q) hd hd2 h6 hb1;refine⟨⟨x.nb+Q.nb y1,c,λj=>if j<x.nb then x.f j else Q.g (Q.fb y1) (j-x.nb),x.P.or Q⟩,⟨hc,?_⟩,hkr.symm,⟨rfl,rfl⟩,DB rfl rfl rfl λ_ _=>rfl,aa.refl _,aa.refl _⟩
  rw[hkB];exact hW
theorem aan (h:ax R 63 (pZ m)):ax R 101 (cM (sk m)) :=
 fT (n:=20) (fn:=a!) Tryz.func101 (by kernel_rfl) (by kernel_rfl) (sk m) λx hx=>⟨EW m,adx h,by rfl,by
  cases m with
  | zero=>exact Sy x hx
  | succ m=>exact Sw m x hx⟩
def Pd.top (P:Pd)(a a1:Nat)(t:f_)(nb cb:Nat)(f:Nat->Nat):Pd :=
 {D:=λb=>P.D b||b.beq a1,dm:=λb=>bif P.D b then P.dm b else t,fb:=λb=>bif P.D b then P.fb b else a,nb:=λb=>bif P.D b then P.nb b else nb,cb:=λb=>bif P.D b then P.cb b else cb,
  D2:=λb=>P.D2 b||b.beq a&& !(C&&nb.beq 0),n2:=λb=>bif P.D2 b then P.n2 b else nb,g:=λb i=>bif P.D2 b then P.g b i else f i}
def Pd.one (a a1:Nat)(t:f_)(nb cb:Nat)(f:Nat->Nat):Pd :={D:=λb=>b.beq a1,dm:=λ_=>t,fb:=λ_=>a,nb:=λ_=>nb,cb:=λ_=>cb,D2:=λb=>b.beq a&& !(C&&nb.beq 0),n2:=λ_=>nb,g:=λ_=>f}
theorem aeL (P:Pd)(a a1:Nat)(t:f_)(nb cb:Nat)(f:Nat->Nat):P.top a a1 t nb cb f=P.or (Pd.one a a1 t nb cb f):=rfl
theorem YA {P:Pd}{d a1 nb cb:Nat}{f:Nat->Nat}{B:List f_}(hd: ∀ b,P.D b=C->b.beq a1=F)(hd2: ∀ b,P.D2 b=C->(b.beq a&& !(C&&nb.beq 0))=F)(h:kZ P d nb f B) :
  Told (P.top a a1 t nb cb f) (d+1) a1 (t::B):=by
 obtain⟨Ks,h1,h2,h3⟩:=h;have e:a1.beq a1=true:=az a1;have hp:P.D a1=false:=by
  cases h:P.D a1 with
  | false=>rfl
  | true=>rw[hd a1 h] at e;cases e
 have e2:(P.top a a1 t nb cb f).nb a1=nb:=by show(bif P.D a1 then _ else _)=_;rw[hp];rfl
 have e3:(P.top a a1 t nb cb f).fb a1=a:=by show(bif P.D a1 then _ else _)=_;rw[hp];rfl
 have e4:(P.top a a1 t nb cb f).dm a1=t:=by show(bif P.D a1 then _ else _)=_;rw[hp];rfl
 have hn:0<nb->(a.beq a&& !(C&&nb.beq 0))=true:=λh=>by
  have:nb.beq 0=false:=by cases nb with
   | zero=>omega
   | succ n=>rfl
  rw[this,show a.beq a=C from az a];rfl
 have hp2:0<nb->P.D2 a=false:=λh=>by
  cases g:P.D2 a with
  | false=>rfl
  | true=>have:=hd2 a g;rw[hn h] at this;cases this
 refine⟨by show(P.D a1||a1.beq a1)=C;rw[e,c5],Ks,e2.trans h1,λh=> ?_,by rw[e4,h2],λi L' hi=> ?_⟩
 ·rw[← h1] at h;rw[e3];refine⟨by show(P.D2 a||_)=C;rw[hn h,c5],?_⟩;show _<=(bif P.D2 a then _ else nb)
  rw[hp2 h,h1];exact O _
 ·have hk:0<Ks.length:=Nat.lt_of_le_of_lt (S _) (d_.1 hi).1;have:(P.top a a1 t nb cb f).g ((P.top a a1 t nb cb f).fb a1) i=f i:=by rw[e3];show(bif P.D2 a then _ else f i)=_;rw[hp2 (by omega)];rfl
  rw[this,aeL];exact zU (h3 i L' hi)
def Pd.leaf (a:Nat)(t:f_):Pd:={D:=λb=>b.beq a,dm:=λ_=>t,fb:=λ_=>0,nb:=λ_=>0,cb:=λ_=>0,D2:=λ_=>F,n2:=λ_=>0,g:=λ_ _=>0}
theorem TR (d a:Nat)(t:f_):Told (Pd.leaf a t) (d+1) a [t]:=⟨az a,[],rfl,λh=>absurd h (ct 0),rfl,λi L' hi=>by simp at hi⟩
def sg (i:Nat)(p:f_):Bool:=match p with
 | []=>F
 | b::_=>decide (b.toNat<i)
theorem Nj (i:Nat)(p:f_):(lU i p=C->sg i p=F/\sg (i+1) p=C)/\(lU i p=F->sg (i+1) p=sg i p):=by
 cases p with
 | nil=>exact⟨λh=>(by cases h),λ_=>rfl⟩
 | cons b q =>
   refine⟨λh=> ?_,λh=> ?_⟩
   ·have h:b.toNat=i:=l_ h;exact⟨o_ (by omega),n_ (by omega)⟩
   ·have h: ¬ b.toNat=i:=m_ h;show decide (b.toNat<i+1)=decide (b.toNat<i);exact decide_eq_decide.2 (by omega)
theorem J4 (i:Nat): ∀ l:List Rw,(l.filter λr=>sg i r.1).length+(bI i l).length=(l.filter λr=>sg (i+1) r.1).length
 | []=>rfl
 | x::l=>by
   have ih:=J4 i l;obtain⟨h1,h2⟩:=Nj i x.1;unfold bI at ih ⊢;rw[b6,b6,b6];cases h:lU i x.1 with
   | true =>obtain⟨g1,g2⟩:=h1 h;rw[g1,g2];simp only[if_true,cy,if_false,ej];omega
   | false =>rw[h2 h];cases sg i x.1<;>simp only[if_true,cy,if_false,ej]<;>omega
def m5 (l:List Rw):Nat->Nat
 | 0=>0
 | i+1=>m5 l i+(aG l i).length
theorem tM (l:List Rw)(i:Nat):m5 l i<=l.length:=by
 match l with
 | []=>induction i with
   | zero=>exact O _
   | succ i ih=>exact ih
 | [r]=>induction i with
   | zero=>exact S _
   | succ i ih=>exact ih
 | r::s::t =>
   by_cases hk:0<bL r.1 ((s::t).getLastD r).1
   ·cases i with
    | zero=>exact S _
    | succ i =>
      induction i with
      | zero =>show 0+(aG (r::s::t) 0).length<=_;rw[cq,r_ hk,r_ rfl,Y,cm,ag];exact O _
      | succ i ih =>show m5 (r::s::t) (i+1)+(aG (r::s::t) (i+1)).length<=_;rw[cq,r_ hk,s_ (Nat.succ_ne_zero i)];exact ih
   ·have:m5 (r::s::t) i<=((r::s::t).filter λx=>sg i x.1).length:=by
     induction i with
     | zero=>exact S _
     | succ i ih =>show m5 (r::s::t) i+(aG (r::s::t) i).length<=_;rw[cq,s_ hk,cm,ag,← J4 i (r::s::t)];omega
    exact cl this (ek _ _)
theorem jh (m:Nat)(l:List Rw)(i:Nat):gi m l (i+1)=gi m l i++nC m (aG l i):=by unfold gi;rw[ez,c7];simp
theorem oF (m:Nat)(l:List Rw):cR (m+1) l=gi m l 16:=rfl
mutual
theorem CG: ∀(m:Nat) (l:List Rw),(nC m l).length<=(m+1)*l.length
 | m,l=>by
   unfold nC;by_cases h:l=[]
   ·rw[r_ h];exact S _
   ·rw[s_ h];have hb:=yw m l;have hp:1<=l.length:=List.length_pos_iff.2 h;have:(if(ctext m l).length<32 then([]:List f_)else [ctext m l]).length<=1:=by split<;>simp
    rw[T,Nat.add_mul,Nat.one_mul];omega
 termination_by m=>(m,1)
theorem yw: ∀(m:Nat) (l:List Rw),(cR m l).length<=m*l.length
 | 0,_=>S _
 | m+1,l=>by
   have: ∀ i,(gi m l i).length<=(m+1)*m5 l i:=λi=>by
    induction i with
    | zero=>exact S _
    | succ i ih =>have:=CG m (aG l i);rw[jh,T,m5,eC];omega
   rw[oF];exact cl (this 16) (eL _ (tM l 16))
 termination_by m=>(m,0)
end
theorem Jx (m:Nat)(l:List Rw)(i:Nat):(gi m l i).length<=(m+1)*l.length:=by
 have: ∀ i,(gi m l i).length<=(m+1)*m5 l i:=λi=>by
  induction i with
  | zero=>exact S _
  | succ i ih =>have:=CG m (aG l i);rw[jh,T,m5,eC];omega
 exact cl (this i) (eL _ (tM l i))
def pP (fr to:f_):Nat->List Rw->f_->List f_
 | 0,_,_=>[]
 | m+1,l,p=>(M 16).flatMap λi=>if aG l i=[] then [] else bif bW fr to (eV (bF (m+1) l) p i)then(if(ctext m (aG l i)).length<32 then [] else [ctext m (aG l i)])++pP fr to m (aG l i) (eV (bF (m+1) l) p i)else []
def cQ (c:Nat->Nat):Nat->Nat
 | 0=>0
 | n+1=>cQ c n+c n
def oA (fr to:f_):Nat->List Rw->f_->Nat
 | 0,_,_=>1
 | m+1,l,p=>1+cQ (λi=>if aG l i=[] then 0 else bif bW fr to (eV (bF (m+1) l) p i)then oA fr to m (aG l i) (eV (bF (m+1) l) p i)else 0) 16
def ku (w:Sp)(s:Wk)(V:List f_)(E:List (f_×f_))(c:Nat):Wk:=V.foldl (λs t=>s.take w (aK t)) {s with lk:=s.lk+c,fs:=s.fs++E}
theorem rU (w:Sp)(a:Nat)(b:List (f_×f_)): ∀(V:List f_) (s:Wk),V.foldl (λs t=>s.take w (aK t)) {s with lk:=a,fs:=b}={V.foldl (λs t=>s.take w (aK t)) s with lk:=a,fs:=b}
 | [],_=>rfl
 | t::V,s=>rU w a b V (s.take w (aK t))
theorem HG (w:Sp): ∀(V:List f_) (s:Wk),(V.foldl (λs t=>s.take w (aK t)) s).lk=s.lk/\(V.foldl (λs t=>s.take w (aK t)) s).fs=s.fs
 | [],_=>⟨rfl,rfl⟩
 | t::V,s=>HG w V (s.take w (aK t))
theorem GU (w:Sp)(s:Wk)(V:List f_)(E:List (f_×f_))(c:Nat):(ku w s V E c).lk=s.lk+c:=(HG w V _).1
theorem Pw (w:Sp)(s:Wk)(V:List f_)(E:List (f_×f_))(c:Nat):(ku w s V E c).fs=s.fs++E:=(HG w V _).2
theorem yp (w:Sp)(s:Wk)(V V':List f_)(E E':List (f_×f_))(c c':Nat):ku w (ku w s V E c) V' E' c'=ku w s (V++V') (E++E') (c+c'):=by
 have h1:=GU w s V E c;have h2:=Pw w s V E c;have e:ku w (ku w s V E c) V' E' c'={V'.foldl (λs t=>s.take w (aK t)) (ku w s V E c)with lk:=(ku w s V E c).lk+c',fs:=(ku w s V E c).fs++E'}:=rU w _ _ V' _;have e':ku w s (V++V') (E++E') (c+c')={V'.foldl (λs t=>s.take w (aK t)) (V.foldl (λs t=>s.take w (aK t)) s)with lk:=s.lk+(c+c'),fs:=s.fs++(E++E')}:=by unfold ku;rw[rU,List.foldl_append]
 have e2:ku w s V E c={V.foldl (λs t=>s.take w (aK t)) s with lk:=s.lk+c,fs:=s.fs++E}:=rU w _ _ V s;rw[e,h1,h2,e',e2,rU];simp only[eB,c6]
theorem Ju (w:Sp)(s:Wk):ku w s [] [] 0=s:=by unfold ku;rw[aO];rfl
theorem EP (w:Sp)(s:Wk)(t:f_):s.take w (aK t)=ku w s [t] [] 0:=by unfold ku;rw[aO];rfl
def Full (w:Sp)(L:List f_):Prop:=∀ t,t∈ L->cL w (aK t)=C/\w.at (aK t)=t
theorem Full.mono {w:Sp}{L L':List f_}(h:Full w L)(hs: ∀ t,t∈ L'->t∈ L):Full w L':=λt ht=>h t (hs t ht)
theorem Yp {c:Nat->Nat}(h:n<=m):cQ c n<=cQ c m:=by
 induction m with
 | zero=>have:n=0:=by omega
         subst this;exact O _
 | succ m ih =>
   by_cases e:n=m+1
   ·subst e;exact O _
   ·have:=ih (by omega);show _<=cQ c m+c m;omega
theorem LQ {w:Sp}{p:f_}(s:Wk)(hk: ∀ x,x∈ l->oS (cat p x.1)=C):s.jm w (bF m l) p=ku w s [] (zo w.fr w.to p (bF m l)) 1:=by
 have e:(s.jm w (bF m l) p).fs=s.fs++zo w.fr w.to p (bF m l):=by
  cases m with
  | zero=>show(if fe w e9 p=C then s.fs++[(br (cat p e9.p),e9.v)] else s.fs)=s.fs++[]
          rw[s_ (by unfold fe;simp[e9]),aO]
  | succ m=>exact aba s hk
 have:s.jm w (bF m l) p={s with lk:=s.lk+1,fs:=(s.jm w (bF m l) p).fs}:=rfl;rw[this,e];rfl
theorem pI (h:cc 0 l):l=[]:=by
 cases l with
 | nil=>rfl
 | cons r l=>exact absurd (h.len r (W ..)) (aC _)
theorem NT (fr to p:f_)(h:cc (m+1) l) :
  gL fr to p l=zo fr to p (bF (m+1) l)++(M 16).flatMap λi=>gL fr to (eV (bF (m+1) l) p i) (aG l i):=by
 by_cases hl:l=[]
 ·subst hl;rw[mT (f:=λi=>gL fr to (eV (bF (m+1) []) p i) (aG [] i)) λi _=>rfl];rfl
 ·exact FY fr to p hl h
theorem nh {α:Type}(f:Nat->List α)(n:Nat):(M (n+1)).flatMap f=(M n).flatMap f++f n:=by rw[ez,c7];simp
theorem Mf {w:Sp}: ∀ {m:Nat} {l:List Rw} {p:f_} {j:Nat} {s:Wk},m<=13->cc m l->m<=j->0<j->Full w (pP w.fr w.to m l p)->(∀ x,x∈ l->oS (cat p x.1)=C)->s.lk+oA w.fr w.to m l p<=400->
  lQ w j s (bF m l) p=I (ku w s (pP w.fr w.to m l p) (gL w.fr w.to p l) (oA w.fr w.to m l p))
 | m,l,p,0,s,_,_,_,h,_,_,_=>absurd h (ct 0)
 | 0,l,p,j+1,s,_,hr,_,_,_,hk,hl=>by
   have e:=pI hr;subst e;have hl:s.lk+1<=400:=hl;unfold lQ;rw[s_ (by omega),LQ (m:=0) (l:=[]) s hk];have key: ∀ n,n<=16->∀ s1:Wk,cA w (lQ w j) (bF 0 []) p n s1=I s1:=by
    intro n;induction n with
    | zero=>intro _ s1;rfl
    | succ n ih =>intro hn s1;unfold cA;rw[ih (by omega)];exact kV (m7 n (by omega))
   rw[key 16 (O _)];rfl
 | m+1,l,p,j+1,s,hm,hr,hj,_,hf,hk,hl=>by
   have hN:oA w.fr w.to (m+1) l p=1+cQ (λi=>if aG l i=[] then 0 else bif bW w.fr w.to (eV (bF (m+1) l) p i)then oA w.fr w.to m (aG l i) (eV (bF (m+1) l) p i)else 0) 16:=rfl
   have hV:pP w.fr w.to (m+1) l p=(M 16).flatMap λi=>if aG l i=[] then [] else bif bW w.fr w.to (eV (bF (m+1) l) p i)then(if(ctext m (aG l i)).length<32 then [] else [ctext m (aG l i)])++pP w.fr w.to m (aG l i) (eV (bF (m+1) l) p i)else []:=rfl
   rw[hV] at hf ⊢;rw[hN] at hl ⊢;generalize hc:(λi=>if aG l i=[] then 0 else bif bW w.fr w.to (eV (bF (m+1) l) p i)then oA w.fr w.to m (aG l i) (eV (bF (m+1) l) p i)else 0)=c at hl ⊢
   generalize hV2:(λi=>if aG l i=[] then [] else bif bW w.fr w.to (eV (bF (m+1) l) p i)then(if(ctext m (aG l i)).length<32 then [] else [ctext m (aG l i)])++pP w.fr w.to m (aG l i) (eV (bF (m+1) l) p i)else [])=V at hf ⊢
   unfold lQ;rw[s_ (by omega),LQ (m:=m+1) s hk];have key: ∀ n,n<=16->cA w (lQ w j) (bF (m+1) l) p n (ku w s [] (zo w.fr w.to p (bF (m+1) l)) 1)=I (ku w s ((M n).flatMap V) (zo w.fr w.to p (bF (m+1) l)++(M n).flatMap λi=>gL w.fr w.to (eV (bF (m+1) l) p i) (aG l i)) (1+cQ c n)):=by
    intro n;induction n with
    | zero=>intro _;show I _=I _;simp[cQ]
    | succ n ih =>
      intro hn;rw[eJ (ih (by omega))];have hle:cQ c (n+1)<=cQ c 16:=Yp hn;have hs1:cQ c (n+1)=cQ c n+c n:=rfl;rw[nh,nh,hs1,← c6,← eB,← yp];have hlk:=GU w s ((M n).flatMap V) (zo w.fr w.to p (bF (m+1) l)++(M n).flatMap λi=>gL w.fr w.to (eV (bF (m+1) l) p i) (aG l i)) (1+cQ c n);generalize ku w s ((M n).flatMap V) (zo w.fr w.to p (bF (m+1) l)++(M n).flatMap λi=>gL w.fr w.to (eV (bF (m+1) l) p i) (aG l i)) (1+cQ c n)=s1 at hlk ⊢;have hfn: ∀ t,t∈ V n->cL w (aK t)=C/\w.at (aK t)=t:=λt ht=>hf t (b_.2 ⟨n,ep.2 (by omega),ht⟩);have ec:c n=if aG l n=[] then 0 else bif bW w.fr w.to (eV (bF (m+1) l) p n)then oA w.fr w.to m (aG l n) (eV (bF (m+1) l) p n)else 0:=by rw[← hc]
      have ev:V n=if aG l n=[] then [] else bif bW w.fr w.to (eV (bF (m+1) l) p n)then(if(ctext m (aG l n)).length<32 then [] else [ctext m (aG l n)])++pP w.fr w.to m (aG l n) (eV (bF (m+1) l) p n)else []:=by rw[← hV2]
      by_cases he:aG l n=[]
      ·rw[kV (by rw[p4 m l (by omega),r_ he]),ec,ev,r_ he,r_ he,he];show I s1=I (ku w s1 [] [] 0);rw[Ju]
      ·rw[s_ he] at ec ev;cases hmt:bW w.fr w.to (eV (bF (m+1) l) p n)with
       | false =>rw[hmt,cond_false] at ec ev;rw[sJ hmt,ec,ev,zf hmt,Ju]
       | true =>
         rw[hmt,cond_true] at ec ev;have ho:=fL hr n;have hv:=dw (m:=m) (by omega) ho he;have hk0:=Hj ho he;have er:(bF (m+1) l).r n=eY (ctext m (aG l n)):=by rw[p4 m l (by omega),s_ he]
         have hm0:0<m:=by
          cases m with
          | zero=>exact absurd (pI ho) he
          | succ m=>exact eM _
         have rest: ∀ s2:Wk,s2.lk=s1.lk->lQ w j s2 (bF m (aG l n)) (eV (bF (m+1) l) p n)=I (ku w s2 (pP w.fr w.to m (aG l n) (eV (bF (m+1) l) p n)) (gL w.fr w.to (eV (bF (m+1) l) p n) (aG l n)) (oA w.fr w.to m (aG l n) (eV (bF (m+1) l) p n))):=λs2 h2 =>Mf (by omega) ho (by omega) (by omega) (λt ht=>hfn t (by rw[ev];exact b9 _ ht)) (λx hx=>by obtain⟨z,hz,e⟩:=Wt (p:=p) hr hx;rw[e];exact hk z hz) (by omega)
         have hne: ¬ (bF (m+1) l).r n=[]:=by rw[er];exact(CZ hv hk0).2
         by_cases hs:(ctext m (aG l n)).length<32
         ·rw[r_ hs,b!] at ev;have hin:bH ((bF (m+1) l).r n)=true:=by rw[er,iC hs];exact(sn hv hk0 hs).1
          have hg:getD ((bF (m+1) l).r n)=bF m (aG l n):=by rw[er,iC hs];exact gr hv
          rw[kL hne hmt (DQ hin),hg,rest s1 rfl,ec,ev]
         ·rw[s_ hs] at ev;obtain⟨h1,h2,h3⟩:=iN hs;have hin:bH ((bF (m+1) l).r n)=false:=by
           cases h:bH ((bF (m+1) l).r n)with
           | false=>rfl
           | true=>rw[er] at h;have:=qh h;omega
          obtain⟨f1,f2⟩:=hfn (ctext m (aG l n)) (by rw[ev];exact an _ (W ..));rw[kL hne hmt (vY hin (by rw[er];exact h1) (by rw[er,h2];exact f1)),er,h2,f2,gr hv,rest (s1.take w (aK (ctext m (aG l n)))) rfl,EP,yp,ec,ev,b!,Y]
   rw[key 16 (O _),← NT w.fr w.to p hr]
theorem zQ {K c:Nat->Nat}(h0: ∀ i,K i=0->c i=0)(h1: ∀ i,K i≠0->c i+2<=3*K i): ∀ n,cQ c n=0∨(∃ i,i<n/\cQ c n+2<=3*K i/\K i<=cQ K n)∨cQ c n+4<=3*cQ K n
 | 0=>.inl rfl
 | n+1=>by
   have e1:cQ c (n+1)=cQ c n+c n:=rfl;have e2:cQ K (n+1)=cQ K n+K n:=rfl;rw[e1,e2];by_cases hz:K n=0
   ·rw[h0 n hz,hz];rcases zQ h0 h1 n with h | ⟨i,hi,h,h'⟩ | h
    ·exact .inl (by omega)
    ·exact .inr (.inl ⟨i,by omega,by omega,by omega⟩)
    ·exact .inr (.inr (by omega))
   ·have:=h1 n hz;rcases zQ h0 h1 n with h | ⟨i,hi,h,h'⟩ | h
    ·exact .inr (.inl ⟨n,by omega,by omega,by omega⟩)
    ·exact .inr (.inr (by omega))
    ·exact .inr (.inr (by omega))
theorem DW (l:List Rw): ∀ n,cQ (λi=>(aG l i).length) n=m5 l n
 | 0=>rfl
 | n+1=>by show cQ _ n+_=m5 l n+_;rw[DW l n]
theorem Ph (fr to:f_): ∀ {m:Nat} {l:List Rw} {p:f_},cc m l->l≠[]->oA fr to m l p+2<=3*l.length/\((∃ r s t,l=r::s::t/\¬ 0<bL r.1 ((s::t).getLastD r).1)->oA fr to m l p+3<=3*l.length)
 | 0,l,p,h,hl=>absurd (pI h) hl
 | m+1,[],p,h,hl=>absurd rfl hl
 | m+1,[r],p,h,hl=>by have e:oA fr to (m+1) [r] p=1:=rfl;rw[e];exact⟨by show 1+2<=3*1;omega,fun⟨_,_,_,h,_⟩=>by cases h⟩
 | m+1,r::s::t,p,h,_=>by
   generalize hc:(λi=>if aG (r::s::t) i=[] then 0 else bif bW fr to (eV (bF (m+1) (r::s::t)) p i)then oA fr to m (aG (r::s::t) i) (eV (bF (m+1) (r::s::t)) p i)else 0)=c
   have hN:oA fr to (m+1) (r::s::t) p=1+cQ c 16:=by rw[← hc];rfl
   have hL:(r::s::t).length=t.length+2:=rfl;have c0: ∀ i,(aG (r::s::t) i).length=0->c i=0:=λi hi=>by rw[← hc];exact r_ (List.eq_nil_of_length_eq_zero hi)
   have c1: ∀ i,(aG (r::s::t) i).length≠0->c i+2<=3*(aG (r::s::t) i).length:=λi hi=>by
    have hne:aG (r::s::t) i≠[]:=λe=>hi (by rw[e];rfl);have:=(Ph fr to (p:=eV (bF (m+1) (r::s::t)) p i) (fL h i) hne).1;rw[← hc];dsimp only;rw[s_ hne];cases bW fr to (eV (bF (m+1) (r::s::t)) p i)with
    | true=>exact this
    | false=>show 0+2<=_;omega
   by_cases hk:0<bL r.1 ((s::t).getLastD r).1
   ·refine⟨?_,fun⟨_,_,_,e,hn⟩=>by injection e with e1 e;injection e with e2 e3;subst e1;subst e2;subst e3;exact absurd hk hn⟩;have k0:aG (r::s::t) 0=cm (bL r.1 ((s::t).getLastD r).1) (r::s::t):=by rw[cq,r_ hk,r_ rfl]
    have hne:aG (r::s::t) 0≠[]:=by rw[k0,mR];exact List.cons_ne_nil _ _
    have kl:(aG (r::s::t) 0).length=t.length+2:=by rw[k0];show(en _ _).length=_;rw[ag];rfl
    have hb:=(Ph fr to (p:=eV (bF (m+1) (r::s::t)) p 0) (fL h 0) hne).2 ⟨_,_,_,k0.trans (mR _),by have:((s.1.drop (bL r.1 ((s::t).getLastD r).1),s.2)::cm (bL r.1 ((s::t).getLastD r).1) t).getLastD (r.1.drop (bL r.1 ((s::t).getLastD r).1),r.2)=_:=tN (bL r.1 ((s::t).getLastD r).1) r (s::t);rw[this,tv];exact ct 0⟩
    have hc0:c 0+3<=3*(t.length+2):=by
     rw[← hc];dsimp only;rw[s_ hne];cases bW fr to (eV (bF (m+1) (r::s::t)) p 0)with
     | true=>rw[← kl];exact hb
     | false=>show 0+3<=_;omega
    have hz: ∀ n,0<n->cQ c n=c 0:=λn=>by
     induction n with
     | zero=>intro h;omega
     | succ n ih =>
       intro _;show cQ c n+c n=_;by_cases e:n=0
       ·subst e;exact Y _
       ·rw[ih (by omega),c0 n (by rw[cq,r_ hk,s_ e];rfl)];rfl
    rw[hN,hz 16 (by decide),hL];omega
   ·have hlt: ∀ i,(aG (r::s::t) i).length<=t.length+1:=λi=>by
     rw[cq,s_ hk];show(en _ (bI i (r::s::t))).length<=_;rw[ag];have hle:(bI i (r::s::t)).length<=(r::s::t).length:=ek _ _;by_cases e:(bI i (r::s::t)).length=(r::s::t).length
     ·have ha:=List.length_filter_eq_length_iff.1 e;have h1:=ha r (W ..);have h2:=ha _ (mD r (s::t));refine absurd ?_ hk;generalize ((s::t).getLastD r)=z at h2 ⊢;obtain⟨a,v⟩:=r;obtain⟨b,v'⟩:=z;cases a with
      | nil=>cases h1
      | cons a q =>
        cases b with
        | nil=>cases h2
        | cons b q' =>have e1:a.toNat=i:=l_ h1;have e2:b.toNat=i:=l_ h2;have e:a=b:=UInt8.toNat_inj.1 (by omega);show 0<bL (a::q) (b::q');unfold bL;rw[r_ e];exact eM _
     ·rw[hL] at hle e;omega
    have hS:=zQ (K:=λi=>(aG (r::s::t) i).length) c0 c1 16;rw[DW] at hS;have hK:=tM (r::s::t) 16;rw[hL] at hK;have:oA fr to (m+1) (r::s::t) p+3<=3*(t.length+2):=by
     rw[hN];rcases hS with hS | ⟨i,_,hS,_⟩ | hS
     ·omega
     ·have:=hlt i;omega
     ·omega
    rw[hL];exact⟨by omega,λ_=>this⟩
theorem zZ (fr to:f_): ∀ {m:Nat} {l:List Rw} {p t:f_},t∈ pP fr to m l p->t∈ cR m l
 | 0,_,_,_,h=>by cases h
 | m+1,l,p,t,h=>by
   unfold pP at h;obtain⟨i,hi,h⟩:=b_.1 h;unfold cR;refine b_.2 ⟨i,hi,?_⟩;by_cases e:aG l i=[]
   ·rw[r_ e] at h;cases h
   ·rw[s_ e] at h ⊢;cases hm:bW fr to (eV (bF (m+1) l) p i)with
    | false=>rw[hm] at h;cases h
    | true =>
      rw[hm,cond_true] at h;rcases a_.1 h with h | h
      ·exact an _ h
      ·exact b9 _ (zZ fr to h)
structure It where
 D:Nat->Bool
 dm:Nat->f_
 fb:Nat->Nat
 nb:Nat->Nat
 cb:Nat->Nat
 us:Nat->Int
 hd:Nat->Int
 D2:Nat->Bool
 n2:Nat->Nat
 rf:Nat->Nat->f_
def It.items (A:It)(kR:Nat):SB:=.eD A.D [.str A.dm,.b7 kR 1 C A.fb A.nb A.cb,.int .i64 A.us,.int .i64 A.hd] 4 133 F
def It.lists (A:It):SB:=.dQ A.D2 A.n2 [.str A.rf] F
def gM (t:f_):Nat:=aV (getD t).r 16
def fk (t:f_)(j:Nat):f_:=c8 (getD t).r 16 j
structure j8 (f:Nat->f_)(i:Nat)(A:It)(g:f_->Nat):Prop where
 dom: ∀ h,aP f i h=C->A.D (g h)=C
 dm: ∀ h,aP f i h=C->A.dm (g h)=f (cI f i h).toNat
 nb: ∀ h,aP f i h=C->A.nb (g h)=gM (A.dm (g h))
 row: ∀ h,aP f i h=C->0<A.nb (g h)->A.D2 (A.fb (g h))=C/\A.nb (g h)<=A.n2 (A.fb (g h))/\∀ j,j<A.nb (g h)->A.rf (A.fb (g h)) j=fk (A.dm (g h)) j
 us: ∀ a,A.D a=C->A.us a=0/\A.hd a=0
def rq (n:Nat)(f:Nat->f_):Bool:=(M n).all λi=>bG (f i)
noncomputable def NN:List (FuncId×PT):=(128,bY (tU λx=>I (Fits x,Bi x)))::gy
theorem FL:bp R (λf=>aD f NN):=.cons Ss (bO _) dj
structure RdG where
 n:Nat
 f:Nat->f_
 c:Nat
structure Pv where
 A:It
 g:f_->Nat
def adj (n:Nat)(f:Nat->f_)(y:Pv)(k:Nat):Mem:=[(k,.fmap (aP f n) (.ref (k+1) y.g) H),(k+1,y.A.items (k+2)),(k+2,y.A.lists)]
def Gi:gP :=
 {G:=RdG,n:=1,N:=4,pre:=λx=>x.n<=1000/\∀ i,i<x.n->(x.f i).length<=1000,args:=λx=>[.aX 0 1 C 0 x.n x.c],mem:=λx=>[(0,.rows C x.n [.str x.f] C (x.c*1) 9)],
  wo:=λx=>.fork (decide (0<x.n)&&rq x.n x.f) λb=>match b with
   | true=>.all Pv λy=>.req (j8 x.f x.n y.A y.g) (.ret (.aN [.map 1,.int .i64 C 0]) (adj x.n x.f y 1))
   | false=>.ret (.aN [.fU,.int .i64 C 2]) []}
def afO (st:Sx.St)(i:Nat):Nat:=match slot st.tmps i with
 | some (.map k)=>k
 | _=>0
noncomputable def ZK (n:Nat)(f:Nat->f_):aY :=
 {α:=Nat×Pv,pre:=λ_ y=>dr n (λi=>bG (f i)) y.1/\j8 f y.1 y.2.A y.2.g,kH:=λ_ y=>n-y.1,fresh:=2,slots:=λ_ y=>[(16,.int .i64 F y.1)],
  mem:=λst y=>[(afO st 4,.fmap (aP f y.1) (.ref st.nx y.2.g) H),(st.nx,y.2.A.items (st.nx+1)),(st.nx+1,y.2.A.lists)]}
noncomputable def Vc (x:RdG):fD:={cv with cT:=λf=>aD f NN,aW:=λh=>if h=80 then [(5,always (ZK x.n x.f))] else []}
theorem adT (x:RdG):Sx.Good R (Vc x):=.of bR FL bq
theorem abz (x:RdG):dB (.s 0 (.n (.s 0 (.n .k (.n .k .t))) (.n (.s 2 (.n (.s 0 (.n (.s 1 (.m 3 (.n .k .t))) (.s 0 (.n (.s 1 (.m 3 (.n .k .t))) (.s 1 (.m 3 (.n .k .t))))))) .t)) (.n (.s 1 .k) .t)))) (runM (Vc x) 80 bE Gi x) ((λj:(Nat×Pv)->Nd=>((Fk ((x.n:Int)=0) ((decide (0<x.n)&&rq x.n x.f)=C->∃(u:Pv),j8 x.f x.n u.A u.g/\False) ((∃(h:Nat×Pv),(dr x.n (fun(X:Nat)=>bG (x.f X)) h.1/\j8 x.f h.1 h.2.A h.2.g)/\0=(h.1:Int)/\aa (SB.map [] 0) (SB.fmap (aP x.f h.1) (aE.ref 2 h.2.g) H)/\(∀(Y:Nat),¬SB.gB 0 (h.2.A.items 3) Y)/\∀(Z:Nat),¬SB.gB 0 h.2.A.lists Z)/\∀(a:Nat×Pv),dr x.n (fun(a0:Nat)=>bG (x.f a0)) a.1/\j8 x.f a.1 a.2.A a.2.g->Fk ((a.1:Int)<(x.n:Int)) ((0<=(a.1:Int)/\(a.1:Int)<(x.n:Int))/\0+(a.1:Int).toNat<x.n/\((x.f (0+(a.1:Int).toNat)).length<=9223372036854775808/\(x.f (0+(a.1:Int).toNat)).length<1099511627776)/\Bk (bG (x.f (0+(a.1:Int).toNat))) ((True/\Xu [x.f (0+(a.1:Int).toNat)])/\Bk (aP x.f a.1 (aK (flat [x.f (0+(a.1:Int).toNat)]))) (I6 ((a.1:Int)+1)/\∃(c:Nat×Pv),((dr x.n (fun(a1:Nat)=>bG (x.f a1)) c.1/\j8 x.f c.1 c.2.A c.2.g)/\x.n-c.1<x.n-a.1)/\(a.1:Int)+1=(c.1:Int)/\aa (SB.fmap (aP x.f a.1) (aE.ref 2 a.2.g) H) (SB.fmap (aP x.f c.1) (aE.ref 2 c.2.g) H)/\aa (SB.eD a.2.A.D [av.str a.2.A.dm,av.b7 3 1 C a.2.A.fb a.2.A.nb a.2.A.cb,av.int J a.2.A.us,av.int J a.2.A.hd] 4 133 F) (c.2.A.items 3)/\aa (SB.dQ a.2.A.D2 a.2.A.n2 [cg.str a.2.A.rf] F) c.2.A.lists) (Fits (j a).again/\Bk (aZ (j a).again) (∀(v:Nat),aV (j a).again.r 16<=v->∀(o:Nat),(∀(w:Nat),a.2.A.D2 w=C->(w.beq o&& !(C&&(aV (j a).again.r 16).beq 0))=F)->∀(p:Nat),(∀(y:Nat),a.2.A.D y=C->y.beq p=F)->I6 ((a.1:Int)+1)/\∃(d:Nat×Pv),((dr x.n (fun(a2:Nat)=>bG (x.f a2)) d.1/\j8 x.f d.1 d.2.A d.2.g)/\x.n-d.1<x.n-a.1)/\(a.1:Int)+1=(d.1:Int)/\aa (SB.fmap (dZ (aP x.f a.1) (aK (flat [x.f (0+(a.1:Int).toNat)]))) (aE.ref (bif(id (bif(id 2).beq 6 then(3:Nat)else id 2)).beq 7 then(2:Nat)else id (bif(id 2).beq 6 then(3:Nat)else id 2)) (xO a.2.g (aK (flat [x.f (0+(a.1:Int).toNat)])) p)) H) (SB.fmap (aP x.f d.1) (aE.ref 2 d.2.g) H)/\aa (SB.eD (fun(z:Nat)=>a.2.A.D z||z.beq p) [av.str λB=>bif a.2.A.D B then a.2.A.dm B else x.f (0+(a.1:Int).toNat),av.b7 (bif(id (bif(id 3).beq 6 then(3:Nat)else id 3)).beq 7 then(2:Nat)else id (bif(id 3).beq 6 then(3:Nat)else id 3)) 1 C (fun(E:Nat)=>bif a.2.A.D E then a.2.A.fb E else o) (fun(G:Nat)=>bif a.2.A.D G then a.2.A.nb G else aV (j a).again.r 16) fun(I:Nat)=>bif a.2.A.D I then a.2.A.cb I else v,av.int J fun(K:Nat)=>bif a.2.A.D K then a.2.A.us K else(0:Int),av.int J fun(L:Nat)=>bif a.2.A.D L then a.2.A.hd L else(0:Int)] 4 133 F) (d.2.A.items 3)/\aa (SB.dQ (fun(M:Nat)=>a.2.A.D2 M||M.beq o&& !(C&&(aV (j a).again.r 16).beq 0)) (fun(N:Nat)=>bif a.2.A.D2 N then a.2.A.n2 N else aV (j a).again.r 16) [cg.str fun(b i:Nat)=>bif a.2.A.D2 b then a.2.A.rf b i else c8 (j a).again.r 16 i] F) d.2.A.lists) (∀(q:Nat),(∀(O:Nat),a.2.A.D O=C->O.beq q=F)->I6 ((a.1:Int)+1)/\∃(e:Nat×Pv),((dr x.n (fun(u9:Nat)=>bG (x.f u9)) e.1/\j8 x.f e.1 e.2.A e.2.g)/\x.n-e.1<x.n-a.1)/\(a.1:Int)+1=(e.1:Int)/\aa (SB.fmap (dZ (aP x.f a.1) (aK (flat [x.f (0+(a.1:Int).toNat)]))) (aE.ref (bif(id 2).beq 6 then(2:Nat)else id 2) (xO a.2.g (aK (flat [x.f (0+(a.1:Int).toNat)])) q)) H) (SB.fmap (aP x.f e.1) (aE.ref 2 e.2.g) H)/\aa (SB.eD (fun(P:Nat)=>a.2.A.D P||P.beq q) [av.str λQ=>bif a.2.A.D Q then a.2.A.dm Q else x.f (0+(a.1:Int).toNat),av.b7 (bif(id 3).beq 6 then(2:Nat)else id 3) 1 C (fun(R:Nat)=>bif a.2.A.D R then a.2.A.fb R else(0:Nat)) (fun(S:Nat)=>bif a.2.A.D S then a.2.A.nb S else(0:Nat)) fun(T:Nat)=>bif a.2.A.D T then a.2.A.cb T else(0:Nat),av.int J fun(U:Nat)=>bif a.2.A.D U then a.2.A.us U else(0:Int),av.int J fun(V:Nat)=>bif a.2.A.D V then a.2.A.hd V else(0:Int)] 4 133 F) (e.2.A.items 3)/\aa (SB.dQ a.2.A.D2 a.2.A.n2 [cg.str a.2.A.rf] F) e.2.A.lists))) ((decide (0<x.n)&&rq x.n x.f)=C->∃(W:Pv),j8 x.f x.n W.A W.g/\False)) (Bk (decide (0<x.n)&&rq x.n x.f) (∃(l:Pv),j8 x.f x.n l.A l.g/\aa (SB.fmap (aP x.f a.1) (aE.ref 2 a.2.g) H) (SB.fmap (aP x.f x.n) (aE.ref 2 l.g) H)/\aa (SB.eD a.2.A.D [av.str a.2.A.dm,av.b7 3 1 C a.2.A.fb a.2.A.nb a.2.A.cb,av.int J a.2.A.us,av.int J a.2.A.hd] 4 133 F) (l.A.items 3)/\aa (SB.dQ a.2.A.D2 a.2.A.n2 [cg.str a.2.A.rf] F) l.A.lists) False))))) (fun(a:Nat×Pv)=>(getD (x.f (0+(a.1:Int).toNat))))):=⟨by kernel_rfl,by kernel_rfl⟩
theorem vA {r r':Nat->f_}: ∀ k,(∀ j,j<k->r j=r' j)->aV r k=aV r' k/\∀ j,c8 r k j=c8 r' k j
 | 0,_=>⟨rfl,λ_=>rfl⟩
 | k+1,h=>by
   obtain⟨h1,h2⟩:=vA k λj hj=>h j (by omega);have e:=h k (Nat.lt_succ_self k);refine⟨by simp only[aV,e,h1],λj=> ?_⟩;simp only[c8,e,h1];cases bw (r' k)with
   | false=>simp only[cond_false];exact h2 j
   | true=>simp only[cond_true];rw[h2 j]
theorem Px (x:Nd)(j:Nat)(hj:j<16):x.again.r j=x.r j:=by
 match j,hj with
 | 0,_=>exact rfl
 | 1,_=>exact rfl
 | 2,_=>exact rfl
 | 3,_=>exact rfl
 | 4,_=>exact rfl
 | 5,_=>exact rfl
 | 6,_=>exact rfl
 | 7,_=>exact rfl
 | 8,_=>exact rfl
 | 9,_=>exact rfl
 | 10,_=>exact rfl
 | 11,_=>exact rfl
 | 12,_=>exact rfl
 | 13,_=>exact rfl
 | 14,_=>exact rfl
 | 15,_=>exact rfl
 | j+16,h=>exact absurd h (by omega)
theorem M9 {D D':Nat->Bool}{cs cs':List av}{tot:Nat}{ty:TypeId}{ro:Bool}(hD:D=D')(hl:cs'.length<=cs.length)(h: ∀ b,D b=C->∀(k:Nat) (c c':av),cs[k]?=I c->cs'[k]?=I c'->∀ E,(c'.at b).val E=(c.at b).val E):aa (.eD D cs tot ty F) (.eD D' cs' tot ty ro):=by
 subst hD;refine⟨rfl,λb a ha=>⟨ha,λE o ⟨c,fr,h1,h2,h3,h4⟩=>⟨c,fr,h1,h2,λi u hu=> ?_,h4⟩,λ_=>rfl⟩⟩;rw[d!] at hu;cases hc:cs'[i]? with
 | none=>rw[hc] at hu;cases hu
 | some c1 =>rw[hc] at hu;cases hu;have hi:=(d_.1 hc).1;have h0:cs[i]?=I (cs[i]'(by omega)):=c! (by omega);rw[h a ha i _ c1 h0 hc E];exact h3 i _ (by rw[d!,h0];rfl)
def It.add (A:It)(b a:Nat)(t:f_)(n c:Nat)(r:Nat->f_):It :=
 ⟨λx=>A.D x||x.beq b,λx=>bif A.D x then A.dm x else t,λx=>bif A.D x then A.fb x else a,λx=>bif A.D x then A.nb x else n,λx=>bif A.D x then A.cb x else c,λx=>bif A.D x then A.us x else 0,λx=>bif A.D x then A.hd x else 0,
  λx=>A.D2 x||(x.beq a&& !(C&&n.beq 0)),λx=>bif A.D2 x then A.n2 x else n,λx i=>bif A.D2 x then A.rf x i else r i⟩
theorem It.tg {A:It}{r:Nat->f_}{x:Nat}(h:A.D x=C):(A.add b a t n c r).D x=C/\(A.add b a t n c r).dm x=A.dm x/\(A.add b a t n c r).fb x=A.fb x/\(A.add b a t n c r).nb x=A.nb x/\(A.add b a t n c r).us x=A.us x/\(A.add b a t n c r).hd x=A.hd x:=by simp only[It.add,h,Bool.true_or,cond_true,and_self]
theorem It.wz {A:It}{r:Nat->f_}(h:A.D b=F):(A.add b a t n c r).D b=C/\(A.add b a t n c r).dm b=t/\(A.add b a t n c r).fb b=a/\(A.add b a t n c r).nb b=n/\(A.add b a t n c r).us b=0/\(A.add b a t n c r).hd b=0:=by simp[It.add,h]
theorem It.ZC {A:It}{r:Nat->f_}{x:Nat}(h:A.D2 x=C):(A.add b a t n c r).D2 x=C/\(A.add b a t n c r).n2 x=A.n2 x/\∀ i,(A.add b a t n c r).rf x i=A.rf x i:=by simp[It.add,h]
theorem It.Us {A:It}{r:Nat->f_}(hn:0<n)(h:A.D2 a=F):(A.add b a t n c r).D2 a=C/\(A.add b a t n c r).n2 a=n/\∀ i,(A.add b a t n c r).rf a i=r i:=by
 have:n.beq 0=false:=by cases n with
  | zero=>omega
  | succ n=>rfl
 simp[It.add,h,this]
theorem aai {A:It}{g:f_->Nat}(h:j8 f i A g)(hd:aP f i (aK (f i))=C):j8 f (i+1) A g:=by
 obtain⟨e1,e2⟩:=tC hd;have e: ∀ t,aP f (i+1) t=C->aP f i t=true:=λt ht=>by rw[e1 t];exact ht
 exact⟨λt ht=>h.dom t (e t ht),λt ht=>by rw[← e2 t];exact h.dm t (e t ht),λt ht=>h.nb t (e t ht),λt ht=>h.row t (e t ht),h.us⟩
theorem aah {A:It}{g:f_->Nat}(h:j8 f i A g)(hd:aP f i (aK (f i))=F){a1:Nat}(hD: ∀ b,A.D b=C->b.beq a1=F)(hD2: ∀ b,A.D2 b=C->(b.beq a&& !(C&&(gM (f i)).beq 0))=F) :
  j8 f (i+1) (A.add a1 a (f i) (gM (f i)) c (fk (f i))) (xO g (aK (f i)) a1):=by
 have hn1:A.D a1=false:=by
  cases e:A.D a1 with
  | false=>rfl
  | true=>have:=hD a1 e;rw[az] at this;cases this
 have cases': ∀ t,aP f (i+1) t=C->(aP f i t=C/\t≠aK (f i))∨t=aK (f i):=λt ht=>by
  by_cases e:t=aK (f i)
  ·exact .inr e
  ·left;have:(aP f i t||decide (t=aK (f i)))=true:=ht;rw[o_ e,Bool.or_false] at this;exact⟨this,e⟩
 have g0: ∀ t,t≠aK (f i)->xO g (aK (f i)) a1 t=g t:=λt e=>by unfold xO;rw[o_ e];rfl
 have g1:xO g (aK (f i)) a1 (aK (f i))=a1:=by unfold xO;simp
 have f0: ∀ t,aP f i t=C->cI f (i+1) t=cI f i t:=λt e=>by rw[nK,e];rfl
 have f1:cI f (i+1) (aK (f i))=i:=by rw[nK,hd];simp
 refine⟨λt ht=> ?_,λt ht=> ?_,λt ht=> ?_,λt ht hp=> ?_,λb hb=> ?_⟩
 ·rcases cases' t ht with ⟨e,e2⟩ | rfl
  ·rw[g0 t e2];exact(It.tg (h.dom t e)).1
  ·rw[g1];exact(It.wz hn1).1
 ·rcases cases' t ht with ⟨e,e2⟩ | rfl
  ·rw[g0 t e2,(It.tg (h.dom t e)).2.1,f0 t e];exact h.dm t e
  ·rw[g1,(It.wz hn1).2.1,f1];rfl
 ·rcases cases' t ht with ⟨e,e2⟩ | rfl
  ·rw[g0 t e2,(It.tg (h.dom t e)).2.1,(It.tg (h.dom t e)).2.2.2.1];exact h.nb t e
  ·rw[g1,(It.wz hn1).2.1,(It.wz hn1).2.2.2.1]
 ·rcases cases' t ht with ⟨e,e2⟩ | rfl
  ·have o:=It.tg (b:=a1) (a:=a) (t:=f i) (n:=gM (f i)) (c:=c) (r:=fk (f i)) (h.dom t e);rw[g0 t e2] at hp ⊢;rw[o.2.1,o.2.2.1,o.2.2.2.1];rw[o.2.2.2.1] at hp;obtain⟨q1,q2,q3⟩:=h.row t e hp;have o2:=It.ZC (b:=a1) (a:=a) (t:=f i) (n:=gM (f i)) (c:=c) (r:=fk (f i)) q1;exact⟨o2.1,by rw[o2.2.1];exact q2,λj hj=>by rw[o2.2.2];exact q3 j hj⟩
  ·have o:=It.wz (a:=a) (t:=f i) (n:=gM (f i)) (c:=c) (r:=fk (f i)) hn1;rw[g1] at hp ⊢;rw[o.2.1,o.2.2.1,o.2.2.2.1];rw[o.2.2.2.1] at hp;have ha:A.D2 a=false:=by
    cases e:A.D2 a with
    | false=>rfl
    | true =>
      have:=hD2 a e;have hb:(gM (f i)).beq 0=false:=by
       cases e:gM (f i)with
       | zero=>omega
       | succ n=>rfl
      rw[az,hb] at this;cases this
   have o2:=It.Us (A:=A) (b:=a1) (t:=f i) (c:=c) (r:=fk (f i)) hp ha;exact⟨o2.1,by rw[o2.2.1];exact O _,λj _=>o2.2.2 j⟩
 ·by_cases e:A.D b=C
  ·have o:=It.tg (b:=a1) (a:=a) (t:=f i) (n:=gM (f i)) (c:=c) (r:=fk (f i)) e;rw[o.2.2.2.2.1,o.2.2.2.2.2];exact h.us b e
  ·have e:A.D b=false:=by simpa using e
   simp[It.add,e]
def It.none:It:=⟨λ_=>F,λ_=>[],λ_=>0,λ_=>0,λ_=>0,λ_=>0,λ_=>0,λ_=>F,λ_=>0,λ_ _=>[]⟩
theorem V2 (f:Nat->f_)(g:f_->Nat):j8 f 0 It.none g:=⟨(λ_ h=>by cases h),(λ_ h=>by cases h),(λ_ h=>by cases h),(λ_ h=>by cases h),λ_ h=>by cases h⟩
theorem Mn {x:Nd}(h:aZ x=C):Fits x:=λj hj=>by have:=(gE h).ref j hj;omega
theorem Nb {x:Nd}(h:Fits x):Fits x.again:=λj hj=>by rw[Px x j hj];exact h j hj
theorem L4 (x:RdG)(hx:Gi.pre x):ay (runM (Vc x) 80 bE Gi x):=by
 refine ay.A5 (abz x) (by delta Bk Fk;exact rfl) ?_;obtain⟨hn,hf⟩:=hx;simp only[Int.toNat_natCast,Y,true_and,p_,q_];refine⟨λh0 h=> ?_,λh0=>⟨⟨(0,⟨It.none,λ_=>0⟩),⟨dr.zero _ _,V2 _ _⟩,rfl,aa.Fl λ_=>rfl,λa h=>absurd (show F=C from h) (by decide),λa h=>absurd (show F=C from h) (by decide)⟩,λy hy=>⟨λhlt=> ?_,λhge=> ?_⟩⟩⟩
 ·have: ¬ 0<x.n:=by omega
  rw[o_ this] at h;cases h
 ·obtain⟨i,A,g⟩:=y;obtain⟨hi,hg⟩:=hy;have hlt:(i:Int)<(x.n:Int):=hlt;have hlt':i<x.n:=by omega
  have hlen:(x.f i).length<=1000:=hf i hlt';have ef:flat [x.f i]=x.f i:=by unfold flat;simp
  refine⟨⟨by show(0:Int)<=(i:Int);omega,hlt⟩,hlt',⟨by show(x.f i).length<=_;omega,by show(x.f i).length<_;omega⟩,λhG=>⟨⟨by rw[ef];show(x.f i).length<_;omega,by show 1<_;decide⟩,?_⟩,λhG h=> ?_⟩
  ·have hG:bG (x.f i)=true:=hG;have hv:=mw hG;have hN: ∀ j,j<16->(getD (x.f i)).again.r j=(getD (x.f i)).r j:=Px _;have eN:aV (getD (x.f i)).again.r 16=gM (x.f i):=(vA 16 hN).1;have eA: ∀ j,c8 (getD (x.f i)).again.r 16 j=fk (x.f i) j:=(vA 16 hN).2;have hv2:aZ (getD (x.f i)).again=true:=(uu (qL (getD (x.f i)))).trans hv;have next:dr x.n (λi=>bG (x.f i)) (i+1):=hi.next hlt hG
   show(aP x.f i (aK (flat [x.f i]))=C->_)/\(aP x.f i (aK (flat [x.f i]))=F->_)
   rw[ef];refine⟨λhd=>⟨⟨by show _<=(i:Int)+1;omega,by show(i:Int)+1<=_;omega⟩,(i+1,⟨A,g⟩),⟨⟨next,aai hg hd⟩,by show x.n-(i+1)<x.n-i;omega⟩,by show(i:Int)+1=((i+1:Nat):Int);omega,aa.fmap (tC hd).1 λt=>rfl,aa.refl _,aa.refl _⟩,λhd=>⟨Nb (Mn hv),λ_ c hc a hD2 a1 hD=>⟨⟨by show _<=(i:Int)+1;omega,by show(i:Int)+1<=_;omega⟩,(i+1,⟨A.add a1 a (x.f i) (gM (x.f i)) c (fk (x.f i)),xO g (aK (x.f i)) a1⟩),⟨⟨next,aah hg hd hD (by rw[← eN];exact hD2)⟩,by show x.n-(i+1)<x.n-i;omega⟩,by show(i:Int)+1=((i+1:Nat):Int);omega,aa.fmap (λt=>rfl) (λt=>rfl),?_,?_⟩,λhv'=> ?_⟩⟩
   ·refine M9 rfl (O _) λb hb k c1 c2 h1 h2 E=> ?_
    match k,h1,h2 with
    | 0,h1,h2 =>injection h1 with h1;injection h2 with h2;subst h1;subst h2;rfl
    | 1,h1,h2 =>
      injection h1 with h1;injection h2 with h2;subst h1;subst h2;show SV.val E (av.at b (.b7 _ 1 C _ _ _))=SV.val E (av.at b (.b7 _ 1 C _ (λu=>bif A.D u then A.nb u else aV (getD (x.f i)).again.r 16) _))
      rw[eN];rfl
    | 2,h1,h2 =>injection h1 with h1;injection h2 with h2;subst h1;subst h2;rfl
    | 3,h1,h2 =>injection h1 with h1;injection h2 with h2;subst h1;subst h2;rfl
    | k+4,h1,_=>simp at h1
   ·have e1:(fun(b j:Nat)=>bif A.D2 b then A.rf b j else c8 (getD (x.f i)).again.r 16 j)=(fun(b j:Nat)=>bif A.D2 b then A.rf b j else fk (x.f i) j):=by funext b j;rw[eA j]
    show aa (.dQ (λb=>A.D2 b||b.beq a&& !(C&&(aV (getD (x.f i)).again.r 16).beq 0)) (λb=>bif A.D2 b then A.n2 b else aV (getD (x.f i)).again.r 16) [.str λb j=>bif A.D2 b then A.rf b j else c8 (getD (x.f i)).again.r 16 j] F) _
    rw[e1,eN];exact aa.refl _
   ·rw[hv2] at hv';cases hv'
  ·have hG:bG (x.f i)=false:=hG;have:rq x.n x.f=false:=List.all_eq_false.2 ⟨i,ep.2 hlt',by rw[hG];decide⟩;rw[this,Bool.and_false] at h;cases h
 ·obtain⟨i,A,g⟩:=y;obtain⟨hi,hg⟩:=hy;have hge: ¬ (i:Int)<(x.n:Int):=hge;have e:i=x.n:=by have:=hi.le;omega
  subst e;have hr:rq x.n x.f=true:=hi.done hge;have h0':0<x.n:=by omega
  exact⟨λ_=>⟨⟨A,g⟩,hg,aa.refl _,aa.refl _,aa.refl _⟩,λh=>by rw[hr,n_ h0'] at h;cases h⟩
theorem Yl:ax R 80 (cM Gi) :=fT (n:=20) Tryz.func80 (by kernel_rfl) (by kernel_rfl) Gi λx hx=>⟨_,adT x,rfl,L4 x hx⟩
def cY (l:List f_)(s:f_):Bool:=decide (s∈ l)
def rC (n:Nat)(f:Nat->f_)(h:f_):f_:=f (cI f n h).toNat
def Clo (n:Nat)(f:Nat->f_):Prop:=∀ h,aP f n h=C->∀ j,j<gM (rC n f h)->aP f n (fk (rC n f h) j)=C
structure lR (n:Nat)(f:Nat->f_)(root:f_)(Fr:List f_)(k:Nat):Prop where
 root:root∈ Fr
 nod:Fr.Nodup
 dom: ∀ h,h∈ Fr->aP f n h=C
 clo: ∀ q,q<k->q<Fr.length->∀ j,j<gM (rC n f (Fr.getD q []))->fk (rC n f (Fr.getD q [])) j∈ Fr
structure jr (Fr:List f_)(met:f_->Int)(b:Nat):Prop where
 pos: ∀ h,h∈ Fr->1<=met h/\met h<=b
structure Zu where
 n:Nat
 f:Nat->f_
 A:It
 g:f_->Nat
 room:Int
 root:f_
def It.ad2 (A:It)(kR:Nat):SB:=.eD A.D [.str A.dm,.b7 kR 1 C A.fb A.nb A.cb,.int .i64 A.us,.int .i64 A.hd] 4 133 C
def It.aec (A:It):SB:=.dQ A.D2 A.n2 [.str A.rf] C
def fA (room:Int)(k:Nat):SB:=.cells [.int .i64 F room,.map k] 2 126
def jJ (Fr:List f_)(c:Nat):SB:=.rows C Fr.length [.str λq=>Fr.getD q []] F (c*1) 9
def pE:gP :=
 {G:=Zu,n:=5,N:=6,pre:=λx=>x.n<=1000/\j8 x.f x.n x.A x.g/\aP x.f x.n x.root=C/\Clo x.n x.f,args:=λx=>[.ptr 0 C 0,.str F x.root,.map 2],
  mem:=λx=>[(0,fA x.room 1),(1,.map [] 0),(2,.fmap (aP x.f x.n) (.ref 3 x.g) H),(3,x.A.ad2 4),(4,x.A.aec)],
  wo:=λx=>.all (List f_×Nat) λy=>.req (lR x.n x.f x.root y.1 y.1.length/\y.1.length<=y.2) (.ret (.aN [.aX 5 1 C 0 y.1.length y.2,.int .i64 C 0]) [(0,fA x.room 1),(1,.map [] 0),(2,.fmap (aP x.f x.n) (.ref 3 x.g) H),(5,jJ y.1 y.2)])}
structure MB where
 i:Nat
 Fr:List f_
 c:Nat
 met:f_->Int
def UE (st:Sx.St)(y:MB):Mem:=[(rm st 8,.cells [.aX st.nx 1 C 0 y.Fr.length y.c] 1 29),(st.nx,jJ y.Fr y.c),(ace st 9,.fmap (cY y.Fr) (.int .i64 y.met) H)]
def MK (st:Sx.St):List Nat:=match st.m.get (rm st 8)with
 | some (.cells [.aX k _ _ _ _ _] _ _)=>[k]
 | some (.cells [.slc k _ _ _ _] _ _)=>[k]
 | _=>[]
noncomputable def afk (x:Zu):aY :=
 {α:=MB,pre:=λ_ y=>y.i<=y.Fr.length/\y.Fr.length<=y.c/\lR x.n x.f x.root y.Fr y.i/\jr y.Fr y.met (1+16*y.i),kH:=λ_ y=>x.n-y.i,fresh:=1,slots:=λ_ y=>[(12,.int .i64 F y.i),(11,.bool C C)],
  mem:=UE,drop:=MK}
noncomputable def acS (x:Zu)(i:Int)(h:f_):aY :=
 {α:=Nat×MB,pre:=λ_ y=>y.1<=gM (rC x.n x.f h)/\(i=(y.2.i:Int)/\h=y.2.Fr.getD y.2.i []/\y.2.i<y.2.Fr.length)/\y.2.Fr.length<=y.2.c/\lR x.n x.f x.root y.2.Fr y.2.i/\jr y.2.Fr y.2.met (1+16*y.2.i+y.1)/\(∀ j,j<y.1->fk (rC x.n x.f h) j∈ y.2.Fr),
  kH:=λ_ y=>gM (rC x.n x.f h)-y.1,fresh:=1,slots:=λ_ y=>[(36,.int .i64 F y.1),(11,.bool C C)],mem:=λst y=>UE st y.2,drop:=MK}
noncomputable def acR (x:Zu):aY :={α:=MB,pre:=λ_ y=>y.i=0/\y.Fr.length<=y.c/\lR x.n x.f x.root y.Fr 0/\jr y.Fr y.met 1,kH:=λ_ _=>0,fresh:=1,slots:=λ_ _=>[(11,.bool C C)],mem:=UE,drop:=MK}
noncomputable def acZ (x:Zu):ny:=[(1004,always (acR x)),(6,always (afk x)),(9,λst=>match slot st.tmps 12,slot st.tmps 30 with
 | some (.int _ _ i),I (.str _ h)=>I (one (acS x i h))
 | _,_=>H)]
noncomputable def U8 (x:Zu):fD:={cv with cT:=λf=>aD f NN,aW:=λh=>if h=81 then acZ x else []}
theorem adN (x:Zu):Sx.Good R (U8 x):=.of bR FL bq
theorem T2 (x:Zu):dB (.n (.n (.n (.s 0 (.n .k (.s 0 (.n (.s 0 .k) (.s 0 (.n .k (.n .k .t))))))) (.s 0 (.n .k (.s 0 (.n (.s 0 .k) (.s 0 (.n .k (.n .k .t)))))))) (.n (.s 0 (.n .k (.s 0 (.n (.s 0 .k) (.s 0 (.n .k (.n .k .t))))))) (.s 0 (.n .k (.s 0 (.n (.s 0 .k) (.s 0 (.n .k (.n .k .t))))))))) (.n (.s 0 (.n .k (.s 1 (.n (.s 0 .k) (.s 0 (.n .k (.n .k .t))))))) (.n (.s 1 (.n (.s 0 (.n (.s 0 (.n .k (.s 1 (.n (.s 0 .k) (.s 0 (.n .k (.n .k .t))))))) (.n (.s 2 (.n (.s 1 (.n .k (.s 1 (.n (.s 0 .k) (.s 0 (.n .k (.n .k .t))))))) (.s 1 (.n (.s 1 (.m 2 (.s 0 (.n (.s 0 .k) (.s 0 (.n .k (.n .k .t))))))) .t)))) (.s 1 (.n .k (.s 1 (.n (.s 0 .k) (.s 0 (.n .k (.n .k .t)))))))))) .t)) (.s 0 (.n (.s 0 .k) (.s 4 .k)))))) (runM (U8 x) 81 b5 pE x) (((Fk (x.root=x.root) (∀(w:Nat),1<=w->Bk (aP x.f x.n x.root) (∃(o:MB),(o.i=0/\o.Fr.length<=o.c/\lR x.n x.f x.root o.Fr 0/\jr o.Fr o.met 1)/\(!false)=C/\(1=o.Fr.length/\w=o.c)/\0<o.Fr.length/\aa (SB.cells [SV.str F x.root] (w*1) 9) (jJ o.Fr o.c)/\aa (SB.map [((0:Nat),SV.str F x.root,SV.int .i64 C 1)] 1) (SB.fmap (cY o.Fr) (aE.int J o.met) H)) (∃(p:MB),(p.i=0/\p.Fr.length<=p.c/\lR x.n x.f x.root p.Fr 0/\jr p.Fr p.met 1)/\(!true)=C/\(1=p.Fr.length/\w=p.c)/\0<p.Fr.length/\aa (SB.cells [SV.str F x.root] (w*1) 9) (jJ p.Fr p.c)/\aa (SB.map [((0:Nat),SV.str F x.root,SV.int .i64 C 1)] 1) (SB.fmap (cY p.Fr) (aE.int J p.met) H))) (∀(y:Nat),1<=y->Bk (aP x.f x.n x.root) (∃(q:MB),(q.i=0/\q.Fr.length<=q.c/\lR x.n x.f x.root q.Fr 0/\jr q.Fr q.met 1)/\(!false)=C/\(1=q.Fr.length/\y=q.c)/\0<q.Fr.length/\aa (SB.cells [SV.str F x.root] (y*1) 9) (jJ q.Fr q.c)/\aa (SB.map [((0:Nat),SV.str F x.root,SV.int .i64 C 1)] 1) (SB.fmap (cY q.Fr) (aE.int J q.met) H)) (∃(r:MB),(r.i=0/\r.Fr.length<=r.c/\lR x.n x.f x.root r.Fr 0/\jr r.Fr r.met 1)/\(!true)=C/\(1=r.Fr.length/\y=r.c)/\0<r.Fr.length/\aa (SB.cells [SV.str F x.root] (y*1) 9) (jJ r.Fr r.c)/\aa (SB.map [((0:Nat),SV.str F x.root,SV.int .i64 C 1)] 1) (SB.fmap (cY r.Fr) (aE.int J r.met) H))))/\∀(u:MB),u.i=0/\u.Fr.length<=u.c/\lR x.n x.f x.root u.Fr 0/\jr u.Fr u.met 1->(∃(l:MB),(l.i<=l.Fr.length/\l.Fr.length<=l.c/\lR x.n x.f x.root l.Fr l.i/\jr l.Fr l.met ((1:Nat)+16*l.i))/\0=(l.i:Int)/\(u.Fr.length=l.Fr.length/\u.c=l.c)/\aa (SB.rows C u.Fr.length [av.str λM=>u.Fr.getD M []] F (u.c*1) 9) (jJ l.Fr l.c)/\aa (SB.fmap (cY u.Fr) (aE.int J u.met) H) (SB.fmap (cY l.Fr) (aE.int J l.met) H))/\∀(a:MB),a.i<=a.Fr.length/\a.Fr.length<=a.c/\lR x.n x.f x.root a.Fr a.i/\jr a.Fr a.met ((1:Nat)+16*a.i)->Fk ((a.i:Int)<(a.Fr.length:Int)) ((0<=(a.i:Int)/\(a.i:Int)<(a.Fr.length:Int))/\0+(a.i:Int).toNat<a.Fr.length/\Bk (aP x.f x.n (a.Fr.getD (0+(a.i:Int).toNat) [])) (x.A.D (x.g (a.Fr.getD (0+(a.i:Int).toNat) []))=C/\(∃(h:Nat×MB),(h.1<=gM (rC x.n x.f (a.Fr.getD (0+(a.i:Int).toNat) []))/\((a.i:Int)=(h.2.i:Int)/\a.Fr.getD (0+(a.i:Int).toNat) []=h.2.Fr.getD h.2.i []/\h.2.i<h.2.Fr.length)/\h.2.Fr.length<=h.2.c/\lR x.n x.f x.root h.2.Fr h.2.i/\jr h.2.Fr h.2.met ((1:Nat)+16*h.2.i+h.1)/\∀(G:Nat),G<h.1->fk (rC x.n x.f (a.Fr.getD (0+(a.i:Int).toNat) [])) G∈ h.2.Fr)/\0=(h.1:Int)/\(a.Fr.length=h.2.Fr.length/\a.c=h.2.c)/\aa (SB.rows C a.Fr.length [av.str λN=>a.Fr.getD N []] F (a.c*1) 9) (jJ h.2.Fr h.2.c)/\aa (SB.fmap (cY a.Fr) (aE.int J a.met) H) (SB.fmap (cY h.2.Fr) (aE.int J h.2.met) H))/\∀(b:Nat×MB),(b.1<=gM (rC x.n x.f (a.Fr.getD (0+(a.i:Int).toNat) []))/\((a.i:Int)=(b.2.i:Int)/\a.Fr.getD (0+(a.i:Int).toNat) []=b.2.Fr.getD b.2.i []/\b.2.i<b.2.Fr.length)/\b.2.Fr.length<=b.2.c/\lR x.n x.f x.root b.2.Fr b.2.i/\jr b.2.Fr b.2.met ((1:Nat)+16*b.2.i+b.1)/\∀(I:Nat),I<b.1->fk (rC x.n x.f (a.Fr.getD (0+(a.i:Int).toNat) [])) I∈ b.2.Fr)->Fk ((b.1:Int)<(↑(x.A.nb (x.g (a.Fr.getD (0+(a.i:Int).toNat) []))):Int)) ((0<=(b.1:Int)/\(b.1:Int)<(↑(x.A.nb (x.g (a.Fr.getD (0+(a.i:Int).toNat) []))):Int))/\(x.A.D2 (x.A.fb (x.g (a.Fr.getD (0+(a.i:Int).toNat) [])))=C/\0+(b.1:Int).toNat<x.A.n2 (x.A.fb (x.g (a.Fr.getD (0+(a.i:Int).toNat) []))))/\I6 (dflt (cY b.2.Fr (x.A.rf (x.A.fb (x.g (a.Fr.getD (0+(a.i:Int).toNat) []))) (0+(b.1:Int).toNat))) (b.2.met (x.A.rf (x.A.fb (x.g (a.Fr.getD (0+(a.i:Int).toNat) []))) (0+(b.1:Int).toNat)))+1)/\Fk (1<dflt (dZ (cY b.2.Fr) (x.A.rf (x.A.fb (x.g (a.Fr.getD (0+(a.i:Int).toNat) []))) (0+(b.1:Int).toNat)) (x.A.rf (x.A.fb (x.g (a.Fr.getD (0+(a.i:Int).toNat) []))) (0+(b.1:Int).toNat))) (gA b.2.met (x.A.rf (x.A.fb (x.g (a.Fr.getD (0+(a.i:Int).toNat) []))) (0+(b.1:Int).toNat)) (dflt (cY b.2.Fr (x.A.rf (x.A.fb (x.g (a.Fr.getD (0+(a.i:Int).toNat) []))) (0+(b.1:Int).toNat))) (b.2.met (x.A.rf (x.A.fb (x.g (a.Fr.getD (0+(a.i:Int).toNat) []))) (0+(b.1:Int).toNat)))+1) (x.A.rf (x.A.fb (x.g (a.Fr.getD (0+(a.i:Int).toNat) []))) (0+(b.1:Int).toNat)))) (I6 ((b.1:Int)+1)/\∃(d:Nat×MB),((d.1<=gM (rC x.n x.f (a.Fr.getD (0+(a.i:Int).toNat) []))/\((a.i:Int)=(d.2.i:Int)/\a.Fr.getD (0+(a.i:Int).toNat) []=d.2.Fr.getD d.2.i []/\d.2.i<d.2.Fr.length)/\d.2.Fr.length<=d.2.c/\lR x.n x.f x.root d.2.Fr d.2.i/\jr d.2.Fr d.2.met ((1:Nat)+16*d.2.i+d.1)/\∀(K:Nat),K<d.1->fk (rC x.n x.f (a.Fr.getD (0+(a.i:Int).toNat) [])) K∈ d.2.Fr)/\gM (rC x.n x.f (a.Fr.getD (0+(a.i:Int).toNat) []))-d.1<gM (rC x.n x.f (a.Fr.getD (0+(a.i:Int).toNat) []))-b.1)/\(b.1:Int)+1=(d.1:Int)/\(b.2.Fr.length=d.2.Fr.length/\b.2.c=d.2.c)/\aa (SB.rows C b.2.Fr.length [av.str λO=>b.2.Fr.getD O []] F (b.2.c*1) 9) (jJ d.2.Fr d.2.c)/\aa (SB.fmap (dZ (cY b.2.Fr) (x.A.rf (x.A.fb (x.g (a.Fr.getD (0+(a.i:Int).toNat) []))) (0+(b.1:Int).toNat))) (aE.int J (gA b.2.met (x.A.rf (x.A.fb (x.g (a.Fr.getD (0+(a.i:Int).toNat) []))) (0+(b.1:Int).toNat)) (dflt (cY b.2.Fr (x.A.rf (x.A.fb (x.g (a.Fr.getD (0+(a.i:Int).toNat) []))) (0+(b.1:Int).toNat))) (b.2.met (x.A.rf (x.A.fb (x.g (a.Fr.getD (0+(a.i:Int).toNat) []))) (0+(b.1:Int).toNat)))+1))) H) (SB.fmap (cY d.2.Fr) (aE.int J d.2.met) H)) ((0+b.2.Fr.length<=b.2.Fr.length/\True/\2*(b.2.Fr.length+1)*16<=(281474976710656:Nat)/\b.2.Fr.length+1<(9223372036854775808:Nat))/\∀(B:Nat),b.2.Fr.length+1<=B->Bk (aP x.f x.n (x.A.rf (x.A.fb (x.g (a.Fr.getD (0+(a.i:Int).toNat) []))) (0+(b.1:Int).toNat))) (I6 ((b.1:Int)+1)/\∃(e:Nat×MB),((e.1<=gM (rC x.n x.f (a.Fr.getD (0+(a.i:Int).toNat) []))/\((a.i:Int)=(e.2.i:Int)/\a.Fr.getD (0+(a.i:Int).toNat) []=e.2.Fr.getD e.2.i []/\e.2.i<e.2.Fr.length)/\e.2.Fr.length<=e.2.c/\lR x.n x.f x.root e.2.Fr e.2.i/\jr e.2.Fr e.2.met ((1:Nat)+16*e.2.i+e.1)/\∀(L:Nat),L<e.1->fk (rC x.n x.f (a.Fr.getD (0+(a.i:Int).toNat) [])) L∈ e.2.Fr)/\gM (rC x.n x.f (a.Fr.getD (0+(a.i:Int).toNat) []))-e.1<gM (rC x.n x.f (a.Fr.getD (0+(a.i:Int).toNat) []))-b.1)/\(b.1:Int)+1=(e.1:Int)/\(!false)=C/\(b.2.Fr.length+1=e.2.Fr.length/\B=e.2.c)/\aa (SB.rows C (b.2.Fr.length+1) [av.str λE=>if E<b.2.Fr.length then b.2.Fr.getD E [] else ck [x.A.rf (x.A.fb (x.g (a.Fr.getD (0+(a.i:Int).toNat) []))) (0+(b.1:Int).toNat)] (E-b.2.Fr.length)] F (B*1) 9) (jJ e.2.Fr e.2.c)/\aa (SB.fmap (dZ (cY b.2.Fr) (x.A.rf (x.A.fb (x.g (a.Fr.getD (0+(a.i:Int).toNat) []))) (0+(b.1:Int).toNat))) (aE.int J (gA b.2.met (x.A.rf (x.A.fb (x.g (a.Fr.getD (0+(a.i:Int).toNat) []))) (0+(b.1:Int).toNat)) (dflt (cY b.2.Fr (x.A.rf (x.A.fb (x.g (a.Fr.getD (0+(a.i:Int).toNat) []))) (0+(b.1:Int).toNat))) (b.2.met (x.A.rf (x.A.fb (x.g (a.Fr.getD (0+(a.i:Int).toNat) []))) (0+(b.1:Int).toNat)))+1))) H) (SB.fmap (cY e.2.Fr) (aE.int J e.2.met) H)) (∃(z:List f_×Nat),(lR x.n x.f x.root z.1 z.1.length/\z.1.length<=z.2)/\False))) (I6 ((a.i:Int)+1)/\∃(j:MB),((j.i<=j.Fr.length/\j.Fr.length<=j.c/\lR x.n x.f x.root j.Fr j.i/\jr j.Fr j.met ((1:Nat)+16*j.i))/\x.n-j.i<x.n-a.i)/\(a.i:Int)+1=(j.i:Int)/\(b.2.Fr.length=j.Fr.length/\b.2.c=j.c)/\aa (SB.rows C b.2.Fr.length [av.str λP=>b.2.Fr.getD P []] F (b.2.c*1) 9) (jJ j.Fr j.c)/\aa (SB.fmap (cY b.2.Fr) (aE.int J b.2.met) H) (SB.fmap (cY j.Fr) (aE.int J j.met) H))) False) (∃(v:List f_×Nat),(lR x.n x.f x.root v.1 v.1.length/\v.1.length<=v.2)/\(a.Fr.length=v.1.length/\a.c=v.2)/\aa (SB.rows C a.Fr.length [av.str λQ=>a.Fr.getD Q []] F (a.c*1) 9) (jJ v.1 v.2)))):=⟨by kernel_rfl,by kernel_rfl⟩
theorem La: ∀(n:Nat) (l:List Nat),l.Nodup->(∀ a,a∈ l->a<n)->l.length<=n
 | 0,[],_,_=>O _
 | 0,a::_,_,h=>absurd (h a (W ..)) (aC _)
 | n+1,l,hd,h=>by
   have h1:=La n (l.erase n) (hd.erase n) λa ha=>by have h2:=(hd.mem_erase_iff).1 ha;have:=h a h2.2;have:=h2.1;omega
   have:=List.length_erase (a:=n) (l:=l);by_cases e:n∈ l
   ·rw[r_ e] at this;omega
   ·rw[s_ e] at this;omega
theorem lR.len {root:f_}(h:lR n f root Fr k):Fr.length<=n:=by
 have:=La n (Fr.map λt=>(cI f n t).toNat) ?_ ?_
 ·rwa [ag] at this
 ·refine List.pairwise_map.2 (h.nod.imp_of_mem λ{a b} ha hb hne e=>hne ?_);obtain⟨_,_,h1⟩:=iu f n a (h.dom a ha);obtain⟨_,_,h2⟩:=iu f n b (h.dom b hb);rw[← h1,← h2,e]
 ·intro a ha;obtain⟨t,ht,rfl⟩:=List.mem_map.1 ha;obtain⟨h1,h2,_⟩:=iu f n t (h.dom t ht);omega
theorem has_add (l:List f_)(s t:f_):dZ (cY l) s t=cY (l++[s]) t:=by unfold dZ cY;rw[cx,cD,p_,p_,p_,a_,X]
theorem aam {l:List f_}(h:s∈ l)(t:f_):dZ (cY l) s t=cY l t:=by unfold dZ cY;rw[cx,cD,p_,p_];exact⟨λe=>e.elim id λe=>e▸ h,.inl⟩
theorem aaE (h:jr Fr met b)(r:f_) :
  (dflt (dZ (cY Fr) r r) (gA met r (dflt (cY Fr r) (met r)+1) r)=dflt (cY Fr r) (met r)+1)/\(1<dflt (cY Fr r) (met r)+1↔r∈ Fr)/\0<=dflt (cY Fr r) (met r)/\dflt (cY Fr r) (met r)<=b:=by
 have h1:dZ (cY Fr) r r=true:=by unfold dZ;simp
 have h2: ∀ v,gA met r v r=v:=λv=>by unfold gA;simp
 rw[h1,h2];refine⟨rfl,?_⟩;by_cases e:r∈ Fr
 ·have hh:cY Fr r=true:=n_ e;rw[hh];have:=h.pos r e;exact⟨⟨λ_=>e,λ_=>by show 1<met r+1;omega⟩,by show 0<=met r;omega,by show met r<=b;exact this.2⟩
 ·have hh:cY Fr r=false:=o_ e;rw[hh];exact⟨⟨λh=>absurd h (by show ¬ (1:Int)<0+1;decide),λh=>absurd h e⟩,Int.le_refl _,by show(0:Int)<=b;omega⟩
theorem aaG (h:jr Fr met b)(hr:r∈ Fr):jr Fr (gA met r (dflt (cY Fr r) (met r)+1)) (b+1):=⟨λt ht=>by
 have hh:cY Fr r=true:=n_ hr;rw[hh];unfold gA;have h1:=h.pos r hr;have h2:=h.pos t ht;by_cases e:t=r
 ·rw[n_ e];show 1<=met r+1/\met r+1<=_;omega
 ·rw[o_ e];show 1<=met t/\met t<=_;omega⟩
theorem aaD (h:jr Fr met b)(hr:r∉ Fr):jr (Fr++[r]) (gA met r (dflt (cY Fr r) (met r)+1)) (b+1):=⟨λt ht=>by
 have hh:cY Fr r=false:=o_ hr;rw[hh];unfold gA;by_cases e:t=r
 ·rw[n_ e];show(1:Int)<=0+1/\(0:Int)+1<=_;omega
 ·rw[o_ e];rcases a_.1 ht with ht | ht
  ·have h2:=h.pos t ht;show 1<=met t/\met t<=_;omega
  ·rw[X] at ht;exact absurd ht e⟩
theorem lR.add {root:f_}(h:lR n f root Fr k)(hk:k<=Fr.length)(hr:r∉ Fr)(hd:aP f n r=C):lR n f root (Fr++[r]) k:=by
 refine⟨an _ h.root,?_,λt ht=> ?_,λq hq hql j hj=> ?_⟩
 ·rw[List.nodup_append];exact⟨h.nod,eu _ _,λa ha b hb e=>hr (by rw[X] at hb;rw[← hb,← e];exact ha)⟩
 ·rcases a_.1 ht with ht | ht
  ·exact h.dom t ht
  ·rw[X] at ht;rw[ht];exact hd
 ·have e:(Fr++[r]).getD q []=Fr.getD q []:=by rw[Z,Z,c_ (by omega)]
  rw[e] at hj ⊢;exact an _ (h.clo q hq (by omega) j hj)
theorem VV (h:i<Fr.length):(Fr++[r]).getD i []=Fr.getD i []:=by rw[Z,Z,c_ h]
theorem Sr {u:List f_}(hc:c=c'):aa (.rows C (u.length+1) [.str λj=>if j<u.length then u.getD j [] else ck [s] (j-u.length)] F (c*1) 9) (jJ (u++[s]) c'):=by
 subst hc;refine kW (by simp) rfl rfl λk c c' h1 h2 i hi E=> ?_
 match k,h1,h2 with
 | 0,h1,h2 =>
   injection h1 with h1;injection h2 with h2;subst h1;subst h2;simp only[av.at,SV.val];rw[sS u s [] i hi];by_cases h:i<u.length
   ·rw[r_ h,r_ h]
   ·rw[s_ h,s_ h];rfl
 | k+1,h1,_=>simp at h1
theorem Wb (hc:c=c')(h1c:1<=c):aa (.cells [.str F s] (c*1) 9) (jJ [s] c'):=by
 subst hc;refine aa.of rfl rfl λ_=>⟨rfl,λE o ⟨c0,fr,h1,h2,h3,h4⟩=>⟨c0,fr,h1,λ_=>h2,by show 1*1<=c0.size;omega,h4,λi k col hi hk=> ?_⟩,id⟩
 have hi:i<1:=hi;have e:i=0:=by omega
 subst e
 match k,hk with
 | 0,hk =>cases hk;exact h3 0 _ rfl
 | k+1,hk=>simp at hk
theorem aaF (s:f_):aa (.map [(0,.str F s,.int .i64 C 1)] 1) (.fmap (cY [s]) (.int .i64 λ_=>1) H):=by
 refine aa.of rfl rfl λ_=>⟨rfl,λE o h=> ?_,id⟩
 have h:o=.map (eS E [(0,.str F s,.int .i64 C 1)]).toArray 1:=h;have h2:=(yj.nil (.int .i64 λ_=>1) 0).add (c':=.int .i64 λ_=>1) (s:=s) (u:=.int .i64 1) ⟨rfl,λ_ _=>rfl⟩ (by simp) (pend':=H) (λ_ _ h=>by cases h);refine⟨_,_,h,?_⟩;have e:dZ (λ_=>F) s=cY [s]:=by funext t;unfold dZ cY;rw[Bool.false_or];simp
 rw[e] at h2;exact h2
theorem EF (x:Zu)(hx:pE.pre x):ay (runM (U8 x) 81 b5 pE x):=by
 refine ay.A5 (T2 x) (by delta Bk Fk;exact rfl) ?_;obtain⟨hn,hG,hroot,hclo⟩:=hx;simp only[Int.toNat_natCast,Y,true_and,Bool.not_eq_true',Bool.not_false,p_,q_];refine⟨⟨λ_ c hc=>⟨λ_=>⟨⟨0,[x.root],c,λ_=>1⟩,⟨rfl,hc,⟨W ..,eu _ _,λt ht=>by rw[X] at ht;rw[ht];exact hroot,λq hq=>absurd hq (aC _)⟩,⟨λ_ _=>⟨Int.le_refl _,Int.le_refl _⟩⟩⟩,⟨rfl,rfl⟩,Nat.one_pos,Wb rfl hc,aaF _⟩,λh=>by rw[hroot] at h;cases h⟩,λh=>absurd trivial h⟩,λy ⟨y1,y2,y3,y4⟩=>⟨?_,λz ⟨z1,z2,z3,z4⟩=>⟨λhlt=> ?_,λhge=> ?_⟩⟩⟩
 ·exact⟨y,⟨by omega,y2,by rw[y1];exact y3,by rw[y1];exact y4⟩,by rw[y1];rfl,⟨rfl,rfl⟩,aa.refl _,aa.refl _⟩
 ·have hlt:(z.i:Int)<(z.Fr.length:Int):=hlt;have hlt':z.i<z.Fr.length:=by omega
  have hmem:z.Fr.getD z.i []∈ z.Fr:=by rw[Z,c! hlt'];exact List.getElem_mem hlt'
  have hd:=z3.dom _ hmem;have hL:=z3.len;have hT:x.A.dm (x.g (z.Fr.getD z.i []))=rC x.n x.f (z.Fr.getD z.i []):=hG.dm _ hd;have hnb:x.A.nb (x.g (z.Fr.getD z.i []))=gM (rC x.n x.f (z.Fr.getD z.i [])):=(hG.nb _ hd).trans (congrArg gM hT);have h16:gM (rC x.n x.f (z.Fr.getD z.i []))<=16:=wU _ 16;refine⟨⟨by omega,hlt⟩,hlt',λ_=>⟨hG.dom _ hd,⟨(0,z),⟨S _,⟨rfl,rfl,hlt'⟩,z2,z3,z4,λj hj=>absurd hj (aC _)⟩,rfl,⟨rfl,rfl⟩,aa.refl _,aa.refl _⟩,λw ⟨w1,⟨w2,w3,w4⟩,w5,w6,w7,w8⟩=>⟨λhj=> ?_,λhj=> ?_⟩⟩,λh=>by rw[hd] at h;cases h⟩
  ·have hj':w.1<x.A.nb (x.g (z.Fr.getD z.i [])):=by omega
   obtain⟨r1,r2,r3⟩:=hG.row _ hd (by omega);have hr:x.A.rf (x.A.fb (x.g (z.Fr.getD z.i []))) w.1=fk (rC x.n x.f (z.Fr.getD z.i [])) w.1:=by rw[r3 w.1 hj',hT]
   have hrd:=hclo _ hd w.1 (by omega);have hwl:=w6.len;rw[hr];generalize hrr:fk (rC x.n x.f (z.Fr.getD z.i [])) w.1=r at hrd ⊢;obtain⟨e1,e2,e3,e4⟩:=aaE w7 r;rw[e1];have hb:1+16*w.2.i+w.1<=20000:=by omega
   have e4:dflt (cY w.2.Fr r) (w.2.met r)<=20000:=Int.le_trans e4 (by omega);have more: ∀ Fr':List f_,(∀ t,t∈ w.2.Fr->t∈ Fr')->r∈ Fr'->∀ j,j<w.1+1->fk (rC x.n x.f (z.Fr.getD z.i [])) j∈ Fr':=λFr' hs hr' j hj=>by
    by_cases e:j=w.1
    ·rw[e,hrr];exact hr'
    ·exact hs _ (w8 j (by omega))
   refine⟨⟨by omega,hj⟩,⟨r1,Nat.lt_of_lt_of_le hj' r2⟩,⟨by omega,by omega⟩,λh1=> ?_,λh1=>⟨⟨O _,by omega,by omega⟩,λc hc=>⟨λ_=> ?_,λh=>by rw[hrd] at h;cases h⟩⟩⟩
   ·have hin:=e2.1 h1;exact⟨⟨by omega,by omega⟩,(w.1+1,⟨w.2.i,w.2.Fr,w.2.c,gA w.2.met r (dflt (cY w.2.Fr r) (w.2.met r)+1)⟩),⟨⟨by show w.1+1<=_;omega,⟨w2,w3,w4⟩,w5,w6,aaG w7 hin,more _ (λ_ h=>h) hin⟩,by show _-(w.1+1)<_;omega⟩,by show(w.1:Int)+1=((w.1+1:Nat):Int);omega,⟨rfl,rfl⟩,aa.refl _,aa.fmap (aam hin) λ_=>rfl⟩
   ·have hin:r∉ w.2.Fr:=λe=>h1 (e2.2 e);exact⟨⟨by omega,by omega⟩,(w.1+1,⟨w.2.i,w.2.Fr++[r],c,gA w.2.met r (dflt (cY w.2.Fr r) (w.2.met r)+1)⟩),⟨⟨by show w.1+1<=_;omega,⟨w2,by show _=(w.2.Fr++[r]).getD w.2.i [];rw[VV w4];exact w3,by show w.2.i<(w.2.Fr++[r]).length;rw[T];omega⟩,by show(w.2.Fr++[r]).length<=c;rw[T];exact hc,w6.add (by omega) hin hrd,aaD w7 hin,more _ (λ_ h=>an _ h) (b9 _ (X.2 rfl))⟩,by show _-(w.1+1)<_;omega⟩,by show(w.1:Int)+1=((w.1+1:Nat):Int);omega,⟨by show _=(w.2.Fr++[r]).length;rw[T];rfl,rfl⟩,Sr rfl,aa.fmap (has_add _ _) λ_=>rfl⟩
  ·have hwl:=w6.len;have ei:w.2.i=z.i:=by omega
   refine⟨⟨by omega,by omega⟩,⟨z.i+1,w.2.Fr,w.2.c,w.2.met⟩,⟨⟨by show z.i+1<=w.2.Fr.length;omega,w5,⟨w6.root,w6.nod,w6.dom,λq hq hql j hjj=> ?_⟩,⟨λt ht=> ?_⟩⟩,by show x.n-(z.i+1)<x.n-z.i;omega⟩,by show(z.i:Int)+1=((z.i+1:Nat):Int);omega,⟨rfl,rfl⟩,aa.refl _,aa.refl _⟩
   ·by_cases e:q=w.2.i
    ·subst e;rw[← w3] at hjj ⊢;exact w8 j (by omega)
    ·exact w6.clo q (by have:q<z.i+1:=hq;omega) hql j hjj
   ·have:=w7.pos t ht;show 1<=w.2.met t/\w.2.met t<=((1+16*(z.i+1):Nat):Int)
    omega
 ·have e:z.i=z.Fr.length:=by have: ¬ (z.i:Int)<(z.Fr.length:Int):=hge;omega
  rw[e] at z3;exact⟨(z.Fr,z.c),⟨z3,z2⟩,⟨rfl,rfl⟩,aa.refl _⟩
theorem Ow:ax R 81 (cM pE) :=fT (n:=20) Tryz.func81 (by kernel_rfl) (by kernel_rfl) pE λx hx=>⟨_,adN x,rfl,EF x hx⟩
structure AdG where
 n:Nat
 f:Nat->f_
 c:Nat
 room:Int
structure uZ where
 Fr:List f_
 A:It
 g:f_->Nat
structure rz (n:Nat)(f:Nat->f_)(root:f_)(y:uZ):Prop where
 bf:lR n f root y.Fr y.Fr.length
 dom: ∀ h,h∈ y.Fr->y.A.D (y.g h)=C
 dm: ∀ h,h∈ y.Fr->y.A.dm (y.g h)=rC n f h
def It.bare (A:It):SB:=.eD A.D [.str A.dm] 4 133 F
def RB:gP :=
 {G:=AdG,n:=3,N:=4,pre:=λx=>0<x.n/\x.n<=1000/\(x.n:Int)<=x.room/\x.room<=1000000/\(∀ i,i<x.n->(x.f i).length<=1000)/\rq x.n x.f=C/\Clo x.n x.f,args:=λx=>[.ptr 0 C 0,.aX 2 1 C 0 x.n x.c],
  mem:=λx=>[(0,fA x.room 1),(1,.map [] 0),(2,.rows C x.n [.str x.f] C (x.c*1) 9)],
  wo:=λx=>.all uZ λy=>.req (rz x.n x.f (aK (x.f 0)) y) (.ret (.aN [.str F (aK (x.f 0)),.int .i64 C 0]) [(0,fA x.room 1),(1,.fmap (cY y.Fr) (.ref 3 y.g) H),(3,y.A.bare)])}
def EX (st:Sx.St)(i:Nat):Option (Nat×(Nat->f_)):=match slot st.tmps i with
 | some (.aX k _ _ _ n _)=>(match st.m.get k with
   | some (.rows _ _ [.str e] _ _ _)=>I (n,e)
   | _=>H)
 | _=>H
def V1 (st:Sx.St)(i:Nat):Option (Nat×(f_->Nat)):=match slot st.tmps i with
 | some (.map k)=>(match st.m.get k with
   | some (.fmap _ (.ref kF g) _)=>I (kF,g)
   | _=>H)
 | _=>H
def abY (st:Sx.St)(k:Nat):Option ((Nat->Bool)×av×av×av):=match st.m.get k with
 | some (.eD D [c1,c2,_,c4] _ _ _)=>I (D,c1,c2,c4)
 | _=>H
def vw (e:Nat->f_)(i:Nat)(h:f_):Bool:=(M i).any λq=>decide (e q=h)
structure wu (D:Nat->Bool)(us:Nat->Int)(b:Nat):Prop where
 all: ∀ a,D a=C->0<=us a/\us a<=b
noncomputable def acK (n:Nat)(e:Nat->f_)(kF:Nat)(g:f_->Nat):aY :={α:=Nat,pre:=λ_ i=>i<=n,kH:=λ_ i=>n-i,fresh:=0,slots:=λ_ i=>[(46,.int .i64 F i)],mem:=λ_ i=>[(1,.fmap (vw e i) (.ref kF g) H)]}
noncomputable def acL (n kF:Nat)(D:Nat->Bool)(c1 c2 c4:av):aY :={α:=Nat×(Nat->Int),pre:=λ_ y=>y.1<=n/\wu D y.2 (16*y.1),kH:=λ_ y=>n-y.1,fresh:=0,slots:=λ_ y=>[(61,.int .i64 F y.1)],mem:=λ_ y=>[(kF,.eD D [c1,c2,.int .i64 y.2,c4] 4 133 F)]}
noncomputable def acM (i nb:Int)(kF:Nat)(D:Nat->Bool)(c1 c2 c4:av):aY :={α:=Nat×(Nat->Int),pre:=λ_ y=>(y.1:Int)<=nb/\wu D y.2 (16*i.toNat+y.1),kH:=λ_ y=>nb.toNat-y.1,fresh:=0,slots:=λ_ y=>[(72,.int .i64 F y.1)],mem:=λ_ y=>[(kF,.eD D [c1,c2,.int .i64 y.2,c4] 4 133 F)]}
noncomputable def acY:ny:=[(11,λst=>match EX st 44,V1 st 6 with
 | some (n,e),I (kF,g)=>I (one (acK n e kF g))
 | _,_=>H),(16,λst=>match EX st 59,V1 st 6 with
 | some (n,_),I (kF,_)=>(match abY st kF with
   | some (D,c1,c2,c4)=>I (one (acL n kF D c1 c2 c4))
   | none=>H)
 | _,_=>H),(19,λst=>match slot st.tmps 61,slot st.tmps 71,V1 st 6 with
 | some (.int _ _ i),I (.int _ _ nb),I (kF,_)=>(match abY st kF with
   | some (D,c1,c2,c4)=>I (one (acM i nb kF D c1 c2 c4))
   | none=>H)
 | _,_,_=>H)]
noncomputable def WL:List (FuncId×PT):=(80,cM Gi)::(81,cM pE)::gy
theorem SH:bp R (λf=>aD f WL):=.cons Yl (cz _) (.cons Ow (cz _) dj)
noncomputable def UM:fD:={cv with cT:=λf=>aD f WL,aW:=λh=>if h=46 then acY else []}
theorem adk:Sx.Good R UM:=.of bR SH bq
end
end Go.Proofs.YtoibaecagklkaaaGreatDoor
