/- A part of the proof. -/
import Derived.Test.YtoibaecagklkaaaGreatDoorMs
open Bool renaming and_eq_true->cL,and_false->a!,eq_false_iff->N,false->C,false_and->bf,false_eq_true->X,not_eq_false'->cT,not_eq_true'->O,or_false->c4,true->A,true_and->bW,true_eq_false->Z
open Decidable renaming decide->D
open Go.Op renaming bytesLess->Y
open Go.Operand renaming tmp->S
open Go.Proofs.Tryz renaming f139->c5,f141->c6,f142->c7,f146->c8,f172->b_,f173->b!,f174->c_,f175->c!,f178->d_,f181->d!,f202->ec,f203->ef,f205->ek,f55->en,prog->F
open Int renaming le_of_eq->eu,le_refl->cj,toNat->ey,toNat_natCast->Q
open List renaming all_eq_true->cl,drop_eq_nil_of_le->ez,getD_eq_getElem?_getD->V,getElem?_drop->eA,getElem?_eq_getElem->eJ,getElem?_eq_none->eL,length_append->ag,length_cons->M,length_drop->I,length_nil->an,length_pos_iff->ct,length_take->ay,mem_range->a_,nil->cx,range->eP,take_append_drop->eW
open Nat renaming not_lt_zero->cy,sub_self->cB,zero_add->e3,zero_le->e4
open Option renaming none->J,some->G
open UInt8 renaming ofNat->K
namespace Go.Proofs.YtoibaecagklkaaaGreatDoor
open Go Sx
variable {a b h p s t:h_}{i n:Nat}{x:Nd}{w:Sp}
section
open Go Sx
set_option maxRecDepth 20000
theorem SK (h:ig p=A):Gn p=cC p:=by unfold Gn cC b7;apply List.map_congr_left;intro j hj;rw[a_] at hj;rw[e3];have h1:=Wq h (2*j) (by omega);have h2:=Wq h (2*j+1) (by omega);have h3:=(e8 p ((2*j:Nat):Int)).1;have h4:=(e8 p ((2*j+1:Nat):Int)).1;unfold HG pP;rw[show(2*(j:Int))=((2*j:Nat):Int)by push_cast;rfl,show(((2*j:Nat):Int)+1)=((2*j+1:Nat):Int)by push_cast;rfl,NB ⟨h3,h1⟩ ⟨h4,h2⟩];congr 2;omega
theorem KM (k:h_): ∀ j:Nat,j<(ak k).length->ah (ak k) (j:Int)=jO k j:=by intro j hj;rw[jD] at hj;unfold ak;refine Fh hj ?_;have:=e8 k ((j/2:Nat):Int);unfold jO;rw[show((j:Int)/2)=((j/2:Nat):Int)by omega];split<;>omega
theorem Ph (k:h_)(j:Nat):0<=jO k j/\jO k j<=15:=by have:=e8 k ((j:Int)/2);unfold jO;split<;>omega
theorem KK (k:h_)(n:Nat):ig ((ak k).drop n)=true:=by
 unfold ig;rw[cl];intro j hj;rw[a_,I] at hj;unfold HW;have e:ah ((ak k).drop n) (j:Int)=ah (ak k) ((n+j:Nat):Int):=by unfold ah;rw[Q,Q,V,V,eA]
 rw[e,KM k (n+j) (by omega)];have:=(Ph k (n+j)).2;simp only[O,n_];omega
theorem ME (k:h_):cC (ak k)=k:=by
 have hl:(cC (ak k)).length=k.length:=by rw[Gy,jD];omega
 apply List.ext_getElem?;intro j;by_cases hj:j<k.length
 ·have h1:=KM k (2*j) (by rw[jD];omega);have h2:=KM k (2*j+1) (by rw[jD];omega);have b1:=Ph k (2*j);have b2:=Ph k (2*j+1);have hb:=e8 k (j:Int);rw[NY k j hj];unfold cC b7;rw[List.getElem?_map,List.getElem?_range (by rw[jD];omega)];simp only[Option.map_some,e3,Option.some.injEq];congr 2;unfold pP;rw[show(2*(j:Int))=((2*j:Nat):Int)by push_cast;rfl,show(((2*j:Nat):Int)+1)=((2*j+1:Nat):Int)by push_cast;rfl,h1,h2,NB b1 b2];unfold jO;rw[o_ (by omega),p_ (by omega),show(((2*j:Nat):Int)/2)=(j:Int)by omega,show(((2*j+1:Nat):Int)/2)=(j:Int)by omega];omega
 ·rw[eL (by omega),eL (by omega)]
theorem drop_one {q:h_}(h:q≠[]):q=K (ah q 0).toNat::q.drop 1:=by
 cases q with
 | nil=>exact absurd rfl h
 | cons b r =>show b::r=K ((b.toNat:Int)).toNat::r;rw[Q];simp
theorem akO (h:gU s=A):gN (gM s) (fc s)=s:=by
 obtain⟨h0,h1,h2⟩:=zB.1 h;have hl:=jD s;have hp:=ct.2 h0;have b0:=(e8 (ak s) 0).1;have d1:=drop_one h0;unfold gM fc;by_cases ho:ah (ak s) 0%2=1
 ·rw[o_ ho];have e:D ((((ak s).drop 1).length:Int)%2=1)=true:=k_ (by rw[I];omega);unfold gN;rw[e];have f:mR (D (2<=ah (ak s) 0)) A=ah (ak s) 0:=by
   by_cases c:2<=ah (ak s) 0
   ·rw[k_ c];show(2:Int)+1=_;omega
   ·rw[l_ c];show(0:Int)+1=_;omega
  rw[f];show cC (K (ah (ak s) 0).toNat::(ak s).drop 1)=s;rw[← d1,ME]
 ·rw[p_ ho];have h2:ah (ak s) 1=0:=by
   rcases h2 with h2 | h2
   ·exact absurd h2 ho
   ·exact h2
  have e:D ((((ak s).drop 2).length:Int)%2=1)=false:=l_ (by rw[I];omega);unfold gN;rw[e];have f:mR (D (2<=ah (ak s) 0)) C=ah (ak s) 0:=by
   by_cases c:2<=ah (ak s) 0
   ·rw[k_ c];show(2:Int)+0=_;omega
   ·rw[l_ c];show(0:Int)+0=_;omega
  rw[f];have d2:(ak s).drop 1=0::(ak s).drop 2:=by
   have hne:(ak s).drop 1≠[]:=by intro e0;have:=congrArg List.length e0;rw[I] at this;simp at this;omega
   have d:=drop_one hne;have e1:ah ((ak s).drop 1) 0=ah (ak s) 1:=by unfold ah;rw[V,V,eA];rfl
   rw[e1,h2,List.drop_drop] at d;exact d
  show cC (K (ah (ak s) 0).toNat::0::(ak s).drop 2)=s;rw[← d2,← d1,ME]
theorem apF {leaf:Bool}(h:gN ((ak s).drop n) leaf=s):gU s=A/\fc s=leaf/\gM s=(ak s).drop n:=by
 have:=KF (KK s n) leaf
 rwa [h] at this
theorem akJ (h: ∀ n leaf,n=1∨n=2->n<=(ak s).length->gN ((ak s).drop n) leaf≠s):gU s=false:=by
 cases hb:gU s with
 | false=>rfl
 | true =>
   exfalso;have hp:=akO hb;obtain⟨h0,_,_⟩:=zB.1 hb;have hl:=jD s;have hpos:=ct.2 h0;unfold gM at hp;split at hp
   ·exact h 1 _ (.inl rfl) (by omega) hp
   ·exact h 2 _ (.inr rfl) (by omega) hp
theorem SF (h:t.length=33)(h0:ah t 0=160):aS (t.drop 1)=t:=by
 have hne:t≠[]:=λe=>by rw[e] at h;simp at h
 have d:=drop_one hne;have hl:(t.drop 1).length=32:=by rw[I];omega
 unfold aS;rw[p_ (by omega),hl];unfold di;rw[o_ (by decide)];rw[h0] at d;exact d.symm
theorem ado :cH t=A↔t.length=33/\ah t 0=160:=by
 constructor
 ·intro h;have hl:=ru h;obtain⟨⟨h1,h2,h3⟩,h4⟩:=wm.1 h;refine⟨hl,?_⟩;have e:=Ho h1;rw[h2,h3,List.append_nil] at e;have e2:aS (af t)=t:=e;rw[← e2];unfold aS;rw[p_ (by omega),h4];rfl
 ·rintro⟨h,h0⟩;have e:=SF h h0;obtain⟨g1,g2,g3,g4⟩:=oT (b:=t.drop 1) (by rw[I];omega);rw[e] at g1 g2 g3 g4;exact wm.2 ⟨⟨g1,g2,g4⟩,by rw[g3,I];omega⟩
theorem auN (h:t.length=33)(h0:ah t 0=160):af t=t.drop 1:=by
 have e:=SF h h0;have g:=(oT (b:=t.drop 1) (by rw[I];omega)).2.2.1
 rwa [e] at g
theorem Nl (r:Nat->h_): ∀ n,0<=fH r n/\fH r n<=n
 | 0=>⟨cj _,cj _⟩
 | n+1=>by have:=Nl r n;unfold fH;split<;>omega
theorem J' {r:Nat->h_}: ∀ {n:Nat},fH r n=0↔∀ j,j<n->r j=[]
 | 0=>⟨λ_ j hj=>absurd hj (cy _),λ_=>rfl⟩
 | n+1=>by
   have ih:=J' (r:=r) (n:=n);have hn:=Nl r n;unfold fH;by_cases e:r n=[]
   ·rw[o_ e,ih];constructor
    ·intro h j hj;by_cases ej:j=n
     ·subst ej;exact e
     ·exact h j (by omega)
    ·intro h j hj;exact h j (by omega)
   ·rw[p_ e];constructor
    ·intro h;omega
    ·intro h;exact absurd (h n (by omega)) e
theorem Lv {r:Nat->h_}: ∀ {n:Nat},dG r n=0↔∀ j,j<n->r j=[]
 | 0=>⟨λ_ j hj=>absurd hj (cy _),λ_=>rfl⟩
 | n+1=>by
   have ih:=Lv (r:=r) (n:=n);unfold dG;by_cases e:r n=[]
   ·rw[o_ e,ih];constructor
    ·intro h j hj;by_cases ej:j=n
     ·subst ej;exact e
     ·exact h j (by omega)
    ·intro h j hj;exact h j (by omega)
   ·rw[p_ e];constructor
    ·intro h;omega
    ·intro h;exact absurd (h n (by omega)) e
theorem Yx (r:Nat->h_):D (fH r 16=0)=D (dG r 16=0):=by rw[decide_eq_decide,J',Lv]
theorem aof {r:Nat->h_}(h0:r 0≠[]):D (fH r 16=1)=D (dG r 16=1):=by
 rw[decide_eq_decide];have key: ∀ n,1<=n->(fH r n=1↔∀ j,1<=j->j<n->r j=[])/\(dG r n=1↔∀ j,1<=j->j<n->r j=[])/\1<=fH r n/\1<=dG r n:=by
  intro n;induction n with
  | zero=>intro h;omega
  | succ n ih =>
    intro _;by_cases hn:n=0
    ·subst hn;have e1:fH r 1=1:=by rw[fH,p_ h0];rfl
     have e2:dG r 1=1:=by rw[dG,p_ h0];rfl
     exact⟨⟨λ_ j h1 h2=>by omega,λ_=>e1⟩,⟨λ_ j h1 h2=>by omega,λ_=>e2⟩,eu e1.symm,eu e2.symm⟩
    ·obtain⟨i1,i2,i3,i4⟩:=ih (by omega);unfold fH dG;by_cases e:r n=[]
     ·rw[o_ e,o_ e,i1,i2];have hh:(∀ j,1<=j->j<n->r j=[])↔∀ j,1<=j->j<n+1->r j=[]:=by
       constructor
       ·intro h j h1 h2;by_cases ej:j=n
        ·subst ej;exact e
        ·exact h j h1 (by omega)
       ·intro h j h1 h2;exact h j h1 (by omega)
      exact⟨hh,hh,i3,i4⟩
     ·rw[p_ e,p_ e];refine⟨⟨λh=>by omega,λh=>absurd (h n (by omega) (by omega)) e⟩,⟨λh=>by omega,λh=>absurd (h n (by omega) (by omega)) e⟩,by omega,by omega⟩
 have:=key 16 (by decide);rw[this.1,this.2.1]
structure Xy (a b:h_)(i:Nat):Prop where
 la:i<=a.length
 lb:i<=b.length
 e:a.take i=b.take i
theorem Hq (h:i<a.length): ∃ c,a.drop i=c::a.drop (i+1)/\ah a i=(c.toNat:Int)/\a.take (i+1)=a.take i++[c]:=by
 refine⟨a[i],List.drop_eq_getElem_cons h,?_,by simp_all⟩
 grind [Q,eJ,ah]
theorem amm (h:Xy a b i)(ha:i<a.length)(hb:i<b.length)(hn: ¬ ah a i=ah b i):Y a b=D (ah a i<ah b i):=by
 obtain⟨c,h1,h2,_⟩:=Hq ha;obtain⟨d,g1,g2,_⟩:=Hq hb;rw[← Ep i a b h.e h.la h.lb,h1,g1,h2,g2];rw[h2,g2] at hn;have e:(c==d)=false:=by grind
 show(D (c<d)||(c==d&&_))=_;rw[e,bf,c4];exact decide_eq_decide.2 (by grind [UInt8.lt_iff_toNat_lt])
theorem aco (h:Xy a b i)(ha:i<a.length)(hb:i<b.length)(he:ah a i=ah b i):Xy a b (i+1):=by
 obtain⟨c,_,h2,h3⟩:=Hq ha;obtain⟨d,_,g2,g3⟩:=Hq hb;refine⟨ha,hb,?_⟩;rw[h3,g3,h.e]
 grind [UInt8.toNat_inj]
theorem RW (h:Xy a b i)(hx:a.length<=i∨b.length<=i):Y a b=D ((a.length:Int)<b.length):=by
 have h1:=h.la;have h2:=h.lb;rw[← Ep i a b h.e h.la h.lb];by_cases e:b.length<=i
 ·rw[ez e,l_ (by omega)];cases a.drop i<;>rfl
 ·have ea:a.length<=i:=by omega
  obtain⟨d,g1,_⟩:=Hq (a:=b) (i:=i) (by omega);rw[ez ea,g1,k_ (by omega)];rfl
theorem Po: ∀(a b:h_),(!Op.bytesLess a b)=(Y b a||decide (b=a))
 | [],[]=>rfl
 | [],_::_=>rfl
 | _::_,[]=>rfl
 | a::r,b::s=>by
   have ih:=Po r s;by_cases e:a=b
   ·subst e;have l:D (a<a)=false:=l_ (UInt8.lt_irrefl a);simp only[Y,l,Bool.false_or,beq_self_eq_true,bW,ih,List.cons.injEq,true_and]
   ·have e1:(a==b)=false:=beq_eq_false_iff_ne.2 e;have e2:(b==a)=false:=beq_eq_false_iff_ne.2 (Ne.symm e);simp only[Y,e1,e2,bf,c4,List.cons.injEq]
    grind
def MZ (n:Nat)(f:Nat->h_)(t:h_):Bool:=!(eP n).all λi=>!decide (f i=t)
theorem Ns {l:List h_}:MZ l.length (λi=>l.getD i []) t=A↔t∈ l:=by
 unfold MZ;rw[O,N];simp only[Ne,cl,a_,O,n_]
 grind [eJ,List.getElem_mem,List.getElem_of_mem]
def lB (g:Nat->h_)(h:h_)(lo n:Nat)(v:Int):Prop:=(v= -1/\∀ i,lo<=i->i<n->g i≠h)∨∃ k:Nat,v=(k:Int)/\lo<=k/\k<n/\g k=h/\∀ i,lo<=i->i<k->g i≠h
theorem lB.none (g:Nat->h_)(h:h_)(n:Nat):lB g h n n (-1):=(by grind [lB])
theorem lB.hit {g:Nat->h_}{lo:Nat}(hl:lo<n)(e:g lo=h):lB g h lo n lo:=(by grind [lB])
theorem lB.azF {g:Nat->h_}{lo:Nat}{v:Int}(hf:lB g h (lo+1) n v)(e: ¬ g lo=h):lB g h lo n v:=by grind [lB]
theorem Sq (f:Nat->h_): ∀(n:Nat) (h:h_),bw f n h=A->∀ i:Nat,(i:Int)<fD f n h->bg (f i)≠h
 | 0,_,e=>by cases e
 | n+1,h,e=>λi hi=>by
   rw[tT] at hi;cases hd:bw f n h with
   | true=>rw[hd] at hi;exact Sq f n h hd i hi
   | false =>
     intro c;have:i<n:=by
      rw[hd] at hi;by_cases c:h=bg (f n)
      ·rw[k_ c] at hi;simp only[cond_true,cond_false] at hi;omega
      ·rw[l_ c] at hi;simp only[cond_false] at hi;omega
     have:=vG f n i this;rw[c,hd] at this;cases this
theorem lB.done {f:Nat->h_}{v:Int}(hf:lB (λi=>bg (f i)) h 0 n v):(v= -1/\bw f n h=C)∨(bw f n h=A/\v=fD f n h/\0<=v/\v<n):=by
 rcases hf with ⟨h1,h2⟩ | ⟨k,h1,_,h3,h4,h5⟩
 ·refine .inl ⟨h1,N.2 λe=> ?_⟩;obtain⟨g1,g2,g3⟩:=lC f n h e
  grind
 ·have h4:bg (f k)=h:=h4;have e:bw f n h=true:=by grind [vG]
  obtain⟨g1,g2,g3⟩:=lC f n h e;refine .inr ⟨e,?_,by omega,by omega⟩;have m1:=Sq f n h e k
  grind
section
variable {w : Sp} {P : Wk-> Prop} (ht : ∀ s h, gF w h = A-> P s-> P (s.take w h))
include ht
theorem DK {T:Wk->Nd->h_->Option Wk}(hT: ∀ s x p s',P s->T s x p=G s'->P s'){x:Nd}{p:h_}: ∀ {i:Nat} {s s':Wk},P s->eE w T x p i s=G s'->P s'
 | 0,s,s',h,e=>by injection e with e;grind
 | i+1,s,s',h,e=>by
   unfold eE at e;split at e
   ·cases e
   ·rename_i s1 h1;have g1:=DK hT h h1;unfold lK at e;split at e
    ·grind
    ·cases hm:dj w.fr w.to (ki x p i)with
     | false=>grind
     | true =>
       rw[hm] at e;simp only[cond_true] at e;split at e
       ·cases e
       ·rename_i y s2 hf;refine hT s2 y _ s' ?_ e;unfold pM at hf
        grind
theorem abT (hs: ∀ s x p,P s->P (s.p4 w x p)): ∀(m:Nat) (s:Wk) (x:Nd) (p:h_) (s':Wk),P s->qy w m s x p=G s'->P s'
 | 0,_,_,_,_,_,e=>by cases e
 | m+1,s,x,p,s',h,e=>by
   unfold qy at e;split at e
   ·cases e
   ·exact DK ht (abT hs m) (hs s x p h) e
end
structure Ro (w:Sp)(s:Wk):Prop where
 nn: ∀ h,0<=s.used h
 iff: ∀ h,w.ad h=A->(s.used h=0↔¬ w.at h∈ s.ns)
 look: ∀ t,t∈ s.ns->∃ h,gF w h=A/\t=w.at h
theorem Ro.start (w:Sp):Ro w Wk.start:=⟨λ_=>cj _,λ_ _=>⟨(λ_ h=>by cases h),λ_=>rfl⟩,λt h=>by cases h⟩
theorem Ro.p4 {s:Wk}(h:Ro w s)(x:Nd)(p:h_):Ro w (s.p4 w x p):=⟨h.nn,h.iff,h.look⟩
theorem Ro.take (hw: ∀ h,w.ad h=A->bg (w.at h)=h){s:Wk}(u:Ro w s)(hl:gF w h=A):Ro w (s.take w h):=by
 have had:w.ad h=true:=by simp only[gF,cL] at hl;exact hl.1
 have hn:(s.take w h).ns=if s.used h=0 then s.ns++[w.at h] else s.ns:=rfl
 have hm: ∀ t,t∈ (s.take w h).ns↔t∈ s.ns∨t=w.at h:=λt=>by
  rw[hn];by_cases c:s.used h=0
  ·grind
  ·rw[p_ c];have:w.at h∈ s.ns:=by
    by_cases c':w.at h∈ s.ns
    ·exact c'
    ·exact absurd ((u.iff h had).2 c') c
   grind
 refine⟨λr=> ?_,λr hr=> ?_,λt ht=> ?_⟩
 ·rw[Ai];have h1:=u.nn h;have h2:=u.nn r;split<;>omega
 ·rw[Ai,hm];have h1:=u.nn h;by_cases c:r=h
  ·grind
  ·rw[p_ c,u.iff r hr]
   grind
 ·rcases(hm t).1 ht with e | e
  ·exact u.look t e
  grind
theorem HC (w:Sp): ∀ h,w.full.ad h=A->bg (w.full.at h)=h:=λh e=>(lC w.f w.n h e).2.2
theorem av1 {m:Nat}{s s':Wk}(u:Ro w.full s)(h:qy w.full m s x p=G s'):Ro w.full s':=abT (P:=Ro w.full) (λ_ _ hl h=>h.take (HC w) hl) (λ_ x p h=>h.p4 x p) m s x p s' u h
theorem aeY {m:Nat}{s s':Wk}(u:Ro w.full s)(h:eE w.full (qy w.full m) x p i s=G s'):Ro w.full s':=DK (P:=Ro w.full) (λ_ _ hl h=>h.take (HC w) hl) (λ_ _ _ _=>av1) u h
theorem ala:aq F 73 (yS zn agO):=by
 refine Xe (gi (n:=20) Tryz.func73 (by kernel_rfl) (by kernel_rfl) ?_);intro vs l q a h hq;unfold Jo at h;split at h
 ·rename_i n f r hx;obtain⟨z,o,c,key⟩:=r;cases h;obtain⟨e1,e2⟩:=QK hx;rw[e1,e2];refine⟨_,adl,rfl,rfl,au.j7 (awt n f z o c key) (by delta Er aj aA dA b8 dx td nR jb;exact rfl) ?_⟩;exact⟨⟨⟨rfl,rfl,by omega⟩,hq⟩,⟨.inr rfl,hq.1⟩,λ_=>rfl⟩
 ·cases h
theorem avi:aq F 74 (aI EE):=by
 refine iH adl (n:=20) Tryz.func74 (by kernel_rfl) (by kernel_rfl) ?_;intro args p r h hp;unfold EE at h;split at h
 ·rename_i n;cases h;have:=qo n;exact⟨rfl,rfl,(by refine au.j7 (aAt n _) (by delta Ix aj aA yD dA;exact rfl) ?_;exact⟨hp,by omega,λ_=>rfl⟩)⟩
 ·cases h
theorem Eg :nY s=A↔s≠[]/\(ah s 0<128∨¬ 55<lead s∨lead s-54<=s.length):=by simp only[nY,cL,Bool.or_eq_true,O,m_,n_,or_assoc,ne_eq]
theorem Gj {a a' l1 l2 l3 l4 l5 l6:Bool}{b b' c c':Int}(h1:a=a')(h2:b=b')(h3:c=c'):ai (.dr [.bool l1 a,.int .i64 l2 b,.int .u64 l3 c,.bool A A]) (.dr [.bool l4 a',.int .i64 l5 b',.int .u64 l6 c',.bool A A]):=by subst h1;subst h2;subst h3;exact λ_=>rfl
theorem YE (hs:s.length<9223372036854775808):au (jd XY 202 ec [.str C s] (adq s)):=by
 refine au.j7 (awo s) (by delta Fk Bk I6 Ix NI gO aM bx bB bF bq kI aj aC az cU dM i7 fR Bz Dc rM BA uk gJ vl cc gb ja iJ m5 bP jJ gC pZ nu fk nH Qf FK FL arp arI arJ;exact rfl) ?_;have g0:=e8 s 0;have hl:s=[]∨0<s.length:=by cases s<;>simp
 have e1:ah s 0<192->lead s=ah s 0-128:=HL;have e2: ¬ ah s 0<192->lead s=ah s 0-192:=HK;have eB: ∀ {p:Prop},¬ (s≠[]/\(ah s 0<128∨¬ 55<lead s∨lead s-54<=s.length))->nY s=A->p:=λh h'=>absurd (Eg.1 h') h;have eN: ∀ {p:Prop},(s≠[]/\(ah s 0<128∨¬ 55<lead s∨lead s-54<=s.length))->nY s=C->p:=λh h'=>by rw[Eg.2 h] at h';cases h'
 repeat' first
  | apply And.intro
  | intro (h:_=A)
  | intro (h:_=C)
 all_goals simp only[m_,n_] at *
 all_goals first
  | omega
  | exact λ_=>rfl
  | (rcases hl with hl | hl
     ·contradiction
     ·omega)
  | (simp only[bT,ay,I];omega)
  | (refine eB (λhh=> ?_) (by assumption);obtain⟨h1,h2⟩:=hh;first | contradiction | omega)
  | (refine eN ⟨by assumption,by omega⟩ (by assumption))
  | (have hA:ah s 0<128:=by assumption
     exact Gj (by simp[e9];omega) (o_ hA).symm (o_ hA).symm)
  | (have hA: ¬ ah s 0<128:=by assumption
     have hL:55<lead s:=by omega
     refine Gj rfl ?_ ?_
     ·unfold cutFrom;rw[p_ hA,o_ hL];omega
     ·unfold nh part;rw[p_ hA,o_ hL];simp only[bT];congr 2;omega)
  | (have hA: ¬ ah s 0<128:=by assumption
     have hL: ¬ 55<lead s:=by omega
     refine Gj rfl ?_ ?_
     ·unfold cutFrom;rw[p_ hA,p_ hL]
     ·unfold nh;rw[p_ hA,p_ hL];omega)
def Ka:List SV->Option (Prop×fC)
 | [.str C s]=>G (s.length<9223372036854775808,adq s)
 | _=>J
theorem aoy:aq F 202 (bZ Ka):=by
 refine ee (n:=20) Tryz.func202 (by kernel_rfl) (by kernel_rfl) ?_;intro args p a h hp;unfold Ka at h;split at h
 ·rename_i s;cases h;refine⟨_,adl,rfl,λb=> ?_,YE hp⟩;cases b<;>exact rfl
 ·cases h
noncomputable def adY:List (FuncId×PT):=(73,yS zn agO)::(74,aI EE)::(202,bZ Ka)::adX
theorem SZ:aR F (λf=>av f adY):=.cons ala (DU _ _) (.cons avi (aE _) (.cons aoy (bK _) SY))
noncomputable def ane:iG:={bQ with cO:=λf=>av f adY}
theorem ayJ:Sx.Good F ane:=.of bI SZ aO
section
variable (s : h_)
abbrev PL:=bT s (cc 41) (cc 42) (cutFrom s) (cutFrom s+nh s)
abbrev wY:=cutFrom s+nh s
end
theorem att (s:h_):VC.holds (jd ane 172 b_ [.str C s] (Q3 s))=((fun(a:SV)=>(fun(b:SV)=>(fun(c:SV)=>aY (cW s) (aM 1048576 (nh s) (gC a c a (c9 s)) (aM (sK s) (i7 (i7 (cutFrom s)+nh s)) (gC a c a (c9 s)) (aC (I6 (nh s)) (I6 (wY s)) (kM (cutFrom s) (cutFrom s) (wY s) (gJ s (wY s))) (dA (PL s)) (Bk (e9 s) (aj (True/\zn [PL s]) (aj nT (0<=wY s) (gJ s (wY s))) (aX (gC a c a (c9 s)) (aY (dU (wY s) (gJ s (wY s)) (gJ s (bB s))) (ai b c) (ai b a) (c9 s)) (ew (di 192 (td [PL s])++flat [PL s]) (bT s J (cc 52) 0 (wY s))))) (cE (aj nT (0<=wY s) (gJ s (wY s))) (gC a c a (c9 s)) (aY (dU (wY s) (gJ s (wY s)) (gJ s (bB s))) (ai b c) (ai b a) (c9 s)) (ew (aS (PL s)) (bT s J (cc 52) 0 (wY s)))))))) (gC a c a (c9 s)) (nY s)) (m5 (gb (e9 s)) (aA (af s)) (aA (aH s)) qd)) (m5 (gb (e9 s)) (SV.str FA (PL s)) (oo s (wY s) (bB s) FA (cc 58) J) qd)) Qi):=by kernel_rfl
theorem AG (h:c9 s=A):nY s=A/\nh s<=1048576/\0<=nh s/\0<=cutFrom s/\cutFrom s+nh s<=s.length:=by
 obtain⟨h0,h⟩:=jL.1 h;have hl:=ct.2 h0;rw[Eg];rcases h with hA | ⟨hA,hL,hB,hP⟩ | ⟨hA,hL,hP,hN⟩
 ·unfold nh cutFrom;rw[o_ hA,o_ hA];exact⟨⟨h0,.inl hA⟩,by omega,by omega,by omega,by omega⟩
 ·obtain⟨g1,g2,g3,g4⟩:=n6.1 hB;unfold nh cutFrom;rw[p_ hA,o_ hL,p_ hA,o_ hL];exact⟨⟨h0,.inr (.inr g1)⟩,by omega,by omega,by omega,by omega⟩
 ·have:=HM hA;unfold nh cutFrom;rw[p_ hA,p_ hL,p_ hA,p_ hL];exact⟨⟨h0,.inr (.inl hL)⟩,by omega,by omega,by omega,by omega⟩
theorem adr (h:nY s=A):0<=cutFrom s/\0<=nh s/\cutFrom s<=9:=by
 obtain⟨h0,h⟩:=Eg.1 h;have g0:=e8 s 0;by_cases hA:ah s 0<128
 ·unfold nh cutFrom;rw[o_ hA,o_ hA];omega
 ·have:=HM hA;have hlt:lead s<64:=by unfold lead;split<;>omega
  have:=AW s (lead s-54);by_cases hL:55<lead s
  ·unfold nh cutFrom;rw[p_ hA,o_ hL,p_ hA,o_ hL];omega
  ·unfold nh cutFrom;rw[p_ hA,p_ hL,p_ hA,p_ hL];omega
theorem acm (_h0:0<=cutFrom s)(h1:0<=nh s)(h2:nh s<=1048576)(_h3:cutFrom s+nh s<=s.length) :
  mb (e9 s) (af s)=s.take (cutFrom s+nh s).toNat↔c9 s=true:=by
 constructor
 ·intro h;have e:s=mb (e9 s) (af s)++s.drop (cutFrom s+nh s).toNat:=by rw[h,eW]
  have hb:(af s).length<=1048576:=by unfold af;simp only[ay];omega
  have:=(ajr (l:=e9 s) hb (s.drop (cutFrom s+nh s).toNat)).1;rw[← e] at this;exact this
 ·intro h;have e:=Ho h;have e2:s.take (cutFrom s+nh s).toNat++aH s=s:=by unfold aH;rw[eW]
  exact List.append_cancel_right (e.trans e2.symm)
theorem Xb (hs:s.length<9223372036854775808):au (jd ane 172 b_ [.str C s] (Q3 s)):=by
 refine au.j7 (att s) (by delta Fk Bk I6 NI fu aM bx bB bq aj qd aC cU aA i7 fR FA nT gJ dU kM cc gb oo m5 fz Qi dy cW aY dA aX gC cE td ew sK PL wY;exact rfl) ?_;cases hH:nY s with
 | false =>
   have hB:c9 s=false:=by rw[N];intro h;rw[(AG h).1] at hH;cases hH
   rw[hB];refine⟨hs,?_⟩;simp only[X,false_imp_iff,true_and,forall_const];exact λ_=>rfl
 | true =>
   obtain⟨a1,a2,a3⟩:=adr hH;refine⟨hs,?_,λh=>by cases h⟩;intro _;refine⟨λh=> ?_,λh=> ?_⟩
   ·have hB:c9 s=false:=by rw[N];intro h';have:=(AG h').2.1;simp only[m_] at h;omega
    rw[hB];exact⟨(λh=>by cases h),λ_ _=>rfl⟩
   ·simp only[n_] at h;refine⟨λg=> ?_,λg=> ?_⟩
    ·have hB:c9 s=false:=by rw[N];intro h';have:=(AG h').2.2.2.2;simp only[m_] at g;omega
     rw[hB];exact⟨(λh=>by cases h),λ_ _=>rfl⟩
    ·simp only[n_] at g;have g:cutFrom s+nh s<=s.length:=by omega
     have eT:=acm a1 a2 (by omega) g;have eI: ∀ x y,bT s (G (S x)) (G (S y)) (cutFrom s) (cutFrom s+nh s)=af s:=λx y=>by simp only[bT,af];congr 1;omega
     have eK: ∀ x,bT s J (G (S x)) 0 (cutFrom s+nh s)=s.take (cutFrom s+nh s).toNat:=λ_=>rfl;have eR: ∀ x y,bT s (G (S x)) J (cutFrom s+nh s) y=aH s:=λ_ _=>rfl;have hl:(af s).length<=s.length:=by unfold af;simp only[ay,I];omega
     have hl2:(af s).length<=1048576:=by unfold af;simp only[ay,I];omega
     rw[eI,eK,eR];have fl:flat [af s]=af s:=by simp[flat]
     rw[fl];refine⟨by omega,by omega,by omega,by omega,λhL=> ?_,λhL=> ?_⟩
     ·rw[hL] at eT ⊢;simp only[mb,cond_true] at eT;refine⟨⟨trivial,by rw[zn,fl];exact⟨by omega,(by show 1<1152921504606846976;decide)⟩⟩,by omega,λk=> ?_,λk=> ?_⟩
      ·have hB:c9 s=false:=by rw[N];intro h';simp only[O,n_] at k;exact k (eT.2 h')
       rw[hB];exact⟨(λh=>by cases h),λ_ _=>rfl⟩
      ·have hB:c9 s=true:=by simp only[cT,m_] at k;exact eT.1 k
       rw[hB];exact⟨by omega,λ_ _=>rfl,λh=>by cases h⟩
     ·rw[hL] at eT ⊢;simp only[mb,cond_false] at eT;refine⟨by omega,λk=> ?_,λk=> ?_⟩
      ·have hB:c9 s=false:=by rw[N];intro h';simp only[O,n_] at k;exact k (eT.2 h')
       rw[hB];exact⟨(λh=>by cases h),λ_ _=>rfl⟩
      ·have hB:c9 s=true:=by simp only[cT,m_] at k;exact eT.1 k
       rw[hB];exact⟨by omega,λ_ _=>rfl,λh=>by cases h⟩
theorem aly:aq F 172 (bZ vU):=by
 refine ee (n:=20) Tryz.func172 (by kernel_rfl) (by kernel_rfl) ?_;intro args p a h hp;unfold vU at h;split at h
 ·rename_i s;cases h;refine⟨_,ayJ,rfl,λb=> ?_,Xb hp⟩;cases b<;>exact rfl
 ·cases h
noncomputable def adZ:List (FuncId×PT):=(172,bZ vU)::adY
theorem S0:aR F (λf=>av f adZ):=.cons aly (bK _) SZ
noncomputable def ajv (s:h_):aN :=
 {α:=Fe,pre:=λ_ x=>xI s x,nF:=λ_ x=>(cu s x.k).length,fresh:=1,slots:=λst x=>[(0,.str C (cu s x.k)),(4,.bY st.nx 1 A 0 x.k x.c)],
  mem:=λst x=>[(st.nx,.rows A x.k [.str (ax s)] C x.c 9)]}
noncomputable def anf (s:h_):iG:={bQ with cO:=λf=>av f adZ,bU:=λf=>if f=173 then [(2,always (ajv s))] else []}
theorem ayM (s:h_):Sx.Good F (anf s):=.of bI S0 aO
theorem ata (s:h_):VC.holds (jd (anf s) 173 b! [.str C s] (OG s))=((∃(a:Fe),aC (xI s a) (s=wV s a) (a.k=0) (fo (LV s a)) True)/\(∀(a:Fe),xI s a->gE (wV s a) (aY (dy (DD s a)) (aC (I6 (Ft s a)) (aj nT (0<=Ft s a) (Ft s a<=NI (DD s a))) (ahi a) (a.c=aF a.c) (∀(b:Nat),aJ (FP a) b (∃(c:Fe),aD (xI s c) (DD s c<DD s a) (aC (aH (wV s a)=wV s c) (fN (FP a) c.k b c.c) True (eZ (FP a) (aF b) (λb=>dg b a.k b a.k (ax s b) (bT (wV s a) J (cc 27) 0 (Ft s a))) (LV s c) 9) True)))) (Bk (ga s) (∃(a:Nat),br (ck s) a False) (ai Mn Mn)) (c9 (wV s a))) (Bk (ga s) (∃(b:Nat),dx (ck s<=b) (aa (LV s a) (cY (ck s) b (ax s) 9)) (fU (dh 0 1 a.k a.c)) (fU (dh 0 1 (ck s) b))) (ai (fU (dh 0 1 a.k a.c)) Mn)))):=by kernel_rfl
theorem VS (hs:s.length<1099511627776):au (jd (anf s) 173 b! [.str C s] (OG s)):=by
 refine au.j7 (ata s) (by delta Bk I6 Er NI aJ aF bx bq cP aj qd aC az cU nT cc dy aY aD fU aX gE Ft wV bN bJ cY LV aB b8 gZ FP ahi yH Mn DD dh cv bA aV br fo nG dx fN eZ dg;exact rfl) ?_;refine⟨⟨⟨0,0⟩,⟨λj hj=>absurd hj (cy _),Nat.le_refl _⟩,rfl,rfl,rfl,trivial⟩,λx hx=> ?_⟩;have hw:Walk s x.k:=hx.walk;have hl:=hw.len;obtain⟨i1,i2⟩:=hw.items;refine⟨λa=> ?_,λa=> ?_⟩
 ·have a:cu s x.k≠[]:=by simpa using a
  refine⟨by omega,λb=> ?_,λb=> ?_⟩
  ·have hlt:=J0 b;refine⟨by omega,by omega,⟨by omega,trivial,by omega,by omega⟩,by omega,λc hc=>⟨⟨x.k+1,c⟩,⟨⟨hw.snoc a b,hc⟩,?_⟩,?_,⟨rfl,rfl,rfl⟩,trivial,?_,trivial⟩⟩
   ·simp only[cu];exact hlt
   ·simp only[cu]
   ·refine Sx.aa.tO rfl (Nat.mul_one c) λi hi=> ?_;by_cases h:i<x.k
    ·rw[o_ h]
    ·rw[p_ h];have e:i=x.k:=by omega
     subst e;simp only[cB,l9,bT,ax,CL];rw[show((↑(cu s x.k).length:Int)-(↑(aH (cu s x.k)).length:Int)).toNat=(cu s x.k).length-(aH (cu s x.k)).length by omega];simp only[List.getD_cons_zero]
  ·have hb:=Kc a b;rw[← i1] at hb;exact⟨(λh=>by rw[hb] at h;cases h),λ_ _=>rfl⟩
 ·have a:cu s x.k=[]:=by simpa using a
  rw[a] at i1 i2;have n0:ck s=x.k:=by rw[i2,oY.2];omega
  have b0:ga s=true:=by rw[i1,oY.1]
  refine⟨λ_=>⟨x.c,by rw[n0];exact hx.cap,?_,?_⟩,λh=>by rw[b0] at h;cases h⟩
  ·rw[n0];exact aa.refl _
  ·rw[n0];exact λ_=>rfl
theorem ae6:aq F 173 VT:=by
 refine ee (n:=20) (fn:=b!) Tryz.func173 (by kernel_rfl) (by kernel_rfl) ?_;intro args p a h hp;unfold El at h;split at h
 ·rename_i s;cases h;refine⟨_,ayM s,rfl,λb=> ?_,VS hp⟩;cases b with
  | false=>exact rfl
  | true =>
    intro c;refine⟨rfl,rfl,λk=>by simp[SV.wf,SV.lY,Nat.blt_eq],λE E' k k' h=> ?_⟩;cases hn:ck s with
    | zero=>rfl
    | succ n =>rw[hn] at h;have hk:E k=E' k':=h rfl;simp[SV.val,SV.vals,hk]
 ·cases h
noncomputable def ao8:List (FuncId×PT):=(173,VT)::adZ
theorem akh:aR F (λf=>av f ao8):=.cons ae6 (bK _) S0
theorem vX (f:Nat->Int)(n:Nat):b7 f 0 (n+1)=b7 f 0 n++[K (f n).toNat]:=by unfold b7;rw[List.range_succ,List.map_append];simp
theorem U6 (hp:p.length<1152921504606846976):au (eS (amW p) 178 d_ [.str C p] (λv=>ai v (.bool C (ig p)))):=by
 refine au.j7 (asV p _) (by delta Fk I6 Ix NI aM bx bB aj bt fR aP nM gS fy sI i5 ij cR jH fE dF aiq;exact rfl) ?_;refine⟨⟨0,iC.zero _ _,rfl,trivial⟩,λx hx=>⟨λh=> ?_,λh=> ?_⟩⟩
 ·have h:(x:Int)<(p.length:Int):=i_ h;refine⟨by omega,λg=>bL ?_,λg=>⟨by omega,x+1,⟨hx.next h ?_,by omega⟩,by omega,trivial⟩⟩
  ·exact(all_none h (by rw[HW,g];rfl)).symm
  ·rw[HW,g];rfl
 ·have h: ¬ (x:Int)<(p.length:Int):=j_ h;exact bL (hx.done h).symm
theorem R5:aq F 178 (aI oa):=by
 refine fh (ee (n:=20) Tryz.func178 (by kernel_rfl) (by kernel_rfl) ?_);intro args p a h hp;unfold oa at h;split at h
 ·cases h;exact⟨_,ayu _,rfl,rfl,U6 hp⟩
 ·cases h
theorem XJ {k:h_}(hk:k.length<1099511627776):au (eS (amV k) 55 en [.str C k] (λv=>ai v (.str C (ak k)))):=by
 refine au.j7 (awc k _) (by delta Fk I6 Ix NI aM aJ bx bB aj aC fQ az bt gK aA dU kM br cI aP gS fy sI i5 cR jH fE ff lq;exact rfl) ?_;refine⟨⟨0,e4 _,rfl,rfl,trivial⟩,λx hx=>⟨λh=> ?_,λh=> ?_⟩⟩
 ·have h:(x:Int)<(k.length:Int):=i_ h;have hb:=e8 k (x:Int);refine⟨by omega,by omega,by omega,by omega,by rw[tH];omega,by omega,x+1,⟨by omega,by omega⟩,?_,by omega,trivial⟩;rw[show 2*(x+1)=2*x+1+1 by omega,vX,vX];have e0:jO k (2*x)=ah k (x:Int)/16:=by unfold jO;rw[o_ (by omega),show((2*x:Nat):Int)/2=(x:Int)by omega]
  have e1:jO k (2*x+1)=ah k (x:Int)%16:=by unfold jO;rw[p_ (by omega),show((2*x+1:Nat):Int)/2=(x:Int)by omega]
  rw[e0,e1,List.append_assoc];rfl
 ·have h: ¬ (x:Int)<(k.length:Int):=j_ h;have e:x=k.length:=by omega
  exact dc (by rw[e];rfl)
theorem XL:aq F 55 (aI qJ):=by
 refine fh (ee (n:=20) Tryz.func55 (by kernel_rfl) (by kernel_rfl) ?_);intro args p a h hp;unfold qJ at h;split at h
 ·cases h;exact⟨_,ayt _,rfl,rfl,XJ hp⟩
 ·cases h
theorem SO:aR F (λf=>av f adO):=.cons R5 (aE _) (.cons XL (aE _) n7)
theorem ays (p:h_):Sx.Good F (amU p):=.of bI SO aO
theorem acp (hp:p.length<1099511627776):au (jd (amU p) 139 c5 [.str C p] (abg p)):=by
 refine au.j7 (aAh p) (by delta Fk Bk I6 Ix NI fu dQ fM aM aJ fq bx bB cP aj aC fQ az cU bE dK dD gK aA fR dU bP dA aX br cK aP cN cR Iw zS pZ jl gI cE iI lq BJ;exact rfl) ?_;have none':ai (.dr [.str A [],.bool A C]) (.dr [.str A [],.bool A C]):=λ_=>rfl;refine⟨by omega,λa=>⟨λh=> ?_,λ_=>none'⟩,λa=>⟨by omega,λb=>⟨λh=> ?_,λ_=>none'⟩,λb=> ?_⟩⟩
 ·unfold vm at h;rw[a] at h;cases h
 ·have b:ig p=false:=by simpa using b
  unfold vm at h;rw[b,a!] at h;cases h
 ·have b:ig p=true:=by simpa using b
  have hB:vm p=true:=by unfold vm;rw[a,b];rfl
  have a: ¬ (p.length:Int)%2=1:=j_ a;rw[hB];refine⟨⟨0,e4 _,rfl,rfl,trivial⟩,λx hx=>⟨by omega,λh=> ?_,λh=>⟨λ_=> ?_,λh=>by cases h⟩⟩⟩
  ·have h:(2:Int)*(x:Int)+1<(p.length:Int):=i_ h;refine⟨by omega,by omega,by omega,by rw[tH];omega,by omega,x+1,⟨by omega,by omega⟩,?_,by omega,trivial⟩;rw[vX];rfl
  ·have h: ¬ (2:Int)*(x:Int)+1<(p.length:Int):=j_ h;have e:x=p.length/2:=by omega
   exact qW (by rw[e];rfl)
theorem afM:aq F 139 (bZ QH):=by
 refine ee (n:=20) Tryz.func139 (by kernel_rfl) (by kernel_rfl) ?_;intro args p a h hp;unfold QH at h;split at h
 ·cases h;exact⟨_,ays _,rfl,λb=>by cases b<;>exact rfl,acp hp⟩
 ·cases h
theorem SP:aR F (λf=>av f adP):=.cons afM (bK _) SO
theorem ayq:Sx.Good F amS:=.of bI SP aO
theorem Zz {b:UInt8}(hb:b.toNat<=15)(h:ig p=A):ig (b::p)=true:=by
 unfold ig;rw[cl];intro j hj;rw[a_,M] at hj;unfold HW;simp only[O,n_];cases j with
 | zero =>have e:ah (b::p) ((0:Nat):Int)=(b.toNat:Int):=rfl;rw[e];omega
 | succ j =>rw[dz];have:=Wq h j (by omega);omega
theorem HH (h:ig p=A)(leaf:Bool){q:h_}(hq:q=K (mR leaf (D ((p.length:Int)%2=1))).toNat::(bif D ((p.length:Int)%2=1)then p else 0::p)):vm q=A/\Gn q=gN p leaf:=by
 have hf:0<=mR leaf (D ((p.length:Int)%2=1))/\mR leaf (D ((p.length:Int)%2=1))<=3:=by cases leaf<;>cases D ((p.length:Int)%2=1)<;>exact⟨by decide,by decide⟩
 have hb:(K (mR leaf (D ((p.length:Int)%2=1))).toNat).toNat<=15:=by rw[UInt8.toNat_ofNat'];omega
 have hn:ig q=true:=by
  rw[hq];refine Zz hb ?_;cases D ((p.length:Int)%2=1)with
  | true=>exact h
  | false=>exact Zz (by decide) h
 have hl: ¬ (q.length:Int)%2=1:=by
  rw[hq];by_cases c:(p.length:Int)%2=1
  ·rw[k_ c];simp only[cond_true,M];omega
  ·rw[l_ c];simp only[cond_false,M];omega
 refine⟨by unfold vm;rw[hn,l_ hl];rfl,?_⟩;rw[SK hn,hq];rfl
theorem acr (leaf:Bool)(hp:p.length<1073741824):au (jd amS 203 ef [.str C p,.bool C leaf] (ZG p leaf)):=by
 refine au.j7 (aAi p leaf) (by delta Fk Bk NI fu dQ fM fq bx bB cP aj fQ az cU bE aA lU fR dU bP aY dA aX gC gX zS pZ jl ff bS k5 gI cE iI Dl IB IC;exact rfl) ?_;cases hn:ig p with
 | false=>exact⟨by omega,λ_=>⟨(λh=>by cases h),λ_ _=>rfl⟩,λh=>by cases h⟩
 | true =>
   have kp:=λl=>HH hn l (q:=_) rfl;refine⟨by omega,(λh=>by cases h),λ_=>⟨by omega,λhl=>⟨by omega,λa=> ?_,λa=> ?_⟩,λhl=>⟨by omega,λa=> ?_,λa=> ?_⟩⟩⟩
   all_goals subst hl
   ·have a:(p.length:Int)%2=0:=i_ a;obtain⟨k1,k2⟩:=HH hn A (q:=cat (cat [K (((↑p.length:Int)%(2:Int)%(256:Int)+(2:Int))%(256:Int)).toNat] [K 0]) p) (by rw[a,l_ (by omega)];rfl);rw[k1];refine⟨by omega,by omega,by simp only[cat,ag,M,an];omega,λ_=>⟨λ_=>qW k2,λh=>by cases h⟩,λh=>by cases h⟩
   ·have a: ¬ (p.length:Int)%2=0:=j_ a;obtain⟨k1,k2⟩:=HH hn A (q:=cat [K (((↑p.length:Int)%(2:Int)%(256:Int)+(2:Int))%(256:Int)).toNat] p) (by rw[show(p.length:Int)%2=1 by omega];rfl);rw[k1];refine⟨by omega,by simp only[cat,ag,M,an];omega,λ_=>⟨λ_=>qW k2,λh=>by cases h⟩,λh=>by cases h⟩
   ·have a:(p.length:Int)%2=0:=i_ a;obtain⟨k1,k2⟩:=HH hn C (q:=cat (cat [K ((↑p.length:Int)%(2:Int)%(256:Int)).toNat] [K 0]) p) (by rw[a,l_ (by omega)];rfl);rw[k1];refine⟨by omega,by omega,by simp only[cat,ag,M,an];omega,λ_=>⟨λ_=>qW k2,λh=>by cases h⟩,λh=>by cases h⟩
   ·have a: ¬ (p.length:Int)%2=0:=j_ a;obtain⟨k1,k2⟩:=HH hn C (q:=cat [K ((↑p.length:Int)%(2:Int)%(256:Int)).toNat] p) (by rw[show(p.length:Int)%2=1 by omega];rfl);rw[k1];refine⟨by omega,by simp only[cat,ag,M,an];omega,λ_=>⟨λ_=>qW k2,λh=>by cases h⟩,λh=>by cases h⟩
theorem afP:aq F 203 (bZ wB):=by
 refine ee (n:=20) Tryz.func203 (by kernel_rfl) (by kernel_rfl) ?_;intro args p a h hp;unfold wB at h;split at h
 ·cases h;exact⟨_,ayq,rfl,λb=>by cases b<;>exact rfl,acr _ hp⟩
 ·cases h
theorem akb:aR F (λf=>av f ao3):=.cons afP (bK _) SP
theorem ayr:Sx.Good F amT:=.of bI akb aO
theorem acn (hs:s.length<536870912):au (jd amT 174 c_ [.str C s] (Tk s)):=by
 refine au.j7 (aAg s) (by delta Fk Bk Er NI fu gO bx cP aj dM aA fR uk uv dU kM cc gb cJ oo tj bP gC gX pZ bS sA nu FF P4 GG Qq IU ary azY Qg arF;exact rfl) ?_;have e1: ∀ t,bT (ak s) (G (S t)) J 1 (↑(ak s).length:Int)=(ak s).drop 1:=λ_=>rfl;have e2: ∀ t,bT (ak s) (G (S t)) J 2 (↑(ak s).length:Int)=(ak s).drop 2:=λ_=>rfl;have n1:=KK s 1;have n2:=KK s 2;have d01:D ((0:Int)=(1:Int))=false:=rfl;have d11:D ((1:Int)=(1:Int))=true:=rfl;have hl:=jD s;have l1:((ak s).drop 1).length<1073741824:=by rw[I];omega
 have l2:((ak s).drop 2).length<1073741824:=by rw[I];omega
 have none':ai (.dr [.str A [],.bool A C,.bool A C]) (.dr [.str A [],.bool A C,.bool A C]):=λ_=>rfl
 have H: ∀ {n:Nat} {leaf:Bool},D (gN ((ak s).drop n) leaf=s)=A->
   (gU s=A->ai (.dr [.str C ((ak s).drop n),.bool A leaf,.bool A A]) (.dr [.str C (gM s),.bool C (fc s),.bool A A]))/\
   (gU s=C->ai (.dr [.str C ((ak s).drop n),.bool A leaf,.bool A A]) (.dr [.str A [],.bool A C,.bool A C])):=λh=>by
  obtain⟨g1,g2,g3⟩:=apF (i_ h);exact⟨λ_=>Ag g3.symm g2.symm,λh'=>by rw[g1] at h';cases h'⟩
 have W:(∀ n leaf,n=1∨n=2->n<=(ak s).length->gN ((ak s).drop n) leaf≠s)->
   (gU s=A->ai (.dr [.str A [],.bool A C,.bool A C]) (.dr [.str C (gM s),.bool C (fc s),.bool A A]))/\
   (gU s=C->ai (.dr [.str A [],.bool A C,.bool A C]) (.dr [.str A [],.bool A C,.bool A C])):=λh =>
  ⟨λh'=>(by rw[akJ h] at h';cases h'),λ_=>none'⟩
 simp only[e1,e2,n1,n2,d01,l1,l2,true_and,true_imp_iff,Z,false_imp_iff,and_true];refine⟨by omega,λa=>have a:=i_ a;⟨by omega,λh=>⟨by omega,H h⟩,λh1=>⟨by omega,λh=>⟨by omega,H h⟩,λh2=>⟨λb=>have b:=i_ b;⟨by omega,λh=>⟨by omega,H h⟩,λh3=>⟨by omega,λh=>⟨by omega,H h⟩,λh4=>W ?_⟩⟩,λb=>W ?_⟩⟩⟩,λa=>W ?_⟩
 ·intro n leaf hn _;rcases hn with rfl | rfl<;>cases leaf
  ·exact j_ h1
  ·exact j_ h2
  ·exact j_ h3
  ·exact j_ h4
 ·have b:=j_ b;intro n leaf hn hle;rcases hn with rfl | rfl
  ·cases leaf
   ·exact j_ h1
   ·exact j_ h2
  ·omega
 ·have a:=j_ a;intro n leaf hn hle;omega
def JN:List SV->Option (Prop×fC)
 | [.str C s]=>G (s.length<536870912,Tk s)
 | _=>J
theorem at0:aq F 174 (bZ JN):=by
 refine ee (n:=20) Tryz.func174 (by kernel_rfl) (by kernel_rfl) ?_;intro args p a h hp;unfold JN at h;split at h
 ·cases h;exact⟨_,ayr,rfl,λb=>by cases b<;>exact rfl,acn hp⟩
 ·cases h
noncomputable def adQ:List (FuncId×PT):=(178,aI oa)::(203,bZ wB)::(174,bZ JN)::ao8
theorem SQ:aR F (λf=>av f adQ):=.cons R5 (aE _) (.cons afP (bK _) (.cons at0 (bK _) akh))
noncomputable def am8:iG:={bQ with cO:=λf=>av f adQ}
theorem aop:Sx.Good F am8:=.of bI SQ aO
def jF (t:h_):h_:=bif c9 t then af t else []
def K3:List SV->Option (Prop×SV)
 | [.str C t]=>G (t.length<9223372036854775808,.str C (jF t))
 | _=>J
noncomputable def V2:List (FuncId×PT):=(142,bZ wk)::(175,aI K3)::adQ
noncomputable def V3 (L:Nat):List (FuncId×PT):=(141,bZ (jS L))::V2
noncomputable def awX (L:Nat):iG:={bQ with cO:=λf=>av f (V3 L)}
def GK (L:Nat):List SV->Option (Prop×SV)
 | [.str C t]=>G (Rel L t,.bool C (jN cS t))
 | _=>J
noncomputable def ao6 (L:Nat):List (FuncId×PT):=(205,aI (GK L))::V3 L
noncomputable def aud (x:Nd):aN :={α:=Nat,pre:=λ_ i=>i<=16,nF:=λ_ i=>16-i,fresh:=0,slots:=λ_ i=>[(3,.int .i64 C (fH x.r i)),(4,.int .i64 C i)],mem:=λ_ _=>[]}
noncomputable def ax0 (x:Nd):aN :={α:=Nat,pre:=λ_ i=>i<=16/\rC cS x.r i=A,nF:=λ_ i=>16-i,fresh:=0,slots:=λ_ i=>[(7,.int .i64 C i)],mem:=λ_ _=>[]}
noncomputable def awZ (L:Nat)(x:Nd):iG:={bQ with cO:=λf=>av f (ao6 L),bU:=λf=>if f=180 then [(3,always (aud x)),(17,always (ax0 x))] else []}
noncomputable def ax4 (x:Nd):aN :=
 {α:=Nat×Nat,pre:=λ_ g=>g.1<=16/\g.1<=g.2,nF:=λ_ g=>16-g.1,fresh:=1,slots:=λst g=>[(6,.bY st.nx 1 A 0 g.1 g.2),(7,.int .i64 C g.1)],
  mem:=λst g=>[(st.nx,.rows A g.1 [.str (dX x.r 16)] C g.2 9)]}
noncomputable def am9 (x:Nd):iG:={bQ with cO:=λf=>av f V2,bU:=λf=>if f=181 then [(12,always (ax4 x))] else []}
noncomputable def adT (L:Nat):List (FuncId×PT):=(180,aI (js λx=>G (pN L x.r/\x.p.length<1152921504606846976,.bool C (aZ x))))::(181,aI (js λx=>G ((0<=x.k/\x.k<=3)/\x.An,.str C (eM x))))::V3 L
noncomputable def awY (L:Nat):iG:={bQ with cO:=λf=>av f (adT L)}
noncomputable def adU (L:Nat):List (FuncId×PT):=(146,bZ (vA λx=>G (pN L x.r/\x.p.length<1152921504606846976,ZW x)))::adT L
noncomputable def ax3 (s:h_):aN :=
 {α:=Nat,pre:=λ_ i=>i<=16,nF:=λ_ i=>16-i,fresh:=0,slots:=λ_ i=>[(14,.int .i64 C i)],
  mem:=λst i=>match slot st.tmps 4 with
   | some (.ptr k _ _)=>[(k,.cells (aiS (af s) i) 19 138)]
   | _=>[]}
noncomputable def ana (L:Nat)(s:h_):iG:={bQ with cO:=λf=>av f (adU L),bU:=λf=>if f=135 then [(21,always (ax3 s))] else []}
def ar4 (s:h_):fC:=.fork (bM s) λb=>match b with
 | true=>.ret (.dr [(getD s).sv,.bool A A])
 | false=>.ret (.dr [jm,.bool A C])
def KW (L:Nat):List SV->Option (Prop×fC)
 | [.str C s]=>G (s.length<=L/\s.length<9223372036854775808,ar4 s)
 | _=>J
noncomputable def adV (L:Nat):List (FuncId×PT):=(135,bZ (KW L))::adU L
noncomputable def af3 (L:Nat):iG:={bQ with cO:=λf=>av f (adV L)}
noncomputable def acK:iG:={bQ with cO:=λf=>av f ((135,λ_ _ _ _=>.fail "not to be called")::V2)}
section
variable (n : Nat) (s : h_) (y : Nat × Nat) (x : Nd) (z : SV-> Prop)
abbrev Qe:=gN x.p (cJ x.k 1)
abbrev aiH:List h_:=[aS (Qe x),x.r 0]
abbrev Uf:=0<1152921504606846976
abbrev az1:=aY (GG x.p) (k8 1 (az (dA x.v) (dA (Qe x)) (True/\zn (aS (Qe x)::IQ x)) (z (aA (di 192 (td (aS (Qe x)::IQ x))++flat (aS (Qe x)::IQ x))))) (aj (dA (Qe x)) (True/\zn (aiH x)) (z (aA (di 192 (td (aiH x))++flat (aiH x))))) x) (k8 1 (az (dA x.v) Uf (True/\zn (jX::IQ x)) (z (aA (di 192 (td (jX::IQ x))++flat (jX::IQ x))))) (aj Uf (True/\zn [jX,x.r 0]) (z (aA (di 192 (td [jX,x.r 0])++flat [jX,x.r 0])))) x) (ig x.p)
abbrev LR:=gL y.1 y.1 2 y.1 16 y.1
abbrev ahc:=cY y.1 y.2 (dX x.r 16) 9
abbrev aiu:=jw (λa=>if a<y.1 then kH 16 a x else l9 (Ic x) (a-y.1)) 0 (jc y)
abbrev aqH:=k8 3 ((∃(a:Nat×Nat),aC (Mc a/\nS a) (a.1=0) (0=eD a) (fo (ahc a x)) (yK x))/\(∀(a:Nat×Nat),Mc a/\nS a->aM (eD a) 16 (aj (Ix (eD a) 16) (mu 16 (eD a)) (ja (mF (ey (eD a)) x) (az oN (LR a) (BF a) (∀(b:Nat),cN (jc a) b (dD (eD a)) (∃(c:Nat×Nat),cK (aD (Mc c) (nS c) (PX c a)) (nG (jc a) c.1 (b=c.2)) True (bt (eD a) (eD c)) (eZ (jc a) (aF b) (λb=>dg b a.1 b a.1 (kH 16 b x) jX) (ahc c x) 9) (yK x)))) (aj (LR a) (BF a) (∀(b:Nat),cN (jc a) b (dD (eD a)) (∃(c:Nat×Nat),cK (aD (Mc c) (nS c) (PX c a)) (nG (jc a) c.1 (b=c.2)) True (bt (eD a) (eD c)) (eZ (jc a) (aF b) (λb=>dg b a.1 b a.1 (kH 16 b x) (mF (ey (eD a)) x)) (ahc c x) 9) (yK x)))))) (az (dA x.v) (LR a) (BF a) (∀(b:Nat),cN (jc a) b (aD i9 (b8 (jc a) (jc a)) (zn (aiu a x))) (z (aA (di 192 (td (aiu a x))++flat (aiu a x)))))))) (oN/\z (aA jX)) x
abbrev ak3:=k7 (bF (getD s).k) (aA (getD s).p::aA (getD s).v::aG (mA 0 s) (mA 1 s) (mA 2 s) (mA 3 s) (mA 4 s) (mA 5 s) (mA 6 s) (mA 7 s) (aG (mA 8 s) (mA 9 s) (mA 10 s) (mA 11 s) (mA 12 s) (mA 13 s) (mA 14 s) (mA 15 s) cx))
abbrev zJ:=fH x.r n
abbrev Ue:=FB x<1152921504606846976
abbrev pU:=D (x.r n=[])
end
theorem awi (t:h_):VC.holds (jd am8 142 c7 [.str C t] (SE t))=(aX (bP jl (zW t) jl jl (cH t)) (cE (vl t) (bP jl (zW t) jl jl (cH t)) (Qp t/\bP (gI (SV.str uv (IT t))) (zW t) (gI (SV.str uv (IT t))) jl (cH t)) (cJ (rM t) 160)) (cJ (bB t) 33)):=by kernel_rfl
theorem awk (t:h_)(R:SV->Prop):VC.holds (eS am8 175 c! [.str C t] R)=(t.length<(9223372036854775808:Nat)/\(c9 t=A->R (SV.str C (af t)))/\(c9 t=C->R (SV.str A []))):=by kernel_rfl
theorem alR (L:Nat)(t:h_)(R:SV->Prop):VC.holds (eS (awX L) 205 ek [.str C t] R)=(t.length<(9223372036854775808:Nat)/\(cH t=A->Rel L t/\(cS t=A->R (SV.bool A A))/\(cS t=C->R (SV.bool A A)))/\(cH t=C->Rel L t/\(cS t=A->R (SV.bool A A))/\(cS t=C->R (SV.bool A C)))):=by kernel_rfl
theorem as5 (L:Nat)(x:Nd)(R:SV->Prop):VC.holds (eS (awZ L x) 180 Tryz.f180 [x.sv] R)=(cR (∀(a:Nat),mJ a->Fk (qN a) (gX (fE a 16) (lu a<16) (aj (dD (zJ a x)) (i5 a) (∃(b:Nat),az (pH b a) (bt (zJ a x) (zJ b x)) (gS a b) (yK x))) (dF a (λb=>az (pH b a) (zJ a x=zJ b x) (gS a b) (yK x))) (DH a x)) (k8 0 (R (SV.bool (mq gO gO gO (mq gO gO gO gO (mq gO gO gO gO (mq gO gO gO gO (mq gO gO gO gO A)))) A) (mq (cJ x.k 0) (D (x.p=[])) (D (x.v=[])) (mq (D (oH x=[])) (pU 1 x) (pU 2 x) (pU 3 x) (mq (pU 4 x) (pU 5 x) (pU 6 x) (pU 7 x) (mq (pU 8 x) (pU 9 x) (pU 10 x) (pU 11 x) (mq (pU 12 x) (pU 13 x) (pU 14 x) (pU 15 x) A)))) A))) (k8 1 (aY (Ue x) (dM (NI (FB x)) 12 (dM 1 (Fu x) (dM (Fu x) 80 (R (nH (cJ (zJ a x) 0))) (ij R)) (ij R)) (ij R)) (ij R) (ig x.p)) (k8 2 (aY (Rel L (oH x)) (aY (Ue x) (dM (NI (FB x)) 12 (gE x.p (ja x.v (bE (zJ a x) 1 (aY (Rel L (oH x)) (R (nH (cJ (getD (oH x)).k 3))) (ij R) (jN cS (oH x))) (ij R)) (ij R)) (ij R)) (ij R)) (ij R) (ig x.p)) (aY (Ue x) (dM (NI (FB x)) 12 (gE x.p (ja x.v (bE (zJ a x) 1 (aY (Rel L (oH x)) (R nM) (ij R) (jN cS (oH x))) (ij R)) (ij R)) (ij R)) (ij R)) (ij R) (ig x.p)) (cS (oH x))) (k8 3 (cR (∀(b:Nat),PN b x->Fk (qN b) (gX (fE b 16) (lu b<16) (az (fE b 16) (lu b<16) (Rel L (qc b x)) (aX (ij R) (dF b (λa=>aj (Ud a b x) (gS b a) (yK x))) (jN cS (qc b x)))) (dF b (λa=>aj (Ud a b x) (gS b a) (yK x))) (DH b x)) (gE x.v (jk (zJ a x) (ja x.p (dM (Fu x) 80 (R (nH (D (2<=zJ a x+1)))) (ij R)) (ij R))) (ja x.p (dM (Fu x) 80 (R (nH (D (2<=zJ a x)))) (ij R)) (ij R)))) (λa=>aj (PN a x) (fy a) (yK x))) (ij R) x) x) x) x)) (λa=>az (mJ a) (0=zJ a x) (fy a) (yK x))):=by kernel_rfl
theorem as4 (x:Nd)(R:SV->Prop):VC.holds (eS (am9 x) 181 d! [x.sv] R)=(k8 1 (k8 1 (az1 x R) (aqH x R) x) (k8 2 (az1 x R) (aqH x R) x) x):=by kernel_rfl
theorem aAl (L:Nat)(x:Nd):VC.holds (jd (awY L) 146 c8 [x.sv] (ZW x))=(aD (pN L (rR x)) (Ue x) (ahK x)):=by kernel_rfl
theorem alQ (L:Nat)(t:h_):VC.holds (jd (af3 L) 141 c6 [.str C t] (aoG t))=((fun(a:SV)=>dM 32 (bB t) (FE t a) (aD (fk L t) (cW t) (Bk (bM t) (k8 0 (FE t a) (bP (gI (ak3 t)) (FU t) (gI (ak3 t)) (cU jm nu) (cS t)) (getD t)) (FE t a)))) z6):=by kernel_rfl
theorem afy (t:h_):VC.holds (jd acK 141 c6 [.str C t] (aoG t))=(dM 32 (bB t) (bP z6 (FU t) z6 (cU jm nu) (cS t)) False):=by kernel_rfl
theorem aAk (L:Nat)(s:h_):VC.holds (jd (af3 L) 89 Tryz.f89 [.str C s] (Yy s))=(aD (fk L s) (cW s) (Bk (bM s) (bP (fU (ak3 s)) (fU (Nd.sv (getD s))) (fU (ak3 s)) aaT (bM s)) (bP (cP lI (bq 2) cx) (fU (Nd.sv (getD s))) (cP lI (bq 2) cx) aaT (bM s)))):=by kernel_rfl
theorem ajg (hk:x.k=1):aZ x=(ig x.p&&(D ((x.p.length:Int)<=12)&&(D (1<=(x.v.length:Int))&&(D ((x.v.length:Int)<=80)&&D (fH x.r 16=0))))):=by
 unfold aZ mN;rw[hk,p_ (by decide),o_ rfl,Yx];unfold sD pF;have h0:D ((0:Int)<=(x.p.length:Int))=true:=k_ (by omega);have h1:(!decide (x.v=[]))=D (1<=(x.v.length:Int)):=by
  cases hv:x.v with
  | nil=>rfl
  | cons b r =>rw[l_ (by simp),k_ (by simp only[M];omega)];rfl
 rw[h0,h1,bW];cases ig x.p<;>cases D ((x.p.length:Int)<=12)<;>rfl
theorem azE (h:jN cS t=A):t≠[]:=λe=>by subst e;revert h;decide
theorem apI (h:cH t=A):cS t=false:=by rw[N];intro h';have:=ru h;have:=vt h';omega
theorem awa (hk:x.k=2):aZ x=(ig x.p&&(D ((x.p.length:Int)<=12)&&(!decide (x.p=[])&&(D (x.v=[])&&(D (fH x.r 16=1)&&(jN cS (x.r 0)&&(!cS (x.r 0)||decide ((getD (x.r 0)).k=3)))))))):=by
 unfold aZ mN;rw[hk,p_ (by decide),p_ (by decide),o_ rfl];unfold yu pF;have h1:D ((1:Int)<=(x.p.length:Int))= !decide (x.p=[]):=by
  cases hv:x.p with
  | nil=>rfl
  | cons b r =>rw[l_ (p:=(b::r)=[]) (by simp),k_ (by simp only[M];omega)];rfl
 have h2:(cH (x.r 0)||(cS (x.r 0)&&D ((getD (x.r 0)).k=3)))=(jN cS (x.r 0)&&(!cS (x.r 0)||decide ((getD (x.r 0)).k=3))):=by
  unfold jN;cases hh:cH (x.r 0)with
  | true=>rw[apI hh];rfl
  | false=>cases cS (x.r 0)<;>rfl
 have h3:(D (dG x.r 16=1)&&(jN cS (x.r 0)&&(!cS (x.r 0)||decide ((getD (x.r 0)).k=3))))=(D (fH x.r 16=1)&&(jN cS (x.r 0)&&(!cS (x.r 0)||decide ((getD (x.r 0)).k=3)))):=by
  cases hm:jN cS (x.r 0)with
  | false=>rw[bf,a!,a!]
  | true=>rw[aof (azE hm)]
 rw[h1,h2,h3];cases ig x.p<;>cases D ((x.p.length:Int)<=12)<;>cases D (x.p=[])<;>rfl
theorem ajh (hk:x.k=3):aZ x=(rC cS x.r 16&&(D (x.p=[])&&(D ((x.v.length:Int)<=80)&&D (2<=(bif D (x.v=[])then 0 else 1)+fH x.r 16)))):=by
 unfold aZ mN;rw[hk,p_ (by decide),p_ (by decide),p_ (by decide),o_ rfl];unfold iS;have h1:min (x.v.length:Int) 1=bif D (x.v=[])then 0 else 1:=by
  cases hv:x.v with
  | nil=>rfl
  | cons b r =>rw[l_ (p:=(b::r)=[]) (by simp)];simp only[M,cond_false];omega
 rw[h1];cases rC cS x.r 16<;>cases D (x.p=[])<;>cases D ((x.v.length:Int)<=80)<;>rfl
theorem ajf (hk:x.k=0):aZ x=wA x:=by unfold aZ mN;rw[hk,o_ rfl]
theorem asU (h0: ¬ x.k=0)(h1: ¬ x.k=1)(h2: ¬ x.k=2)(h3: ¬ x.k=3):aZ x=false:=by unfold aZ mN;rw[p_ h0,p_ h1,p_ h2,p_ h3]
theorem awb (h:aZ x=A):0<=x.k/\x.k<=3:=by rcases yj h with ⟨h,_⟩ | ⟨h,_⟩ | ⟨h,_⟩ | ⟨h,_⟩<;>omega
theorem aok (hv:aZ x=A)(hp:eM x=s):bM s=A/\(getD s).JK x:=by
 have:=mV hv
 rwa [hp] at this
theorem auz (h:bM s=A):s.length<=700:=by
 obtain⟨_,h1,h2⟩:=Ef h;have:=(WH h1).2
 rwa [h2] at this
theorem Ya:aq F 142 (bZ wk):=by
 refine ee (n:=20) Tryz.func142 (by kernel_rfl) (by kernel_rfl) ?_;intro args p a h hp;unfold wk at h;split at h
 ·rename_i t;cases h;refine⟨_,aop,rfl,λb=>by cases b<;>exact rfl,au.j7 (awi t) (by delta Bk Ix NI fu gO bx bB cP aj cU aA fR rM BA uk uv gJ IT vl Qp cJ bP aX pZ jl gI cE zW;exact rfl) ?_⟩
  have no:ai (.dr [.str A [],.bool A C]) (.dr [.str A [],.bool A C]):=λ_=>rfl;refine⟨λa=>⟨λh=> ?_,λ_=>no⟩,λa=> ?_⟩
  ·have a: ¬ (t.length:Int)=33:=by simpa using a
   have:=(ado.1 h).1;omega
  ·have a:(t.length:Int)=33:=by simpa using a
   refine⟨by omega,λb=>⟨λh=> ?_,λ_=>no⟩,λb=>⟨by omega,λ_=> ?_,λh=> ?_⟩⟩
   ·have b: ¬ ah t 0=160:=by simpa using b
    exact absurd (ado.1 h).2 b
   ·have b:ah t 0=160:=by simpa using b
    have e:=auN (by omega) b;exact qW e.symm
   ·have b:ah t 0=160:=by simpa using b
    rw[ado.2 ⟨by omega,b⟩] at h;cases h
 ·cases h
theorem an0:aq F 175 (aI K3):=by
 refine iH aop (n:=20) (fn:=c!) Tryz.func175 (by kernel_rfl) (by kernel_rfl) ?_;intro args p r h hp;unfold K3 at h;split at h
 ·rename_i t;cases h;refine⟨rfl,rfl,au.of_eq (awk t _) ⟨hp,λa=>dc ?_,λa=>dc ?_⟩⟩
  ·rw[jF,a];rfl
  ·rw[jF,a];rfl
 ·cases h
theorem Kn:aR F (λf=>av f V2):=.cons Ya (bK _) (.cons an0 (aE _) SQ)
theorem az4 {L:Nat}(h:pN L x.r):pN L (fun(i:Nat)=>[x.r 0,x.r 1,x.r 2,x.r 3,x.r 4,x.r 5,x.r 6,x.r 7,x.r 8,x.r 9,x.r 10,x.r 11,x.r 12,x.r 13,x.r 14,x.r 15].getD i []):=λj hj=>by show Rel _ ([x.r 0,x.r 1,x.r 2,x.r 3,x.r 4,x.r 5,x.r 6,x.r 7,x.r 8,x.r 9,x.r 10,x.r 11,x.r 12,x.r 13,x.r 14,x.r 15].getD j []);rw[jr x.r j hj];exact h j hj
theorem Vq (hk:0<=x.k/\x.k<=3)(hx:x.An):au (eS (am9 x) 181 d! [x.sv] (λv=>ai v (.str C (eM x)))):=by
 refine au.j7 (as4 x _) (by delta Fk Bk I6 Ix Sr Er NI aM aJ aF aj aC az bE dK mu dD bt aA cJ ja dy aY aD dA bN bJ cY aB gW b8 gZ cv bA aV fo nG cK eZ dg eD BF aP cN dS B9 mF kH IQ oN jX Ic td k8 yK PX Mc gL i9 jc nS GG Qe aiH Uf az1 LR ahc aiu aqH;exact rfl) ?_;have h1:=hx.p;have h2:=hx.v;have h0:=hx.r 0 (by decide);have jq: ∀ {a b:h_},a.length<=3000->b.length<=3000->zn [a,b]:=λ{a b} ha hb=>⟨by rw[wg];omega,by show 2<1152921504606846976;decide⟩
 have tl:=pn x.v;have pl:=λleaf=>pn (fB x leaf);have pq:=λleaf=>wD (x:=x) (leaf:=leaf);have pl1:=pl A;have pl2:=pl C;have pq1:=pq A;have pq2:=pq C;rcases adH hk with e | e | e | e
 ·have k1:D (x.k=1)=false:=by rw[e];rfl
  have k2:D (x.k=2)=false:=by rw[e];rfl
  have k3:D (x.k=3)=false:=by rw[e];rfl
  simp only[k1,k2,k3,X,false_imp_iff,true_imp_iff,eq_self];exact⟨trivial,trivial,trivial,by omega,dc (by rw[eM,o_ e];rfl)⟩
 ·have k1:D (x.k=1)=true:=by rw[e];rfl
  have k2:D (x.k=2)=false:=by rw[e];rfl
  have k3:D (x.k=3)=false:=by rw[e];rfl
  simp only[k1,k2,k3,Z,X,false_imp_iff,true_imp_iff,eq_self];refine⟨⟨⟨by omega,λa=>⟨?_,trivial⟩,λa=>⟨?_,trivial⟩⟩,trivial⟩,trivial⟩
  ·have ep:gN x.p A=fB x true:=by rw[fB,a];rfl
   rw[ep];exact⟨by omega,by omega,⟨trivial,jq (by omega) (by omega)⟩,dc (by rw[eM,p_ (by omega),o_ e];rfl)⟩
  ·have ep:[]=fB x true:=by rw[fB,a];rfl
   rw[ep];exact⟨by omega,by omega,⟨trivial,jq (by omega) (by omega)⟩,dc (by rw[eM,p_ (by omega),o_ e];rfl)⟩
 ·have k1:D (x.k=1)=false:=by rw[e];rfl
  have k2:D (x.k=2)=true:=by rw[e];rfl
  have k3:D (x.k=3)=false:=by rw[e];rfl
  simp only[k1,k2,k3,Z,X,false_imp_iff,true_imp_iff,eq_self];refine⟨trivial,⟨by omega,λa=>⟨trivial,?_⟩,λa=>⟨trivial,?_⟩⟩,trivial⟩
  ·have ep:gN x.p C=fB x false:=by rw[fB,a];rfl
   rw[ep];exact⟨by omega,⟨trivial,jq (by omega) (by omega)⟩,dc (by rw[eM,p_ (by omega),p_ (by omega),o_ e];rfl)⟩
  ·have ep:[]=fB x false:=by rw[fB,a];rfl
   rw[ep];exact⟨by omega,⟨trivial,jq (by omega) (by omega)⟩,dc (by rw[eM,p_ (by omega),p_ (by omega),o_ e];rfl)⟩
 ·have k1:D (x.k=1)=false:=by rw[e];rfl
  have k2:D (x.k=2)=false:=by rw[e];rfl
  have k3:D (x.k=3)=true:=by rw[e];rfl
  simp only[k1,k2,k3,Z,X,false_imp_iff,true_imp_iff,eq_self];refine⟨trivial,trivial,⟨⟨(0,0),⟨by omega,by omega⟩,rfl,rfl,rfl,aa.refl _,trivial⟩,λg hg=>⟨λa=> ?_,λa=> ?_⟩⟩,trivial⟩
  ·have a:=i_ a;have hi:g.1<16:=by omega
   rw[Q,B5 x.r hi]
   refine⟨by omega,by omega,λb=>⟨by omega,⟨by omega,trivial,by omega,by omega⟩,by omega,λc hc=>⟨by omega,(g.1+1,c),⟨⟨by show g.1+1<=16;omega,hc⟩,by show 16-(g.1+1)<_;omega⟩,⟨trivial,rfl,rfl⟩,trivial,by show(g.1:Int)+1=((g.1+1:Nat):Int);omega,Sx.aa.tO rfl (Nat.mul_one c) λj hj=> ?_,aa.refl _,trivial⟩⟩,
    λb=>⟨⟨by omega,trivial,by omega,by omega⟩,by omega,λc hc=>⟨by omega,(g.1+1,c),⟨⟨by show g.1+1<=16;omega,hc⟩,by show 16-(g.1+1)<_;omega⟩,⟨trivial,rfl,rfl⟩,trivial,by show(g.1:Int)+1=((g.1+1:Nat):Int);omega,Sx.aa.tO rfl (Nat.mul_one c) λj hj=> ?_,aa.refl _,trivial⟩⟩⟩
   ·have b:=i_ b;by_cases h:j<g.1
    ·rw[o_ h]
    ·have ej:j=g.1:=by omega
     subst ej;rw[p_ h,cB,dX,o_ hi,o_ b];rfl
   ·have b:=j_ b;by_cases h:j<g.1
    ·rw[o_ h]
    ·have ej:j=g.1:=by omega
     subst ej;rw[p_ h,cB,dX,o_ hi,p_ b];rfl
  ·have a:=j_ a;have hg1:=hg.1;have eg:g.1=16:=by omega
   rw[eg];have er:jw (fun(j:Nat)=>if j<16 then dX x.r 16 j else l9 [aS x.v] (j-16)) 0 (16+1)=Rk x:=rfl
   rw[er];have bl:(flat (Rk x)).length<=(Rk x).length*2000:=VB λy hy=>by
    rcases afW hy with ⟨j,hj,e⟩ | e
    ·have:=amJ hx 16 j hj;rw[e];omega
    ·rw[e];omega
   have bn:(Rk x).length=17:=rfl;exact⟨by omega,⟨by omega,trivial,by omega,by omega⟩,by omega,λc hc=>⟨⟨⟨trivial,by omega⟩,by omega,by omega⟩,dc (by rw[eM,p_ (by omega),p_ (by omega),p_ (by omega)];rfl)⟩⟩
theorem ajM:aq F 181 (aI (js λx=>G ((0<=x.k/\x.k<=3)/\x.An,.str C (eM x)))):=by refine LL Tryz.func181 (by kernel_rfl) (by kernel_rfl) λx p v h hp=> ?_;cases h;exact⟨am9 x,[x.sv],.of bI Kn aO,λE=>rfl,rfl,rfl,Vq hp.1 hp.2⟩
section
variable {L : Nat} (hI : aq F 141 (bZ (jS L)))
include hI
theorem Ko:aR F (λf=>av f (V3 L)):=.cons hI (bK _) Kn
theorem ac4:aq F 205 (aI (GK L)):=by
 refine iH (.of bI (Ko hI) aO) (cfg:=awX L) (n:=20) Tryz.func205 (by kernel_rfl) (by kernel_rfl) ?_;intro args p r h hp;unfold GK at h;split at h
 ·rename_i t;cases h;have hp:Rel L t:=hp;refine⟨rfl,rfl,au.of_eq (alR L t _) ⟨hp.2,λa=>⟨hp,λb=>bL ?_,λb=>bL ?_⟩,λa=>⟨hp,λb=>bL ?_,λb=>bL ?_⟩⟩⟩
  ·rw[jN,a];rfl
  ·rw[jN,a];rfl
  ·rw[jN,a,b];rfl
  ·rw[jN,a,b];rfl
 ·cases h
theorem akf:aR F (λf=>av f (ao6 L)):=.cons (ac4 hI) (aE _) (Ko hI)
theorem ajQ:aq F 180 (aI (js λx=>G (pN L x.r/\x.p.length<1152921504606846976,.bool C (aZ x)))):=by
 refine LL Tryz.func180 (by kernel_rfl) (by kernel_rfl) λx p v h hp=> ?_;cases h;have hp:pN L x.r/\x.p.length<1152921504606846976:=hp;refine⟨awZ L x,[x.sv],.of bI (akf hI) aO,λE=>rfl,rfl,rfl,au.j7 (as5 L x _) (by delta Fk Bk I6 Ix Sr NI gO tc mq bx aj az bE dK dM dD bt jk fR cJ ja aY aX gE gW aV br gX aP nM gS fy i5 ij cR fE dF dS B9 lu pH qN mJ mF qc DH FB Fu nH oH PN Ud k8 yK zJ Ue pU;exact rfl) ?_⟩;refine⟨⟨0,by omega,rfl,rfl,aa.refl _,trivial⟩,λi hi=>⟨λa=> ?_,λa=> ?_⟩⟩
 ·have a:=i_ a;have ei:i<16:=by omega
  have fn:=Nl x.r i;rw[Q,B5 x.r ei];refine⟨by omega,by omega,λb=>⟨by omega,by omega,i+1,⟨by omega,by omega⟩,?_,by omega,aa.refl _,trivial⟩,λb=>⟨by omega,i+1,⟨by omega,by omega⟩,?_,by omega,aa.refl _,trivial⟩⟩
  ·have b: ¬ x.r i=[]:=by simpa using b
   rw[fH,p_ b]
  ·have b:x.r i=[]:=by simpa using b
   rw[fH,o_ b]
 ·have a:=j_ a;have ei:i=16:=by omega
  subst ei;have fn:=Nl x.r 16;refine⟨λk0=>bL ?_,λk0=>⟨λk1=> ?_,λk1=>⟨λk2=> ?_,λk2=>⟨λk3=> ?_,λk3=>bL ?_⟩⟩⟩⟩
  ·rw[ajf (i_ k0),wA,show eP 16=[0,1,2,3,4,5,6,7,8,9,10,11,12,13,14,15] from by decide]
   simp only[List.all_cons,List.all_nil,Bool.and_true]
  ·rw[ajg (i_ k1)];refine⟨hp.2,λa1=>⟨λa2=>⟨λa3=>⟨λa4=>bL ?_,λa4=>bL ?_⟩,λa3=>bL ?_⟩,λa2=>bL ?_⟩,λa1=>bL ?_⟩
   ·rw[a1,a2,a3,a4];rfl
   ·rw[a1,a2,a3,a4];rfl
   ·rw[a1,a2,a3];rfl
   ·rw[a1,a2];rfl
   ·rw[a1];rfl
  ·rw[awa (i_ k2)];have h0:=hp.1 0 (by decide)
   refine⟨h0,λb=>⟨hp.2,λa1=>⟨λa2=>⟨λa3=>⟨λa4=>⟨λa5=>⟨h0,λa6=>bL ?_,λa6=>bL ?_⟩,λa5=>bL ?_⟩,λa4=>bL ?_⟩,λa3=>bL ?_⟩,λa2=>bL ?_⟩,λa1=>bL ?_⟩,
    λb=>⟨hp.2,λa1=>⟨λa2=>⟨λa3=>⟨λa4=>⟨λa5=>⟨h0,λa6=>bL ?_,λa6=>bL ?_⟩,λa5=>bL ?_⟩,λa4=>bL ?_⟩,λa3=>bL ?_⟩,λa2=>bL ?_⟩,λa1=>bL ?_⟩⟩
   ·rw[a1,a2,a3,a4,a5,a6,b];rfl
   ·rw[a1,a2,a3,a4,a5,a6];rfl
   ·rw[a1,a2,a3,a4,a5];rfl
   ·rw[a1,a2,a3,a4];rfl
   ·rw[a1,a2,a3];rfl
   ·rw[a1,a2];rfl
   ·rw[a1];rfl
   ·rw[a1,a2,a3,a4,a5,a6,b];rfl
   ·rw[a1,a2,a3,a4,a5,a6];rfl
   ·rw[a1,a2,a3,a4,a5];rfl
   ·rw[a1,a2,a3,a4];rfl
   ·rw[a1,a2,a3];rfl
   ·rw[a1,a2];rfl
   ·rw[a1];rfl
  ·rw[ajh (i_ k3)];refine⟨⟨0,⟨by omega,rfl⟩,rfl,aa.refl _,trivial⟩,λj hj=>⟨λb=> ?_,λb=> ?_⟩⟩
   ·have b:=i_ b;have ej:j<16:=by omega
    rw[Q,B5 x.r ej];refine⟨by omega,by omega,λc=>⟨by omega,by omega,hp.1 j ej,λd=>bL ?_,λd=>⟨by omega,j+1,⟨⟨by omega,?_⟩,by omega⟩,by omega,aa.refl _,trivial⟩⟩,λc=>⟨by omega,j+1,⟨⟨by omega,?_⟩,by omega⟩,by omega,aa.refl _,trivial⟩⟩
    ·have c: ¬ x.r j=[]:=by simpa using c
     have d:jN cS (x.r j)=false:=by simpa using d
     rw[O8 ej c d];rfl
    ·have d:jN cS (x.r j)=true:=by simpa using d
     rw[rC,hj.2,d,Bool.or_true];rfl
    ·have c:x.r j=[]:=by simpa using c
     rw[rC,hj.2,k_ c];rfl
   ·have b:=j_ b;have hj1:=hj.1;have ej:j=16:=by omega
    subst ej;rw[hj.2];refine⟨λc=>⟨by omega,λd=>⟨λe=>bL ?_,λe=>bL ?_⟩,λd=>bL ?_⟩,λc=>⟨λd=>⟨λe=>bL ?_,λe=>bL ?_⟩,λd=>bL ?_⟩⟩
    ·have c:D (x.v=[])=false:=by simpa using c
     rw[c,d,e,Int.add_comm];rfl
    ·rw[d,e];rfl
    ·rw[d];rfl
    ·have c:D (x.v=[])=true:=by simpa using c
     rw[c,d,e];simp only[bW,cond_true,Int.zero_add]
    ·rw[d,e];rfl
    ·rw[d];rfl
  ·rw[asU (j_ k0) (j_ k1) (j_ k2) (j_ k3)]
theorem SW:aR F (λf=>av f (adT L)):=.cons (ajQ hI) (aE _) (.cons ajM (aE _) (Ko hI))
theorem agj:aq F 146 (bZ (vA λx=>G (pN L x.r/\x.p.length<1152921504606846976,ZW x))):=by
 refine ee (n:=20) Tryz.func146 (by kernel_rfl) (by kernel_rfl) ?_;intro args p a h hp;obtain⟨x,hx,hg⟩:=AP h;subst hx;cases hg;refine⟨awY L,.of bI (SW hI) aO,rfl,λb=>by cases b<;>exact rfl,au.j7 (aAl L x) (by delta Bk fu bq kI cP aA bP aD aX dS B9 FB mZ aU rR Ul FQ ahK Ue;exact rfl) ?_⟩
 have hp:pN L x.r/\x.p.length<1152921504606846976:=hp;have e:=qX (o8 x);have e2:=EG (o8 x);refine⟨⟨az4 hp.1,hp.2⟩,λa=> ?_,λa=> ?_⟩
 ·rw[e] at a;have a:aZ x=false:=by simpa using a
  rw[a];exact⟨(λh=>by cases h),λ_ _=>rfl⟩
 ·rw[e] at a;have a:aZ x=true:=by simpa using a
  have hs:=kj a;rw[e2,a];exact⟨⟨hs.k,Nd.An.same (o8 x) hs.few⟩,λ_ _=>rfl,λh=>by cases h⟩
theorem SX:aR F (λf=>av f (adU L)):=.cons (agj hI) (bK _) (SW hI)
end
end
end Go.Proofs.YtoibaecagklkaaaGreatDoor
