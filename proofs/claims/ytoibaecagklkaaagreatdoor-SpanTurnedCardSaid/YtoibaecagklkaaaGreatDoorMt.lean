/-
  Canon: plain laws: what is found by looking through the one trie.
-/
import Derived.Test.YtoibaecagklkaaaGreatDoorMs
import Derived.Test.YtoibaecagklkaaaGreatDoorMp
open Bool renaming and_eq_true->a_,false->A,false_or->c5,not_eq_false'->a!,not_eq_true'->Y,or_eq_true->bf,true->u,true_and->c6
open Decidable renaming decide->H
open Go.Proofs.Tryz renaming f100->c7,f101->c8,f102->c9,f103->bO,f19->c_,f62->c!,f64->d_,prog->I
open Int renaming eq_ofNat_of_zero_le->d!,toNat_natCast->M
open List renaming all_eq_false->ef,all_eq_true->ei,append_nil->Z,cons_ne_nil->b_,drop_zero->ej,filter_append->ek,filter_cons->en,getD_eq_getElem?_getD->W,getElem?_eq_getElem->ag,getElem?_eq_none->er,getElem?_map->b!,getElem?_range->cl,getLastD_cons->ct,length_append->an,length_cons->S,length_nil->eu,length_take->ez,mem_cons->ay,mem_cons_self->F,mem_filter->cx,mem_map->cy,mem_range->aK,not_mem_nil->aM,range->eA,take->C
open Nat renaming add->aN,beq->K,le_refl->c4,lt_irrefl->eB,not_lt_zero->T,succ_pos->eC,zero_add->Q,zero_le->R
open Option renaming getD_some->eL,map_some->eN,none->V,some->J
open UInt8 renaming ofNat->O,toNat_inj->eP,toNat_ofNat'->X
namespace Go.Proofs.YtoibaecagklkaaaGreatDoor
open Go Sx
set_option maxRecDepth 20000
theorem WW {m:Nat}: ∀ {l:List Rw},(dh (m+1) l).v≠[]->∃ x,x∈ l/\(dh (m+1) l).p=x.1
 | [],h=>absurd rfl h
 | [r],_=>⟨r,F ..,rfl⟩
 | r::s::t,h=>by
   refine⟨r,F ..,?_⟩;have e:dh (m+1) (r::s::t)=gN (λl'=>if l'=[] then [] else eS (cR (dh m l'))) (r::s::t):=rfl
   rw[e] at h ⊢;unfold gN at h ⊢;dsimp only at h ⊢;split at h
   ·exact absurd rfl h
   ·rename_i hk;rw[if_neg hk];dsimp only at h ⊢;by_cases he:r.1=[]
    ·exact he.symm
    ·rw[if_neg he] at h;exact absurd rfl h
theorem Xe {w:Sp}{m:Nat}{l:List Rw}{p:List UInt8}(s:Wk)(hk: ∀ x,x∈ l->kC (cat p x.1)=u):(s.iS w (dh (m+1) l) p).fs=s.fs++BV w.fr w.to p (dh (m+1) l):=by
 show(if eE w (dh (m+1) l) p=u then s.fs++[(aX (cat p (dh (m+1) l).p),(dh (m+1) l).v)] else s.fs)=_
 unfold eE BV;by_cases hv:(dh (m+1) l).v=[]
 ·rw[if_pos hv,decide_eq_true hv];simp
 ·obtain⟨x,hx,e⟩:=WW hv;rw[if_neg hv,decide_eq_false hv,e,hk x hx];by_cases hb:hasB w.fr w.to (cat p x.1)=u
  ·rw[if_pos hb,hb];rfl
  ·have:hasB w.fr w.to (cat p x.1)=false:=by simpa using hb
   rw[if_neg hb,this];simp
theorem HV {m:Nat}{l:List Rw}{p:List UInt8}{i:Nat}(h:cg (m+1) l){x:Rw}(hx:x∈ aP l i): ∃ y,y∈ l/\cat (fc (dh (m+1) l) p i) x.1=cat p y.1:=by
 match l,h with
 | [],_=>cases hx
 | [_],_=>cases hx
 | r::s::t,h =>
   have e:dh (m+1) (r::s::t)=gN (λl'=>if l'=[] then [] else eS (cR (dh m l'))) (r::s::t):=rfl
   rw[cI] at hx;rw[e];unfold gN;dsimp only;split at hx
   ·rename_i hk;rw[if_pos hk];split at hx
    ·obtain⟨y,hy,rfl⟩:=cy.1 hx;refine⟨y,hy,?_⟩;show(p++r.1.take (bH r.1 ((s::t).getLastD r).1))++y.1.drop (bH r.1 ((s::t).getLastD r).1)=p++y.1;rw[← sM h.yb hy,List.append_assoc,List.take_append_drop]
    ·cases hx
   ·rename_i hk;rw[if_neg hk];obtain⟨y,hy,rfl⟩:=cy.1 hx;refine⟨y,(cx.1 hy).1,?_⟩;have hy:=(cx.1 hy).2;rw[oV,decide_eq_true_eq] at hy;obtain⟨q,v⟩:=y;cases q with
    | nil=>cases hy
    | cons b q =>have hb:b.toNat=i:=Nat.succ.inj hy;show((p++[])++[O i])++q=p++b::q;rw[← hb,UInt8.ofNat_toNat];simp
theorem ace: ∀ a,a<16->∀ b,b<16->(a*16% 256) ||| b=a*16+b:=by decide
theorem NU {a b:Int}(ha:0<=a/\a<=15)(hb:0<=b/\b<=15):bitsOf .or (a*16% 256) b=a*16+b:=by
 obtain⟨x,rfl⟩:=d! ha.1;obtain⟨y,rfl⟩:=d! hb.1;have:=ace x (by omega) y (by omega);show(((((x:Int)*16% 256).toNat ||| ((y:Int)).toNat:Nat):Int))=_;rw[show((x:Int)*16% 256).toNat=x*16% 256 by omega,M,this]
 push_cast;rfl
theorem CU {f:Nat->Int}{n j:Nat}(h:j<n)(h0:0<=f j/\f j<256):ai (di f 0 n) (j:Int)=f j:=by unfold ai di;rw[W,M,b!,cl h];simp only[eN,eL,Q];rw[X];omega
theorem Kr (q:List UInt8)(j:Nat)(h:j<q.length):q[j]?=J (O (ai q (j:Int)).toNat):=by unfold ai;simp[W,ag h]
theorem BZ {q:List UInt8}{m:Nat}(hm:q.length=2*m)(hq: ∀ j:Nat,j<q.length->ai q (j:Int)<=15):ak (aX q)=q:=by
 have hnn: ∀ i,0<=ai q i:=λi=>(eO q i).1;have hl:(aX q).length=m:=by rw[BW,hm];omega
 have hpair: ∀ i:Nat,i<m->ai (aX q) (i:Int)=ai q ((2*i:Nat):Int)*16+ai q ((2*i+1:Nat):Int):=λi hi=>by
  have h1:=hq (2*i) (by omega);have h2:=hq (2*i+1) (by omega);have h3:=hnn ((2*i:Nat):Int);have h4:=hnn ((2*i+1:Nat):Int);have e:iu q i=ai q ((2*i:Nat):Int)*16+ai q ((2*i+1:Nat):Int):=by unfold iu;rw[show(2*(i:Int))=((2*i:Nat):Int)by push_cast;rfl,show(((2*i:Nat):Int)+1)=((2*i+1:Nat):Int)by push_cast;rfl];exact NU ⟨h3,h1⟩ ⟨h4,h2⟩
  unfold aX;rw[CU (by rw[hm];omega) (by rw[e];omega),e]
 apply List.ext_getElem?;intro j;by_cases hj:j<q.length
 ·rw[Kr q j hj];unfold ak di;rw[b!,cl (by rw[hl];omega)];simp only[eN,Q,Option.some.injEq];congr 2;obtain⟨i,hi⟩: ∃ i,j=2*i∨j=2*i+1:=⟨j / 2,by omega⟩
  have hp:=hpair i (by omega);have h1:=hq (2*i) (by omega);have h2:=hq (2*i+1) (by omega);have h3:=hnn ((2*i:Nat):Int);have h4:=hnn ((2*i+1:Nat):Int);unfold kI;rcases hi with rfl | rfl
  ·rw[if_pos (by omega),show(((2*i:Nat):Int) / 2)=(i:Int)by omega,hp];omega
  ·rw[if_neg (by omega),show(((2*i+1:Nat):Int) / 2)=(i:Int)by omega,hp];omega
 ·rw[er (by rw[n4,hl];omega),er (by omega)]
theorem Z6 {p:List UInt8}(h:gY p=u)(j:Nat)(hj:j<p.length):ai p (j:Int)<=15:=by have:=ei.1 h j (aK.2 hj);unfold F9 at this;simp only[Y,decide_eq_false_iff_not] at this;omega
theorem bZ (b:UInt8)(l:List UInt8)(j:Nat):ai (b::l) ((j+1:Nat):Int)=ai l (j:Int):=by unfold ai;rw[M,M];rfl
theorem Ei {p:List UInt8}(h:gY p=u)(leaf:Bool):fF (dG p leaf)=u/\dK (dG p leaf)=leaf/\eo (dG p leaf)=p:=by
 have hp:=Z6 h;cases ho:H ((p.length:Int)% 2=1)with
 | true =>
   have ho':(p.length:Int)% 2=1:=of_decide_eq_true ho;have hflag:ga leaf u<=3/\0<=ga leaf u/\ga leaf u% 2=1/\(2<=ga leaf u↔leaf=u):=by cases leaf<;>decide
   have e:ak (dG p leaf)=O (ga leaf u).toNat::p:=by
    unfold dG;rw[ho];refine BZ (m:=(p.length+1) / 2) (by simp only[cond_true,S];omega) λj hj=> ?_;cases j with
    | zero =>show((O (ga leaf u).toNat).toNat:Int)<=15;rw[X];omega
    | succ j =>rw[bZ];exact hp j (by simpa using hj)
   have e0:ai (ak (dG p leaf)) 0=ga leaf true:=by rw[e];show((O (ga leaf u).toNat).toNat:Int)=_;rw[X];omega
   refine⟨vI.2 ⟨by rw[e];simp,by rw[e0];omega,.inl (by rw[e0];omega)⟩,?_,?_⟩
   ·unfold dK;rw[e0];cases leaf<;>rfl
   ·unfold eo;rw[e0,if_pos hflag.2.2.1,e];rfl
 | false =>
   have ho': ¬ (p.length:Int)% 2=1:=of_decide_eq_false ho;have hflag:ga leaf A<=3/\0<=ga leaf A/\¬ ga leaf A% 2=1/\(2<=ga leaf A↔leaf=u):=by cases leaf<;>decide
   have e:ak (dG p leaf)=O (ga leaf A).toNat::0::p:=by
    unfold dG;rw[ho];refine BZ (m:=(p.length+2) / 2) (by simp only[cond_false,S];omega) λj hj=> ?_;cases j with
    | zero =>show((O (ga leaf A).toNat).toNat:Int)<=15;rw[X];omega
    | succ j =>
      rw[bZ];cases j with
      | zero=>show((0:UInt8).toNat:Int)<=15;decide
      | succ j =>simp only[cond_false];rw[bZ];exact hp j (by simpa using hj)
   have e0:ai (ak (dG p leaf)) 0=ga leaf false:=by rw[e];show((O (ga leaf A).toNat).toNat:Int)=_;rw[X];omega
   refine⟨vI.2 ⟨by rw[e];simp,by rw[e0];omega,.inr (by rw[e];rfl)⟩,?_,?_⟩
   ·unfold dK;rw[e0];cases leaf<;>rfl
   ·unfold eo;rw[e0,if_neg hflag.2.2.1,e];rfl
theorem jX {b:List UInt8}(hb:b.length<=1048576):bM (aA b)=u/\dj (aA b)=A/\ah (aA b)=b/\aH (aA b)=[]:=by
 have:=JR hb []
 rwa [Z] at this
theorem pF {b:List UInt8}(hb:b.length<=1048576):cP (aA b)=true:=by obtain⟨h1,h2,_,h4⟩:=jX hb;exact sJ.2 ⟨h1,h2,h4⟩
theorem Bx {l:List (List UInt8)}(hl:(flat l).length<=1048576):bM (eY l)=u/\dj (eY l)=u/\ah (eY l)=flat l/\aH (eY l)=[]:=by
 have:=TC hl []
 rwa [Z] at this
theorem WC {l:List (List UInt8)}(hl:(flat l).length<=1048576):eY l≠[128]:=λh=>by have h1:=(Bx hl).2.1;rw[h] at h1;exact absurd h1 (by decide)
theorem uu {l:List (List UInt8)}(hl:(flat l).length<=1048576)(hw: ∀ x∈ l,bM x=u/\aH x=[]) :
  au (eY l)=qd (flat l)/\ah (eY l)=flat l/\dN (flat l)=u/\bI (flat l)=l.length/\∀(j:Nat) (x:List UInt8),l[j]?=J x->ax (flat l) j=x:=by
 obtain⟨h1,h2,h3,h4⟩:=Bx hl;obtain⟨i1,i2,i3⟩:=AX l hw;refine⟨?_,h3,i1,i2,i3⟩;rw[au,if_neg (WC hl),h1,h2,h4,h3];rfl
theorem vT {t:List UInt8}(h:iR bJ t=u):bM t=u/\aH t=[]/\t≠[128]/\t≠[]:=by
 have hn: ∀ {t:List UInt8},bM t=u->t≠[]:=λh e=>by rw[e] at h;exact absurd h (by decide)
 simp only[iR,bf] at h;rcases h with h | h
 ·obtain⟨⟨h1,_,h3⟩,h4⟩:=qN.1 h;exact⟨h1,h3,λe=>by have:=lT h;rw[e] at this;simp at this,hn h1⟩
 ·obtain⟨h1,h2,h3⟩:=sj h;have hs:1<=au t:=by
   by_cases e:au t=0
   ·exact absurd (by unfold getD;rw[if_neg (by omega),if_neg (by omega),if_neg (by omega)];rfl) h3
   ·omega
  obtain⟨g1,_,g3,_⟩:=Cs hs;exact⟨g1,g3,λe=>by rw[e] at hs;exact absurd hs (by decide),hn g1⟩
def GW (s:List UInt8)(x:Nd):Prop:=0<=au s/\(getD s).EW x
theorem l8 (j:Nat)(hj:j<16):bF j=[]:=fy (λ_=>[]) j hj
theorem I4 {x:Nd}{l:Int}(h:iq x l=u):gY x.p=true:=by simp only[iq,a_] at h;exact h.2
theorem I2 {x:Nd}(h:gY x.p=u)(leaf:Bool):cQ x leaf=dG x.p leaf:=by rw[cQ,h];rfl
theorem VA:bM [128]=u/\aH [128]=[]:=by have:=jX (b:=[]) (by decide);exact⟨this.1,this.2.2.2⟩
attribute [local irreducible] ax ah bM aH dj bI dN cP fF dK eo dG aA bV
theorem My {x:Nd}(hk:x.k=1)(h:kH x=u):GW (jE x) x:=by
 have hnib:gY x.p=true:=by simp only[kH,a_] at h;exact I4 h.1
 obtain⟨h1,_,h3,h4⟩:=uq h;have l1:=n5 (x:=x) (leaf:=u);have l2:=jy (cQ x u);have l3:=jy x.v;have l4:=nM (a:=aA (cQ x u)) (b:=aA x.v);obtain⟨a1,a2,a3,a4⟩:=jX (b:=cQ x u) (by omega);obtain⟨b1,b2,b3,b4⟩:=jX (b:=x.v) (by omega);obtain⟨s1,s2,s3,s4,s5⟩:=uu (l:=[aA (cQ x u),aA x.v]) (by omega) (λy hy=>by
  simp only[ay,aM,or_false] at hy;rcases hy with rfl | rfl
  ·exact⟨a1,a4⟩
  ·exact⟨b1,b4⟩)
 have i0:=s5 0 _ rfl;have i1:=s5 1 _ rfl;obtain⟨n1,n2,n3⟩:=Ei hnib u;have p0:cP (ax (flat [aA (cQ x u),aA x.v]) 0)=true:=by rw[i0];exact pF (by omega)
 have p1:cP (ax (flat [aA (cQ x u),aA x.v]) 1)=true:=by rw[i1];exact pF (by omega)
 have c0:ah (ax (flat [aA (cQ x u),aA x.v]) 0)=dG x.p true:=by rw[i0,a3,I2 hnib]
 have hs:au (jE x)=1:=by rw[jE,s1,qd,s3,s4];show nZ _=1;rw[nZ,p0,c0,n1,n2,p1];rfl
 refine⟨by rw[hs];decide,?_⟩;have e:getD (jE x)=ni (jE x):=by unfold getD;rw[if_pos hs]
 rw[e];unfold ni jE;rw[s2];refine⟨hk.symm,?_,?_,λj hj=> ?_⟩
 ·show eo (ah (ax (flat [aA (cQ x u),aA x.v]) 0))=x.p;rw[c0,n3]
 ·show ah (ax (flat [aA (cQ x u),aA x.v]) 1)=x.v;rw[i1,b3]
 ·rw[h4 j hj];exact l8 j hj
theorem Qz {x:Nd}(hk:x.k=2)(h:nL bJ x=u):GW (qh x) x:=by
 have hnib:gY x.p=true:=by simp only[nL,a_] at h;exact I4 h.1
 obtain⟨h1,h2,h3,_,h4⟩:=xq h;have hm:iR bJ (x.r 0)=true:=by simp only[iR,bf];exact h4.imp id λh=>h.1
 obtain⟨r1,r2,_,_⟩:=vT hm;have rl:=sC hm;have l1:=n5 (x:=x) (leaf:=A);have l2:=jy (cQ x A);have l4:=nM (a:=aA (cQ x A)) (b:=x.r 0);obtain⟨a1,a2,a3,a4⟩:=jX (b:=cQ x A) (by omega);obtain⟨s1,s2,s3,s4,s5⟩:=uu (l:=[aA (cQ x A),x.r 0]) (by omega) (λy hy=>by
  simp only[ay,aM,or_false] at hy;rcases hy with rfl | rfl
  ·exact⟨a1,a4⟩
  ·exact⟨r1,r2⟩)
 have i0:=s5 0 _ rfl;have i1:=s5 1 _ rfl;obtain⟨n1,n2,n3⟩:=Ei hnib A;have p0:cP (ax (flat [aA (cQ x A),x.r 0]) 0)=true:=by rw[i0];exact pF (by omega)
 have c0:ah (ax (flat [aA (cQ x A),x.r 0]) 0)=dG x.p false:=by rw[i0,a3,I2 hnib]
 have hs:au (qh x)=2:=by rw[qh,s1,qd,s3,s4];show nZ _=2;rw[nZ,p0,c0,n1,n2];rfl
 refine⟨by rw[hs];decide,?_⟩;have e:getD (qh x)=tE (qh x):=by unfold getD;rw[if_neg (by omega),if_pos hs]
 rw[e];unfold tE qh;rw[s2];refine⟨hk.symm,?_,h2.symm,λj hj=> ?_⟩
 ·show eo (ah (ax (flat [aA (cQ x A),x.r 0]) 0))=x.p;rw[c0,n3]
 ·show bC (ax (flat [aA (cQ x A),x.r 0]) 1) j=x.r j;rw[i1];have:bC (x.r 0) j=(λi=>if i=0 then x.r 0 else []) j:=fy (λi=>if i=0 then x.r 0 else []) j hj
  rw[this];show(if j=0 then x.r 0 else [])=x.r j
  by_cases e:j=0
  ·subst e;rfl
  ·rw[if_neg e,h3 j (by omega) hj]
def GU (x:Nd):List (List UInt8):=[bT x.r 16 0,bT x.r 16 1,bT x.r 16 2,bT x.r 16 3,bT x.r 16 4,bT x.r 16 5,bT x.r 16 6,bT x.r 16 7,bT x.r 16 8,bT x.r 16 9,bT x.r 16 10,bT x.r 16 11,bT x.r 16 12,bT x.r 16 13,bT x.r 16 14,bT x.r 16 15,aA x.v]
theorem V1 (x:Nd)(j:Nat)(hj:j<16):(GU x)[j]?=J (bT x.r 16 j):=by
 have:j=0∨j=1∨j=2∨j=3∨j=4∨j=5∨j=6∨j=7∨j=8∨j=9∨j=10∨j=11∨j=12∨j=13∨j=14∨j=15:=by omega
 rcases this with rfl | rfl | rfl | rfl | rfl | rfl | rfl | rfl | rfl | rfl | rfl | rfl | rfl | rfl | rfl | rfl<;>rfl
theorem V2 {x:Nd}{y:List UInt8}(h:y∈ GU x):(∃ j,j<16/\y=bT x.r 16 j)∨y=aA x.v:=by
 simp only[GU,ay,aM,or_false] at h;rcases h with h | h | h | h | h | h | h | h | h | h | h | h | h | h | h | h | h
 ·exact .inl ⟨0,by decide,h⟩
 ·exact .inl ⟨1,by decide,h⟩
 ·exact .inl ⟨2,by decide,h⟩
 ·exact .inl ⟨3,by decide,h⟩
 ·exact .inl ⟨4,by decide,h⟩
 ·exact .inl ⟨5,by decide,h⟩
 ·exact .inl ⟨6,by decide,h⟩
 ·exact .inl ⟨7,by decide,h⟩
 ·exact .inl ⟨8,by decide,h⟩
 ·exact .inl ⟨9,by decide,h⟩
 ·exact .inl ⟨10,by decide,h⟩
 ·exact .inl ⟨11,by decide,h⟩
 ·exact .inl ⟨12,by decide,h⟩
 ·exact .inl ⟨13,by decide,h⟩
 ·exact .inl ⟨14,by decide,h⟩
 ·exact .inl ⟨15,by decide,h⟩
 ·exact .inr h
theorem xd (r:Nat->List UInt8)(j:Nat)(hj:j<16):(r j=[]/\bT r 16 j=[128])∨(r j≠[]/\bT r 16 j=r j):=by
 unfold bT;rw[if_pos hj];by_cases e:r j=[]
 ·exact .inl ⟨e,by rw[if_pos e]⟩
 ·exact .inr ⟨e,by rw[if_neg e]⟩
theorem MW {x:Nd}(h:dJ bJ x=u):(flat (GU x)).length<=617:=by
 obtain⟨_,h2,h3,_⟩:=oG h;have hb: ∀ j,j<16->(bT x.r 16 j).length<=33:=λj hj=>by
  rcases xd x.r j hj with ⟨_,e⟩ | ⟨e0,e⟩
  ·rw[e];decide
  ·rw[e];rcases qW h3 hj with h | h
   ·exact absurd h e0
   ·exact sC h
 have e:flat (GU x)=flat [bT x.r 16 0,bT x.r 16 1,bT x.r 16 2,bT x.r 16 3,bT x.r 16 4,bT x.r 16 5,bT x.r 16 6,bT x.r 16 7,bT x.r 16 8,bT x.r 16 9,bT x.r 16 10,bT x.r 16 11,bT x.r 16 12,bT x.r 16 13,bT x.r 16 14,bT x.r 16 15]++aA x.v:=by show flat ([bT x.r 16 0,bT x.r 16 1,bT x.r 16 2,bT x.r 16 3,bT x.r 16 4,bT x.r 16 5,bT x.r 16 6,bT x.r 16 7,bT x.r 16 8,bT x.r 16 9,bT x.r 16 10,bT x.r 16 11,bT x.r 16 12,bT x.r 16 13,bT x.r 16 14,bT x.r 16 15]++[aA x.v])=_;simp only[flat,List.flatten_append,List.flatten_cons,List.flatten_nil,Z]
 have h6:(flat [bT x.r 16 0,bT x.r 16 1,bT x.r 16 2,bT x.r 16 3,bT x.r 16 4,bT x.r 16 5,bT x.r 16 6,bT x.r 16 7,bT x.r 16 8,bT x.r 16 9,bT x.r 16 10,bT x.r 16 11,bT x.r 16 12,bT x.r 16 13,bT x.r 16 14,bT x.r 16 15]).length<=16*33:=by
  refine Ns (m:=33) λy hy=> ?_;simp only[ay,aM,or_false] at hy;rcases hy with rfl | rfl | rfl | rfl | rfl | rfl | rfl | rfl | rfl | rfl | rfl | rfl | rfl | rfl | rfl | rfl
  ·exact hb 0 (by decide)
  ·exact hb 1 (by decide)
  ·exact hb 2 (by decide)
  ·exact hb 3 (by decide)
  ·exact hb 4 (by decide)
  ·exact hb 5 (by decide)
  ·exact hb 6 (by decide)
  ·exact hb 7 (by decide)
  ·exact hb 8 (by decide)
  ·exact hb 9 (by decide)
  ·exact hb 10 (by decide)
  ·exact hb 11 (by decide)
  ·exact hb 12 (by decide)
  ·exact hb 13 (by decide)
  ·exact hb 14 (by decide)
  ·exact hb 15 (by decide)
 have h7:=jy x.v;rw[e,an];omega
theorem GG {x:Nd}(hk:x.k=3)(h:dJ bJ x=u):GW (fL x) x:=by
 obtain⟨h1,h2,h3,_⟩:=oG h;have hl:=MW h;have hT:fL x=eY (GU x):=rfl;obtain⟨b1,b2,b3,b4⟩:=jX (b:=x.v) (by omega);have hw: ∀ y∈ GU x,bM y=u/\aH y=[]:=λy hy=>by
  rcases V2 hy with ⟨j,hj,rfl⟩ | rfl
  ·rcases xd x.r j hj with ⟨_,e⟩ | ⟨e0,e⟩
   ·rw[e];exact VA
   ·rw[e];rcases qW h3 hj with g | g
    ·exact absurd g e0
    ·exact⟨(vT g).1,(vT g).2.1⟩
  ·exact⟨b1,b4⟩
 obtain⟨s1,s2,s3,s4,s5⟩:=uu (l:=GU x) (by omega) hw;have i16:ax (flat (GU x)) 16=aA x.v:=s5 16 _ rfl;have p16:cP (ax (flat (GU x)) 16)=true:=by rw[i16];exact pF (by omega)
 have hs:au (fL x)=3:=by
  rw[hT,s1,qd,s3,s4];show(bif cP (ax (flat (GU x)) 16)then(3:Int)else -1)=3
  rw[p16];rfl
 refine⟨by rw[hs];decide,?_⟩;have e:getD (fL x)=iB (fL x):=by unfold getD;rw[if_neg (by omega),if_neg (by omega),if_pos hs]
 rw[e];unfold iB;rw[hT,s2];refine⟨hk.symm,h1.symm,?_,λj hj=> ?_⟩
 ·show ah (ax (flat (GU x)) 16)=x.v;rw[i16,b3]
 ·show dx (cC (flat (GU x))) j=x.r j;have e1:dx (cC (flat (GU x))) j=cC (flat (GU x)) j:=fy _ j hj;rw[e1,cC,s5 j _ (V1 x j hj)];rcases xd x.r j hj with ⟨e0,e⟩ | ⟨e0,e⟩
  ·rw[e,if_pos rfl,e0]
  ·rw[e];rcases qW h3 hj with g | g
   ·exact absurd g e0
   ·rw[if_neg (vT g).2.2.1]
theorem Mz {x:Nd}(h:qe x=u):GW [128] x:=by
 obtain⟨h0,h1,h2,h3⟩:=BO h;have hs:au [128]=0:=by decide
 refine⟨by rw[hs];decide,?_⟩;have e:getD [128]=e8:=by unfold getD;rw[if_neg (by omega),if_neg (by omega),if_neg (by omega)]
 rw[e];exact⟨h0.symm,h1.symm,h2.symm,λj hj=>by rw[h3 j hj];exact l8 j hj⟩
theorem q8 {x:Nd}:(x.k=0->cR x=[128])/\(x.k=1->cR x=jE x)/\(x.k=2->cR x=qh x)/\(x.k=3->cR x=fL x):=by unfold cR;refine⟨λh=>by rw[if_pos h],λh=>by rw[if_neg (by omega),if_pos h],λh=>by rw[if_neg (by omega),if_neg (by omega),if_pos h],λh=>by rw[if_neg (by omega),if_neg (by omega),if_neg (by omega)]⟩
theorem QA {x:Nd}(h:aU x=u):GW (cR x) x:=by
 rcases rI h with ⟨hk,h⟩ | ⟨hk,h⟩ | ⟨hk,h⟩ | ⟨hk,h⟩
 ·rw[q8.1 hk];exact Mz h
 ·rw[q8.2.1 hk];exact My hk h
 ·rw[q8.2.2.1 hk];exact Qz hk h
 ·rw[q8.2.2.2 hk];exact GG hk h
theorem gz {x:Nd}(h:aU x=u):bg (cR x)=u/\(getD (cR x)).EW x:=by
 obtain⟨h1,h2⟩:=QA h;refine⟨?_,h2⟩;unfold bg CZ;rw[decide_eq_true h1,show iT bJ (getD (cR x))=u from(sX h2).trans h,NV h2]
 simp
theorem NW {x:Nd}(h:aU x=u):1<=(cR x).length/\(cR x).length<=700:=by
 have hp: ∀ l:List (List UInt8),1<=(eY l).length/\(eY l).length<=(flat l).length+9:=λl=>by have h1:=A7 192 (flat l).length;have h2:=qP 192 (flat l).length;unfold eY;rw[an];omega
 rcases rI h with ⟨hk,h⟩ | ⟨hk,h⟩ | ⟨hk,h⟩ | ⟨hk,h⟩
 ·rw[q8.1 hk];decide
 ·rw[q8.2.1 hk];obtain⟨h1,_,h3,_⟩:=uq h;have l1:=n5 (x:=x) (leaf:=u);have l2:=jy (cQ x u);have l3:=jy x.v;have l4:=nM (a:=aA (cQ x u)) (b:=aA x.v);have:=hp [aA (cQ x u),aA x.v];unfold jE;omega
 ·rw[q8.2.2.1 hk];obtain⟨h1,h2,h3,_,h4⟩:=xq h;have hm:iR bJ (x.r 0)=true:=by simp only[iR,bf];exact h4.imp id λh=>h.1
  have rl:=sC hm;have l1:=n5 (x:=x) (leaf:=A);have l2:=jy (cQ x A);have l4:=nM (a:=aA (cQ x A)) (b:=x.r 0);have:=hp [aA (cQ x A),x.r 0];unfold qh;omega
 ·rw[q8.2.2.2 hk];have hl:=MW h;have:=hp (GU x);show 1<=(eY (GU x)).length/\(eY (GU x)).length<=700;omega
end Go.Proofs.YtoibaecagklkaaaGreatDoor
namespace Go.Proofs.YtoibaecagklkaaaGreatDoor
open Go Sx
set_option maxRecDepth 20000
theorem pq (t:List UInt8)(j:Nat)(hj:j<16):bC t j=if j=0 then t else []:=fy (λj=>if j=0 then t else []) j hj
theorem rR (m:Nat)(l:List Rw){i:Nat}(hi:i<16):(dh (m+1) l).r i=if aP l i=[] then [] else eS (ctext m (aP l i)):=by
 match l with
 | []=>exact l8 i hi
 | [_]=>exact l8 i hi
 | r::s::t =>
   have e:dh (m+1) (r::s::t)=gN (λl'=>if l'=[] then [] else eS (cR (dh m l'))) (r::s::t):=rfl
   rw[e];unfold gN;dsimp only;by_cases hk:0<bH r.1 ((s::t).getLastD r).1
   ·rw[if_pos hk];dsimp only;rw[pq _ i hi];by_cases h0:i=0
    ·subst h0;rw[if_pos rfl];rfl
    ·rw[if_neg h0,cI,if_pos hk,if_neg h0,if_pos rfl]
   ·rw[if_neg hk];dsimp only;exact fy (λi=>if aP (r::s::t) i=[] then [] else eS (cR (dh m (aP (r::s::t) i)))) i hi
theorem BJ (f:Nat->List UInt8)(j:Nat)(hj:j<16):dx f j=f j:=fy f j hj
theorem TQ {f g:Nat->List UInt8}(h: ∀ j,j<16->f j=g j):dx f=dx g:=by unfold dx;rw[h 0 (by decide),h 1 (by decide),h 2 (by decide),h 3 (by decide),h 4 (by decide),h 5 (by decide),h 6 (by decide),h 7 (by decide),h 8 (by decide),h 9 (by decide),h 10 (by decide),h 11 (by decide),h 12 (by decide),h 13 (by decide),h 14 (by decide),h 15 (by decide)]
def Nd.Six (x:Nd):Prop:=∃ f,x.r=dx f
theorem SM (s:List UInt8):(getD s).Six:=by
 unfold getD;split
 ·exact⟨λ_=>[],rfl⟩
 ·split
  ·exact⟨λj=>if j=0 then ax (ah s) 1 else [],rfl⟩
  ·split
   ·exact⟨_,rfl⟩
   ·exact⟨λ_=>[],rfl⟩
theorem V5: ∀(m:Nat) (l:List Rw),(dh m l).Six
 | 0,_=>⟨λ_=>[],rfl⟩
 | _+1,[]=>⟨λ_=>[],rfl⟩
 | _+1,[_]=>⟨λ_=>[],rfl⟩
 | m+1,r::s::t=>by
   have e:dh (m+1) (r::s::t)=gN (λl'=>if l'=[] then [] else eS (cR (dh m l'))) (r::s::t):=rfl
   rw[e];unfold gN;dsimp only;split
   ·exact⟨λj=>if j=0 then(if aP (r::s::t) 0=[] then [] else eS (cR (dh m (aP (r::s::t) 0))))else [],rfl⟩
   ·exact⟨λi=>if aP (r::s::t) i=[] then [] else eS (cR (dh m (aP (r::s::t) i))),rfl⟩
theorem UO {x y:Nd}(hx:x.Six)(hy:y.Six)(h:x.EW y):x=y:=by
 obtain⟨f,hf⟩:=hx;obtain⟨g,hg⟩:=hy;have hr:x.r=y.r:=by rw[hf,hg];refine TQ λj hj=> ?_;have:=h.r j hj;rw[hf,hg,BJ f j hj,BJ g j hj] at this;exact this
 obtain⟨k,p,v,r⟩:=x;obtain⟨k',p',v',r'⟩:=y;have h1:=h.k;have h2:=h.p;have h3:=h.v;dsimp only at h1 h2 h3 hr;subst h1;subst h2;subst h3;subst hr;rfl
theorem gX {m:Nat}{l:List Rw}(h:aU (dh m l)=u):getD (ctext m l)=dh m l:=UO (SM _) (V5 m l) (gz h).2
theorem Lj {p v:List UInt8}(hp:p.length<=12)(hn:gY p=u)(hv:0<v.length/\v.length<=80):aU ⟨1,p,v,bF⟩=true:=by
 show kH ⟨1,p,v,bF⟩=u;have hb:cr bF 16=0:=by decide
 have h1:v≠[]:=λe=>by rw[e] at hv;exact absurd hv.1 (eB _)
 unfold kH iq;dsimp only;rw[hn,hb,decide_eq_false h1,decide_eq_true (show(p.length:Int)<=12 by omega),decide_eq_true (show(v.length:Int)<=80 by omega),decide_eq_true (show(0:Int)<=(p.length:Int)by omega)];rfl
theorem gM {s:List UInt8}(h:s.length<32):eS s=s:=if_pos h
theorem i9 {s:List UInt8}(h: ¬ s.length<32):bw (eS s)=u/\ah (eS s)=aC s/\(eS s).length=33:=by
 have e:eS s=aA (aC s)++[]:=by rw[eS,if_neg h,Z]
 obtain⟨h1,h2,h3,h4⟩:=JR (b:=aC s) (by rw[rC];decide) [];rw[← e] at h1 h2 h3 h4;have hb:bw (eS s)=true:=qN.2 ⟨⟨h1,h2,h4⟩,by rw[h3];exact rC s⟩;exact⟨hb,h3,lT hb⟩
theorem vr {x:Nd}(h:aU x=u)(hk:x.k≠0)(hl:(cR x).length<32):bJ (cR x)=u/\(getD (cR x)).EW x:=by obtain⟨g1,g2⟩:=gz h;refine⟨?_,g2⟩;rw[xA,decide_eq_true hl,g1,decide_eq_false (by rw[g2.k];exact hk)];rfl
theorem BB {x:Nd}(h:aU x=u)(hk:x.k≠0):iR bJ (eS (cR x))=u/\eS (cR x)≠[]:=by
 by_cases hl:(cR x).length<32
 ·have e:=gM hl;refine⟨?_,?_⟩
  ·rw[e,iR,(vr h hk hl).1];simp
  ·rw[e];have:=(NW h).1;intro e0;rw[e0] at this;simp at this
 ·obtain⟨h1,_,h3⟩:=i9 hl;refine⟨by rw[iR,h1];rfl,λe0=> ?_⟩;rw[e0] at h3;simp at h3
theorem LP {p:List UInt8}(h: ∀ b,b∈ p->b.toNat<16):gY p=true:=by
 unfold gY;rw[ei];intro i hi;have hi:=aK.1 hi;have:ai p (i:Int)=((p[i]).toNat:Int):=by unfold ai;simp[ag hi]
 have hb:=h p[i] (List.getElem_mem hi);rw[F9,this,decide_eq_false (by omega)];rfl
theorem HK (r:Nat->List UInt8): ∀ n,0<=dn r n
 | 0=>Int.le_refl _
 | n+1=>by have:=HK r n;unfold dn;split<;>omega
theorem xx {r:Nat->List UInt8}{i:Nat}(hr:r i≠[]): ∀ {n},i<n->1<=dn r n
 | 0,h=>absurd h (T _)
 | n+1,h=>by
   unfold dn;by_cases e:i=n
   ·subst e;rw[if_neg hr];have:=HK r i;omega
   ·have:=xx hr (n:=n) (by omega);split<;>omega
theorem xy {r:Nat->List UInt8}{i j:Nat}(hij:i<j)(hi:r i≠[])(hj:r j≠[]): ∀ {n},j<n->2<=dn r n
 | 0,h=>absurd h (T _)
 | n+1,h=>by
   unfold dn;by_cases e:j=n
   ·subst e;rw[if_neg hj];have:=xx hi (n:=j) hij;omega
   ·have:=xy hij hi hj (n:=n) (by omega);split<;>omega
theorem NL {r:Nat->List UInt8}: ∀ {n},(∀ i,i<n->r i=[]∨iR bJ (r i)=u)->jB bJ r n=u
 | 0,_=>rfl
 | n+1,h=>by
   unfold jB;rw[NL λi hi=>h i (by omega)];rcases h n (Nat.lt_succ_self n)with e | e
   ·rw[decide_eq_true e];rfl
   ·rw[e];simp
theorem Kk {t:List UInt8}(ht:t≠[]):cr (bC t) 16=1:=by
 have key: ∀ n,n<16->cr (bC t) (n+1)=1:=by
  intro n;induction n with
  | zero=>intro _;unfold cr;rw[pq t 0 (by decide),if_pos rfl,if_neg ht];rfl
  | succ n ih =>
    intro hn;have e:bC t (n+1)=[]:=by rw[pq t (n+1) hn,if_neg (by omega)]
    unfold cr;rw[if_pos e];exact ih (by omega)
 exact key 15 (by decide)
theorem OK {a b:UInt8}{p q:List UInt8}(h: ¬ 0<bH (a::p) (b::q)):a≠b:=λe=>by subst e;unfold bH at h;rw[if_pos rfl] at h;exact h (eC _)
theorem Tf {l:List Rw}{r s:Rw}{t:List Rw}(hl:l=r::s::t)(hc: ¬ 0<bH r.1 ((s::t).getLastD r).1){b:UInt8}{q v:List UInt8}(hx:(b::q,v)∈ l):aP l b.toNat≠[]:=by subst hl;rw[cI,if_neg hc];intro e;have:(q,v)∈ b7 1 (bB b.toNat (r::s::t)):=cy.2 ⟨(b::q,v),cx.2 ⟨hx,by simp[kW]⟩,rfl⟩;rw[e] at this;cases this
theorem qD {r s:Rw}{t:List Rw}(k:Nat):(b7 k (r::s::t))=(r.1.drop k,r.2)::(s.1.drop k,s.2)::b7 k t:=rfl
theorem xK (k:Nat): ∀(r:Rw) (l:List Rw),(b7 k l).getLastD (r.1.drop k,r.2)=((l.getLastD r).1.drop k,(l.getLastD r).2)
 | r,[]=>rfl
 | r,s::l=>by
   rw[show b7 k (s::l)=(s.1.drop k,s.2)::b7 k l from rfl,ct,ct]
   exact xK k s l
theorem xm: ∀(a b:List UInt8),bH (a.drop (bH a b)) (b.drop (bH a b))=0
 | [],b=>by simp[bH]
 | a::p,[]=>by simp[bH]
 | a::p,b::q=>by
   by_cases e:a=b
   ·have:bH (a::p) (b::q)=bH p q+1:=by simp only[bH,if_pos e]
    rw[this];simp only[List.drop_succ_cons];exact xm p q
   ·have:bH (a::p) (b::q)=0:=by simp only[bH,if_neg e]
    rw[this,ej,ej,this]
theorem Sg {m:Nat}{l:List Rw}(hl:l≠[]):(dh (m+1) l).k≠0/\((dh (m+1) l).k=3↔∃ r s t,l=r::s::t/\¬ 0<bH r.1 ((s::t).getLastD r).1):=by
 match l,hl with
 | [r],_=>exact⟨by show(1:Int)≠0;decide,⟨λh=>absurd h (by show ¬ (1:Int)=3;decide),fun⟨_,_,_,h,_⟩=>by cases h⟩⟩
 | r::s::t,_ =>
   have e:dh (m+1) (r::s::t)=gN (λl'=>if l'=[] then [] else eS (cR (dh m l'))) (r::s::t):=rfl
   rw[e];unfold gN;dsimp only;by_cases hk:0<bH r.1 ((s::t).getLastD r).1
   ·rw[if_pos hk];exact⟨by show(2:Int)≠0;decide,⟨λh=>absurd h (by show ¬ (2:Int)=3;decide),fun⟨r',s',t',h,h2⟩=>by injection h with h1 h;injection h with h3 h4;subst h1;subst h3;subst h4;exact absurd hk h2⟩⟩
   ·rw[if_neg hk];exact⟨by show(3:Int)≠0;decide,⟨λ_=>⟨r,s,t,rfl,hk⟩,λ_=>rfl⟩⟩
theorem aaw {x:Nd}(hk:x.k=3):aU x=dJ bJ x:=by unfold aU iT;rw[hk];rfl
theorem dZ: ∀ {m:Nat} {l:List Rw},m<=13->cg m l->l≠[]->aU (dh m l)=u
 | 0,[],_,_,h=>absurd rfl h
 | 0,r::_,_,h,_=>absurd (h.len r (F ..)) (T _)
 | m+1,[],_,_,h=>absurd rfl h
 | m+1,[r],hm,h,_=>by have h1:=h.len r (F ..);exact Lj (by omega) (LP (h.Yf r (F ..))) (h.val r (F ..))
 | m+1,r::s::t,hm,h,_=>by
   have kid: ∀ i,aP (r::s::t) i≠[]->iR bJ (eS (ctext m (aP (r::s::t) i)))=u/\eS (ctext m (aP (r::s::t) i))≠[]:=λi hi=>by
    have hv:=dZ (m:=m) (by omega) (gA h i) hi;have hk:(dh m (aP (r::s::t) i)).k≠0:=by
     match m,gA h i with
     | 0,ho =>
       cases hkr:aP (r::s::t) i with
       | nil=>exact absurd hkr hi
       | cons x y=>rw[hkr] at ho;exact absurd (ho.len x (F ..)) (T _)
     | m+1,_=>exact(Sg hi).1
    exact BB hv hk
   have hr:=h.len r (F ..);by_cases hk:0<bH r.1 ((s::t).getLastD r).1
   ·have e:dh (m+1) (r::s::t)=⟨2,r.1.take (bH r.1 ((s::t).getLastD r).1),[],bC (eS (ctext m (aP (r::s::t) 0)))⟩:=by
     show gN _ (r::s::t)=_;unfold gN;dsimp only;rw[if_pos hk];have:aP (r::s::t) 0≠[]:=by rw[cI,if_pos hk,if_pos rfl,qD];exact b_ _ _
     rw[if_neg this];rfl
    have hk0:aP (r::s::t) 0=b7 (bH r.1 ((s::t).getLastD r).1) (r::s::t):=by rw[cI,if_pos hk,if_pos rfl]
    have hne:aP (r::s::t) 0≠[]:=by rw[hk0,qD];exact b_ _ _
    obtain⟨g1,g2⟩:=kid 0 hne;have hle:=(zS r.1 ((s::t).getLastD r).1).1;rw[e];show nL bJ _=u;unfold nL iq;dsimp only;have e0:bC (eS (ctext m (aP (r::s::t) 0))) 0=eS (ctext m (aP (r::s::t) 0)):=by rw[pq _ 0 (by decide)];exact if_pos rfl
    simp only[e0];rw[LP (λb hb=>h.Yf r (F ..) b (List.mem_of_mem_take hb)),Kk g2];rw[ez,Nat.min_eq_left hle,decide_eq_true (show(1:Int)<=(bH r.1 ((s::t).getLastD r).1:Int)by omega),decide_eq_true (show(bH r.1 ((s::t).getLastD r).1:Int)<=12 by omega)];simp only[decide_true,c6,Bool.and_self];rcases Bool.eq_false_or_eq_true (bw (eS (ctext m (aP (r::s::t) 0))))with hh | hh
    ·rw[hh];rfl
    ·rw[iR,hh,c5] at g1;rw[hh,g1,c5,c6];have hlt:(ctext m (aP (r::s::t) 0)).length<32:=by
      by_cases hlt:(ctext m (aP (r::s::t) 0)).length<32
      ·exact hlt
      ·rw[(i9 hlt).1] at hh;cases hh
     rw[gM hlt];have ho:=gA h 0;have hv:=dZ (m:=m) (by omega) ho hne;rw[show getD (ctext m (aP (r::s::t) 0))=dh m (aP (r::s::t) 0)from gX hv]
     match m,ho with
     | 0,ho =>
       cases hkr:aP (r::s::t) 0 with
       | nil=>exact absurd hkr hne
       | cons x y=>rw[hkr] at ho;exact absurd (ho.len x (F ..)) (T _)
     | m+1,_ =>refine decide_eq_true ((Sg hne).2.2 ⟨_,_,_,hk0.trans (qD _),?_⟩);have:((s.1.drop (bH r.1 ((s::t).getLastD r).1),s.2)::b7 (bH r.1 ((s::t).getLastD r).1) t).getLastD (r.1.drop (bH r.1 ((s::t).getLastD r).1),r.2)=_:=xK (bH r.1 ((s::t).getLastD r).1) r (s::t);rw[this,xm];exact eB 0
   ·have e:dh (m+1) (r::s::t)=⟨3,[],if r.1=[] then r.2 else [],dx λi=>if aP (r::s::t) i=[] then [] else eS (ctext m (aP (r::s::t) i))⟩:=by show gN _ (r::s::t)=_;unfold gN;dsimp only;rw[if_neg hk];rfl
    have hget: ∀ i,i<16->(dx λi=>if aP (r::s::t) i=[] then [] else eS (ctext m (aP (r::s::t) i))) i=if aP (r::s::t) i=[] then [] else eS (ctext m (aP (r::s::t) i)):=λi hi=>BJ _ i hi
    have full: ∀ i,i<16->aP (r::s::t) i≠[]->(dx λi=>if aP (r::s::t) i=[] then [] else eS (ctext m (aP (r::s::t) i))) i≠[]:=λi hi hne=>by rw[hget i hi,if_neg hne];exact(kid i hne).2
    have hrv:=h.val r (F ..);have hlast:(s::t).getLastD r∈ r::s::t:=nR r (s::t);have hls:Op.bytesLess r.1 ((s::t).getLastD r).1=true:=by have hp:=h.yb;unfold tM at hp;rw[List.pairwise_cons] at hp;refine hp.1 _ ?_;rw[ct];exact nR s t
    rw[e,aaw rfl];unfold dJ;dsimp only;have hcount:(2:Int)<=min ((if r.1=[] then r.2 else []).length:Int) 1+dn (dx λi=>if aP (r::s::t) i=[] then [] else eS (ctext m (aP (r::s::t) i))) 16:=by
     generalize hz:(s::t).getLastD r=z at hk hlast hls;obtain⟨rp,rv⟩:=r;obtain⟨zp,zv⟩:=z;cases zp with
     | nil=>cases rp<;>simp[Op.bytesLess] at hls
     | cons b q =>
       have hb:b.toNat<16:=h.Yf _ hlast b (F ..);have hkb:aP ((rp,rv)::s::t) b.toNat≠[]:=Tf rfl (by rw[hz];exact hk) hlast;cases rp with
       | nil =>have:=xx (full _ hb hkb) (n:=16) hb;simp only[if_true];have h1:0<rv.length:=hrv.1;omega
       | cons a p =>
         have ha:a.toNat<16:=h.Yf _ (F ..) a (F ..);have hka:aP ((a::p,rv)::s::t) a.toNat≠[]:=Tf rfl (by rw[hz];exact hk) (F ..);have hab:a.toNat≠b.toNat:=λe=>OK hk (eP.1 e);rw[if_neg (b_ _ _)];have:2<=dn (dx λi=>if aP ((a::p,rv)::s::t) i=[] then [] else eS (ctext m (aP ((a::p,rv)::s::t) i))) 16:=by
          rcases Nat.lt_or_gt_of_ne hab with hlt | hgt
          ·exact xy hlt (full _ ha hka) (full _ hb hkb) hb
          ·exact xy hgt (full _ hb hkb) (full _ ha hka) ha
         show(2:Int)<=min ((0:Nat):Int) 1+_;omega
    have hvl:((if r.1=[] then r.2 else []).length:Int)<=80:=by
     split
     ·have:=hrv.2;omega
     ·show((0:Nat):Int)<=80;omega
    rw[decide_eq_true hcount,decide_eq_true hvl,NL λi hi=> ?_]
    ·rfl
    ·rw[hget i hi];by_cases hn:aP (r::s::t) i=[]
     ·exact .inl (if_pos hn)
     ·rw[if_neg hn];exact .inr (kid i hn).1
theorem nQ {k:IntKind}{l:Bool}{a b:Int}(h:a=b):af (.int k l a) (.int k A b):=λE=>by subst h;rfl
theorem qF {n:Nat}{f g:Nat->List UInt8}{x:Nat}(hx:x<n)(h:iX f g x=A):af (.int .i64 u 1) (.int .i64 A (cA n f g)):=by have:Hw n f g=false:=ef.2 ⟨x,aK.2 hx,by rw[h];decide⟩;exact nQ (by rw[cA,this];rfl)
theorem Hg (n:Nat)(hn:n<9223372036854775808)(f g:Nat->List UInt8)(z:Bool)(o c:Nat)(key:Option Nat):aB (gD (RA n f g) 62 c! [.bS 0 2 z o 0 n c] [fD z o c n f g key] (.ret (.int .i64 A (cA n f g)))):=by
 refine aB.pr (Xt n f g z o c key) ?_;simp only[M,Q,true_and,Y,a!,decide_eq_true_eq,decide_eq_false_iff_not];refine⟨⟨0,cT.zero _ _,rfl⟩,λx hx=>⟨λh=> ?_,λh=> ?_⟩⟩
 ·have hlt:x<n:=by omega
  refine⟨by omega,hlt,λa1=>⟨λa2=>qF hlt ?_,λa2=>⟨λa3=>⟨λa4=>qF hlt ?_,λa4=>⟨λa5=>⟨by omega,by omega,by omega,λa6=>qF hlt ?_,λa6=>⟨by omega,x+1,⟨hx.next h ?_,by omega⟩,by omega⟩⟩,λa5=>⟨by omega,x+1,⟨hx.next h ?_,by omega⟩,by omega⟩⟩⟩,λa3=>qF hlt ?_⟩⟩,λa1=>qF hlt ?_⟩
  ·simp[iX,xG,a2]
  ·simp[iX,sZ,a4]
  ·rw[show((x:Int) - 1).toNat=x - 1 by omega] at a6;have:x≠0:=by omega
   simp[iX,a6,this]
  ·rw[show((x:Int) - 1).toNat=x - 1 by omega] at a6;simp[iX,xG,sZ,a1,a2,a3,a4,a6]
  ·have:x=0:=by omega
   subst this;simp[iX,xG,sZ,a1,a2,a3,a4]
  ·simp[iX,sZ,a3]
  ·simp[iX,xG,a1]
 ·have he:Hw n f g=true:=hx.done h;exact⟨λh2=>nQ (by rw[cA,he,cond_true,if_pos h2]),λh2=>nQ (by rw[cA,he,cond_true,if_neg h2])⟩
theorem HC (n:Nat)(f g:Nat->List UInt8)(z:Bool)(o c:Nat)(key:Option Nat):aB (gD (RD n f g) 19 c_ [.bS 0 2 z o 0 n c] [fD z o c n f g key] (.ret (.bool A (oQ n f g)))):=by
 refine aB.pr (Xv n f g z o c key) ?_;simp only[M,Q,true_and,decide_eq_true_eq,decide_eq_false_iff_not];have bad: ∀ {x},x<n->tr f g x=A->af (.bool u A) (.bool A (oQ n f g)):=λ{x} hx h=>cM (by have:(eA n).all (tr f g)=false:=ef.2 ⟨x,aK.2 hx,by rw[h];decide⟩;rw[oQ,this,Bool.and_false])
 refine⟨⟨0,⟨cT.zero _ _,R _⟩,rfl⟩,λx hx=>⟨λh=>⟨λh1=> ?_,λh1=> ?_⟩,λh=> ?_⟩⟩
 ·have hlt:x<n:=by omega
  refine⟨by omega,hlt,λa1=>bad hlt ?_,λa1=>⟨by omega,hlt,λa2=>bad hlt ?_,λa2=>⟨by omega,x+1,⟨⟨hx.up.next h ?_,by omega⟩,by omega⟩,by omega⟩⟩⟩
  ·simp[tr,a1]
  ·simp[tr,a2]
  ·have e1: ¬ (20:Int)<(f x).length:=a1;have e2: ¬ (100:Int)<(g x).length:=a2;rw[tr,decide_eq_false e1,decide_eq_false e2];rfl
 ·refine cM ?_;have: ¬ (n:Int)<=45:=by omega
  rw[oQ,decide_eq_false this];rfl
 ·refine cM ?_;rw[oQ,hx.up.done h,Bool.and_true]
theorem yW {cs:List aq}{tot tot':Nat}{ty:TypeId}(ht:tot=tot'):aa (.cells [] tot ty) (.rows A 0 cs A tot' ty):=by subst ht;refine aa.of rfl rfl λ_=>⟨rfl,λE o ⟨c,fr,h1,h2,h3,h4⟩=>⟨c,fr,h1,λ_=>h2,by omega,h4,λi k col hi _=>absurd hi (T _)⟩,id⟩
theorem dr (n:Nat)(f g:Nat->List UInt8):(av n f g).length=n:=by simp[av]
theorem vB {n:Nat}{f g:Nat->List UInt8}{i:Nat}(h:i<n):(av n f g).getD i ([],[])=(f i,g i):=by rw[W,av,b!,cl h];rfl
theorem Cl {z:Bool}{n:Nat}{f g:Nat->List UInt8}{c c':Nat}{ty:TypeId}{l:List Rw}(hl:l=av n f g)(hc:c=c'):aa (.rows z n [.str f,.str g] A (c*2) ty) (.rows z l.length [bK l,bL l] A (c'*2) ty):=by
 subst hl;subst hc;refine gZ (dr n f g).symm rfl rfl λk d d' h1 h2 i hi E=> ?_
 match k,h1,h2 with
 | 0,h1,h2 =>injection h1 with h1;injection h2 with h2;subst h1;subst h2;simp only[bK,aq.at,vB hi]
 | 1,h1,h2 =>injection h1 with h1;injection h2 with h2;subst h1;subst h2;simp only[bL,aq.at,vB hi]
 | k+2,h1,_=>simp at h1
theorem Jo {n:Nat}{f f' g g':Nat->List UInt8}{c c':Nat}{z:Bool}{n':Nat}{ty:TypeId}(hn:n=n')(hc:c=c')(hf: ∀ i,i<n->f i=f' i)(hg: ∀ i,i<n->g i=g' i):aa (.rows z n [.str f,.str g] A (c*2) ty) (.rows z n' [.str f',.str g'] A (c'*2) ty):=by
 refine gZ hn (by rw[hc]) rfl λk d d' h1 h2 i hi E=> ?_
 match k,h1,h2 with
 | 0,h1,h2 =>injection h1 with h1;injection h2 with h2;subst h1;subst h2;simp only[aq.at,hf i hi]
 | 1,h1,h2 =>injection h1 with h1;injection h2 with h2;subst h1;subst h2;simp only[aq.at,hg i hi]
 | k+2,h1,_=>simp at h1
theorem Ak {α:Type}{n j:Nat}(x:Nat->α)(y:Nat->α)(h:j<n+1)(hy:y 0=x n):(if j<n then x j else y (j - n))=x j:=by
 by_cases e:j<n
 ·rw[if_pos e]
 ·have:j=n:=by omega
  subst this;rw[if_neg e,Nat.sub_self,hy]
theorem yf {k k' w i n n' c c':Nat}{z:Bool}(hk:k=k')(hn:n=n')(hc:c=c'):af (.aZ k w z i n c) (.aZ k' w z i n' c'):=λE=>by subst hk;subst hn;subst hc;rfl
theorem Mj (n:Nat)(f g:Nat->List UInt8)(hn:n<=1000)(hf: ∀ i,i<n->(f i).length<1099511627776)(z:Bool)(o c:Nat)(key:Option Nat):aB (gD (RS n f g) 64 d_ [.bS 0 2 z o 0 n c] [fD z o c n f g key] (Cj (av n (λi=>ak (f i)) g))):=by
 refine aB.pr (aaH n f g z o c key) ?_;simp only[M,Q,true_and,decide_eq_true_eq,decide_eq_false_iff_not];refine⟨by omega,⟨(0,n),⟨R _,R _⟩,rfl,⟨rfl,rfl⟩,yW rfl⟩,λx hx=>⟨λh=> ?_,λh=> ?_⟩⟩
 ·have hlt:x.1<n:=by omega
  refine⟨by omega,hlt,hf _ hlt,⟨c4 _,by omega,by omega⟩,λc hc=>⟨by omega,(x.1+1,c),⟨⟨by show x.1+1<=_;omega,hc⟩,by show _ - (x.1+1)<_;omega⟩,by show(x.1:Int)+1=((x.1+1:Nat):Int);omega,⟨rfl,rfl⟩,Jo rfl rfl (λj hj=> ?_) λj hj=> ?_⟩⟩
  ·exact Ak (λj=>ak (f j)) (bP [ak (f x.1)]) hj rfl
  ·exact Ak g (bP [g x.1]) hj rfl
 ·have e:x.1=n:=by have:=hx.1;omega
  exact⟨x.2,by rw[dr];have:=hx.2;omega,by rw[e];exact Cl rfl rfl,yf rfl (by rw[dr,e]) rfl⟩
theorem KH (k n:Nat)(f g:Nat->List UInt8):b7 k (av n f g)=av n (λi=>(f i).drop k) g:=by unfold b7 av;rw[List.map_map];rfl
theorem Dh (n k:Nat)(f g:Nat->List UInt8)(hn:n<=1000)(hk: ∀ i,i<n->k<=(f i).length)(z:Bool)(o c:Nat)(key:Option Nat):aB (gD (Sa n k f g) 102 c9 [.bS 0 2 z o 0 n c,.int .i64 A k] [fD z o c n f g key] (Cj (b7 k (av n f g)))):=by
 refine aB.pr (QZ n k f g z o c key) ?_;simp only[M,Q,true_and,decide_eq_true_eq,decide_eq_false_iff_not];refine⟨by omega,⟨(0,n),⟨R _,R _⟩,rfl,⟨rfl,rfl⟩,yW rfl⟩,λx hx=>⟨λh=> ?_,λh=> ?_⟩⟩
 ·have hlt:x.1<n:=by omega
  have hkl:=hk _ hlt;refine⟨by omega,hlt,⟨by omega,by omega,by omega⟩,⟨c4 _,by omega,by omega⟩,λc hc=>⟨by omega,(x.1+1,c),⟨⟨by show x.1+1<=_;omega,hc⟩,by show _ - (x.1+1)<_;omega⟩,by show(x.1:Int)+1=((x.1+1:Nat):Int);omega,⟨rfl,rfl⟩,Jo rfl rfl (λj hj=> ?_) λj hj=> ?_⟩⟩
  ·refine Ak (λj=>(f j).drop k) (bP _) hj ?_;show cj (f x.1) (J (Operand.tmp 20)) V (k:Int) ((f x.1).length:Int)=_;unfold cj;simp
  ·exact Ak g (bP [g x.1]) hj rfl
 ·have e:x.1=n:=by have:=hx.1;omega
  rw[KH];exact⟨x.2,by rw[dr];have:=hx.2;omega,by rw[e];exact Cl rfl rfl,yf rfl (by rw[dr,e]) rfl⟩
theorem Kz: ∀(a b:List UInt8) (x:Nat),cT (min a.length b.length) (Cp a b) x->(x<min a.length b.length->ai a (x:Int)≠ai b (x:Int)->bH a b=x)/\(¬ x<min a.length b.length->bH a b=x)
 | [],b,x,h=>⟨λh1 _=>absurd h1 (by simp),λ_=>by
   have:=h.le;rw[eu,Nat.zero_min] at this;have:x=0:=by omega
   subst this;cases b<;>rfl⟩
 | a::p,[],x,h=>⟨λh1 _=>absurd h1 (by simp),λ_=>by
   have:=h.le;rw[eu,Nat.min_zero] at this;have:x=0:=by omega
   subst this;rfl⟩
 | a::p,b::q,0,h=>⟨λ_ h2=>by have:a≠b:=λe=>h2 (by subst e;rfl);rw[bH,if_neg this],λh1=>by rw[S,S] at h1;omega⟩
 | a::p,b::q,x+1,h=>by
   have e0:a=b:=by have:=h.all 0 (eC x);have:ai (a::p) 0=ai (b::q) 0:=of_decide_eq_true this;have:(a.toNat:Int)=(b.toNat:Int):=this;exact eP.1 (by omega)
   have hm:min (a::p).length (b::q).length=min p.length q.length+1:=by rw[S,S];omega
   have h':cT (min p.length q.length) (Cp p q) x:=⟨by have:=h.le;omega,λj hj=>by have:=h.all (j+1) (by omega);unfold Cp at this ⊢;rw[bZ,bZ] at this;exact this⟩
   obtain⟨g1,g2⟩:=Kz p q x h';have ec:bH (a::p) (b::q)=bH p q+1:=by rw[bH,if_pos e0]
   rw[bZ,bZ,ec];exact⟨λh1 h2=>by rw[g1 (by omega) h2],λh1=>by rw[g2 (by omega)]⟩
theorem Fg (a b:List UInt8)(ha:a.length<9223372036854775807):aB (hJ (RB a b) 100 c7 [.str A a,.str A b] (.ret (.int .i64 A (bH a b)))):=by
 refine aB.pr (U7 a b) ?_;simp only[Y,a!,decide_eq_true_eq,decide_eq_false_iff_not];refine⟨⟨0,cT.zero _ _,rfl⟩,λx hx=>⟨λh=> ?_,λh=> ?_⟩⟩
 ·have hlt:x<min a.length b.length:=by omega
  refine⟨⟨by omega,by omega⟩,⟨by omega,by omega⟩,λh1=>nQ ?_,λh1=>⟨by omega,x+1,⟨hx.next (by omega) ?_,by omega⟩,by omega⟩⟩
  ·rw[(Kz a b x hx).1 hlt h1]
  ·exact decide_eq_true h1
 ·have:=(Kz a b x hx).2 (by omega);have hle:=hx.le;exact nQ (by omega)
def tW (args:List SV):Option (Prop×SV):=match args with
 | [.str A a,.str A b]=>J (a.length<9223372036854775807,.int .i64 A (bH a b))
 | _=>V
theorem OL:az I 100 (aY tW):=by
 refine eJ (ew (n:=20) (fn:=c7) Tryz.func100 (by kernel_rfl) (by kernel_rfl) ?_);intro args p a h hp;unfold tW at h;split at h
 ·injection h with h;injection h with h1 h2;subst h1;subst h2;exact⟨_,Zg _ _,rfl,rfl,Fg _ _ hp⟩
 ·cases h
def xk (vs:List SV)(l:List Seen):Option (Prop×cL):=match vs,l with
 | [_],[⟨_,_,_,n,_,[.str f,.str g]⟩]=>J (n<9223372036854775808,.ret (.int .i64 A (cA n f g)))
 | _,_=>V
theorem Sb:az I 62 (bE UK xk):=by
 refine fT (n:=20) (fn:=c!) Tryz.func62 (by kernel_rfl) (by kernel_rfl) ?_;intro vs l q a h hq;unfold xk at h;split at h
 ·rename_i v key z o n c f g;injection h with h;injection h with h1 h2;subst h1;subst h2;exact⟨_,Zf n f g,rfl,rfl,Hg n hq f g z o c key⟩
 ·cases h
def AS (vs:List SV)(l:List Seen):Option (Prop×cL):=match vs,l with
 | [_],[⟨_,_,_,n,_,[.str f,.str g]⟩]=>J (True,.ret (.bool A (oQ n f g)))
 | _,_=>V
theorem Wb:az I 19 (bE UK AS):=by
 refine fT (n:=20) (fn:=c_) Tryz.func19 (by kernel_rfl) (by kernel_rfl) ?_;intro vs l q a h hq;unfold AS at h;split at h
 ·rename_i v key z o n c f g;injection h with h;injection h with h1 h2;subst h1;subst h2;exact⟨_,Zi n f g,rfl,rfl,HC n f g z o c key⟩
 ·cases h
theorem Jl (l:List Rw):(Cj l).Ok:=λ_=>⟨rfl,rfl,λk=>by
 show Nat.blt k (k+1)=u;rw[Nat.blt_eq];omega,λE E' k k' h=>by
 show(SV.aZ k 2 A 0 l.length _).val E=(SV.aZ k' 2 A 0 l.length _).val E';have:=h rfl;simp only[SV.val];rw[this]⟩
def Ck (vs:List SV)(l:List Seen):Option (Prop×cL):=match vs,l with
 | [_],[⟨_,_,_,n,_,[.str f,.str g]⟩]=>J (n<=1000/\∀ i,i<n->(f i).length<1099511627776,Cj (av n (λi=>ak (f i)) g))
 | _,_=>V
theorem UE:az I 64 (bE UK Ck):=by
 refine fT (n:=20) (fn:=d_) Tryz.func64 (by kernel_rfl) (by kernel_rfl) ?_;intro vs l q a h hq;unfold Ck at h;split at h
 ·rename_i v key z o n c f g;injection h with h;injection h with h1 h2;subst h1;subst h2;exact⟨_,Zz n f g,rfl,Jl _,Mj n f g hq.1 hq.2 z o c key⟩
 ·cases h
def abB:List tO:=[.of (.slice dE),.of .one]
def rJ (vs:List SV)(l:List Seen):Option (Prop×cL):=match vs,l with
 | [_,.int .i64 A k],[⟨_,_,_,n,_,[.str f,.str g]⟩]=>J (0<=k/\n<=1000/\∀ i,i<n->k.toNat<=(f i).length,Cj (b7 k.toNat (av n f g)))
 | _,_=>V
theorem MO:az I 102 (bE abB rJ):=by
 refine fT (n:=20) (fn:=c9) Tryz.func102 (by kernel_rfl) (by kernel_rfl) ?_;intro vs l q a h hq;unfold rJ at h;split at h
 ·rename_i v k key z o n c f g;injection h with h;injection h with h1 h2;subst h1;subst h2;have:=Dh n k.toNat f g hq.2.1 hq.2.2 z o c key;rw[Int.toNat_of_nonneg hq.1] at this;exact⟨_,ZH n k.toNat f g,rfl,Jl _,this⟩
 ·cases h
theorem aax (x:List Rw×Nat×Nat):cZ (.n (.s 0 (.n .k (.n .k .t))) (.n (.s 1 (.n (.s 1 (.n (.s 3 (.n .k (.n (.s 0 .k) (.s 0 (.n .k .t))))) (.s 1 (.n .k (.n (.s 0 .k) (.s 0 (.n .k .t))))))) (.s 1 (.n .k (.n (.s 0 .k) (.s 0 (.n .k .t))))))) (.s 0 (.n (.s 0 .k) (.s 1 .k))))) (runM (RC x.2.2 x.1) 103 bO Sm x) ((λP0:(Nat×Nat)->SB=>(((∃(u8:Nat×Nat),(u8.1<=x.1.length/\(bB x.2.2 (C u8.1 x.1)).length<=u8.2)/\0=(u8.1:Int)/\(bB x.2.2 (C u8.1 x.1)).length=0/\(pN u (bB x.2.2 (C u8.1 x.1)) u8.2 A).no=u)/\∀(u7:Nat×Nat),u7.1<=x.1.length/\(bB x.2.2 (C u7.1 x.1)).length<=u7.2->(H ((u7.1:Int)<(x.1.length:Int))=u->(0<=(u7.1:Int)/\(u7.1:Int)<(x.1.length:Int))/\0+(u7.1:Int).toNat<x.1.length/\((!decide ((x.1.getD (0+(u7.1:Int).toNat) ([],[])).1=[]))=u->((0:Int)<=(0:Int)/\0<(↑(x.1.getD (0+(u7.1:Int).toNat) ([],[])).1.length:Int))/\I6 (ai (x.1.getD (0+(u7.1:Int).toNat) ([],[])).1 0)/\(H (ai (x.1.getD (0+(u7.1:Int).toNat) ([],[])).1 0=(x.2.2:Int))=u->(0+(bB x.2.2 (C u7.1 x.1)).length<=(bB x.2.2 (C u7.1 x.1)).length/\True /\2*((bB x.2.2 (C u7.1 x.1)).length+1)*32<=(281474976710656:Nat)/\(bB x.2.2 (C u7.1 x.1)).length+1<(9223372036854775808:Nat))/\∀(u6:Nat),(bB x.2.2 (C u7.1 x.1)).length+1<=u6->I6 ((u7.1:Int)+1)/\∃(u5:Nat×Nat),((u5.1<=x.1.length/\(bB x.2.2 (C u5.1 x.1)).length<=u5.2)/\x.1.length - u5.1<x.1.length - u7.1)/\(u7.1:Int)+1=(u5.1:Int)/\((bB x.2.2 (C u7.1 x.1)).length+1=(bB x.2.2 (C u5.1 x.1)).length/\u6=u5.2) /\aa (SB.rows u ((bB x.2.2 (C u7.1 x.1)).length+1) [aq.str λu4=>if u4<(bB x.2.2 (C u7.1 x.1)).length then((bB x.2.2 (C u7.1 x.1)).getD u4 ([],[])).1 else bP [(x.1.getD (0+(u7.1:Int).toNat) ([],[])).1] (u4 - (bB x.2.2 (C u7.1 x.1)).length),aq.str λu3=>if u3<(bB x.2.2 (C u7.1 x.1)).length then((bB x.2.2 (C u7.1 x.1)).getD u3 ([],[])).2 else bP [(x.1.getD (0+(u7.1:Int).toNat) ([],[])).2] (u3 - (bB x.2.2 (C u7.1 x.1)).length)] A (u6*2) 174) (SB.rows u (bB x.2.2 (C u5.1 x.1)).length [bK (bB x.2.2 (C u5.1 x.1)),bL (bB x.2.2 (C u5.1 x.1))] A (u5.2*2) 174))/\(H (ai (x.1.getD (0+(u7.1:Int).toNat) ([],[])).1 0=(x.2.2:Int))=A->I6 ((u7.1:Int)+1)/\∃(u2:Nat×Nat),((u2.1<=x.1.length/\(bB x.2.2 (C u2.1 x.1)).length<=u2.2)/\x.1.length - u2.1<x.1.length - u7.1) /\(u7.1:Int)+1=(u2.1:Int)/\((bB x.2.2 (C u7.1 x.1)).length=(bB x.2.2 (C u2.1 x.1)).length/\u7.2=u2.2)/\aa (P0 u7) (SB.rows u (bB x.2.2 (C u2.1 x.1)).length [bK (bB x.2.2 (C u2.1 x.1)),bL (bB x.2.2 (C u2.1 x.1))] A (u2.2*2) 174)))/\((!decide ((x.1.getD (0+(u7.1:Int).toNat) ([],[])).1=[]))=A->I6 ((u7.1:Int)+1)/\∃(u1:Nat×Nat),((u1.1<=x.1.length/\(bB x.2.2 (C u1.1 x.1)).length<=u1.2)/\x.1.length - u1.1<x.1.length - u7.1)/\(u7.1:Int)+1=(u1.1:Int)/\((bB x.2.2 (C u7.1 x.1)).length=(bB x.2.2 (C u1.1 x.1)).length/\u7.2=u1.2)/\aa (P0 u7) (SB.rows u (bB x.2.2 (C u1.1 x.1)).length [bK (bB x.2.2 (C u1.1 x.1)),bL (bB x.2.2 (C u1.1 x.1))] A (u1.2*2) 174)))/\(H ((u7.1:Int)<(x.1.length:Int))=A->∃(u0:Nat),(bB x.2.2 x.1).length<=u0 /\((bB x.2.2 (C u7.1 x.1)).length=(bB x.2.2 x.1).length/\u7.2=u0)/\aa (P0 u7) (SB.rows u (bB x.2.2 x.1).length [bK (bB x.2.2 x.1),bL (bB x.2.2 x.1)] A (u0*2) 174))))) (fun(u7:Nat×Nat)=>(SB.rows u (bB x.2.2 (C u7.1 x.1)).length [bK (bB x.2.2 (C u7.1 x.1)),bL (bB x.2.2 (C u7.1 x.1))] A (u7.2*2) 174))):=⟨by kernel_rfl,by kernel_rfl⟩
theorem N9 {l:List Rw}{r:Rw}{c:Nat}{ty:TypeId}:aa (.rows u (l.length+1) [.str λj=>if j<l.length then(l.getD j ([],[])).1 else bP [r.1] (j - l.length),.str λj=>if j<l.length then(l.getD j ([],[])).2 else bP [r.2] (j - l.length)] A (c*2) ty) (.rows u (l++[r]).length [bK (l++[r]),bL (l++[r])] A (c*2) ty):=by
 refine gZ (by simp) rfl rfl λk c c' h1 h2 i hi E=> ?_;have e: ∀(x:Rw->List UInt8),(if i<l.length then x (l.getD i ([],[]))else bP [x r] (i - l.length))=x ((l++[r]).getD i ([],[])):=λx=>by
  rw[rA l r ([],[]) i hi];by_cases h:i<l.length
  ·rw[if_pos h,if_pos h]
  ·rw[if_neg h,if_neg h];have:i - l.length=0:=by omega
   rw[this];rfl
 match k,h1,h2 with
 | 0,h1,h2 =>injection h1 with h1;injection h2 with h2;subst h1;subst h2;simp only[bK,aq.at,SV.val,← e Prod.fst]
 | 1,h1,h2 =>injection h1 with h1;injection h2 with h2;subst h1;subst h2;simp only[bL,aq.at,SV.val,← e Prod.snd]
 | k+2,h1,_=>simp at h1
theorem yz {l:List Rw}{k:Nat}(hk:k<l.length):l.take (k+1)=l.take k++[l.getD k ([],[])]:=by rw[List.take_add_one,W,ag hk];rfl
theorem V8 {i:Nat}{l:List Rw}{k:Nat}(hk:k<l.length)(h:kW i (l.getD k ([],[])).1=u):bB i (l.take (k+1))=bB i (l.take k)++[l.getD k ([],[])]:=by rw[yz hk];unfold bB;rw[ek];congr 1;rw[en,h];rfl
theorem Sn {i:Nat}{l:List Rw}{k:Nat}(hk:k<l.length)(h:kW i (l.getD k ([],[])).1=A):bB i (l.take (k+1))=bB i (l.take k):=by rw[yz hk];unfold bB;rw[ek,en,h];simp
theorem V7 (i:Nat)(l:List Rw)(k:Nat):(bB i (l.take k)).length<=l.length:=by
 have:=List.length_filter_le (λr:Rw=>kW i r.1) (l.take k);have h2:(l.take k).length<=l.length:=by rw[ez];omega
 unfold bB;omega
theorem O0 {i:Nat}{p:List UInt8}(hp: ¬ p=[]):kW i p=H (ai p 0=(i:Int)):=by
 cases p with
 | nil=>exact absurd rfl hp
 | cons b q =>show H (b.toNat=i)=H ((b.toNat:Int)=(i:Int));exact decide_eq_decide.2 (by omega)
theorem N8 {z:Bool}{l l':List Rw}{c c':Nat}{ty:TypeId}(h:l=l')(hc:c=c'):aa (.rows z l.length [bK l,bL l] A (c*2) ty) (.rows z l'.length [bK l',bL l'] A (c'*2) ty):=by subst h;subst hc;exact aa.refl _
theorem KC (x:List Rw×Nat×Nat)(hx:x.1.length<=1000):aB (runM (RC x.2.2 x.1) 103 bO Sm x):=by
 refine aB.pr (aax x) ?_;obtain⟨l,c0,i⟩:=x;simp only[M,Q,true_and,Y,a!,decide_eq_true_eq,decide_eq_false_iff_not];have hx:l.length<=1000:=hx;refine⟨⟨(0,0),⟨R _,R _⟩,rfl,rfl,rfl⟩,λx ⟨h1,h2⟩=>⟨λh=> ?_,λh=> ?_⟩⟩
 ·have hlt:x.1<l.length:=by omega
  have hcl:=V7 i l x.1;refine⟨⟨by omega,by omega⟩,hlt,λa=> ?_,λa=> ?_⟩
  ·have hpos:0<(l.getD x.1 ([],[])).1.length:=List.length_pos_iff.2 a;have hb:=O0 (i:=i) a;refine⟨⟨by omega,by omega⟩,?_,λb=>⟨⟨c4 _,by omega,by omega⟩,λc hc=> ?_⟩,λb=> ?_⟩
   ·have h0:=eO (l.getD x.1 ([],[])).1 0;omega
   ·have e:=V8 hlt (hb.trans (decide_eq_true b));refine⟨by omega,(x.1+1,c),⟨⟨by show x.1+1<=_;omega,?_⟩,by show _ - (x.1+1)<_;omega⟩,by show(x.1:Int)+1=((x.1+1:Nat):Int);omega,⟨?_,rfl⟩,?_⟩
    ·show(bB i (l.take (x.1+1))).length<=c;rw[e,an];exact hc
    ·show _=(bB i (l.take (x.1+1))).length;rw[e,an];rfl
    ·show aa _ (.rows u (bB i (l.take (x.1+1))).length [bK (bB i (l.take (x.1+1))),bL (bB i (l.take (x.1+1)))] A (c*2) _);rw[e];exact N9
   ·have e:=Sn hlt (hb.trans (decide_eq_false b));refine⟨by omega,(x.1+1,x.2),⟨⟨by show x.1+1<=_;omega,?_⟩,by show _ - (x.1+1)<_;omega⟩,by show(x.1:Int)+1=((x.1+1:Nat):Int);omega,⟨?_,rfl⟩,N8 e.symm rfl⟩
    ·show(bB i (l.take (x.1+1))).length<=x.2;rw[e];exact h2
    ·show _=(bB i (l.take (x.1+1))).length;rw[e]
  ·have e:=Sn (i:=i) hlt (by rw[a];rfl);refine⟨by omega,(x.1+1,x.2),⟨⟨by show x.1+1<=_;omega,?_⟩,by show _ - (x.1+1)<_;omega⟩,by show(x.1:Int)+1=((x.1+1:Nat):Int);omega,⟨?_,rfl⟩,N8 e.symm rfl⟩
   ·show(bB i (l.take (x.1+1))).length<=x.2;rw[e];exact h2
   ·show _=(bB i (l.take (x.1+1))).length;rw[e]
 ·have e:l.take x.1=l:=List.take_of_length_le (by omega);rw[e] at h2 ⊢;exact⟨x.2,h2,⟨rfl,rfl⟩,aa.refl _⟩
theorem W6:az I 103 (cD Sm) :=gx (n:=20) (fn:=bO) Tryz.func103 (by kernel_rfl) (by kernel_rfl) Sm λx hx=>⟨_,Zh x.2.2 x.1,rfl,KC x hx⟩
noncomputable def Ln:List (FuncId×PT):=(105,cH (sE λx=>J (Fits x,aag x)))::(150,aY Gq)::(100,aY tW)::(102,bE abB rJ)::(103,cD Sm)::fP
theorem DS:bn I (λf=>aE f Ln):=.cons LR (b9 _) (.cons LS (aR _) (.cons OL (aR _) (.cons MO (bQ _ _) (.cons W6 (cc _) cO))))
theorem D9 (l:List Rw):av l.length (λi=>(l.getD i ([],[])).1) (λi=>(l.getD i ([],[])).2)=l:=by refine List.ext_getElem (by rw[dr]) λi h1 h2=> ?_;simp only[av,List.getElem_map,List.getElem_range,W,ag h2,eL]
structure Pd where
 D:Nat->Bool
 cS:Nat->List UInt8
 fb:Nat->Nat
 nb:Nat->Nat
 cb:Nat->Nat
 D2:Nat->Bool
 n2:Nat->Nat
 g:Nat->Nat->Nat
def Pd.parts (P:Pd)(kB:Nat):SB:=.dR P.D [.str P.cS,.bU kB 1 u P.fb P.nb P.cb] 2 165 A
def Pd.lists (P:Pd)(kA:Nat):SB:=.dD P.D2 P.n2 [.ref kA P.g] A
def Told (P:Pd):Nat->Nat->List (List UInt8)->Prop
 | 0,_,_=>False
 | d+1,a,L=>P.D a=u/\∃ Ks:List (List (List UInt8)),P.nb a=Ks.length/\(0<Ks.length->P.D2 (P.fb a)=u/\Ks.length<=P.n2 (P.fb a))/\L=P.cS a::Ks.flatten/\∀(i:Nat) (L':List (List UInt8)),Ks[i]?=J L'->Told P d (P.g (P.fb a) i) L'
def kj (P:Pd)(d n:Nat)(f:Nat->Nat)(B:List (List UInt8)):Prop:=∃ Ks:List (List (List UInt8)),n=Ks.length/\Ks.flatten=B/\∀(i:Nat) (L':List (List UInt8)),Ks[i]?=J L'->Told P d (f i) L'
def mC (m:Nat)(l:List Rw):List (List UInt8):=if l=[] then [] else(if(ctext m l).length<32 then [] else [ctext m l])++cw m l
def iQ (m:Nat)(l:List Rw):List UInt8:=if l=[] then [] else eS (ctext m l)
def vg (n a b:Nat):Mem->List Gh
 | []=>[]
 | e::r=>match Nat.blt e.1 n,e.2 with
   | false,.dR .. =>.merge a e.1::vg n a b r
   | false,.dD .. =>.merge b e.1::vg n a b r
   | _,_=>vg n a b r
def sg (nb cb:Nat)(f:Nat->Nat)(P:Pd)(k:Nat):Mem:=[(0,.cells [.str u [],.aZ k 1 u 0 nb cb] 2 165),(k,.rows u nb [.ref 3 f] A (cb*1) 106),(3,P.parts 4),(4,P.lists 3)]
structure tg where
 l:List Rw
 c:Nat
 nb:Nat
 cb:Nat
 f:Nat->Nat
 P:Pd
 B:List (List UInt8)
structure ki where
 nb:Nat
 cb:Nat
 f:Nat->Nat
 P:Pd
def qQ (m:Nat):gE :=
 {G:=tg,n:=5,N:=6,pre:=λx=>cg m x.l/\x.l.length<=1000/\m<=13/\x.nb<=x.cb/\(x.B++mC m x.l).length<=100000/\kj x.P (m+1) x.nb x.f x.B,args:=λx=>[.ptr 0 u 0,.aZ 1 2 A 0 x.l.length x.c],
  mem:=λx=>(1,pN A x.l x.c u)::sg x.nb x.cb x.f x.P 2,
  wP:=λx=>.all ki λy=>.req (y.nb<=y.cb/\kj y.P (m+1) y.nb y.f (x.B++mC m x.l)) (.ret (.str A (iQ m x.l)) (sg y.nb y.cb y.f y.P 5)),
  gh:=λ_ m=>vg 5 3 4 m}
def aaf:SV->Mem->List Gh:=λv m=>match v with
 | .ptr kp _ _=>(match m.get kp with
   | some (.cells [_,.aZ kr _ _ _ _ _] _ _)=>(match m.get kr with
     | some (.rows _ _ [.ref kA _] _ _ _)=>(match m.get kA with
       | some (.dR _ [_,.bU kB _ _ _ _ _] _ _ _)=>[.name kr 0,.merge kB kr,.name kp kB,.merge kA kp]
       | _=>[.name kp 0])
     | _=>[.name kp 0])
   | _=>[.name kp 0])
 | _=>[]
def xg (m:Nat):gE :=
 {G:=List Rw×Nat,n:=1,N:=3,pre:=λx=>cg m x.1/\x.1.length<=1000/\m<=13,args:=λx=>[.aZ 0 2 A 0 x.1.length x.2],mem:=λx=>[(0,pN A x.1 x.2 u)],
  wP:=λx=>.all (Nat×Pd) λy=>.req (Told y.2 (m+1) y.1 (b8 m x.1)) (.ret (.fI 1 y.1 0) [(1,y.2.parts 2),(2,y.2.lists 1)]),
  gh:=aaf}
def fK (m:Nat)(l:List Rw)(i:Nat):List (List UInt8):=(eA i).flatMap λj=>mC m (aP l j)
def kL (m:Nat)(l:List Rw)(i j:Nat):List UInt8:=if j<i then iQ m (aP l j)else []
noncomputable def VQ (m:Nat)(l:List Rw):aV :=
 {α:=Nat×ki,pre:=λ_ x=>x.1<=16/\x.2.nb<=x.2.cb/\kj x.2.P (m+1) x.2.nb x.2.f (fK m l x.1),kT:=λ_ x=>16 - x.1,fresh:=3,slots:=λ_ x=>[(11,.int .i64 A x.1)],
  mem:=λst x=>[(I9 st 3,.cells [.str u [],.aZ st.nx 1 u 0 x.2.nb x.2.cb] 2 165),(st.nx,.rows u x.2.nb [.ref (st.nx+1) x.2.f] A (x.2.cb*1) 106),(st.nx+1,x.2.P.parts (st.nx+2)),(st.nx+2,x.2.P.lists (st.nx+1)),
   (I9 st 4,.cells (ep ⟨3,[],[],kL m l x.1⟩) 19 138)]}
noncomputable def oI:Nat->PT
 | 0=>λ_ _ _ _=>.fail "no rows"
 | m+1=>cD (xg (m+1))
noncomputable def abn (m:Nat):List (FuncId×PT):=(63,oI m)::Ln
noncomputable def Dq (m:Nat):fJ:={cm with cG:=λf=>aE f (abn m)}
noncomputable def abm (m:Nat):List (FuncId×PT):=(101,cD (qQ m))::Ln
noncomputable def M1 (m:Nat)(l:List Rw):fJ:={cm with cG:=λf=>aE f (abm m),bx:=λh=>if h=63 then [(5,always (VQ m l))] else []}
theorem uV: ∀ m,aQ (oI m)
 | 0=>λ_ _ _ _ _ _ h=>h
 | _m+1=>cc _
theorem Kq:az I 63 (oI 0):=λ_ _ _ _ h=>h.elim
theorem Zj {m:Nat}(h:az I 63 (oI m)):Sx.Good I (Dq m):=.of bR (bn.cons h (uV m) DS) bl
theorem Ze {m:Nat}(h:az I 101 (cD (qQ m)))(l:List Rw):Sx.Good I (M1 m l):=.of bR (bn.cons h (cc _) DS) bl
theorem Xw (x:tg):cZ (.n (.s 0 (.n .k (.s 1 (.n (.s 0 .k) .k)))) .t) (runM (Dq 0) 101 c8 (qQ 0) x) (((H ((x.l.length:Int)=0)=u->∃(u0:ki),(u0.nb<=u0.cb/\kj u0.P 1 u0.nb u0.f (x.B++mC 0 x.l))/\[]=iQ 0 x.l/\(x.nb=u0.nb/\x.cb=u0.cb)/\aa (SB.rows u x.nb [aq.ref 3 x.f] A (x.cb*1) 106) (SB.rows u u0.nb [aq.ref 3 u0.f] A (u0.cb*1) 106)/\aa (SB.dR x.P.D [aq.str x.P.cS,aq.bU 4 1 u x.P.fb x.P.nb x.P.cb] 2 165 A) (u0.P.parts 4)/\aa (SB.dD x.P.D2 x.P.n2 [bW.ref 3 x.P.g] A) (u0.P.lists 3))/\(H ((x.l.length:Int)=0)=A->False))):=⟨by kernel_rfl,by kernel_rfl⟩
theorem aaA (m:Nat)(x:tg):cZ (.n (.s 0 (.n .k (.s 1 (.n (.s 0 .k) .k)))) (.s 0 (.n (.s 0 .k) (.s 0 (.n .k (.s 2 (.n (.s 2 (.n .k (.s 1 (.n (.s 0 .k) .k)))) (.s 3 (.n .k (.s 1 (.n (.s 0 .k) .k))))))))))) (runM (Dq (m+1)) 101 c8 (qQ (m+1)) x) (((H ((x.l.length:Int)=0)=u->∃(u32:ki),(u32.nb<=u32.cb/\kj u32.P (m+1+(1:Nat)) u32.nb u32.f (x.B++mC (m+1) x.l))/\[]=iQ (m+1) x.l/\(x.nb=u32.nb/\x.cb=u32.cb)/\aa (SB.rows u x.nb [aq.ref 3 x.f] A (x.cb*1) 106) (SB.rows u u32.nb [aq.ref 3 u32.f] A (u32.cb*1) 106)/\aa (SB.dR x.P.D [aq.str x.P.cS,aq.bU 4 1 u x.P.fb x.P.nb x.P.cb] 2 165 A) (u32.P.parts 4)/\aa (SB.dD x.P.D2 x.P.n2 [bW.ref 3 x.P.g] A) (u32.P.lists 3))/\(H ((x.l.length:Int)=0)=A->∃(u31:List Rw×Nat),(cg (aN._f 0 Unit.unit m+1) u31.1/\u31.1.length<=1000/\aN._f 0 Unit.unit m+1<=(13:Nat))/\(x.l.length=u31.1.length/\x.c=u31.2)/\aa (SB.rows A x.l.length [bK x.l,bL x.l] u (x.c*2) 174) (SB.rows A u31.1.length [bK u31.1,bL u31.1] u (u31.2*2) 174)/\∀(u30:Nat×Pd),Told u30.2 (aN._f 0 Unit.unit m+1+(1:Nat)) u30.1 (b8 (aN._f 0 Unit.unit m+1) u31.1)->u30.2.D u30.1=u/\(u30.2.cS u30.1).length<1152921504606846976/\(eS (u30.2.cS u30.1)).length<9223372036854775808 /\(bw (eS (u30.2.cS u30.1))=u->(0+x.nb<=x.nb/\True/\2*(x.nb+1)*8<=(281474976710656:Nat)/\x.nb+1<(9223372036854775808:Nat))/\∀(u29:Nat),x.nb+1<=u29->(∀(u28:Nat),(x.P.parts 4).dom u28=u->(SB.aJ (pL 1 (tB 0 (((1:Nat),pN A x.l x.c u)::sg x.nb x.cb x.f x.P 2) (pN A u31.1 u31.2 u) (pN A x.l x.c u) [((0:Nat),(1:Nat))]) 5) (u30.2.parts 2)).dom u28=A)->(∀(u27:Nat),(SB.told (Bb 6 3) (fun(u26:Nat)=>bif u26.beq 6 then(3:Nat)else u26) (x.P.lists 3)).dom u27=u->(SB.told (Bb 6 3) (fun(u25:Nat)=>bif u25.beq 6 then(3:Nat)else u25) (SB.aJ (pL 1 (tB 0 (((1:Nat),pN A x.l x.c u)::sg x.nb x.cb x.f x.P 2) (pN A u31.1 u31.2 u) (pN A x.l x.c u) [((0:Nat),(1:Nat))]) 5) (u30.2.lists 1))).dom u27=A)->∃(u24:ki),(u24.nb<=u24.cb/\kj u24.P (m+1+(1:Nat)) u24.nb u24.f (x.B++mC (m+1) x.l))/\eS (u30.2.cS u30.1)=iQ (m+1) x.l/\(x.nb+1=u24.nb/\u29=u24.cb) /\aa (SB.rows u (x.nb+1) [aq.ref (bif(bif K 3 6 then(3:Nat)else(3:Nat)).beq 7 then(4:Nat)else bif K 3 6 then(3:Nat)else(3:Nat)) fun(u23:Nat)=>if u23<x.nb then x.f u23 else UI [u30.1] (u23 - x.nb)] A (u29*1) 106) (SB.rows u u24.nb [aq.ref 3 u24.f] A (u24.cb*1) 106)/\aa (SB.dR (fun(u22:Nat)=>x.P.D u22||u30.2.D u22) [aq.str λu21=>bif x.P.D u21 then x.P.cS u21 else u30.2.cS u21,aq.bU (bif(bif K 4 6 then(3:Nat)else(4:Nat)).beq 7 then(4:Nat)else bif K 4 6 then(3:Nat)else(4:Nat)) 1 u (fun(u20:Nat)=>bif x.P.D u20 then x.P.fb u20 else u30.2.fb u20) (fun(u19:Nat)=>bif x.P.D u19 then x.P.nb u19 else u30.2.nb u19) fun(u18:Nat)=>bif x.P.D u18 then x.P.cb u18 else u30.2.cb u18] 2 165 A) (u24.P.parts 4) /\aa (SB.dD (fun(u17:Nat)=>x.P.D2 u17||u30.2.D2 u17) (fun(u16:Nat)=>bif x.P.D2 u16 then x.P.n2 u16 else u30.2.n2 u16) [bW.fO (fun(u15:Nat)=>bif u15.beq 7 then(4:Nat)else u15) (bW.ref (bif K 3 6 then(3:Nat)else(3:Nat)) fun(b i:Nat)=>bif x.P.D2 b then x.P.g b i else u30.2.g b i)] A) (u24.P.lists 3))/\(bw (eS (u30.2.cS u30.1))=A->u30.2.D u30.1=u/\(0+x.nb<=x.nb/\(0<u30.2.nb u30.1->u30.2.D2 (u30.2.fb u30.1)=u/\0+u30.2.nb u30.1<=u30.2.n2 (u30.2.fb u30.1))/\2*(x.nb+u30.2.nb u30.1)*8<=(281474976710656:Nat)/\x.nb+u30.2.nb u30.1<9223372036854775808)/\∀(u14:Nat),x.nb+u30.2.nb u30.1<=u14->(∀(u13:Nat),(x.P.parts 4).dom u13=u->(SB.aJ (pL 1 (tB 0 (((1:Nat),pN A x.l x.c u)::sg x.nb x.cb x.f x.P 2) (pN A u31.1 u31.2 u) (pN A x.l x.c u) [((0:Nat),(1:Nat))]) 5) (u30.2.parts 2)).dom u13=A)->(∀(u12:Nat),(SB.told (Bb 6 3) (fun(u11:Nat)=>bif u11.beq 6 then(3:Nat)else u11) (x.P.lists 3)).dom u12=u ->(SB.told (Bb 6 3) (fun(u10:Nat)=>bif u10.beq 6 then(3:Nat)else u10) (SB.aJ (pL 1 (tB 0 (((1:Nat),pN A x.l x.c u)::sg x.nb x.cb x.f x.P 2) (pN A u31.1 u31.2 u) (pN A x.l x.c u) [((0:Nat),(1:Nat))]) 5) (u30.2.lists 1))).dom u12=A)->∃(u9:ki),(u9.nb<=u9.cb/\kj u9.P (m+1+(1:Nat)) u9.nb u9.f (x.B++mC (m+1) x.l))/\eS (u30.2.cS u30.1)=iQ (m+1) x.l/\(x.nb+u30.2.nb u30.1=u9.nb/\u14=u9.cb)/\aa (SB.rows u (x.nb+u30.2.nb u30.1) [aq.ref (bif(bif K 3 6 then(3:Nat)else(3:Nat)).beq 7 then(4:Nat)else bif K 3 6 then(3:Nat)else(3:Nat)) fun(u8:Nat)=>if u8<x.nb then x.f u8 else u30.2.g (u30.2.fb u30.1) (u8 - x.nb)] A (u14*1) 106) (SB.rows u u9.nb [aq.ref 3 u9.f] A (u9.cb*1) 106) /\aa (SB.dR (fun(u7:Nat)=>x.P.D u7||u30.2.D u7) [aq.str λu6=>bif x.P.D u6 then x.P.cS u6 else u30.2.cS u6,aq.bU (bif(bif K 4 6 then(3:Nat)else(4:Nat)).beq 7 then(4:Nat)else bif K 4 6 then(3:Nat)else(4:Nat)) 1 u (fun(u5:Nat)=>bif x.P.D u5 then x.P.fb u5 else u30.2.fb u5) (fun(u4:Nat)=>bif x.P.D u4 then x.P.nb u4 else u30.2.nb u4) fun(u3:Nat)=>bif x.P.D u3 then x.P.cb u3 else u30.2.cb u3] 2 165 A) (u9.P.parts 4)/\aa (SB.dD (fun(u2:Nat)=>x.P.D2 u2||u30.2.D2 u2) (fun(u1:Nat)=>bif x.P.D2 u1 then x.P.n2 u1 else u30.2.n2 u1) [bW.fO (fun(u0:Nat)=>bif u0.beq 7 then(4:Nat)else u0) (bW.ref (bif K 3 6 then(3:Nat)else(3:Nat)) fun(b i:Nat)=>bif x.P.D2 b then x.P.g b i else u30.2.g b i)] A) (u9.P.lists 3))))):=⟨by kernel_rfl,by kernel_rfl⟩
end Go.Proofs.YtoibaecagklkaaaGreatDoor
