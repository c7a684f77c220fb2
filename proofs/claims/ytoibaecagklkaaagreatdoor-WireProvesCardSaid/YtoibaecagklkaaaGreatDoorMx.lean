/- A part of the proof. -/
import Derived.Test.YtoibaecagklkaaaGreatDoorMw
open Bool renaming and_eq_false_iff->b!,and_eq_true->S,false->F,not_eq_true'->cl,or_eq_true->a!,true->C
open Decidable renaming decide->M
open Go.Proofs.Tryz renaming f13->b5,f17->b6,f27->ct,f28->cx,prog->J
open List renaming append_assoc->ag,append_cancel_left->cy,append_nil->b7,getD_eq_getElem?_getD->cD,length->c4,length_append->Z,length_filter_le->c5,length_map->c6,map->c7,mem_append_right->c_,mem_cons_of_mem->c!,mem_cons_self->X,mem_range->dQ,nil_append->b9,range->an
open Nat renaming le_refl->W,le_trans->az,not_lt_zero->b_,succ_lt_succ->d_,succ_pos->d!,zero_add->aO,zero_le->O
open Option renaming none->I,some->H
open Option.some renaming inj->a_
namespace Go.Proofs.YtoibaecagklkaaaGreatDoor
open Go Sx
set_option maxRecDepth 20000
theorem Xg {key:f_}{m:Nat}{l:List Rw}{p q:f_}(h:au key=p++q):match eH (bF (m+1) l) q with
  | none=>∀ i,i<16->aG l i=[]∨bW key key (eV (bF (m+1) l) p i)=F
  | some (k,q')=>k<16/\au key=eV (bF (m+1) l) p k++q'/\∀ i,i<16->i≠k->aG l i=[]∨bW key key (eV (bF (m+1) l) p i)=false:=by
 have eT: ∀ i,eV (bF (m+1) l) p i=p++(if(bF (m+1) l).k=3 then(bF (m+1) l).p++[UInt8.ofNat i] else(bF (m+1) l).p):=λi=>by unfold eV cat;split<;>simp[ag]
 have off: ∀ i,¬ (∃ u,q=(if(bF (m+1) l).k=3 then(bF (m+1) l).p++[UInt8.ofNat i] else(bF (m+1) l).p)++u)->bW key key (eV (bF (m+1) l) p i)=false:=λi hn=>by
  cases hb:bW key key (eV (bF (m+1) l) p i)with
  | false=>rfl
  | true =>obtain⟨u,e⟩:=S4.1 hb;rw[h,eT,ag] at e;exact absurd ⟨u,cy e⟩ hn
 unfold eH;rcases Vq (m:=m) (l:=l)with ⟨k3,kp⟩ | ⟨k2,kz⟩ | ⟨k2,k3,kz⟩
 ·have of: ∀ {b:UInt8} {q':f_},q=b::q'->∀ i,i<16->i≠b.toNat->bW key key (eV (bF (m+1) l) p i)=false:=λhq i hi hne=>off i fun⟨u,e⟩=>by rw[r_ k3,kp,hq] at e;injection e with e _;have:=congrArg UInt8.toNat e;rw[UInt8.toNat_ofNat'] at this;omega
  rw[s_ (by rw[k3];decide),r_ k3];cases q with
  | nil=>exact λi _=>.inr (off i fun⟨u,e⟩=>by rw[r_ k3,kp] at e;cases e)
  | cons b q =>refine⟨pn key b (by rw[h];exact c_ _ (X ..)),?_,λi hi hne=>.inr (of rfl i hi hne)⟩;rw[h,eT,r_ k3,kp,ag,UInt8.ofNat_toNat];rfl
 ·have hk3: ¬ (bF (m+1) l).k=3:=by rw[k2];decide
  rw[r_ k2];cases hb:preB (bF (m+1) l).p q with
  | true =>obtain⟨u,e⟩:=Dn.1 hb;refine⟨by decide,?_,λi _ hne=>.inl (kz i (by omega))⟩;rw[eT,s_ hk3,show q.drop (bF (m+1) l).p.length=u by rw[e];simp,ag,← e];exact h
  | false=>exact λi _=>.inr (off i fun⟨u,e⟩=>by rw[s_ hk3] at e;rw[Dn.2 ⟨u,e⟩] at hb;cases hb)
 ·rw[s_ k2,s_ k3];exact λi _=>.inl (kz i)
theorem HO {key t:f_}:hasB key key t=C↔t=au key:=by
 rw[mV];constructor
 ·rintro⟨h1,h2⟩;have:=sD h1;rw[h2,Bool.false_or,p_] at this;exact this.symm
 ·rintro rfl;exact⟨gD _,gD _⟩
theorem tu {m:Nat}{l:List Rw}(h:cc (m+1) l)(hl:l≠[]):(bF (m+1) l).k=3/\(bF (m+1) l).p=[]∨(bF (m+1) l).k=2/\(bF (m+1) l).v=[]∨(bF (m+1) l).k=1/\(bF (m+1) l).v≠[]:=by
 match l,hl,h with
 | [r],_,h=>exact .inr (.inr ⟨rfl,λe=>by have:=(h.val r (X ..)).1;rw[show r.2=[] from e] at this;cases this⟩)
 | r::s::t,_,_ =>
   have e:bF (m+1) (r::s::t)=fP (λl'=>if l'=[] then [] else eY (cZ (bF m l'))) (r::s::t):=rfl
   rw[e];unfold fP;dsimp only;split
   ·exact .inr (.inl ⟨rfl,rfl⟩)
   ·exact .inl ⟨rfl,rfl⟩
theorem Gv (x:Nd)(q:f_)(hq: ∀ b,b∈ q->b.toNat<16):(eH x q=I->bD x q=[])/\∀ i q',eH x q=H (i,q')->bD x q=x.r i/\(x.r i≠[]->cC x q=q'):=by
 unfold eH cC bD;by_cases k2:x.k=2
 ·have k3: ¬ x.k=3:=by omega
  rw[r_ k2,s_ k3,r_ k2,s_ k3];cases hb:preB x.p q with
  | true =>refine⟨(λh=>by cases h),λi q' h=> ?_⟩;cases h;exact⟨rfl,λhn=>s_ hn⟩
  | false=>exact⟨λ_=>rfl,(λi q' h=>by cases h)⟩
 ·rw[s_ k2];by_cases k3:x.k=3
  ·rw[r_ k3,r_ k3,r_ k3];cases q with
   | nil=>exact⟨λ_=>s_ λh=>h.1 rfl,(λi q' h=>by cases h)⟩
   | cons b q =>refine⟨(λh=>by cases h),λi q' h=> ?_⟩;cases h;have hb:=hq b (X ..);have e:ai (b::q) 0=(b.toNat:Int):=rfl;rw[r_ ⟨(λh=>by cases h),by rw[e];omega⟩,e];exact⟨rfl,λhn=>s_ hn⟩
  ·rw[s_ k3,s_ k3,s_ k2];exact⟨λ_=>rfl,(λi q' h=>by cases h)⟩
def abR (w:Wy)(u:Nat)(L:List f_):Prop:=∀ i,i<L.length->u+i<w.n/\w.f (u+i)=L.getD i []
theorem GI {key:f_}{w:Wy}: ∀ {m:Nat} {l:List Rw} {p q:f_} {u j:Nat},m<=13->cc m l->au key=p++q->abR w u (mj m l q)->q.length<j->
  ∃ y q',Un w j (bF m l) q u=H (y,q',u+(mj m l q).length)/\gL key key p l=if dO y q'=C then [(key,gp y q')] else []
 | _,_,_,_,_,0,_,_,_,_,h=>absurd h (b_ _)
 | 0,l,p,q,u,j+1,_,hr,_,_,_=>by rw[pI hr];exact⟨e9,q,rfl,rfl⟩
 | m+1,l,p,q,u,j+1,hm,hr,hp,hw,hj=>by
   have hN:=Xg (m:=m) (l:=l) hp;obtain⟨s0,s1⟩:=Gv (bF (m+1) l) q λb hb=>pn key b (by rw[hp];exact c_ _ hb)
   have eG:Un w (j+1) (bF (m+1) l) q u=if bD (bF (m+1) l) q=[] then H (bF (m+1) l,q,u)else match x9 (w.on u) (bD (bF (m+1) l) q)with
    | none=>I
    | some (y,u')=>Un w j y (cC (bF (m+1) l) q) u':=rfl
   have eW:mj (m+1) l q=match eH (bF (m+1) l) q with
    | none=>[]
    | some (i,q')=>if aG l i=[] then [] else(if(ctext m (aG l i)).length<32 then [] else [ctext m (aG l i)])++mj m (aG l i) q':=rfl
   by_cases hl:l=[]
   ·subst hl;have e:bD (bF (m+1) []) q=[]:=rfl;have e2:mj (m+1) [] q=[]:=rfl;rw[eG,r_ e,e2];exact⟨e9,q,rfl,rfl⟩
   have eM:=FY key key p hl hr;have own:zo key key p (bF (m+1) l)=if(bF (m+1) l).v≠[]/\(bF (m+1) l).p=q then [(key,(bF (m+1) l).v)] else []:=by
    unfold zo;by_cases hv:(bF (m+1) l).v=[]
    ·rw[r_ hv,s_ λh=>h.1 hv]
    ·rw[s_ hv];by_cases hq:(bF (m+1) l).p=q
     ·have e:cat p (bF (m+1) l).p=au key:=by rw[hp,hq];rfl
      rw[r_ (HO.2 e),e,m8,r_ ⟨hv,hq⟩]
     ·rw[s_ (show ¬ hasB key key (cat p (bF (m+1) l).p)=C from λh=>hq (cy ((HO.1 h).trans hp))),s_ λh=>hq h.2]
   have stop:bD (bF (m+1) l) q=[]->mj (m+1) l q=[]->(∀ i,i<16->aG l i=[]∨bW key key (eV (bF (m+1) l) p i)=F)->((bF (m+1) l).k=3->q≠[]->(bF (m+1) l).p≠q)->∃ y q',Un w (j+1) (bF (m+1) l) q u=H (y,q',u+(mj (m+1) l q).length)/\gL key key p l=if dO y q'=C then [(key,gp y q')] else []:=λh1 h2 h3 h4=>by
    refine⟨bF (m+1) l,q,by rw[eG,r_ h1,h2];rfl,?_⟩;rw[eM,mT λi hi=> ?_,b7,own]
    ·have hc:dO (bF (m+1) l) q=C↔((bF (m+1) l).v≠[]/\(bF (m+1) l).p=q):=by
      unfold dO;simp only[a!,S,p_,cl,q_];rcases tu hr hl with ⟨a,b⟩ | ⟨a,b⟩ | ⟨a,b⟩
      ·constructor
       ·rintro(⟨h,_⟩ | ⟨_,h,h'⟩)
        ·omega
        ·exact⟨h',by rw[b,h]⟩
       ·rintro⟨h,h'⟩;exact .inr ⟨a,by rw[← h',b],h⟩
      ·constructor
       ·rintro(⟨h,_⟩ | ⟨h,_⟩)<;>omega
       ·rintro⟨h,_⟩;exact absurd b h
      ·constructor
       ·rintro(⟨_,h⟩ | ⟨h,_⟩)
        ·exact⟨b,h⟩
        ·omega
       ·rintro⟨_,h⟩;exact .inl ⟨a,h⟩
     by_cases hb:dO (bF (m+1) l) q=C
     ·rw[r_ hb,r_ (hc.1 hb)];unfold gp;rw[hb];rfl
     ·rw[s_ hb,s_ λh=>hb (hc.2 h)]
    ·rcases h3 i (dQ.1 hi)with e | e
     ·rw[e];rfl
     ·exact zf e _
   cases hn:eH (bF (m+1) l) q with
   | none =>
     rw[hn] at hN eW;refine stop (s0 hn) eW hN λh3 hq=> ?_;exfalso;unfold eH at hn;rw[s_ (by omega),r_ h3] at hn;cases q with
     | nil=>exact hq rfl
     | cons b q=>cases hn
   | some z =>
     obtain⟨i,q'⟩:=z;rw[hn] at hN eW;dsimp only at hN eW;obtain⟨hi,hpk,hoff⟩:=hN;obtain⟨t1,t2⟩:=s1 i q' hn;have ref:=p4 m l hi;by_cases hk:aG l i=[]
     ·rw[r_ hk] at ref eW;refine stop (t1.trans ref) eW (λa ha=> ?_) λh3 hq e=> ?_
      ·by_cases e:a=i
       ·subst e;exact .inl hk
       ·exact hoff a ha e
      ·rcases tu hr hl with ⟨_,b⟩ | ⟨a,_⟩ | ⟨a,_⟩
       ·rw[b] at e;exact hq e.symm
       ·omega
       ·omega
     ·rw[s_ hk] at ref eW;have ho:=fL hr i;have hv:=dw (m:=m) (by omega) ho hk;have hk0:=Hj ho hk;have ne:(bF (m+1) l).r i≠[]:=by rw[ref];exact(CZ hv hk0).2
      have hlen:q'.length<q.length:=by
       have h1:=congrArg c4 hpk;have h2:=congrArg c4 hp;rw[Z] at h1 h2;rcases tu hr hl with ⟨a,b⟩ | ⟨a,b⟩ | ⟨a,b⟩
       ·have:(eV (bF (m+1) l) p i).length=p.length+(bF (m+1) l).p.length+1:=by unfold eV cat;rw[r_ a];simp;omega
        omega
       ·have:(eV (bF (m+1) l) p i).length=p.length+(bF (m+1) l).p.length:=by unfold eV cat;rw[s_ (by omega)];simp
        have:=List.length_pos_iff.2 ((wj (dw (m:=m+1) hm hr hl)).1 a);omega
       ·exfalso;unfold eH at hn;rw[s_ (by omega),s_ (by omega)] at hn;cases hn
      have eM':gL key key p l=gL key key (eV (bF (m+1) l) p i) (aG l i):=by
       rw[eM,own,s_,b9,At hi λa ha hne=> ?_]
       ·rcases hoff a ha hne with e | e
        ·rw[e];rfl
        ·exact zf e _
       ·rintro⟨hv,e⟩;rcases tu hr hl with ⟨a,b⟩ | ⟨a,b⟩ | ⟨a,b⟩
        ·rw[b] at e;subst e;exact absurd hlen (b_ _)
        ·exact hv b
        ·unfold eH at hn;rw[s_ (by omega),s_ (by omega)] at hn;cases hn
      rw[eM',eG,s_ (by rw[t1];exact ne),t1,t2 ne,ref];have hto: ∃ u',x9 (w.on u) (eY (ctext m (aG l i)))=H (bF m (aG l i),u')/\abR w u' (mj m (aG l i) q')/\u'+(mj m (aG l i) q').length=u+(mj (m+1) l q).length:=by
       rw[eW] at hw ⊢;by_cases hs:(ctext m (aG l i)).length<32
       ·rw[r_ hs,b9] at hw ⊢;refine⟨u,?_,hw,rfl⟩;rw[iC hs];unfold x9;rw[r_ (show bH (ctext m (aG l i))=C from(sn hv hk0 hs).1),gr hv];rfl
       ·rw[s_ hs] at hw ⊢;obtain⟨h1,h2,h3⟩:=iN hs;obtain⟨w1,w2⟩:=hw 0 (by simp);have w2:w.f u=ctext m (aG l i):=w2;refine⟨u+1,?_,λa ha=> ?_,by simp;omega⟩
        ·unfold x9;have ht:cJ (w.on u) (aK (ctext m (aG l i)))=true:=by unfold cJ;rw[S,S,p_,p_];exact⟨by show(u:Int)<(w.n:Int);omega,by show aK (w.f u)=_;rw[w2],by show bG (w.f u)=C;rw[w2];exact(gJ hv).1⟩
         rw[s_ (λh=>by have:=qh h;omega),h1,h2,ht];show H (getD (w.f u),u+1)=_;rw[w2,gr hv]
        ·have:=hw (a+1) (by simp;omega);rw[show u+1+a=u+(a+1)by omega];exact this
      obtain⟨u',e1,e2,e3⟩:=hto;rw[← e3]
      show ∃ y q'',(match x9 (w.on u) (eY (cZ (bF m (aG l i))))with
       | none=>I
       | some (y,u')=>Un w j y q' u')=_/\_
      rw[show x9 (w.on u) (eY (cZ (bF m (aG l i))))=_ from e1]
      exact GI (by omega) ho hpk e2 (by omega)
theorem Ua (x:BlG):dB (.n (.s 3 (.n .k (.s 0 (.m 2 (.s 0 (.m 4 (.s 2 (.m 3 (.n (.s 1 (.m 20 (.s 0 (.m 2 (.s 0 (.n (.s 0 .k) (.s 0 (.n .k (.n (.s 0 .k) (.s 0 (.m 3 (.s 0 (.m 3 (.n (.n (.n (.s 0 (.n (.s 0 .k) (.s 1 .k))) .t) .t) .t)))))))))))))) .t))))))))) .t) (runM PD 13 b5 wC x) ((λc:(vf×f_)->Nd=>((Bk (cY x.y.Fr x.root) (x.y.A.D (x.y.g x.root)=C/\Bk (!(Op.bytesLess x.fr x.to||decide (x.fr=x.to))) (Fk (x.root=cH x.n x.f x.g) (Bo x.fr x.to=C->∃(i:Nat),x.ns.length<=i/\False) False) (∃(a:vf×f_),(BG a.1.w a.1.y/\a.1.s.Small/\(a.1.s.ns.length<=a.1.c1/\a.1.s.fs.length<=a.1.c2)/\True)/\x.root=a.2/\x.fr=a.1.w.fr/\x.to=a.1.w.to/\a.1.s.ns.length=0/\0=(a.1.s.lk:Int)/\a.1.s.fs.length=0/\aa (SB.map [] 0) (ff a.1.s)/\(dY a.1.s a.1.c1).no=C/\(dH a.1.s a.1.c2).no=C/\x.room=a.1.room/\aa (SB.fmap (cY x.y.Fr) (aE.ref 2 x.y.g) I) (SB.fmap a.1.w.ad (aE.ref 6 a.1.y.g) I)/\aa (SB.eD x.y.A.D [av.str x.y.A.dm] 4 133 C) a.1.y.A.rK/\Bk (cL a.1.w a.2) (∀(d:Nat×Nat),(if a.1.s.used a.2=0 then a.1.s.ns++[a.1.w.at a.2] else a.1.s.ns).length<=d.1/\a.1.s.fs.length<=d.2->∃(b:vf×Nd×f_),(BG b.1.w b.1.y/\b.1.s.Small/\(b.1.s.ns.length<=b.1.c1/\b.1.s.fs.length<=b.1.c2)/\b.1.s.Fit (b.1.s.lk+1)/\401<=b.1.s.lk+401/\b.2.1.lZ/\b.2.2.length<=13*b.1.s.lk)/\(c a).k=b.2.1.k/\(c a).p=b.2.1.p/\(c a).v=b.2.1.v/\(c a).r 0=b.2.1.r 0/\(c a).r 1=b.2.1.r 1/\(c a).r 2=b.2.1.r 2/\(c a).r 3=b.2.1.r 3/\(c a).r 4=b.2.1.r 4/\(c a).r 5=b.2.1.r 5/\(c a).r 6=b.2.1.r 6/\(c a).r 7=b.2.1.r 7/\(c a).r 8=b.2.1.r 8/\(c a).r 9=b.2.1.r 9/\(c a).r 10=b.2.1.r 10/\(c a).r 11=b.2.1.r 11/\(c a).r 12=b.2.1.r 12/\(c a).r 13=b.2.1.r 13/\(c a).r 14=b.2.1.r 14/\(c a).r 15=b.2.1.r 15/\[]=b.2.2/\a.1.w.fr=b.1.w.fr/\a.1.w.to=b.1.w.to/\((if a.1.s.used a.2=0 then a.1.s.ns++[a.1.w.at a.2] else a.1.s.ns).length=b.1.s.ns.length/\d.1=b.1.c1)/\(a.1.s.lk:Int)=(b.1.s.lk:Int)/\(a.1.s.fs.length=b.1.s.fs.length/\d.2=b.1.c2)/\aa (SB.fmap (dZ a.1.s.ud a.2) (aE.int IntKind.i64 (gA a.1.s.us a.2 (a.1.s.used a.2+1))) I) (ff b.1.s)/\aa (SB.rows C (if a.1.s.used a.2=0 then a.1.s.ns++[a.1.w.at a.2] else a.1.s.ns).length [av.str λj=>(if a.1.s.used a.2=0 then a.1.s.ns++[a.1.w.at a.2] else a.1.s.ns).getD j []] F (d.1*1) 9) (dY b.1.s b.1.c1)/\aa (SB.rows C a.1.s.fs.length [av.str λl=>(a.1.s.fs.getD l ([],[])).1,av.str λo=>(a.1.s.fs.getD o ([],[])).2] F (d.2*2) 50) (dH b.1.s b.1.c2)/\a.1.room=b.1.room/\aa (SB.fmap a.1.w.ad (aE.ref 2 a.1.y.g) I) (SB.fmap b.1.w.ad (aE.ref 6 b.1.y.g) I)/\aa (SB.eD x.y.A.D [av.str x.y.A.dm] 4 133 C) b.1.y.A.rK/\Bk (fC b.1.w 401 b.1.s b.2.1 b.2.2) (∀(e:Nat×Nat),(bz b.1.w 401 b.1.s b.2.1 b.2.2).ns.length<=e.1/\(bz b.1.w 401 b.1.s b.2.1 b.2.2).fs.length<=e.2->Fk (x.root=cH x.n x.f x.g) (Bk (Bo x.fr x.to) (∃(h:Nat),x.ns.length<=h/\((bz b.1.w 401 b.1.s b.2.1 b.2.2).ns.length=x.ns.length/\e.1=h)/\aa (SB.cells [SV.int .i64 F b.1.room,SV.map 1] 2 126) (fA x.room 1)/\aa (SB.fmap b.1.w.ad (aE.ref 2 b.1.y.g) I) (SB.fmap (cY x.y.Fr) (aE.ref 2 x.y.g) I)/\aa (SB.rows C (bz b.1.w 401 b.1.s b.2.1 b.2.2).ns.length [av.str λq=>(bz b.1.w 401 b.1.s b.2.1 b.2.2).ns.getD q []] F (e.1*1) 9) (SB.rows C x.ns.length [jz x.ns] F (h*1) 9)) False) False) (∀(_u4:f_×f_),Fk (x.root=cH x.n x.f x.g) (Bk (Bo x.fr x.to) (∃(u:Nat),x.ns.length<=u/\False) False) False)) (∀(_u2:f_×f_),Fk (x.root=cH x.n x.f x.g) (Bk (Bo x.fr x.to) (∃(z:Nat),x.ns.length<=z/\False) False) False))) (M (x.root=cH x.n x.f x.g)=C->Bk (Bo x.fr x.to) (∃(B:Nat),x.ns.length<=B/\False) False)))) (fun(a:vf×f_)=>(getD (a.1.w.at a.2)))):=⟨by kernel_rfl,by kernel_rfl⟩
theorem BF.ok {n:Nat}{f g:Nat->f_}{y:uZ}(h:BF n f g y){fr to:f_}(hf:fr.length<=1000)(ht:to.length<=1000):BG (pM n f g y fr to) y:=by
 have hr:=gQ h.oC;refine⟨λk hk=> ?_,λk hk=> ?_,λk hk=> ?_,hf,ht⟩
 all_goals have hk:k∈ y.Fr:=l_ hk
 ·obtain⟨h1,h2,_⟩:=iu _ _ _ (h.st.bf.dom k hk);have hin:iK n f g (cI (iK n f g) (mX n f g).length k).toNat∈ cX 13 (aB n (λi=>au (f i)) g):=(lO _ _ rfl _).1 (rL (by show _<(mX n f g).length;omega));exact az (l9 hr hin).2.1 (by decide)
 ·exact h.st.dom k hk
 ·exact h.st.dm k hk
theorem BF.root {n:Nat}{f g:Nat->f_}{y:uZ}(h:BF n f g y):cY y.Fr (cH n f g)=true:=by have:=h.st.bf.root;rw[wW] at this;exact n_ this
theorem BF.none {n:Nat}{f g:Nat->f_}{y:uZ}(h:BF n f g y){k:f_}(hk:k.length≠32):cY y.Fr k=false:=by refine o_ λhm=>hk ?_;obtain⟨_,_,e⟩:=iu _ _ _ (h.st.bf.dom k hm);rw[← e];exact xR _
theorem zH (n:Nat)(f g:Nat->f_):(cH n f g).length=32:=xR _
section
attribute [local irreducible] aK bG getD hasB oS au lQ fC bz pV mX cH cL
set_option maxHeartbeats 1000000 in
theorem G4 (x:BlG)(hx:Zx x):ay (runM PD 13 b5 wC x):=by
 refine ay.A5 (Ua x) (by delta Bk Fk;exact rfl) ?_;obtain⟨n,f,g,y,fr,to,root,room⟩:=x;obtain⟨hh,hfr,hto,hroot⟩:=hx;dsimp only at hh hfr hto hroot ⊢;have eL:Bo fr to=(Op.bytesLess fr to||decide (fr=to)):=rfl;by_cases hr:root=cH n f g
 ·subst hr;rw[hh.root];simp only[← eL,decide_true,cl,Bool.not_eq_false',Bool.true_eq_false,false_imp_iff,and_true,forall_const];refine⟨hh.st.dom _ (l_ hh.root),(λh1 h2=>by rw[h1] at h2;cases h2),λh1=> ?_⟩;have hok:=hh.ok hfr hto;obtain⟨s,w1,w2⟩:=abe hh.oC hh.apart hh.st fr to;rw[wW,show aK (ctext 13 (aB n (λi=>au (f i)) g))=cH n f g from by unfold cH;rfl] at w1
  unfold nu at w1;cases hL:cL (pM n f g y fr to) (cH n f g)with
  | false=>rw[hL] at w1;cases w1
  | true =>
    rw[hL,cond_true] at w1;have hB:fC (pM n f g y fr to) 401 (Wk.start.take (pM n f g y fr to) (cH n f g)) (getD ((pM n f g y fr to).at (cH n f g))) []=true:=by unfold fC;rw[w1];rfl
    have hS:bz (pM n f g y fr to) 401 (Wk.start.take (pM n f g y fr to) (cH n f g)) (getD ((pM n f g y fr to).at (cH n f g))) []=s:=by unfold bz;rw[w1]
    have hg:bG ((pM n f g y fr to).at (cH n f g))=true:=by unfold cL at hL;rw[S] at hL;exact hL.2
    have hfit:=Gu (pM n f g y fr to) (cH n f g);refine⟨(⟨pM n f g y fr to,Wk.start,0,0,y,room⟩,cH n f g),⟨hok,⟨λ_=>⟨Int.le_refl _,show(0:Int)<=1000 by decide⟩,O _,O _,O _⟩,W _,W _⟩,rfl,rfl,rfl,rfl,rfl,rfl,aa.Fl λ_=>rfl,rfl,rfl,rfl,aa.fmap (λ_=>rfl) (λ_=>rfl),aa.refl _,λ_ c hc=> ?_,λh=>by rw[hL] at h;cases h⟩;refine⟨(⟨pM n f g y fr to,Wk.start.take (pM n f g y fr to) (cH n f g),c.1,c.2,y,room⟩,getD ((pM n f g y fr to).at (cH n f g)),[]),⟨hok,hfit.small (by decide),hc,hfit,(by show 401<=0+401;decide),gE (mw hg),O _⟩,rfl,rfl,rfl,rfl,rfl,rfl,rfl,rfl,rfl,rfl,rfl,rfl,rfl,rfl,rfl,rfl,rfl,rfl,rfl,rfl,rfl,rfl,⟨rfl,rfl⟩,rfl,⟨rfl,rfl⟩,aa.refl _,aa.refl _,aa.refl _,rfl,aa.fmap (λ_=>rfl) (λ_=>rfl),aa.refl _,λ_ c2 hc2=>⟨λh2=>⟨c2.1,?_⟩,(λh2=>by rw[h1] at h2;cases h2)⟩,λh=>by rw[hB] at h;cases h⟩;dsimp only at hc2 ⊢;rw[hS,w2] at hc2 ⊢;exact⟨hc2.1,⟨rfl,rfl⟩,aa.refl _,aa.fmap (λ_=>rfl) (λ_=>rfl),aa.refl _⟩
 ·have hl:=hroot.resolve_left hr;rw[hh.none hl,o_ hr];exact⟨(λh=>by cases h),λ_ h=>by cases h⟩
end
theorem RL:ax J 13 (cM wC) :=fT (n:=20) Tryz.func13 (by kernel_rfl) (by kernel_rfl) wC λx hx=>⟨PD,adp,rfl,G4 x hx⟩
end Go.Proofs.YtoibaecagklkaaaGreatDoor
namespace Go.Proofs.YtoibaecagklkaaaGreatDoor
open Go Sx
set_option maxRecDepth 20000
theorem Mc (y:Nd)(q:f_):dA y.k y.p q (bB y.r)=match eH y q with
  | some (i,_)=>if i<16 then y.r i else []
  | none=>[]:=by
 have e:eH ⟨y.k,y.p,[],bJ⟩ q=eH y q:=rfl;unfold dA;rw[e];cases eH y q with
 | none=>rfl
 | some z =>
   obtain⟨i,q'⟩:=z;dsimp only;by_cases h:i<16
   ·rw[r_ h]
    match i,h with
    | 0,_ | 1,_ | 2,_ | 3,_ | 4,_ | 5,_ | 6,_ | 7,_ | 8,_ | 9,_ | 10,_ | 11,_ | 12,_ | 13,_ | 14,_ | 15,_=>rfl
    | j+16,h=>exact absurd h (by omega)
   ·rw[s_ h];obtain⟨j,rfl⟩: ∃ j,i=j+16:=⟨i-16,by omega⟩
    rfl
theorem Gy (y:Nd)(q:f_):fX y.k y.p q=match eH y q with
  | some (_,q')=>q'
  | none=>q:=rfl
theorem Rv {m:Nat}{l:List Rw}{q:f_}(h:eH (bF m l) q=I):mj m l q=[]:=by
 cases m with
 | zero=>rfl
 | succ m=>unfold mj;rw[h]
theorem RR {x:Nd}{q:f_}(h:dO x q=C):eH x q=none:=by
 unfold dO at h;simp only[a!,S,p_] at h;unfold eH;rcases h with ⟨h,_⟩ | ⟨h,hq,_⟩
 ·rw[s_ (by omega),s_ (by omega)]
 ·rw[s_ (by omega),r_ h,hq]
theorem aaT {w:Sp}{N:List f_}{h:PaH}(ok:Ef w N h) :
  (dA h.y.k h.y.p h.q (bB h.y.r)).length<9223372036854775808/\
  (bw (dA h.y.k h.y.p h.q (bB h.y.r))=C->cL w (af (dA h.y.k h.y.p h.q (bB h.y.r)))=C/\∃ l',h.m=(h.m-1)+1/\∀ c,h.T.length+1<=c->Ef w N ⟨h.m-1,l',fX h.y.k h.y.p h.q,h.T++[w.at (af (dA h.y.k h.y.p h.q (bB h.y.r)))],c,getD (w.at (af (dA h.y.k h.y.p h.q (bB h.y.r))))⟩)/\
  (bw (dA h.y.k h.y.p h.q (bB h.y.r))=F->bH (dA h.y.k h.y.p h.q (bB h.y.r))=C->∃ l',h.m=(h.m-1)+1/\Ef w N ⟨h.m-1,l',fX h.y.k h.y.p h.q,h.T,h.c,getD (dA h.y.k h.y.p h.q (bB h.y.r))⟩)/\
  (bw (dA h.y.k h.y.p h.q (bB h.y.r))=F->bH (dA h.y.k h.y.p h.q (bB h.y.r))=F->h.T=N):=by
 obtain⟨m,l,q,T,c,y⟩:=h;have hy:=ok.y;have hall:=ok.all;dsimp only at hy hall ⊢;subst hy
 have stop:dA (bF m l).k (bF m l).p q (bB (bF m l).r)=[]->mj m l q=[]->_:=λh1 h2=>(⟨by rw[h1];decide,λh=>by rw[h1] at h;exact absurd h (by decide +kernel),λ_ h=>by rw[h1] at h;exact absurd h (by decide +kernel),λ_ _=>by rw[h2,b7] at hall;exact hall⟩ :
  (dA (bF m l).k (bF m l).p q (bB (bF m l).r)).length<9223372036854775808/\(bw (dA (bF m l).k (bF m l).p q (bB (bF m l).r))=C->cL w (af (dA (bF m l).k (bF m l).p q (bB (bF m l).r)))=C/\∃ l',m=(m-1)+1/\∀ c,T.length+1<=c->Ef w N ⟨m-1,l',fX (bF m l).k (bF m l).p q,T++[w.at (af (dA (bF m l).k (bF m l).p q (bB (bF m l).r)))],c,getD (w.at (af (dA (bF m l).k (bF m l).p q (bB (bF m l).r))))⟩)/\
  (bw (dA (bF m l).k (bF m l).p q (bB (bF m l).r))=F->bH (dA (bF m l).k (bF m l).p q (bB (bF m l).r))=C->∃ l',m=(m-1)+1/\Ef w N ⟨m-1,l',fX (bF m l).k (bF m l).p q,T,c,getD (dA (bF m l).k (bF m l).p q (bB (bF m l).r))⟩)/\
  (bw (dA (bF m l).k (bF m l).p q (bB (bF m l).r))=F->bH (dA (bF m l).k (bF m l).p q (bB (bF m l).r))=F->T=N))
 have eR:=Mc (bF m l) q;have eL:=Gy (bF m l) q;cases hn:eH (bF m l) q with
 | none =>rw[hn] at eR;exact stop eR (Rv hn)
 | some z =>
   obtain⟨i,q'⟩:=z;rw[hn] at eR eL;dsimp only at eR eL
   match m,ok,hall,stop,hn,eR,eL with
   | 0,_,_,_,hn,_,_=>cases hn
   | m+1,ok,hall,stop,hn,eR,eL =>
     have hi:i<16:=by
      unfold eH at hn;split at hn
      ·cases hb:preB (bF (m+1) l).p q with
       | true=>rw[hb] at hn;injection hn with hn;injection hn with hn _;omega
       | false=>rw[hb] at hn;cases hn
      ·split at hn
       ·cases q with
        | nil=>cases hn
        | cons b q =>injection hn with hn;injection hn with hn _;have:=ok.N1 b (X ..);omega
       ·cases hn
     rw[r_ hi] at eR;have eW:mj (m+1) l q=if aG l i=[] then [] else(if(ctext m (aG l i)).length<32 then [] else [ctext m (aG l i)])++mj m (aG l i) q':=by
      show(match eH (bF (m+1) l) q with
       | none=>[]
       | some (i,q')=>if aG l i=[] then [] else(if(ctext m (aG l i)).length<32 then [] else [ctext m (aG l i)])++mj m (aG l i) q')=_
      rw[hn]
     have ref:=p4 m l hi;by_cases hk:aG l i=[]
     ·rw[r_ hk] at ref eW;exact stop (eR.trans ref) eW
     ·rw[s_ hk] at ref eW;have hm:=ok.m;have ho:=fL ok.rows i;have hv:=dw (m:=m) (by have:m+1<=13:=hm;omega) ho hk;have hk0:=Hj ho hk;have hfull:Full w (cR m (aG l i)):=ok.full.mono λt ht=>tn hi hk ht;have hnib: ∀ b,b∈ q'->b.toNat<16:=λb hb=>ok.N1 b (by
       obtain⟨_,s1⟩:=Gv (bF (m+1) l) q ok.N1;unfold eH at hn;split at hn
       ·cases hp:preB (bF (m+1) l).p q with
        | true=>rw[hp] at hn;injection hn with hn;injection hn with _ hn;rw[← hn] at hb;exact List.mem_of_mem_drop hb
        | false=>rw[hp] at hn;cases hn
       ·split at hn
        ·cases q with
         | nil=>cases hn
         | cons a q=>injection hn with hn;injection hn with _ hn;rw[← hn] at hb;exact c! _ hb
        ·cases hn)
      have hlen:q'.length<=2000:=by
       have:=ok.len;unfold eH at hn;split at hn
       ·cases hp:preB (bF (m+1) l).p q with
        | true=>rw[hp] at hn;injection hn with hn;injection hn with _ hn;rw[← hn,List.length_drop];exact az (Nat.sub_le _ _) this
        | false=>rw[hp] at hn;cases hn
       ·split at hn
        ·cases q with
         | nil=>cases hn
         | cons a q=>injection hn with hn;injection hn with _ hn;rw[← hn];exact az (Nat.le_succ _) this
        ·cases hn
      rw[eW] at hall;rw[eR,eL,ref];by_cases hs:(ctext m (aG l i)).length<32
      ·rw[r_ hs,b9] at hall;rw[iC hs];have hin:bH (ctext m (aG l i))=true:=(sn hv hk0 hs).1;refine⟨by omega,λh=>by have:=lg h;omega,λ_ _=>⟨aG l i,rfl,?_⟩,λ_ h=>by rw[hin] at h;cases h⟩;exact⟨by have:m+1<=13:=hm;show m<=13;omega,ho,hfull,hall,hnib,hlen,ok.c,gr hv⟩
      ·rw[s_ hs] at hall;obtain⟨h1,h2,h3⟩:=iN hs;obtain⟨f1,f2⟩:=ok.full _ (vl hi hk hs);refine⟨by omega,λ_=>⟨by rw[h2];exact f1,aG l i,rfl,λc hc=> ?_⟩,(λh=>by rw[h1] at h;cases h),(λh=>by rw[h1] at h;cases h)⟩;rw[h2,f2];exact⟨by have:m+1<=13:=hm;show m<=13;omega,ho,hfull,by rw[← hall];simp,hnib,hlen,by rw[Z];exact hc,gr hv⟩
theorem aaR {t:f_}{c:Nat}{ty:TypeId}{f:Nat->f_}(h:f 0=t)(hc:1<=c):aa (.cells [.str F t] (c*1) ty) (.rows C 1 [.str f] F (c*1) ty):=by
 subst h;refine aa.of rfl rfl λ_=>⟨rfl,λE o ⟨c',fr,h1,h2,h3,h4⟩=>⟨c',fr,h1,λ_=>h2,by rw[h4];show 1*1<=c*1;omega,h4,λi k col hi hk=> ?_⟩,id⟩
 obtain rfl:i=0:=by omega
 match k,hk with
 | 0,hk=>cases hk;exact h3 0 _ rfl
theorem Ji: ∀(m:Nat) (l:List Rw) (q:f_),(mj m l q).length<=m
 | 0,_,_=>W _
 | m+1,l,q=>by
   unfold mj;split
   ·exact O _
   ·rename_i i q' _;have:=Ji m (aG l i) q';split
    ·exact O _
    ·split<;>simp<;>omega
theorem GW (key:f_)(l:List Rw):(bt key l).length<=14:=by have:=Ji 13 l (au key);unfold bt;rw[List.length_cons];omega
theorem add_get (T:List f_)(t:f_){j:Nat}(hj:j<T.length+1):(if j<T.length then T.getD j [] else ck [t] (j-T.length))=(T++[t]).getD j []:=by
 by_cases h:j<T.length
 ·rw[r_ h,cD,cD,List.getElem?_append_left h]
 ·obtain rfl:j=T.length:=by omega
  rw[s_ h,Nat.sub_self];simp;rfl
section
attribute [local irreducible] aK bG getD bH bw af au dA fX iQ bt cH cL
theorem IC (x:Zt)(hx:ZA x):ay (runM (U6 x.w (bt x.key x.rows)) 27 ct zu x):=by
 refine ay.A5 (T1 x) (by delta Bk Fk;exact rfl) ?_;obtain⟨hh,hkey,hroot⟩:=hx;have hr:cc 13 x.rows:=gQ hh.oC;have hfull:Full x.w (cX 13 x.rows):=Rd hh.oC hh.apart hh.st [] [];have sb:BG x.w x.y:=hh.ok (O _) (O _);have gt: ∀ h,cL x.w h=C->Up ⟨x.w,x.y,h,x.room⟩/\(x.w.at h).length<1099511627776/\bG (x.w.at h)=true:=λh e=>by unfold cL at e;rw[S] at e;exact⟨⟨e.1,sb.dom h e.1,sb.dm h e.1⟩,Nat.lt_of_le_of_lt (sb.f h e.1) (by decide),e.2⟩
 obtain⟨l0,a0⟩:=hfull (ctext 13 x.rows) (X ..);have er:x.root=aK (ctext 13 x.rows):=by rw[hroot];unfold cH;rfl
 rw[← er] at l0 a0;obtain⟨g0,len0,get0⟩:=gt _ l0;refine⟨⟨x.w,x.y,x.root,x.room⟩,g0,rfl,rfl,aa.fmap (λ_=>rfl) (λ_=>rfl),aa.refl _,⟨x.w,x.y,x.root,x.room⟩,g0,rfl,rfl,aa.fmap (λ_=>rfl) (λ_=>rfl),aa.refl _,λc hc=>⟨⟨len0,get0⟩,by omega,?_,λh ok=>⟨⟨?_,λ_ _=>⟨λhc=> ?_,λhc=> ?_⟩⟩,λ_ _=> ?_⟩,λz hz=> ?_⟩⟩
 ·refine⟨⟨13,x.rows,au x.key,[x.w.at x.root],c,getD (x.w.at x.root)⟩,⟨W _,hr,hfull.mono λt ht=>c! _ ht,by rw[a0];unfold bt;rfl,pn x.key,by rw[pg];omega,hc,by rw[a0];exact D1 hr⟩,rfl,rfl,aa.refl _,⟨rfl,rfl⟩,by show 0<1;decide,aaR rfl hc⟩
 ·have eC:iQ h.y.k h.y.p h.y.v h.q=((M (h.y.k=1)&&M (h.y.p=h.q))||(M (h.y.k=3)&&(M (h.q=[])&& !decide (h.y.v=[])))):=by unfold iQ;rfl
  rw[eC];refine⟨λa=>⟨λb=>⟨(),trivial,?_⟩,λb=>⟨λd=>⟨λe=>⟨(),trivial,?_⟩,λe=>⟨(),trivial,?_⟩⟩,λd=>⟨(),trivial,?_⟩⟩⟩,λa=>⟨λd=>⟨λe=>⟨(),trivial,?_⟩,λe=>⟨(),trivial,?_⟩⟩,λd=>⟨(),trivial,?_⟩⟩⟩
  ·rw[a,b];rfl
  ·rw[a,b,d,e];cases M (h.y.v=[])<;>rfl
  ·rw[a,b,d,e];rfl
  ·rw[a,b,d];rfl
  ·rw[a,d,e];cases M (h.y.v=[])<;>rfl
  ·rw[a,d,e];rfl
  ·rw[a,d];rfl
 ·obtain⟨m,l,q,T,c',y⟩:=h;have hy:y=bF m l:=ok.y;have e:eH y q=none:=RR (by unfold iQ at hc;exact hc);have eT:T=bt x.key x.rows:=by have h1:=ok.all;dsimp only at h1;rw[Rv (by rw[← hy];exact e),b7] at h1;exact h1
  subst eT;exact⟨c',ok.c,⟨rfl,rfl⟩,aa.refl _,aa.fmap (λ_=>rfl) (λ_=>rfl),aa.refl _⟩
 ·have eR:=Mc h.y h.q;have eL:=Gy h.y h.q;have n2:h.y.k=2->eH h.y h.q=bif preB h.y.p h.q then H (0,h.q.drop h.y.p.length)else none:=λk=>by unfold eH;rw[r_ k]
  have n0:h.y.k≠2->h.y.k≠3->eH h.y h.q=none:=λk k'=>by unfold eH;rw[s_ k,s_ k']
  have off:eH h.y h.q=I->∃ _:Unit,True/\h.q=fX h.y.k h.y.p h.q/\[]=dA h.y.k h.y.p h.q (bB h.y.r):=λe=>by rw[e] at eR eL;exact⟨(),trivial,eL.symm,eR.symm⟩
  refine⟨λk2=> ?_,λk2=>⟨λk3=>⟨λhq=> ?_,λhq=>off ?_⟩,λk3=>off (n0 (m_ k2) (m_ k3))⟩⟩
  ·have k2:=l_ k2;have no3: ∀ {A:Prop},M (h.y.k=3)=C->A:=λk3=>absurd (l_ k3) (by omega);refine⟨λhl=> ?_,λhl=>⟨λk3=>no3 k3,λ_=>off ?_⟩⟩
   ·have hl:=l_ hl;refine⟨⟨by omega,by omega,hl⟩,λhp=>⟨⟨by omega,hl,by omega⟩,(),trivial,?_⟩,λhp=>⟨λk3=>no3 k3,λ_=>off ?_⟩⟩
    ·have hb:preB h.y.p h.q=true:=by unfold preB;rw[S];exact⟨n_ (by omega),hp⟩
     rw[n2 k2,hb] at eR eL;exact⟨eL.symm,eR.symm⟩
    ·have hb:preB h.y.p h.q=false:=by unfold preB;rw[b!];exact .inr hp
     rw[n2 k2,hb];rfl
   ·have hb:preB h.y.p h.q=false:=by unfold preB;rw[b!];exact .inl (o_ (by have:=m_ hl;omega))
    rw[n2 k2,hb];rfl
  ·have k2:=m_ k2;have k3:=l_ k3;have hq:h.q≠[]:=by simpa using hq
   have N1:=ok.N1;have n3: ∃ b q',h.q=b::q'/\eH h.y h.q=H (b.toNat,q'):=by
    unfold eH;rw[s_ k2,r_ k3];cases e:h.q with
    | nil=>exact absurd e hq
    | cons b q'=>exact⟨b,q',rfl,rfl⟩
   obtain⟨b,q',e,e'⟩:=n3;have hb:=N1 b (by rw[e];exact X ..);have eb:ai h.q 0=(b.toNat:Int):=by rw[e];rfl
   have hl:h.q.length=q'.length+1:=by rw[e];rfl
   rw[e'] at eR eL;dsimp only at eR eL;rw[r_ hb] at eR;rw[eb,eR,eL];refine⟨⟨by omega,by omega⟩,⟨by omega,by omega⟩,by omega,⟨by omega,by omega,by omega⟩,(),trivial,?_,?_⟩
   ·rw[e];rfl
   ·rw[uU h.y.r (by omega)];rfl
  ·have hq:h.q=[]:=by simpa using hq
   have k2:=m_ k2;have k3:=l_ k3;unfold eH;rw[s_ k2,r_ k3,hq]
 ·obtain⟨s1,s2,s3,s4⟩:=aaT ok;have hT:h.T.length<=14:=by have:=GW x.key x.rows;rw[← ok.all,Z] at this;omega
  refine⟨s1,λhb=> ?_,λhb=>⟨⟨.inl s1,s1⟩,λhi=> ?_,λhi=> ?_⟩⟩
  ·obtain⟨e1,l',e2,e3⟩:=s2 hb;obtain⟨g1,g2,g3⟩:=gt _ e1;refine⟨⟨x.w,x.y,_,x.room⟩,g1,rfl,rfl,aa.fmap (λ_=>rfl) (λ_=>rfl),aa.refl _,⟨by omega,trivial,by omega,by omega⟩,λc2 hc2=>⟨⟨g2,g3⟩,⟨_,_,_,_,c2,_⟩,⟨e3 c2 hc2,by show h.m-1+1<h.m+1;omega⟩,rfl,rfl,aa.refl _,⟨by simp,rfl⟩,?_,aa.refl _,aa.fmap (λ_=>rfl) (λ_=>rfl)⟩⟩;exact Sx.aa.nZ (by simp) rfl λj hj=>add_get _ _ hj
  ·obtain⟨l',e2,e3⟩:=s3 hb hi;exact⟨⟨_,_,_,_,_,_⟩,⟨e3,by show h.m-1+1<h.m+1;omega⟩,rfl,aa.refl _,⟨rfl,rfl⟩,aa.refl _⟩
  ·have eT:=s4 hb hi;refine⟨(e9,_,h.c),⟨by rw[← eT];exact ok.c,d! _⟩,rfl,aa.cells (λ_=>rfl) rfl,⟨by rw[eT],rfl⟩,?_⟩;rw[eT];exact aa.refl _
 ·exact⟨z.2.2,hz,rfl,aa.refl _,aa.fmap (λ_=>rfl) (λ_=>rfl),aa.refl _⟩
end
theorem Ga:ax J 27 (cM zu) :=fT (n:=20) Tryz.func27 (by kernel_rfl) (by kernel_rfl) zu λx hx=>⟨_,adL _ _,rfl,IC x hx⟩
end Go.Proofs.YtoibaecagklkaaaGreatDoor
namespace Go.Proofs.YtoibaecagklkaaaGreatDoor
open Go Sx
set_option maxRecDepth 20000
def A7:Nat->List Rw->Nat
 | 0,l=>(ctext 0 l).length+9
 | m+1,l=>((ctext (m+1) l).length+9)+cQ (λi=>if aG l i=[] then 0 else A7 m (aG l i)) 16
theorem WB {x:Nd}(h:kg x=C)(hk:x.k=1):(cZ x).length+9<=152:=by rw[og.2.1 hk];obtain⟨h1,_,h3,_⟩:=qo h;have l1:=lG (x:=x) (leaf:=C);have l2:=fB (cN x C);have l3:=fB x.v;have l4:=k9 (a:=aq (cN x C)) (b:=aq x.v);have h2:=lp 192 (flat [aq (cN x C),aq x.v]).length;show(cU [aq (cN x C),aq x.v]).length+9<=152;unfold cU;rw[Z];omega
theorem Z7 {x:Nd}(h:nB bH x=C)(hk:x.k=2):(cZ x).length+9<=152:=by
 rw[og.2.2.1 hk];obtain⟨h1,h2,h3,_,h4⟩:=tA h;have hm:iU bH (x.r 0)=true:=by simp only[iU,a!];exact h4.imp id λh=>h.1
 have rl:=nR hm;have l1:=lG (x:=x) (leaf:=F);have l2:=fB (cN x F);have l4:=k9 (a:=aq (cN x F)) (b:=x.r 0);have h2:=lp 192 (flat [aq (cN x F),x.r 0]).length;show(cU [aq (cN x F),x.r 0]).length+9<=152;unfold cU;rw[Z];omega
theorem v8 {K c:Nat->Nat}(h0: ∀ i,K i=0->c i=0)(h1: ∀ i,K i≠0->c i+861<=1013*K i): ∀ n,cQ c n=0∨(∃ i,i<n/\cQ c n+861<=1013*K i/\K i<=cQ K n)∨cQ c n+1722<=1013*cQ K n
 | 0=>.inl rfl
 | n+1=>by
   have e1:cQ c (n+1)=cQ c n+c n:=rfl;have e2:cQ K (n+1)=cQ K n+K n:=rfl;rw[e1,e2];by_cases hz:K n=0
   ·rw[h0 n hz,hz];rcases v8 h0 h1 n with h | ⟨i,hi,h,h'⟩ | h
    ·exact .inl (by omega)
    ·exact .inr (.inl ⟨i,by omega,by omega,by omega⟩)
    ·exact .inr (.inr (by omega))
   ·have:=h1 n hz;rcases v8 h0 h1 n with h | ⟨i,hi,h,h'⟩ | h
    ·exact .inr (.inl ⟨n,by omega,by omega,by omega⟩)
    ·exact .inr (.inr (by omega))
    ·exact .inr (.inr (by omega))
theorem O2: ∀ {m:Nat} {l:List Rw},m<=13->cc m l->l≠[]->A7 m l+861<=1013*l.length/\((∃ r s t,l=r::s::t/\¬ 0<bL r.1 ((s::t).getLastD r).1)->A7 m l+1013<=1013*l.length)
 | 0,l,_,h,hl=>absurd (pI h) hl
 | m+1,[],_,h,hl=>absurd rfl hl
 | m+1,[r],hm,h,hl=>by
   have e:A7 (m+1) [r]=(ctext (m+1) [r]).length+9:=rfl;have hv:=dw hm h hl;have hk:(bF (m+1) [r]).k=1:=rfl;have:(ctext (m+1) [r]).length+9<=152:=WB (by rcases jB hv with ⟨a,_⟩ | ⟨_,b⟩ | ⟨a,_⟩ | ⟨a,_⟩<;>first | exact b | omega) hk
   rw[e];exact⟨by show _<=1013*1;omega,fun⟨_,_,_,h,_⟩=>by cases h⟩
 | m+1,r::s::t,hm,h,hl=>by
   generalize hc:(λi=>if aG (r::s::t) i=[] then 0 else A7 m (aG (r::s::t) i))=c
   have hN:A7 (m+1) (r::s::t)=((ctext (m+1) (r::s::t)).length+9)+cQ c 16:=by rw[← hc];rfl
   have hL:(r::s::t).length=t.length+2:=rfl;have hv:=dw hm h hl;have c0: ∀ i,(aG (r::s::t) i).length=0->c i=0:=λi hi=>by rw[← hc];exact r_ (List.eq_nil_of_length_eq_zero hi)
   have c1: ∀ i,(aG (r::s::t) i).length≠0->c i+861<=1013*(aG (r::s::t) i).length:=λi hi=>by have hne:aG (r::s::t) i≠[]:=λe=>hi (by rw[e];rfl);have:=(O2 (by omega) (fL h i) hne).1;rw[← hc];dsimp only;rw[s_ hne];exact this
   by_cases hk:0<bL r.1 ((s::t).getLastD r).1
   ·refine⟨?_,fun⟨_,_,_,e,hn⟩=>by injection e with e1 e;injection e with e2 e3;subst e1;subst e2;subst e3;exact absurd hk hn⟩;have k2:(bF (m+1) (r::s::t)).k=2:=by show(fP _ (r::s::t)).k=2;unfold fP;dsimp only;rw[r_ hk]
    have hx:(ctext (m+1) (r::s::t)).length+9<=152:=Z7 (by rcases jB hv with ⟨a,_⟩ | ⟨a,_⟩ | ⟨_,b⟩ | ⟨a,_⟩<;>first | exact b | omega) k2
    have k0:aG (r::s::t) 0=cm (bL r.1 ((s::t).getLastD r).1) (r::s::t):=by rw[cq,r_ hk,r_ rfl]
    have hne:aG (r::s::t) 0≠[]:=by rw[k0,mR];exact List.cons_ne_nil _ _
    have kl:(aG (r::s::t) 0).length=t.length+2:=by rw[k0];show(c7 _ _).length=_;rw[c6];rfl
    have hb:=(O2 (by omega) (fL h 0) hne).2 ⟨_,_,_,k0.trans (mR _),by have:((s.1.drop (bL r.1 ((s::t).getLastD r).1),s.2)::cm (bL r.1 ((s::t).getLastD r).1) t).getLastD (r.1.drop (bL r.1 ((s::t).getLastD r).1),r.2)=_:=tN (bL r.1 ((s::t).getLastD r).1) r (s::t);rw[this,tv];exact Nat.lt_irrefl 0⟩
    have hc0:c 0+1013<=1013*(t.length+2):=by rw[← hc];dsimp only;rw[s_ hne,← kl];exact hb
    have hz: ∀ n,0<n->cQ c n=c 0:=λn=>by
     induction n with
     | zero=>intro h;omega
     | succ n ih =>
       intro _;show cQ c n+c n=_;by_cases e:n=0
       ·subst e;exact aO _
       ·rw[ih (by omega),c0 n (by rw[cq,r_ hk,s_ e];rfl)];rfl
    rw[hN,hz 16 (by decide),hL];omega
   ·have hb:=(IF hv).2;have hb:(ctext (m+1) (r::s::t)).length<=700:=hb;have hlt: ∀ i,(aG (r::s::t) i).length<=t.length+1:=λi=>by
     rw[cq,s_ hk];show(c7 _ (bI i (r::s::t))).length<=_;rw[c6];have hle:(bI i (r::s::t)).length<=(r::s::t).length:=c5 _ _;by_cases e:(bI i (r::s::t)).length=(r::s::t).length
     ·have ha:=List.length_filter_eq_length_iff.1 e;have h1:=ha r (X ..);have h2:=ha _ (mD r (s::t));refine absurd ?_ hk;generalize ((s::t).getLastD r)=z at h2 ⊢;obtain⟨a,v⟩:=r;obtain⟨b,v'⟩:=z;cases a with
      | nil=>cases h1
      | cons a q =>
        cases b with
        | nil=>cases h2
        | cons b q' =>have e1:a.toNat=i:=l_ h1;have e2:b.toNat=i:=l_ h2;have e:a=b:=UInt8.toNat_inj.1 (by omega);show 0<bL (a::q) (b::q');unfold bL;rw[r_ e];exact d! _
     ·rw[hL] at hle e;omega
    have hS:=v8 (K:=λi=>(aG (r::s::t) i).length) c0 c1 16;rw[DW] at hS;have hK:=tM (r::s::t) 16;rw[hL] at hK;have:A7 (m+1) (r::s::t)+1013<=1013*(t.length+2):=by
     rw[hN];rcases hS with hS | ⟨i,_,hS,_⟩ | hS
     ·omega
     ·have:=hlt i;omega
     ·omega
    rw[hL];exact⟨by omega,λ_=>this⟩
def jD:List f_->Nat
 | []=>0
 | t::r=>(t.length+9)+jD r
theorem xd: ∀(a b:List f_),jD (a++b)=jD a+jD b
 | [],_=>(aO _).symm
 | t::a,b=>by show(t.length+9)+jD (a++b)=_;rw[xd a b];show _=((t.length+9)+jD a)+jD b;omega
theorem FA (f:Nat->List f_): ∀ n,jD ((an n).flatMap f)=cQ (λi=>jD (f i)) n
 | 0=>rfl
 | n+1=>by rw[nh,xd,FA f n];rfl
theorem FB: ∀(V u:List f_),jD (V.foldl (λu x=>if x∈ u then u else u++[x]) u)<=jD u+jD V
 | [],u=>by show jD u<=jD u+0;omega
 | x::V,u=>by
   rw[List.foldl_cons];have h:=FB V (if x∈ u then u else u++[x])
   have e:jD (x::V)=(x.length+9)+jD V:=rfl;split at h
   ·rw[r_ (by assumption)];omega
   ·rw[s_ (by assumption)];have:jD (u++[x])=jD u+((x.length+9)+0):=xd u [x];omega
theorem Rt (fr to:f_): ∀(m:Nat) (l:List Rw) (p:f_),jD (pP fr to m l p)+((ctext m l).length+9)<=A7 m l
 | 0,l,p=>by show 0+_<=_;rw[aO];exact W _
 | m+1,l,p=>by
   have e:A7 (m+1) l=((ctext (m+1) l).length+9)+cQ (λi=>if aG l i=[] then 0 else A7 m (aG l i)) 16:=rfl
   unfold pP;rw[e,FA];have: ∀ n,cQ (λi=>jD (if aG l i=[] then [] else bif bW fr to (eV (bF (m+1) l) p i)then(if(ctext m (aG l i)).length<32 then [] else [ctext m (aG l i)])++pP fr to m (aG l i) (eV (bF (m+1) l) p i)else [])) n<=cQ (λi=>if aG l i=[] then 0 else A7 m (aG l i)) n:=λn=>by
    induction n with
    | zero=>exact W _
    | succ n ih =>
      refine Nat.add_le_add ih ?_;dsimp only;by_cases e:aG l n=[]
      ·rw[r_ e,r_ e];exact W _
      ·rw[s_ e,s_ e];have:=Rt fr to m (aG l n) (eV (bF (m+1) l) p n);cases bW fr to (eV (bF (m+1) l) p n)with
       | false=>exact O _
       | true =>
         rw[cond_true,xd];split
         ·show 0+_<=_;omega
         ·show((ctext m (aG l n)).length+9+0)+_<=_;omega
   have:=this 16;omega
theorem ZU {fr to:f_}{l:List Rw}(h:cc 13 l)(hn:l.length<=40):jD (pV fr to l)<=40520:=by
 have h1:=FB (iZ fr to l) [];have h2:=Rt fr to 13 l [];have e:jD (iZ fr to l)=((ctext 13 l).length+9)+jD (pP fr to 13 l []):=rfl;have h3:jD (pV fr to l)<=0+jD (iZ fr to l):=h1;by_cases hl:l=[]
 ·subst hl;have:A7 13 []=(ctext 13 []).length+9:=by show _+cQ _ 16=_+0;exact congrArg (λk=>(ctext 13 []).length+9+k) (DV λi _=>r_ rfl)
  have e1:(ctext 13 []).length=1:=by decide +kernel
  omega
 ·have:=(O2 (W _) h hl).1;omega
def E5 (f g f' g':Nat->f_)(i:Nat):Bool:=M (f i=f' i)&&M (g i=g' i)
def iF (n:Nat)(f g:Nat->f_)(n':Nat)(f' g':Nat->f_):Bool:=M ((n:Int)=(n':Int))&&(an n).all (E5 f g f' g')
def dEn:List av:=[.str λ_=>[],.str λ_=>[]]
def afX:List AZ:=[.of (.slice dEn),.of (.slice dEn)]
def xM (z:Bool)(o c n:Nat)(f g:Nat->f_)(key:Option Nat):Seen:=⟨key,z,o,n,c,[.str f,.str g]⟩
noncomputable def MR (n:Nat)(f g f' g':Nat->f_):fD:={cv with cT:=λf=>aD f iD,aW:=λh=>if h=17 then [(4,always (A9 5 n (E5 f g f' g')))] else []}
theorem aal (n:Nat)(f g f' g':Nat->f_):Sx.Good J (MR n f g f' g'):=.of bR fo bq
theorem YZ (n n':Nat)(f g f' g':Nat->f_)(z z':Bool)(o c o' c':Nat)(key key':Option Nat):dB (.s 0 (.n (.s 0 (.n .k .t)) (.n (.s 6 (.n .k .t)) .t))) (iX (MR n f g f' g') 17 b6 [.bE 0 2 z o 0 n c,.bE 1 2 z' o' 0 n' c'] [xM z o c n f g key,xM z' o' c' n' f' g' key'] (.ret (.bool F (iF n f g n' f' g')))) ((Bk (!decide ((n:Int)=(n':Int))) (ah (SV.bool C F) (SV.bool F (iF n f g n' f' g'))) ((∃(d:Nat),n6 n (E5 f g f' g') d/\0=(d:Int))/\∀(a:Nat),n6 n (E5 f g f' g') a->Fk ((a:Int)<(n:Int)) ((0<=(a:Int)/\(a:Int)<(n:Int))/\(o=o/\0+(a:Int).toNat<n)/\(0<=(a:Int)/\(a:Int)<(n':Int))/\(o'=o'/\0+(a:Int).toNat<n')/\Bk (!(M (f (0+(a:Int).toNat)=f' (0+(a:Int).toNat))&&(M (g (0+(a:Int).toNat)=g' (0+(a:Int).toNat))&&C))) (ah (SV.bool C F) (SV.bool F (iF n f g n' f' g'))) (I6 ((a:Int)+1)/\∃(b:Nat),(n6 n (E5 f g f' g') b/\n-b<n-a)/\(a:Int)+1=(b:Int))) (ah (SV.bool C C) (SV.bool F (iF n f g n' f' g')))))):=⟨by kernel_rfl,by kernel_rfl⟩
theorem agx {a b:Bool}(h:(!(a&&(b&&C)))=F):(a&&b)=true:=by revert h;cases a<;>cases b<;>decide
theorem agw {a b:Bool}(h:(!(a&&(b&&C)))=C):(a&&b)=false:=by revert h;cases a<;>cases b<;>decide
def vX (vs:List SV)(l:List Seen):Option (Prop×cK):=match vs,l with
 | [_,_],[⟨_,_,_,n,_,[.str f,.str g]⟩,⟨_,_,_,n',_,[.str f',.str g']⟩]=>H (n<9223372036854775808,.ret (.bool F (iF n f g n' f' g')))
 | _,_=>I
theorem I0 {n n':Nat}{f g f' g':Nat->f_}(hn:n<9223372036854775808)(z z':Bool)(o c o' c':Nat)(key key':Option Nat):ay (iX (MR n f g f' g') 17 b6 [.bE 0 2 z o 0 n c,.bE 1 2 z' o' 0 n' c'] [xM z o c n f g key,xM z' o' c' n' f' g' key'] (.ret (.bool F (iF n f g n' f' g')))):=by
 refine ay.A5 (YZ n n' f g f' g' z z' o c o' c' key key') (by delta Bk Fk;exact rfl) ?_;simp only[Int.toNat_natCast,aO,true_and];refine⟨λh=>gk (by rw[iF,ae4 h];rfl),λh=>⟨⟨0,⟨O _,λj hj=>absurd hj (b_ _)⟩,rfl⟩,λi hi=>⟨λa=> ?_,λa=> ?_⟩⟩⟩
 ·have a:(i:Int)<(n:Int):=l_ a;have e:(n:Int)=(n':Int):=ae2 h;refine⟨by omega,by omega,by omega,by omega,λb=> ?_,λb=>⟨by omega,i+1,⟨ur hi a (agx b),by omega⟩,by omega⟩⟩;exact gk (by rw[iF,zW a (agw b),Bool.and_false])
 ·have a: ¬ (i:Int)<(n:Int):=m_ a;exact gk (by rw[iF,D7 hi a,ae7 h];rfl)
theorem Tw:ax J 17 (bT afX vX):=by
 refine gd (n:=20) Tryz.func17 (by kernel_rfl) (by kernel_rfl) ?_;intro vs l q a h hq;unfold vX at h;split at h
 ·rename_i v v' key z o n c f g key' z' o' n' c' f' g';cases h;exact⟨_,aal n f g f' g',rfl,rfl,I0 hq z z' o c o' c' key key'⟩
 ·cases h
structure Xr where
 n:Nat
 f:Nat->f_
 g:Nat->f_
 z:Bool
 o:Nat
 c:Nat
 fr:f_
 to:f_
 m:Nat
 h:Nat->f_
 z':Bool
 o':Nat
 c':Nat
def Xr.sp (x:Xr):Sp:=⟨x.fr,x.to,x.m,x.h,x.z',x.o',x.c',λ_=>F,λ_=>0⟩
noncomputable def Xr.U (x:Xr):List f_:=aL (cX 13 (aB x.n (λi=>au (x.f i)) x.g))
def Xr.bet (x:Xr):List Rw:=ak x.fr x.to (aB x.n x.f x.g)
noncomputable def Xr.told (x:Xr):List Rw:=By (cH x.n x.f x.g) x.sp
noncomputable def Xr.agA (x:Xr)(s:f_)(j:Nat):Bool:=!Vs s (x.U.getD j [])
noncomputable def Xr.free (x:Xr)(i:Nat):Bool:=(an x.U.length).all (x.agA (x.h i))
noncomputable def Xr.ask (x:Xr):Bool:=M (ew x.n x.f x.g=0)&&((iH (cH x.n x.f x.g) x.sp).isSome&& !decide (x.told=x.bet))
noncomputable def Xr.hit (x:Xr):Bool:=x.ask&& !(an x.m).all x.free
def Xr.args (x:Xr):List SV:=[.bE 0 2 x.z x.o 0 x.n x.c,.agg [.str F x.fr,.str F x.to],.bE 1 1 x.z' x.o' 0 x.m x.c']
def Xr.seen (x:Xr)(k k':Option Nat):List Seen:=[iY x.z x.o x.c x.n x.f x.g k,⟨k',x.z',x.o',x.m,x.c',[.str x.h]⟩]
namespace Xr
structure Ok (x:Xr):Prop where
 n:x.n<9223372036854775808
 few:x.sp.rB
end Xr
end Go.Proofs.YtoibaecagklkaaaGreatDoor
namespace Go.Proofs.YtoibaecagklkaaaGreatDoor.Sx
open Go
end Go.Proofs.YtoibaecagklkaaaGreatDoor.Sx
namespace Go.Proofs.YtoibaecagklkaaaGreatDoor
open Go Sx
set_option maxRecDepth 20000
def Gx (pt:PT):PT:=λargs m nx K=>pt args m nx λv m nx=>match v with
 | .bool _ b=>.and (.atom (b=C)) (K (.bool C C) m nx)
 | v=>K v m nx
theorem qP {pt:PT}(h:aQ pt):aQ (Gx pt):=by
 intro args m nx K K' hK hh;refine h _ _ _ _ _ (λv m nx hv=> ?_) hh
 cases v<;>first
  | exact⟨hv.1,hK _ _ _ hv.2⟩
  | exact hK _ _ _ hv
theorem xX {P:Program}{f:FuncId}{pt:PT}(h:ax P f pt):ax P f (Gx pt):=by
 intro args m nx K hk hwf hargs Γ E w hs;refine(h args m nx _ hk hwf hargs Γ E w hs).mono (λe w' hh=> ?_) (λ_ _ h=>h);obtain⟨E',sv,m',nx',h1,h2,h3,h4,h5⟩:=hh;cases sv with
 | none=>exact h5.elim
 | some v =>
   simp only[lift] at h5;split at h5
   ·rename_i l b;obtain⟨hb,h5⟩:=h5;have hb:b=true:=hb;subst hb;exact⟨E',H (.bool C C),m',nx',h1,h2,λv hv=>by cases hv;exact h3 (.bool l C) rfl,h4,h5⟩
   ·exact⟨E',_,m',nx',h1,h2,h3,h4,h5⟩
theorem BC {f:FuncId}{sh:List AZ}{spec spec':List SV->List Seen->Option (Prop×cK)}(h:ax J f (bT sh spec))(hi: ∀ vs l q' a',spec' vs l=H (q',a')->q'->∃ q a,spec vs l=H (q,a)/\q/\∀ m nx K,(a'.vc m nx K).holds->(a.vc m nx K).holds):ax J f (bT sh spec'):=by
 intro args m nx K hk;refine h args m nx K ?_;unfold bT at hk ⊢;split at hk
 ·rename_i vs p l hp;split at hk
  ·rename_i q' a' hs;obtain⟨q,a,e,hq,g⟩:=hi vs l q' a' hs hk.1.2;simp only[e];exact⟨⟨hk.1.1,hq⟩,g m nx K hk.2⟩
  ·exact hk.elim
 ·exact hk.elim
structure ME (n:Nat)(f g:Nat->f_)(root:f_)(w:Sp):Prop where
 oC:ew n f g=0
 apart:fu (mX n f g).length (iK n f g)=C
 root:root=cH n f g
 le:Bo w.fr w.to=C
 len:w.n=(pV w.fr w.to (aB n (λi=>au (f i)) g)).length
 dm: ∀ i,i<w.n->w.f i=(pV w.fr w.to (aB n (λi=>au (f i)) g)).getD i []
 fr:w.fr.length<=1000
 to:w.to.length<=1000
theorem ME.res {n:Nat}{f g:Nat->f_}{root:f_}{w:Sp}(h:ME n f g root w):iH root w=H (ak w.fr w.to (aB n f g)):=by obtain⟨he,h40⟩:=mN h.oC;have hi:=Wf h.apart;have h1:=h.len;have h2:=h.dm;rw[h.root];unfold cH;rw[tS] at h1 h2 hi ⊢;exact Za he (by rw[fc];exact h40) hi h.le h1 h2
theorem EU {n:Nat}{f g:Nat->f_}(h:ew n f g=0)(fr to:f_){t:f_}(ht:t∈ pV fr to (aB n (λi=>au (f i)) g)):t.length<=700:=(l9 (gQ h) (s8 (G2.1 ht))).2.1
theorem ME.few {n:Nat}{f g:Nat->f_}{root:f_}{w:Sp}(h:ME n f g root w):w.rB:=⟨λi hi=>by rw[h.dm i hi];exact az (EU h.oC w.fr w.to (rL (by rw[← h.len];exact hi))) (by decide),h.fr,h.to⟩
def Yx (L:List Rw):cK:=.all Nat λc=>.req (L.length<=c) (.new (λk=>.aN [.aX k 2 C 0 L.length c,.int .i64 C 0]) (.rows C L.length [bU L,bV L] F (c*2) 50))
noncomputable def wk (n:Nat)(f g:Nat->f_)(vs:List SV)(l:List Seen):Option (Prop×cK):=match abc vs l with
 | some (root,w,_)=>H (ME n f g root w,Yx (ak w.fr w.to (aB n f g)))
 | none=>I
theorem Ue (n:Nat)(f g:Nat->f_):ax J 14 (bT abb (wk n f g)):=BC Yk λvs l q' a' h hq=>by
 unfold wk at h;split at h
 ·rename_i root w kk hx;cases h;refine⟨_,_,by unfold zM;rw[hx],hq.few,λm nx K hk=> ?_⟩;have e:By root w=ak w.fr w.to (aB n f g):=by unfold By;rw[hq.res]
  unfold DP;simp only[cK.vc];rw[bP,hq.res,e];exact hk
 ·cases h
theorem ZQ {n:Nat}{f g:Nat->f_}(h:ew n f g=0):n<=1000/\∀ i,i<n->(f i).length<1099511627776:=by obtain⟨he,h40⟩:=mN h;refine⟨by omega,λi hi=> ?_⟩;have:=(he.key (f i,g i) (by unfold aB;exact List.mem_map.2 ⟨i,dQ.2 hi,rfl⟩)).2;have:(f i).length<=6:=this;omega
theorem ZX (fr to:f_)(n:Nat)(f g:Nat->f_):(ak fr to (aB n f g)).length<=n:=by have:=c5 (λe:f_×f_=>hasB fr to (au e.1)) (aB n f g);rw[fc] at this;exact this
def oO (t:List SV->Bool)(p q:PT):PT:=λargs m nx K=>match t args with
 | true=>p args m nx K
 | false=>q args m nx K
theorem uJ {t:List SV->Bool}{p q:PT}(hp:aQ p)(hq:aQ q):aQ (oO t p q):=by
 intro args m nx K K' hK h;unfold oO at h ⊢;split at h
 ·exact hp _ _ _ _ _ hK h
 ·exact hq _ _ _ _ _ hK h
theorem E4 {P:Program}{f:FuncId}{t:List SV->Bool}{p q:PT}(hp:ax P f p)(hq:ax P f q):ax P f (oO t p q):=by
 intro args m nx K hk;unfold oO at hk;split at hk
 ·exact hp args m nx K hk
 ·exact hq args m nx K hk
def asC (c:gP)(pre:c.G->Prop)(wo:c.G->gF):gP:={c with pre:=pre,wo:=wo}
theorem xk {P:Program}{f:FuncId}{c:gP}{pre:c.G->Prop}{wo:c.G->gF}(h:ax P f (cM c))(hi: ∀ x,pre x->c.pre x/\∀ g,((wo x).rW g).holds->((c.wo x).rW g).holds):ax P f (cM (asC c pre wo)):=by
 intro args m nx K hk;refine h args m nx K ?_;obtain⟨x,h1,h2⟩:=hk;refine⟨x,(hi x h1).1,ou (λaM h=>gN (λaM h=> ?_) h) h2⟩;cases hr:AH nx aM with
 | false=>simp only[hr] at h;exact h.elim
 | true=>simp only[hr] at h ⊢;exact(hi x h1).2 _ h
structure HoZ where
 n:Nat
 f:Nat->f_
 g:Nat->f_
 o:Nat
 c:Nat
def HoZ.ho (x:HoZ):HoG:=⟨x.n,x.f,x.g,F,x.o,x.c⟩
noncomputable def Nl:gP:={G:=HoZ,n:=1,N:=4,pre:=λx=>x.n<9223372036854775808,args:=λx=>n9.args x.ho,mem:=λx=>n9.mem x.ho,wo:=λx=>n9.wo x.ho}
theorem Wj:ax J 12 (cM Nl) :=fT (n:=20) Tryz.func12 (by kernel_rfl) (by kernel_rfl) Nl λx hx=>⟨_,Qk,rfl,Aw (λ_ _ _ h=>ab7 h) x.ho hx⟩
noncomputable def Qp:gP:=asC Nl (λx=>x.n<9223372036854775808/\Es x.n x.f x.g=C) λx=>.all uZ λy=>.req (BF x.n x.f x.g y) (.ret (.aN [.ptr 1 C 0,.str F (cH x.n x.f x.g)]) [(1,fA 2000 2),(2,.fmap (cY y.Fr) (.ref 3 y.g) I),(3,y.A.bare)])
theorem Kg {n:Nat}{f g:Nat->f_}(h:Es n f g=C){y:uZ}(hy:rz (mX n f g).length (iK n f g) (aK (iK n f g 0)) y):BF n f g y:=by unfold Es at h;simp only[S,p_] at h;exact⟨h.2.1,h.2.2,hy⟩
theorem Qo (n:Nat)(f g:Nat->f_):aK (iK n f g 0)=cH n f g:=by rw[wW];rfl
theorem Nn:ax J 12 (cM Qp):=xk Wj fun(x:HoZ) hx=>⟨hx.1,λG h=>by show(Sx.fork (Es x.n x.f x.g) _).holds;rw[bP,hx.2];show ∀ y,_->_;intro y hy;have:=h y (Kg hx.2 hy);rw[← Qo] at this;exact this⟩
noncomputable def JB:gP:=asC wC (λx=>Zx x/\x.root=cH x.n x.f x.g/\Bo x.fr x.to=C) λx=>.all Nat λc=>.req (x.ns.length<=c) (.ret (.aN [.aX 3 1 C 0 x.ns.length c,.int .i64 C 0]) (qg x.room x.y++[(3,.rows C x.ns.length [jz x.ns] F (c*1) 9)]))
theorem JC:ax J 13 (cM JB):=xk RL fun(x:BlG) hx=>⟨hx.1,λG h=>by show(Sx.fork (M (x.root=cH x.n x.f x.g)) _).holds;rw[bP,n_ hx.2.1];show(Sx.fork (Bo x.fr x.to) _).holds;rw[bP,hx.2.2];exact h⟩
def eF (i:Nat):f_:=[[97],[98]].getD i []
def eG (i:Nat):f_:=[[49],[50]].getD i []
noncomputable def X9 (cfg:fD)(f:Nat)(fn:Func)(args:List SV)(a:cK):VC:=fE J (calling J cfg 40) [] wq (cfg.aW f) cfg.rounds fn args [] 0 (λv m _=>a.fit v m)
noncomputable def Rh:gP:=asC Gz (λx=>(x.1.Ok/\True)/\cJ x.1 x.2=C) λx=>.ret (.aN [(getD (x.1.f x.1.u)).sv,.bool C C]) [(0,x.1.sb 1 (x.1.u+1) .aC)]
theorem OW:ax J 157 (cM Rh):=xk Ri fun(x:Wy×f_) hx=>⟨hx.1,λG h=>by show(Sx.fork (cJ x.1 x.2) _).holds;rw[bP,hx.2];exact h⟩
noncomputable def Fm:gP:=asC s9 (λx=>(x.1.Ok/\x.2.length<9223372036854775808)/\(bH x.2=C∨bw x.2=C/\cJ x.1 (af x.2)=C)) λx=>.fork (bH x.2) λb=>match b with
 | true=>.ret (.aN [(getD x.2).sv,.bool C C]) [(0,x.1.sb 1 x.1.u .aC)]
 | false=>.ret (.aN [(getD (x.1.f x.1.u)).sv,.bool C C]) [(0,x.1.sb 1 (x.1.u+1) .aC)]
theorem HH:ax J 159 (cM Fm):=xk Sf fun(x:Wy×f_) hx=>⟨hx.1,λG h=>by
 have h:(Sx.fork (bH x.2) _).holds:=h;show(Sx.fork (bH x.2) _).holds;rw[bP] at h ⊢;cases hi:bH x.2 with
 | true=>rw[hi] at h;exact h
 | false =>rw[hi] at h;obtain⟨h1,h2⟩:=hx.2.resolve_left (by rw[hi];decide);show(Sx.fork (bw x.2) _).holds;rw[bP,h1];show(Sx.fork (cJ x.1 (af x.2)) _).holds;rw[bP,h2];exact h⟩
def Jr (w:Wy)(Y:Nd)(Q:f_)(x:Wh):Prop:=(∃ m u,x.p.length<m/\¬ u<w.n/\Un w m x.y x.p x.u=H (Y,Q,u))/\x.y.Good/\x.u<=w.n
def ZM (w:Wy)(Y:Nd)(Q:f_):aY :={α:=Wh,pre:=λ_ x=>Jr w Y Q x,kH:=λ_ x=>x.p.length+1,fresh:=0,slots:=λ_ _=>[(5,.bool C C)],mem:=λst x=>age w 0 st x .aC}
def SE (w:Wy):aY :={α:=Unit,pre:=λ_ _=>True,kH:=λ_ _=>0,fresh:=1,slots:=λst _=>[(4,.ptr st.nx C 0),(5,.bool C C)],mem:=λst _=>[(st.nx,.cells (bh (getD (w.f 0))) 19 138),(abS st 1,w.sb 0 1 .aC)]}
noncomputable def WT:List (FuncId×PT):=(157,cM Rh)::(159,cM Fm)::(158,bY DU)::(111,bY yE)::(58,bn o7)::yW
theorem SQ:bp J (λf=>aD f WT):=.cons OW (cz _) (.cons HH (cz _) (.cons abf (bO _) (.cons MT (bO _) (.cons Da (aS _) oW))))
noncomputable def U7 (w:Wy)(Y:Nd)(Q:f_):fD:={cv with cT:=λf=>aD f WT,aW:=λf=>if f=156 then [(1,always (ZM w Y Q)),(100001,always (SE w))] else []}
theorem adM (w:Wy)(Y:Nd)(Q:f_):Sx.Good J (U7 w Y Q):=.of bR SQ bq
def Rq (Y:Nd)(Q:f_):cK:=.ret (.aN [.agg [.bool F (dO Y Q),.str F (gp Y Q)],.int .i64 C 0])
theorem abx (w:Wy)(Y:Nd)(Q:f_)(key:f_)(kk:Option Nat):dB (.s 1 (.n (.n (.s 1 (.n .k (.s 0 (.n .k (.n (.m 2 (.s 0 .k)) (.m 2 (.s 5 (.n .k (.n .k .t))))))))) (.s 4 (.n .k (.s 0 (.n .k (.n (.m 2 (.s 0 .k)) (.m 2 (.s 2 (.n .k (.n .k .t)))))))))) (.n (.s 1 (.m 3 (.n .k .t))) (.s 5 (.n .k (.s 0 (.n .k (.n (.m 2 (.s 0 .k)) (.m 2 (.n (.s 1 (.m 3 (.n .k .t))) (.s 1 (.m 3 (.n .k .t))))))))))))) (iX (U7 w Y Q) 28 cx [.str F w.root,.str F key,.bE 0 1 w.z w.o 0 w.n w.c] [Yc w kk] (Rq Y Q)) ((λl:(Wy×f_)->SB=>((Fk (40<(w.n:Int)) (ah (SV.aN [SV.agg [SV.bool C F,SV.str C []],SV.int .i64 C 10]) (SV.aN [SV.agg [SV.bool F (dO Y Q),SV.str F (gp Y Q)],SV.int .i64 C 0])) (key.length<1099511627776/\∀(_u10:Loop),((∃(e:Wy×f_),((e.1.Ok/\True)/\cJ e.1 e.2=C)/\w.root=e.2/\w.root=e.1.root/\(w.z=e.1.z/\w.o=e.1.o/\w.n=e.1.n/\w.c=e.1.c)/\0=(e.1.u:Int)/\aa (SB.view w.z w.o w.n [av.str w.f]) (SB.view e.1.z e.1.o e.1.n [av.str e.1.f])/\H (l e)=H (l e)/\H (SB.cells [SV.ptr 3 C 0] 1 240)=H (SB.cells [SV.ptr 3 C 0] 1 240)/\H (SB.cells [SV.ptr 3 C 0] 1 240)=H (SB.cells [SV.ptr 3 C 0] 1 240)/\∃(_u8:Unit),True/\aa (SB.cells (bh (getD (e.1.f e.1.u))) 19 138) (SB.cells (bh (getD (w.f 0))) 19 138)/\aa (l e) (SB.cells [SV.str F w.root,SV.bE 0 1 w.z w.o 0 w.n w.c,SV.int .i64 F 1,SV.aC] 4 188))/\H (SB.cells [SV.str F w.root,SV.bE 0 1 w.z w.o 0 w.n w.c,SV.int .i64 C 0,SV.aC] 4 188)=H (SB.cells [SV.str F w.root,SV.bE 0 1 w.z w.o 0 w.n w.c,SV.int .i64 C 0,SV.aC] 4 188)/\H (SB.cells [SV.ptr 3 C 0] 1 240)=H (SB.cells [SV.ptr 3 C 0] 1 240)/\H (SB.cells [SV.ptr 3 C 0] 1 240)=H (SB.cells [SV.ptr 3 C 0] 1 240)/\∃(g:Wy×f_),((g.1.Ok/\True)/\cJ g.1 g.2=C)/\w.root=g.2/\w.root=g.1.root/\(w.z=g.1.z/\w.o=g.1.o/\w.n=g.1.n/\w.c=g.1.c)/\0=(g.1.u:Int)/\aa (SB.view w.z w.o w.n [av.str w.f]) (SB.view g.1.z g.1.o g.1.n [av.str g.1.f])/\∃(_u6:Unit),True/\aa (SB.cells (bh (getD (g.1.f g.1.u))) 19 138) (SB.cells (bh (getD (w.f 0))) 19 138)/\aa (SB.cells [SV.str F g.1.root,SV.bE 0 1 g.1.z g.1.o 0 g.1.n g.1.c,SV.int .i64 F (↑(g.1.u+1):Int),SV.aC] 4 188) (SB.cells [SV.str F w.root,SV.bE 0 1 w.z w.o 0 w.n w.c,SV.int .i64 F 1,SV.aC] 4 188))/\∀(_u5:Unit),True->(∃(j:Wh),Jr w Y Q j/\aa (SB.cells (bh (getD (w.f 0))) 19 138) (SB.cells (bh j.y) 19 138)/\aa (SB.cells [SV.str F (au key)] 1 9) (SB.cells [SV.str F j.p] 1 9)/\aa (SB.cells [SV.str F w.root,SV.bE 0 1 w.z w.o 0 w.n w.c,SV.int .i64 F 1,SV.aC] 4 188) (SB.cells [SV.str F w.root,SV.bE 0 1 w.z w.o 0 w.n w.c,SV.int .i64 F (j.u:Int),SV.aC] 4 188)/\aa (SB.cells [SV.bool C F,SV.str C []] 2 58) (SB.cells [SV.bool F j.b,SV.str F j.v] 2 58))/\∀(d:Wh),Jr w Y Q d->True/\True/\Fk (bD d.y.again d.p=[]) (Fk ((d.u:Int)<(w.n:Int)) (H (SB.cells [SV.str F w.root,SV.bE 0 1 w.z w.o 0 w.n w.c,SV.int .i64 F (d.u:Int),SV.iface 184 (SV.ptr 8 C 0)] 4 188)=H (SB.cells [SV.str F w.root,SV.bE 0 1 w.z w.o 0 w.n w.c,SV.int .i64 F (d.u:Int),SV.iface 184 (SV.ptr 8 C 0)] 4 188)/\ah (SV.aN [SV.agg [SV.bool C F,SV.str C []],SV.int .i64 C 10]) (SV.aN [SV.agg [SV.bool F (dO Y Q),SV.str F (gp Y Q)],SV.int .i64 C 0])) (H (SB.cells [SV.str F w.root,SV.bE 0 1 w.z w.o 0 w.n w.c,SV.int .i64 F (d.u:Int),SV.aC] 4 188)=H (SB.cells [SV.str F w.root,SV.bE 0 1 w.z w.o 0 w.n w.c,SV.int .i64 F (d.u:Int),SV.aC] 4 188)/\ah (SV.aN [SV.agg [SV.bool F (dO d.y.again d.p),SV.str F (gp d.y.again d.p)],SV.int .i64 C 0]) (SV.aN [SV.agg [SV.bool F (dO Y Q),SV.str F (gp Y Q)],SV.int .i64 C 0]))) (∃(a:Wy×f_),((a.1.Ok/\a.2.length<9223372036854775808)/\(bH a.2=C∨bw a.2=C/\cJ a.1 (af a.2)=C))/\bD d.y.again d.p=a.2/\w.root=a.1.root/\(w.z=a.1.z/\w.o=a.1.o/\w.n=a.1.n/\w.c=a.1.c)/\(d.u:Int)=(a.1.u:Int)/\aa (SB.view w.z w.o w.n [av.str w.f]) (SB.view a.1.z a.1.o a.1.n [av.str a.1.f])/\Bk (bH a.2) (∃(h:Wh),(Jr w Y Q h/\h.p.length+1<d.p.length+1)/\aa (SB.cells (bh (getD a.2)) 19 138) (SB.cells (bh h.y) 19 138)/\aa (SB.cells [SV.str F (cC d.y.again d.p)] 1 9) (SB.cells [SV.str F h.p] 1 9)/\aa (SB.cells [SV.str F a.1.root,SV.bE 0 1 a.1.z a.1.o 0 a.1.n a.1.c,SV.int .i64 F (a.1.u:Int),SV.aC] 4 188) (SB.cells [SV.str F w.root,SV.bE 0 1 w.z w.o 0 w.n w.c,SV.int .i64 F (h.u:Int),SV.aC] 4 188)/\aa (SB.cells [SV.bool F (dO d.y.again d.p),SV.str F (gp d.y.again d.p)] 2 58) (SB.cells [SV.bool F h.b,SV.str F h.v] 2 58)) (∃(i:Wh),(Jr w Y Q i/\i.p.length+1<d.p.length+1)/\aa (SB.cells (bh (getD (a.1.f a.1.u))) 19 138) (SB.cells (bh i.y) 19 138)/\aa (SB.cells [SV.str F (cC d.y.again d.p)] 1 9) (SB.cells [SV.str F i.p] 1 9)/\aa (SB.cells [SV.str F a.1.root,SV.bE 0 1 a.1.z a.1.o 0 a.1.n a.1.c,SV.int .i64 F (↑(a.1.u+1):Int),SV.aC] 4 188) (SB.cells [SV.str F w.root,SV.bE 0 1 w.z w.o 0 w.n w.c,SV.int .i64 F (i.u:Int),SV.aC] 4 188)/\aa (SB.cells [SV.bool F (dO d.y.again d.p),SV.str F (gp d.y.again d.p)] 2 58) (SB.cells [SV.bool F i.b,SV.str F i.v] 2 58))))))) (fun(e:Wy×f_)=>(SB.cells [SV.str F e.1.root,SV.bE 0 1 e.1.z e.1.o 0 e.1.n e.1.c,SV.int .i64 F (↑(e.1.u+1):Int),SV.aC] 4 188))):=⟨by kernel_rfl,by kernel_rfl⟩
theorem XJ {w:Wy}{P:f_}{Y:Nd}{Q:f_}(h:Lx w P=H (Y,Q)): ¬ 40<w.n/\cJ (w.on 0) w.root=C/\∃ u,¬ u<w.n/\Un w (P.length+1) (getD (w.f 0)) P 1=H (Y,Q,u):=by
 unfold Lx at h;by_cases h40:40<w.n
 ·rw[r_ h40] at h;cases h
 ·rw[s_ h40] at h;unfold OT at h;cases ht:cJ (w.on 0) w.root with
  | false=>rw[ht] at h;cases h
  | true =>
    rw[ht,cond_true] at h;cases hg:Un w (P.length+1) (getD (w.f 0)) P 1 with
    | none=>rw[hg] at h;cases h
    | some z =>
      obtain⟨y,q,u⟩:=z;rw[hg] at h;dsimp only at h;by_cases hu:u<w.n
      ·rw[r_ hu] at h;cases h
      ·rw[s_ hu] at h;cases h;exact⟨h40,rfl,u,hu,rfl⟩
section
attribute [local irreducible] aK bG getD bH bw af cJ bD cC dO gp au
theorem Lr (w:Wy)(hw:w.rB){key:f_}(hk:key.length<1099511627776)(kk:Option Nat){Y:Nd}{Q:f_}(hR:Lx w (au key)=H (Y,Q)) :
  ay (iX (U7 w Y Q) 28 cx [.str F w.root,.str F key,.bE 0 1 w.z w.o 0 w.n w.c] [Yc w kk] (Rq Y Q)):=by
 refine ay.A5 (abx w Y Q key kk) (by delta Bk Fk;exact rfl) ?_;obtain⟨h40,ht,u',hu',hg⟩:=XJ hR;have ok: ∀ u,u<=w.n->(w.on u).Ok:=λu hu=>⟨by show w.n<=200;omega,hw.f,hu⟩
 have mU: ∀ {u h},cJ (w.on u) h=C->(getD (w.f u)).Good/\u<w.n:=λh=>⟨wj (mw (DZ h).2.2),(DZ h).1⟩
 obtain⟨g0,n0⟩:=mU ht;refine⟨λh=>absurd (l_ h) (by omega),λ_=>⟨hk,λR=>⟨⟨⟨(w.on 0,w.root),⟨⟨ok 0 (O _),trivial⟩,ht⟩,rfl,rfl,⟨rfl,rfl,rfl,rfl⟩,rfl,aa.refl _,rfl,rfl,rfl,(),trivial,aa.refl _,aa.refl _⟩,rfl,rfl,rfl,(w.on 0,w.root),⟨⟨ok 0 (O _),trivial⟩,ht⟩,rfl,rfl,⟨rfl,rfl,rfl,rfl⟩,rfl,aa.refl _,(),trivial,aa.refl _,aa.refl _⟩,λ_ _=>⟨⟨⟨getD (w.f 0),au key,1,F,[]⟩,⟨⟨_,u',Nat.lt_succ_self _,hu',hg⟩,g0,n0⟩,aa.refl _,aa.refl _,aa.refl _,aa.cells (λ_=>rfl) rfl⟩,λx hx=> ?_⟩⟩⟩⟩;obtain⟨⟨m,u'',hm,hu'',hs⟩,hgx,hu⟩:=hx;rw[uW,DT,Hh,Hi];obtain⟨m,rfl⟩: ∃ k,m=k+1:=⟨m-1,by omega⟩
 have e:Un w (m+1) x.y x.p x.u=if bD x.y x.p=[] then H (x.y,x.p,x.u)else match x9 (w.on x.u) (bD x.y x.p)with
  | none=>I
  | some (y,v)=>Un w m y (cC x.y x.p) v:=rfl
 rw[e] at hs;refine⟨trivial,trivial,λhr=> ?_,λhr=> ?_⟩
 ·have hr:=l_ hr;rw[r_ hr] at hs;injection hs with hs;injection hs with h1 hs;injection hs with h2 h3;refine⟨λh=>absurd (l_ h) (by omega),λh=>⟨rfl,?_⟩⟩;rw[h1,h2];exact λ_=>rfl
 ·have hr:=m_ hr;rw[s_ hr] at hs;have hl:=I7 hgx hr;have hin:bH (bD x.y x.p)=C∨bw (bD x.y x.p)=C/\cJ (w.on x.u) (af (bD x.y x.p))=true:=by
   cases h1:bH (bD x.y x.p)with
   | true=>exact .inl rfl
   | false =>
     cases h2:bw (bD x.y x.p)with
     | false=>rw[Ry h1 (.inl h2)] at hs;cases hs
     | true =>
       cases h3:cJ (w.on x.u) (af (bD x.y x.p))with
       | false=>rw[Ry h1 (.inr h3)] at hs;cases hs
       | true=>exact .inr ⟨rfl,rfl⟩
  refine⟨(w.on x.u,bD x.y x.p),⟨⟨ok _ hu,L5 hgx _⟩,hin⟩,rfl,rfl,⟨rfl,rfl,rfl,rfl⟩,rfl,aa.refl _,λh1=> ?_,λh1=> ?_⟩
  ·rw[abL h1] at hs;exact⟨⟨getD (bD x.y x.p),cC x.y x.p,x.u,dO x.y x.p,gp x.y x.p⟩,⟨⟨⟨m,u'',by show(cC x.y x.p).length<m;omega,hu'',hs⟩,wj (Fu h1),hu⟩,d_ hl⟩,aa.refl _,aa.refl _,aa.refl _,aa.refl _⟩
  ·obtain⟨h2,h3⟩:=hin.resolve_left (by rw[h1];decide);rw[Ug h1 h2 h3] at hs;exact⟨⟨getD (w.f x.u),cC x.y x.p,x.u+1,dO x.y x.p,gp x.y x.p⟩,⟨⟨⟨m,u'',by show(cC x.y x.p).length<m;omega,hu'',hs⟩,(mU h3).1,(mU h3).2⟩,d_ hl⟩,aa.refl _,aa.refl _,aa.refl _,aa.refl _⟩
end
end Go.Proofs.YtoibaecagklkaaaGreatDoor
namespace Go.Proofs.YtoibaecagklkaaaGreatDoor
open Go Sx
set_option maxRecDepth 20000
theorem JZ (c:Nat):aa (SB.cells [SV.str C [(97:UInt8)],SV.str C [(49:UInt8)],SV.str C [(98:UInt8)],SV.str C [(50:UInt8)]] c 50) (SB.view F 0 2 [av.str eF,av.str eG]):=by
 refine aa.of rfl rfl λhno=>⟨rfl,λE o ⟨c,fr,h1,h2,h3,_⟩=>⟨c,_,fr,h1,λi k col hi hk=> ?_⟩,λh=>by cases h⟩
 match i,hi,k,hk with
 | 0,_,0,hk=>obtain rfl:=a_ hk;exact h3 0 (.str C [97]) rfl
 | 0,_,1,hk=>obtain rfl:=a_ hk;exact h3 1 (.str C [49]) rfl
 | 1,_,0,hk=>obtain rfl:=a_ hk;exact h3 2 (.str C [98]) rfl
 | 1,_,1,hk=>obtain rfl:=a_ hk;exact h3 3 (.str C [50]) rfl
 | i+2,hi,_,_=>omega
 | _,_,k+2,hk=>simp at hk
theorem GZ {A:It}:aa (.eD A.D [.str A.dm] 4 133 F) A.rK :=⟨rfl,λ_ _ ha=>⟨ha,λ_ _ h=>h,λh=>by cases h⟩⟩
def qQ (vs:List SV):Option (Prop×cK):=match vs with
 | []=>H (True,.ret (.bool C C))
 | _=>I
end Go.Proofs.YtoibaecagklkaaaGreatDoor
