/-
  Store: reached: the contract.
-/
import Derived.Test.YtoibaecagklkaaaGreatDoorMr
import Derived.Test.YtoibaecagklkaaaGreatDoorMq
open Bool renaming and_eq_true->an,and_false->eA,eq_iff_iff->cx,false->d,false_and->eB,false_or->eC,not_eq_true'->cy,or_eq_false_iff->eL,or_eq_true->R,true->C
open Decidable renaming decide->F
open Go.IntKind renaming i64->J
open Go.Op renaming bytesLess->H
open Go.Proofs.Tryz renaming f45->c5,f46->c6,f81->eN,prog->M
open Int renaming le_refl->aK,toNat_natCast->c7
open List renaming all_eq_true->eP,append_nil->aM,cons_append->c8,drop->a_,drop_succ_cons->eR,filter_congr->c9,filter_cons_of_neg->T,filter_cons_of_pos->V,filter_eq_nil_iff->c_,flatMap_cons->P,flatMap_map->eT,getD_eq_getElem?_getD->Q,getElem?_append_left->eW,getElem?_eq_getElem->a!,getElem_mem->c!,getLastD_cons->e5,length->e6,length_append->d_,length_cons->e7,length_take->d!,map_cons->ec,mem_append->ej,mem_append_left->ek,mem_cons->en,mem_cons_of_mem->bO,mem_cons_self->O,mem_filter->b_,mem_map->e_,mem_range->W,mem_singleton->X,pairwise_cons->b!,pairwise_map->e!,pairwise_singleton->fl,range->K,range_succ->fm,range_succ_eq_map->fo,take_succ_cons->cl
open Nat renaming le_refl->S,not_lt_zero->Y,succ_pos->er,zero_add->eu,zero_le->Z
open Option renaming none->I,some->L
open UInt8 renaming le_antisymm->fB,lt_irrefl->ct,not_lt->ez,ofNat->ag,ofNat_toNat->fI
namespace Go.Proofs.YtoibaecagklkaaaGreatDoor
open Go Sx
set_option maxRecDepth 20000
theorem IS: ∀(n:Nat) (l:List Nat),l.Nodup->(∀ a,a∈ l->a<n)->l.length<=n
 | 0,[],_,_=>S _
 | 0,a::_,_,h=>absurd (h a (O ..)) (Y _)
 | n+1,l,hd,h=>by
   have h1:=IS n (l.erase n) (hd.erase n) λa ha=>by have h2:=(hd.mem_erase_iff).1 ha;have:=h a h2.2;have:=h2.1;omega
   have:=List.length_erase (a:=n) (l:=l);by_cases e:n∈ l
   ·rw[if_pos e] at this;omega
   ·rw[if_neg e] at this;omega
theorem kU.len {n:Nat}{f:Nat->List UInt8}{root:List UInt8}{Fr:List (List UInt8)}{k:Nat}(h:kU n f root Fr k):Fr.length<=n:=by
 have:=IS n (Fr.map λt=>(cq f n t).toNat) ?_ ?_
 ·rwa [List.length_map] at this
 ·refine e!.2 (h.nod.imp_of_mem λ{a b} ha hb hne e=>hne ?_);obtain⟨_,_,h1⟩:=gG f n a (h.dom a ha);obtain⟨_,_,h2⟩:=gG f n b (h.dom b hb);rw[← h1,← h2,e]
 ·intro a ha;obtain⟨t,ht,rfl⟩:=e_.1 ha;obtain⟨h1,h2,_⟩:=gG f n t (h.dom t ht);omega
theorem has_add (l:List (List UInt8))(s t:List UInt8):dA (cn l) s t=cn (l++[s]) t:=by unfold dA cn;rw[cx,R,decide_eq_true_eq,decide_eq_true_eq,decide_eq_true_eq,ej,X]
theorem Wn {l:List (List UInt8)}{s:List UInt8}(h:s∈ l)(t:List UInt8):dA (cn l) s t=cn l t:=by unfold dA cn;rw[cx,R,decide_eq_true_eq,decide_eq_true_eq];exact⟨λe=>e.elim id λe=>e▸ h,.inl⟩
theorem WG {Fr:List (List UInt8)}{met:List UInt8->Int}{b:Nat}(h:iU Fr met b)(r:List UInt8) :
  (dflt (dA (cn Fr) r r) (fE met r (dflt (cn Fr r) (met r)+1) r)=dflt (cn Fr r) (met r)+1)/\(1<dflt (cn Fr r) (met r)+1↔r∈ Fr)/\0<=dflt (cn Fr r) (met r)/\dflt (cn Fr r) (met r)<=b:=by
 have h1:dA (cn Fr) r r=true:=by unfold dA;simp
 have h2: ∀ v,fE met r v r=v:=λv=>by unfold fE;simp
 rw[h1,h2];refine⟨rfl,?_⟩;by_cases e:r∈ Fr
 ·have hh:cn Fr r=true:=decide_eq_true e;rw[hh];have:=h.pos r e;exact⟨⟨λ_=>e,λ_=>by show 1<met r+1;omega⟩,by show 0<=met r;omega,by show met r<=b;exact this.2⟩
 ·have hh:cn Fr r=false:=decide_eq_false e;rw[hh];exact⟨⟨λh=>absurd h (by show ¬ (1:Int)<0+1;decide),λh=>absurd h e⟩,aK _,by show(0:Int)<=b;omega⟩
theorem WI {Fr:List (List UInt8)}{met:List UInt8->Int}{b:Nat}(h:iU Fr met b){r:List UInt8}(hr:r∈ Fr):iU Fr (fE met r (dflt (cn Fr r) (met r)+1)) (b+1):=⟨λt ht=>by
 have hh:cn Fr r=true:=decide_eq_true hr;rw[hh];unfold fE;have h1:=h.pos r hr;have h2:=h.pos t ht;by_cases e:t=r
 ·rw[decide_eq_true e];show 1<=met r+1/\met r+1<=_;omega
 ·rw[decide_eq_false e];show 1<=met t/\met t<=_;omega⟩
theorem WE {Fr:List (List UInt8)}{met:List UInt8->Int}{b:Nat}(h:iU Fr met b){r:List UInt8}(hr:r∉ Fr):iU (Fr++[r]) (fE met r (dflt (cn Fr r) (met r)+1)) (b+1):=⟨λt ht=>by
 have hh:cn Fr r=false:=decide_eq_false hr;rw[hh];unfold fE;by_cases e:t=r
 ·rw[decide_eq_true e];show(1:Int)<=0+1/\(0:Int)+1<=_;omega
 ·rw[decide_eq_false e];rcases ej.1 ht with ht | ht
  ·have h2:=h.pos t ht;show 1<=met t/\met t<=_;omega
  ·rw[X] at ht;exact absurd ht e⟩
theorem kU.add {n:Nat}{f:Nat->List UInt8}{root:List UInt8}{Fr:List (List UInt8)}{k:Nat}(h:kU n f root Fr k)(hk:k<=Fr.length){r:List UInt8}(hr:r∉ Fr)(hd:aI f n r=C):kU n f root (Fr++[r]) k:=by
 refine⟨ek _ h.root,?_,λt ht=> ?_,λq hq hql j hj=> ?_⟩
 ·rw[List.nodup_append];exact⟨h.nod,fl _ _,λa ha b hb e=>hr (by rw[X] at hb;rw[← hb,← e];exact ha)⟩
 ·rcases ej.1 ht with ht | ht
  ·exact h.dom t ht
  ·rw[X] at ht;rw[ht];exact hd
 ·have e:(Fr++[r]).getD q []=Fr.getD q []:=by rw[Q,Q,eW (by omega)]
  rw[e] at hj ⊢;exact ek _ (h.clo q hq (by omega) j hj)
theorem SL {Fr:List (List UInt8)}{r:List UInt8}{i:Nat}(h:i<Fr.length):(Fr++[r]).getD i []=Fr.getD i []:=by rw[Q,Q,eW h]
theorem OY {u:List (List UInt8)}{s:List UInt8}{c c':Nat}(hc:c=c'):aa (.rows C (u.length+1) [.str λj=>if j<u.length then u.getD j [] else bP [s] (j - u.length)] d (c*1) 9) (jk (u++[s]) c'):=by
 subst hc;refine gZ (by simp) rfl rfl λk c c' h1 h2 i hi E=> ?_
 match k,h1,h2 with
 | 0,h1,h2 =>
   injection h1 with h1;injection h2 with h2;subst h1;subst h2;simp only[aq.at,SV.val];rw[rA u s [] i hi];by_cases h:i<u.length
   ·rw[if_pos h,if_pos h]
   ·rw[if_neg h,if_neg h];rfl
 | k+1,h1,_=>simp at h1
theorem S1 {s:List UInt8}{c c':Nat}(hc:c=c')(h1c:1<=c):aa (.cells [.str d s] (c*1) 9) (jk [s] c'):=by
 subst hc;refine aa.of rfl rfl λ_=>⟨rfl,λE o ⟨c0,fr,h1,h2,h3,h4⟩=>⟨c0,fr,h1,λ_=>h2,by show 1*1<=c0.size;omega,h4,λi k col hi hk=> ?_⟩,id⟩
 have hi:i<1:=hi;have e:i=0:=by omega
 subst e
 match k,hk with
 | 0,hk =>injection hk with hk;subst hk;exact h3 0 _ rfl
 | k+1,hk=>simp at hk
theorem WH (s:List UInt8):aa (.map [(0,.str d s,.int .i64 C 1)] 1) (.fmap (cn [s]) (.int .i64 λ_=>1) I):=by
 refine aa.of rfl rfl λ_=>⟨rfl,λE o h=> ?_,id⟩
 have h:o=.map (dY E [(0,.str d s,.int .i64 C 1)]).toArray 1:=h;have h2:=(wT.nil (.int .i64 λ_=>1) 0).add (c':=.int .i64 λ_=>1) (s:=s) (u:=.int .i64 1) ⟨rfl,λ_ _=>rfl⟩ (by simp) (pend':=I) (λ_ _ h=>by cases h);refine⟨_,_,h,?_⟩;have e:dA (λ_=>d) s=cn [s]:=by funext t;unfold dA cn;rw[eC];simp
 rw[e] at h2;exact h2
theorem C9 (x:VI)(hx:n8.pre x):aB (runM (RO x) 81 eN n8 x):=by
 refine aB.pr (QL x) ?_;obtain⟨hn,hG,hroot,hclo⟩:=hx;simp only[c7,eu,true_and,cy,Bool.not_false,decide_eq_true_eq,decide_eq_false_iff_not];refine⟨⟨λ_ c hc=>⟨λ_=>⟨⟨0,[x.root],c,λ_=>1⟩,⟨rfl,hc,⟨O ..,fl _ _,λt ht=>by rw[X] at ht;rw[ht];exact hroot,λq hq=>absurd hq (Y _)⟩,⟨λ_ _=>⟨aK _,aK _⟩⟩⟩,⟨rfl,rfl⟩,Nat.one_pos,S1 rfl hc,WH _⟩,λh=>by rw[hroot] at h;cases h⟩,λh=>absurd trivial h⟩,λy ⟨y1,y2,y3,y4⟩=>⟨?_,λz ⟨z1,z2,z3,z4⟩=>⟨λhlt=> ?_,λhge=> ?_⟩⟩⟩
 ·exact⟨y,⟨by omega,y2,by rw[y1];exact y3,by rw[y1];exact y4⟩,by rw[y1];rfl,⟨rfl,rfl⟩,aa.refl _,aa.refl _⟩
 ·have hlt:(z.i:Int)<(z.Fr.length:Int):=hlt;have hlt':z.i<z.Fr.length:=by omega
  have hmem:z.Fr.getD z.i []∈ z.Fr:=by rw[Q,a! hlt'];exact c! hlt'
  have hd:=z3.dom _ hmem;have hL:=z3.len;have hT:x.A.cS (x.g (z.Fr.getD z.i []))=qi x.n x.f (z.Fr.getD z.i []):=hG.cS _ hd;have hnb:x.A.nb (x.g (z.Fr.getD z.i []))=fW (qi x.n x.f (z.Fr.getD z.i [])):=(hG.nb _ hd).trans (congrArg fW hT);have h16:fW (qi x.n x.f (z.Fr.getD z.i []))<=16:=vn _ 16;refine⟨⟨by omega,hlt⟩,hlt',λ_=>⟨hG.dom _ hd,⟨(0,z),⟨Z _,⟨rfl,rfl,hlt'⟩,z2,z3,z4,λj hj=>absurd hj (Y _)⟩,rfl,⟨rfl,rfl⟩,aa.refl _,aa.refl _⟩,λw ⟨w1,⟨w2,w3,w4⟩,w5,w6,w7,w8⟩=>⟨λhj=> ?_,λhj=> ?_⟩⟩,λh=>by rw[hd] at h;cases h⟩
  ·have hj':w.1<x.A.nb (x.g (z.Fr.getD z.i [])):=by omega
   obtain⟨r1,r2,r3⟩:=hG.row _ hd (by omega);have hr:x.A.rf (x.A.fb (x.g (z.Fr.getD z.i []))) w.1=eK (qi x.n x.f (z.Fr.getD z.i [])) w.1:=by rw[r3 w.1 hj',hT]
   have hrd:=hclo _ hd w.1 (by omega);have hwl:=w6.len;rw[hr];generalize hrr:eK (qi x.n x.f (z.Fr.getD z.i [])) w.1=r at hrd ⊢;obtain⟨e1,e2,e3,e4⟩:=WG w7 r;rw[e1];have hb:1+16*w.2.i+w.1<=20000:=by omega
   have e4:dflt (cn w.2.Fr r) (w.2.met r)<=20000:=Int.le_trans e4 (by omega);have more: ∀ Fr':List (List UInt8),(∀ t,t∈ w.2.Fr->t∈ Fr')->r∈ Fr'->∀ j,j<w.1+1->eK (qi x.n x.f (z.Fr.getD z.i [])) j∈ Fr':=λFr' hs hr' j hj=>by
    by_cases e:j=w.1
    ·rw[e,hrr];exact hr'
    ·exact hs _ (w8 j (by omega))
   refine⟨⟨by omega,hj⟩,⟨r1,Nat.lt_of_lt_of_le hj' r2⟩,⟨by omega,by omega⟩,λh1=> ?_,λh1=>⟨⟨S _,by omega,by omega⟩,λc hc=>⟨λ_=> ?_,λh=>by rw[hrd] at h;cases h⟩⟩⟩
   ·have hin:=e2.1 h1;exact⟨⟨by omega,by omega⟩,(w.1+1,⟨w.2.i,w.2.Fr,w.2.c,fE w.2.met r (dflt (cn w.2.Fr r) (w.2.met r)+1)⟩),⟨⟨by show w.1+1<=_;omega,⟨w2,w3,w4⟩,w5,w6,WI w7 hin,more _ (λ_ h=>h) hin⟩,by show _ - (w.1+1)<_;omega⟩,by show(w.1:Int)+1=((w.1+1:Nat):Int);omega,⟨rfl,rfl⟩,aa.refl _,aa.fmap (Wn hin) λ_=>rfl⟩
   ·have hin:r∉ w.2.Fr:=λe=>h1 (e2.2 e);exact⟨⟨by omega,by omega⟩,(w.1+1,⟨w.2.i,w.2.Fr++[r],c,fE w.2.met r (dflt (cn w.2.Fr r) (w.2.met r)+1)⟩),⟨⟨by show w.1+1<=_;omega,⟨w2,by show _=(w.2.Fr++[r]).getD w.2.i [];rw[SL w4];exact w3,by show w.2.i<(w.2.Fr++[r]).length;rw[d_];omega⟩,by show(w.2.Fr++[r]).length<=c;rw[d_];exact hc,w6.add (by omega) hin hrd,WE w7 hin,more _ (λ_ h=>ek _ h) (List.mem_append_right _ (X.2 rfl))⟩,by show _ - (w.1+1)<_;omega⟩,by show(w.1:Int)+1=((w.1+1:Nat):Int);omega,⟨by show _=(w.2.Fr++[r]).length;rw[d_];rfl,rfl⟩,OY rfl,aa.fmap (has_add _ _) λ_=>rfl⟩
  ·have hwl:=w6.len;have ei:w.2.i=z.i:=by omega
   refine⟨⟨by omega,by omega⟩,⟨z.i+1,w.2.Fr,w.2.c,w.2.met⟩,⟨⟨by show z.i+1<=w.2.Fr.length;omega,w5,⟨w6.root,w6.nod,w6.dom,λq hq hql j hjj=> ?_⟩,⟨λt ht=> ?_⟩⟩,by show x.n - (z.i+1)<x.n - z.i;omega⟩,by show(z.i:Int)+1=((z.i+1:Nat):Int);omega,⟨rfl,rfl⟩,aa.refl _,aa.refl _⟩
   ·by_cases e:q=w.2.i
    ·subst e;rw[← w3] at hjj ⊢;exact w8 j (by omega)
    ·exact w6.clo q (by have:q<z.i+1:=hq;omega) hql j hjj
   ·have:=w7.pos t ht;show 1<=w.2.met t/\w.2.met t<=((1+16*(z.i+1):Nat):Int)
    omega
 ·have e:z.i=z.Fr.length:=by have: ¬ (z.i:Int)<(z.Fr.length:Int):=hge;omega
  rw[e] at z3;exact⟨(z.Fr,z.c),⟨z3,z2⟩,⟨rfl,rfl⟩,aa.refl _⟩
theorem L9:az M 81 (cD n8) :=gx (n:=20) (fn:=eN) Tryz.func81 (by kernel_rfl) (by kernel_rfl) n8 λx hx=>⟨_,Zw x,rfl,C9 x hx⟩
structure AdG where
 n:Nat
 f:Nat->List UInt8
 c:Nat
 room:Int
structure tJ where
 Fr:List (List UInt8)
 A:It
 g:List UInt8->Nat
structure nC (n:Nat)(f:Nat->List UInt8)(root:List UInt8)(y:tJ):Prop where
 bf:kU n f root y.Fr y.Fr.length
 dom: ∀ h,h∈ y.Fr->y.A.D (y.g h)=C
 cS: ∀ h,h∈ y.Fr->y.A.cS (y.g h)=qi n f h
def It.bare (A:It):SB:=.dR A.D [.str A.cS] 4 133 d
def Ow:gE :=
 {G:=AdG,n:=3,N:=4,pre:=λx=>0<x.n/\x.n<=1000/\(x.n:Int)<=x.room/\x.room<=1000000/\(∀ i,i<x.n->(x.f i).length<=1000)/\mV x.n x.f=C/\Clo x.n x.f,args:=λx=>[.ptr 0 C 0,.aZ 2 1 C 0 x.n x.c],
  mem:=λx=>[(0,gC x.room 1),(1,.map [] 0),(2,.rows C x.n [.str x.f] C (x.c*1) 9)],
  wP:=λx=>.all tJ λy=>.req (nC x.n x.f (aC (x.f 0)) y) (.ret (.aN [.str d (aC (x.f 0)),.int .i64 C 0]) [(0,gC x.room 1),(1,.fmap (cn y.Fr) (.ref 3 y.g) I),(3,y.A.bare)])}
def Dr (st:Sx.St)(i:Nat):Option (Nat×(Nat->List UInt8)):=match slot st.tmps i with
 | some (.aZ k _ _ _ n _)=>(match st.m.get k with
   | some (.rows _ _ [.str e] _ _ _)=>L (n,e)
   | _=>I)
 | _=>I
def SQ (st:Sx.St)(i:Nat):Option (Nat×(List UInt8->Nat)):=match slot st.tmps i with
 | some (.map k)=>(match st.m.get k with
   | some (.fmap _ (.ref kF g) _)=>L (kF,g)
   | _=>I)
 | _=>I
def XY (st:Sx.St)(k:Nat):Option ((Nat->Bool)×aq×aq×aq):=match st.m.get k with
 | some (.dR D [c1,c2,_,c4] _ _ _)=>L (D,c1,c2,c4)
 | _=>I
def ue (e:Nat->List UInt8)(i:Nat)(h:List UInt8):Bool:=(K i).any λq=>decide (e q=h)
structure uP (D:Nat->Bool)(us:Nat->Int)(b:Nat):Prop where
 all: ∀ a,D a=C->0<=us a/\us a<=b
noncomputable def YA (n:Nat)(e:Nat->List UInt8)(kF:Nat)(g:List UInt8->Nat):aV :={α:=Nat,pre:=λ_ i=>i<=n,kT:=λ_ i=>n - i,fresh:=0,slots:=λ_ i=>[(46,.int .i64 d i)],mem:=λ_ i=>[(1,.fmap (ue e i) (.ref kF g) I)]}
noncomputable def YB (n kF:Nat)(D:Nat->Bool)(c1 c2 c4:aq):aV :={α:=Nat×(Nat->Int),pre:=λ_ y=>y.1<=n/\uP D y.2 (16*y.1),kT:=λ_ y=>n - y.1,fresh:=0,slots:=λ_ y=>[(61,.int .i64 d y.1)],mem:=λ_ y=>[(kF,.dR D [c1,c2,.int .i64 y.2,c4] 4 133 d)]}
noncomputable def YC (i nb:Int)(kF:Nat)(D:Nat->Bool)(c1 c2 c4:aq):aV :={α:=Nat×(Nat->Int),pre:=λ_ y=>(y.1:Int)<=nb/\uP D y.2 (16*i.toNat+y.1),kT:=λ_ y=>nb.toNat - y.1,fresh:=0,slots:=λ_ y=>[(72,.int .i64 d y.1)],mem:=λ_ y=>[(kF,.dR D [c1,c2,.int .i64 y.2,c4] 4 133 d)]}
noncomputable def YO:qj:=[(11,λst=>match Dr st 44,SQ st 6 with
 | some (n,e),L (kF,g)=>L (one (YA n e kF g))
 | _,_=>I),(16,λst=>match Dr st 59,SQ st 6 with
 | some (n,_),L (kF,_)=>(match XY st kF with
   | some (D,c1,c2,c4)=>L (one (YB n kF D c1 c2 c4))
   | none=>I)
 | _,_=>I),(19,λst=>match slot st.tmps 61,slot st.tmps 71,SQ st 6 with
 | some (.int _ _ i),L (.int _ _ nb),L (kF,_)=>(match XY st kF with
   | some (D,c1,c2,c4)=>L (one (YC i nb kF D c1 c2 c4))
   | none=>I)
 | _,_,_=>I)]
noncomputable def Ts:List (FuncId×PT):=(80,cD Ez)::(81,cD n8)::fP
theorem O9:bn M (λf=>aE f Ts):=.cons UP (cc _) (.cons L9 (cc _) cO)
noncomputable def Ru:fJ:={cm with cG:=λf=>aE f Ts,bx:=λh=>if h=46 then YO else []}
theorem Y7:Sx.Good M Ru:=.of bR O9 bl
theorem abH (x:AdG):cZ (.s 0 (.n (.s 0 .k) (.s 0 (.n .k (.n (.s 4 (.n .k (.s 0 (.n .k (.s 0 (.n .k (.n .k (.n .k (.s 1 (.n (.s 0 (.n .k (.n .k .t))) (.n (.s 1 (.n (.s 1 (.n .k (.n .k .t))) .t)) (.n (.s 0 (.n .k (.n .k .t))) (.n (.s 1 (.n (.s 0 (.n (.s 0 (.n .k (.n .k .t))) (.n (.s 1 (.n (.s 4 (.n .k (.n .k .t))) .t)) (.s 1 (.n .k (.n .k .t)))))) .t)) (.n (.s 3 (.n .k (.s 0 .k))) .t)))))))))))))) .t))))) (runM Ru 46 c6 Ow x) ((∃(u26:RdG),(u26.n<=1000/\∀(u25:Nat),u25<u26.n->(u26.f u25).length<=1000)/\(x.n=u26.n/\x.c=u26.c)/\aa (SB.rows C x.n [aq.str x.f] C (x.c*1) 9) (SB.rows C u26.n [aq.str u26.f] C (u26.c*1) 9)/\((F (0<u26.n)&&mV u26.n u26.f)=C->∀(u24:MQ),jC u26.f u26.n u24.A u24.g->((0:Int)<=(0:Int)/\0<(x.n:Int))/\0<x.n/\(True/\BT [x.f 0])/\∃(u23:VI),(u23.n<=1000/\jC u23.f u23.n u23.A u23.g/\aI u23.f u23.n u23.root=C/\Clo u23.n u23.f)/\aC (flat [x.f 0])=u23.root/\x.room=u23.room/\aa (SB.fmap (aI u26.f u26.n) (aD.aJ (pL 1 (tB 0 [((0:Nat),gC x.room 1),((1:Nat),SB.map [] 0),((2:Nat),SB.rows C x.n [aq.str x.f] C (x.c*1) 9)] (SB.rows C u26.n [aq.str u26.f] C (u26.c*1) 9) (SB.rows C x.n [aq.str x.f] C (x.c*1) 9) [((0:Nat),(2:Nat))]) 3) (aD.ref 2 u24.g)) I) (SB.fmap (aI u23.f u23.n) (aD.ref 3 u23.g) I) /\aa (SB.dR u24.A.D [aq.str u24.A.cS,aq.bU 6 1 C u24.A.fb u24.A.nb u24.A.cb,aq.int J u24.A.us,aq.int J u24.A.hd] 4 133 d) (SB.dR u23.A.D [aq.str u23.A.cS,aq.bU 4 1 C u23.A.fb u23.A.nb u23.A.cb,aq.int J u23.A.us,aq.int J u23.A.hd] 4 133 C)/\aa (SB.dD u24.A.D2 u24.A.n2 [bW.str u24.A.rf] d) (SB.dD u23.A.D2 u23.A.n2 [bW.str u23.A.rf] C)/\∀(u22:List (List UInt8)×Nat),kU u23.n u23.f u23.root u22.1 u22.1.length/\u22.1.length<=u22.2->((-9223372036854775808:Int)<=u23.room - (↑(0:Nat):Int)/\u23.room - (↑(0:Nat):Int)<=9223372036854775807)/\(F (u23.room - (↑(0:Nat):Int)<(u22.1.length:Int))=C->∃(u21:tJ),nC x.n x.f (aC (x.f 0)) u21/\False)/\(F (u23.room - (↑(0:Nat):Int)<(u22.1.length:Int))=d->(∃(u20:Nat),u20<=u22.1.length/\0=(u20:Int)/\aa (SB.map [] 0) (SB.fmap (ue (fun(u19:Nat)=>u22.1.getD u19 []) u20) (aD.ref 5 u23.g) I))/\∀(u18:Nat),u18<=u22.1.length->(F ((u18:Int)<(u22.1.length:Int))=C->(0<=(u18:Int)/\(u18:Int)<(u22.1.length:Int)) /\0+(u18:Int).toNat<u22.1.length/\(aI u23.f u23.n (u22.1.getD (0+(u18:Int).toNat) [])=C->I6 ((u18:Int)+1)/\∃(u17:Nat),(u17<=u22.1.length/\u22.1.length - u17<u22.1.length - u18)/\(u18:Int)+1=(u17:Int)/\aa (SB.fmap (dA (ue (fun(u16:Nat)=>u22.1.getD u16 []) u18) (u22.1.getD (0+(u18:Int).toNat) [])) (aD.ref 5 (v8 u23.g (u22.1.getD (0+(u18:Int).toNat) []) (u23.g (u22.1.getD (0+(u18:Int).toNat) [])))) I) (SB.fmap (ue (fun(u15:Nat)=>u22.1.getD u15 []) u17) (aD.ref 5 u23.g) I))/\(aI u23.f u23.n (u22.1.getD (0+(u18:Int).toNat) [])=d->False))/\(F ((u18:Int)<(u22.1.length:Int))=d->(∃(u14:Nat×(Nat->Int)),(u14.1<=u22.1.length/\uP u24.A.D u14.2 (16*u14.1))/\0=(u14.1:Int) /\aa (SB.dR u24.A.D [aq.str u24.A.cS,aq.bU 6 1 C u24.A.fb u24.A.nb u24.A.cb,aq.int J u24.A.us,aq.int J u24.A.hd] 4 133 d) (SB.dR u24.A.D [aq.str u24.A.cS,aq.bU 6 1 C u24.A.fb u24.A.nb u24.A.cb,aq.int J u14.2,aq.int J u24.A.hd] 4 133 d))/\∀(u13:Nat×(Nat->Int)),u13.1<=u22.1.length/\uP u24.A.D u13.2 (16*u13.1)->(F ((u13.1:Int)<(u22.1.length:Int))=C->(0<=(u13.1:Int)/\(u13.1:Int)<(u22.1.length:Int))/\0+(u13.1:Int).toNat<u22.1.length/\(aI u23.f u23.n (u22.1.getD (0+(u13.1:Int).toNat) [])=C->u24.A.D (u23.g (u22.1.getD (0+(u13.1:Int).toNat) []))=C/\(∃(u12:Nat×(Nat->Int)),((u12.1:Int)<=(↑(u24.A.nb (u23.g (u22.1.getD (0+(u13.1:Int).toNat) []))):Int)/\uP u24.A.D u12.2 (16*(u13.1:Int).toNat+u12.1))/\0=(u12.1:Int) /\aa (SB.dR u24.A.D [aq.str u24.A.cS,aq.bU 6 1 C u24.A.fb u24.A.nb u24.A.cb,aq.int J u13.2,aq.int J u24.A.hd] 4 133 d) (SB.dR u24.A.D [aq.str u24.A.cS,aq.bU 6 1 C u24.A.fb u24.A.nb u24.A.cb,aq.int J u12.2,aq.int J u24.A.hd] 4 133 d))/\∀(u11:Nat×(Nat->Int)),(u11.1:Int)<=(↑(u24.A.nb (u23.g (u22.1.getD (0+(u13.1:Int).toNat) []))):Int)/\uP u24.A.D u11.2 (16*(u13.1:Int).toNat+u11.1)->(F ((u11.1:Int)<(↑(u24.A.nb (u23.g (u22.1.getD (0+(u13.1:Int).toNat) []))):Int))=C->(0<=(u11.1:Int)/\(u11.1:Int)<(↑(u24.A.nb (u23.g (u22.1.getD (0+(u13.1:Int).toNat) []))):Int))/\(u24.A.D2 (u24.A.fb (u23.g (u22.1.getD (0+(u13.1:Int).toNat) [])))=C/\0+(u11.1:Int).toNat<u24.A.n2 (u24.A.fb (u23.g (u22.1.getD (0+(u13.1:Int).toNat) []))))/\(ue (fun(u10:Nat)=>u22.1.getD u10 []) u18 (u24.A.rf (u24.A.fb (u23.g (u22.1.getD (0+(u13.1:Int).toNat) []))) (0+(u11.1:Int).toNat))=C ->u24.A.D (u23.g (u24.A.rf (u24.A.fb (u23.g (u22.1.getD (0+(u13.1:Int).toNat) []))) (0+(u11.1:Int).toNat)))=C/\I6 (u11.2 (u23.g (u24.A.rf (u24.A.fb (u23.g (u22.1.getD (0+(u13.1:Int).toNat) []))) (0+(u11.1:Int).toNat)))+1)/\u24.A.D (u23.g (u24.A.rf (u24.A.fb (u23.g (u22.1.getD (0+(u13.1:Int).toNat) []))) (0+(u11.1:Int).toNat)))=C/\I6 ((u11.1:Int)+1)/\∃(u9:Nat×(Nat->Int)),(((u9.1:Int)<=(↑(u24.A.nb (u23.g (u22.1.getD (0+(u13.1:Int).toNat) []))):Int)/\uP u24.A.D u9.2 (16*(u13.1:Int).toNat+u9.1))/\(↑(u24.A.nb (u23.g (u22.1.getD (0+(u13.1:Int).toNat) []))):Int).toNat - u9.1<(↑(u24.A.nb (u23.g (u22.1.getD (0+(u13.1:Int).toNat) []))):Int).toNat - u11.1)/\(u11.1:Int)+1=(u9.1:Int) /\aa (SB.dR u24.A.D [aq.str u24.A.cS,aq.bU 6 1 C u24.A.fb u24.A.nb u24.A.cb,aq.int J fun(u8:Nat)=>if u8=u23.g (u24.A.rf (u24.A.fb (u23.g (u22.1.getD (0+(u13.1:Int).toNat) []))) (0+(u11.1:Int).toNat))then u11.2 (u23.g (u24.A.rf (u24.A.fb (u23.g (u22.1.getD (0+(u13.1:Int).toNat) []))) (0+(u11.1:Int).toNat)))+1 else u11.2 u8,aq.int J u24.A.hd] 4 133 d) (SB.dR u24.A.D [aq.str u24.A.cS,aq.bU 6 1 C u24.A.fb u24.A.nb u24.A.cb,aq.int J u9.2,aq.int J u24.A.hd] 4 133 d))/\(ue (fun(u7:Nat)=>u22.1.getD u7 []) u18 (u24.A.rf (u24.A.fb (u23.g (u22.1.getD (0+(u13.1:Int).toNat) []))) (0+(u11.1:Int).toNat))=d->False))/\(F ((u11.1:Int)<(↑(u24.A.nb (u23.g (u22.1.getD (0+(u13.1:Int).toNat) []))):Int))=d->I6 ((u13.1:Int)+1)/\∃(u6:Nat×(Nat->Int)),((u6.1<=u22.1.length/\uP u24.A.D u6.2 (16*u6.1))/\u22.1.length - u6.1<u22.1.length - u13.1)/\(u13.1:Int)+1=(u6.1:Int) /\aa (SB.dR u24.A.D [aq.str u24.A.cS,aq.bU 6 1 C u24.A.fb u24.A.nb u24.A.cb,aq.int J u11.2,aq.int J u24.A.hd] 4 133 d) (SB.dR u24.A.D [aq.str u24.A.cS,aq.bU 6 1 C u24.A.fb u24.A.nb u24.A.cb,aq.int J u6.2,aq.int J u24.A.hd] 4 133 d)))/\(aI u23.f u23.n (u22.1.getD (0+(u13.1:Int).toNat) [])=d->False))/\(F ((u13.1:Int)<(u22.1.length:Int))=d->(ue (fun(u5:Nat)=>u22.1.getD u5 []) u18 (aC (flat [x.f 0]))=C->u24.A.D (u23.g (aC (flat [x.f 0])))=C/\I6 (u24.A.hd (u23.g (aC (flat [x.f 0])))+1)/\u24.A.D (u23.g (aC (flat [x.f 0])))=C/\∃(u4:tJ),nC x.n x.f (aC (x.f 0)) u4/\aC (flat [x.f 0])=aC (x.f 0)/\aa (SB.cells [SV.int .i64 d u23.room,SV.map 1] 2 126) (gC x.room 1)/\aa (SB.fmap (ue (fun(u3:Nat)=>u22.1.getD u3 []) u18) (aD.ref 5 u23.g) I) (SB.fmap (cn u4.Fr) (aD.ref 3 u4.g) I) /\aa (SB.dR u24.A.D [aq.str u24.A.cS,aq.bU 6 1 C u24.A.fb u24.A.nb u24.A.cb,aq.int J u13.2,aq.int J fun(u2:Nat)=>if u2=u23.g (aC (flat [x.f 0]))then u24.A.hd (u23.g (aC (flat [x.f 0])))+1 else u24.A.hd u2] 4 133 d) (SB.dR u4.A.D [aq.str u4.A.cS] 4 133 d))/\(ue (fun(u1:Nat)=>u22.1.getD u1 []) u18 (aC (flat [x.f 0]))=d->False)))))/\((F (0<u26.n)&&mV u26.n u26.f)=d->∃(u0:tJ),nC x.n x.f (aC (x.f 0)) u0/\False))):=⟨by kernel_rfl,by kernel_rfl⟩
theorem OV (e:Nat->List UInt8)(i:Nat)(h:List UInt8):dA (ue e i) (e i) h=ue e (i+1) h:=by unfold dA ue;rw[fm,List.any_append,List.any_cons,List.any_nil,Bool.or_false];congr 1;exact decide_eq_decide.2 ⟨Eq.symm,Eq.symm⟩
theorem SU (Fr:List (List UInt8))(h:List UInt8):ue (λq=>Fr.getD q []) Fr.length h=cn Fr h:=by
 unfold ue cn;rw[cx,List.any_eq_true,decide_eq_true_eq];constructor
 ·rintro⟨q,hq,e⟩;rw[W] at hq;rw[decide_eq_true_eq] at e;rw[← e];show Fr.getD q []∈ Fr;rw[Q,a! hq];exact c! hq
 ·intro hm;obtain⟨q,hq,e⟩:=List.getElem_of_mem hm;refine⟨q,W.2 hq,decide_eq_true ?_⟩;show Fr.getD q []=h;rw[Q,a! hq];exact e
theorem Ql (g:List UInt8->Nat)(s t:List UInt8):v8 g s (g s) t=g t:=by
 unfold v8;by_cases e:t=s
 ·rw[decide_eq_true e,e];rfl
 ·rw[decide_eq_false e];rfl
theorem uP.le {D:Nat->Bool}{us:Nat->Int}{b b':Nat}(h:uP D us b)(hb:b<=b'):uP D us b':=⟨λa ha=>by have:=h.all a ha;omega⟩
theorem uP.up {D:Nat->Bool}{us:Nat->Int}{b:Nat}(h:uP D us b){a:Nat}(ha:D a=C):uP D (λj=>if j=a then us a+1 else us j) (b+1):=⟨λj hj=>by
 have h1:=h.all a ha;have h2:=h.all j hj;show 0<=(if j=a then us a+1 else us j)/\(if j=a then us a+1 else us j)<=_
 by_cases e:j=a
 ·rw[if_pos e];omega
 ·rw[if_neg e];omega⟩
theorem qG (f:Nat->List UInt8): ∀(n i:Nat),i<n->aI f n (aC (f i))=C
 | 0,_,h=>absurd h (Y _)
 | n+1,i,h=>by
   by_cases e:i=n
   ·subst e;simp[aI]
   ·have:=qG f n i (by omega);simp[aI,this]
theorem Wa {D:Nat->Bool}{n:Nat->Nat}{ay:List bW}:aa (.dD D n ay d) (.dD D n ay C) :=⟨rfl,λ_ _ ha=>⟨ha,λ_ _ h=>h,λ_=>rfl⟩⟩
theorem tV {Fr:List (List UInt8)}{i:Nat}(h:i<Fr.length):Fr.getD i []∈ Fr:=by rw[Q,a! h];exact c! h
theorem La {D:Nat->Bool}{cS:Nat->List UInt8}{fb nb cb:Nat->Nat}{us hd:Nat->Int}{k k':Nat}{ro:Bool}:aa (.dR D [.str cS,.bU k 1 C fb nb cb,.int .i64 us,.int .i64 hd] 4 133 d) (.dR D [.str cS,.bU k' 1 C fb nb cb,.int .i64 us,.int .i64 hd] 4 133 ro):=by
 refine KO rfl (S _) λb hb k c1 c2 h1 h2 E=> ?_
 match k,h1,h2 with
 | 0,h1,h2=>injection h1 with h1;injection h2 with h2;subst h1;subst h2;rfl
 | 1,h1,h2=>injection h1 with h1;injection h2 with h2;subst h1;subst h2;rfl
 | 2,h1,h2=>injection h1 with h1;injection h2 with h2;subst h1;subst h2;rfl
 | 3,h1,h2=>injection h1 with h1;injection h2 with h2;subst h1;subst h2;rfl
 | k+4,h1,_=>simp at h1
theorem K9 {A:It}{c2 c3 c4:aq}:aa (.dR A.D [.str A.cS,c2,c3,c4] 4 133 d) A.bare:=by
 refine KO rfl (by show 1<=4;omega) λb hb k c1 c2 h1 h2 E=> ?_
 match k,h1,h2 with
 | 0,h1,h2=>injection h1 with h1;injection h2 with h2;subst h1;subst h2;rfl
 | k+1,_,h2=>simp at h2
theorem Ox (x:AdG)(hx:Ow.pre x):aB (runM Ru 46 c6 Ow x):=by
 refine aB.pr (abH x) ?_;obtain⟨h0,hn,hroom,hmax,hlen,hread,hclo⟩:=hx;have hgood:(F (0<x.n)&&mV x.n x.f)=true:=by rw[decide_eq_true h0,hread];rfl
 have ef:flat [x.f 0]=x.f 0:=by unfold flat;simp
 simp only[c7,eu,true_and,decide_eq_true_eq,decide_eq_false_iff_not,ef];refine⟨⟨x.n,x.f,x.c⟩,⟨hn,hlen⟩,⟨rfl,rfl⟩,aa.refl _,λ_ y hG=> ?_,λh=>by rw[hgood] at h;cases h⟩;have hroot:aI x.f x.n (aC (x.f 0))=true:=qG _ _ _ h0;have hl0:=hlen 0 h0;refine⟨⟨aK _,by omega⟩,h0,⟨by rw[ef];show(x.f 0).length<_;omega,by show 1<_;decide⟩,⟨x.n,x.f,y.A,y.g,x.room,aC (x.f 0)⟩,⟨hn,hG,hroot,hclo⟩,rfl,rfl,aa.fmap (λ_=>rfl) (λ_=>rfl),La,Wa,λz ⟨hB,hzc⟩=> ?_⟩;have hL:=hB.len;dsimp only at hL hB ⊢;refine⟨⟨by omega,by omega⟩,λh=>absurd h (by omega),λ_=>⟨⟨0,Z _,rfl,aa.DH λ_=>rfl⟩,λi hi=>⟨λhlt=> ?_,λhge=> ?_⟩⟩⟩
 ·have hlt':i<z.1.length:=by omega
  have hd:=hB.dom _ (tV hlt');refine⟨⟨by omega,hlt⟩,hlt',λ_=>⟨⟨by omega,by omega⟩,i+1,⟨by omega,by omega⟩,by omega,aa.fmap (λh=>OV (λq=>z.1.getD q []) i h) λh=> ?_⟩,λh=>by rw[hd] at h;cases h⟩;exact congrArg (λv=>(aD.ref 5 λ_=>v).val h) (Ql y.g _ h)
 ·obtain rfl:i=z.1.length:=by omega
  have hE: ∀ h,ue (λq=>z.1.getD q []) z.1.length h=cn z.1 h:=SU _;refine⟨⟨(0,y.A.us),⟨Z _,⟨λa ha=>by have:=hG.us a ha;dsimp only;omega⟩⟩,rfl,aa.refl _⟩,λw ⟨hw,hU⟩=>⟨λhlt=> ?_,λhge2=> ?_⟩⟩
  ·have hlt':w.1<z.1.length:=by omega
   have hd:=hB.dom _ (tV hlt');have hT:y.A.cS (y.g (z.1.getD w.1 []))=qi x.n x.f (z.1.getD w.1 []):=hG.cS _ hd;have hnb:y.A.nb (y.g (z.1.getD w.1 []))=fW (qi x.n x.f (z.1.getD w.1 [])):=(hG.nb _ hd).trans (congrArg fW hT);have h16:fW (qi x.n x.f (z.1.getD w.1 []))<=16:=vn _ 16;refine⟨⟨by omega,hlt⟩,hlt',λ_=>⟨hG.dom _ hd,⟨(0,w.2),⟨by dsimp only;omega,hU⟩,rfl,aa.refl _⟩,λv ⟨hv,hV⟩=>⟨λhj=> ?_,λhj=> ?_⟩⟩,λh=>by rw[hd] at h;cases h⟩
   ·have hj':v.1<y.A.nb (y.g (z.1.getD w.1 [])):=by omega
    obtain⟨r1,r2,r3⟩:=hG.row _ hd (by omega);have hr:y.A.rf (y.A.fb (y.g (z.1.getD w.1 []))) v.1=eK (qi x.n x.f (z.1.getD w.1 [])) v.1:=by rw[r3 v.1 hj',hT]
    have hin:eK (qi x.n x.f (z.1.getD w.1 [])) v.1∈ z.1:=hB.clo w.1 hlt' hlt' v.1 (by omega);have ha:=hG.dom _ (hB.dom _ hin);rw[hr];have hb:=hV.all _ ha;refine⟨⟨by omega,hj⟩,⟨r1,by omega⟩,λ_=>⟨ha,⟨by omega,by omega⟩,ha,⟨by omega,by omega⟩,(v.1+1,λj=>if j=y.g (eK (qi x.n x.f (z.1.getD w.1 [])) v.1)then v.2 (y.g (eK (qi x.n x.f (z.1.getD w.1 [])) v.1))+1 else v.2 j),⟨⟨by dsimp only;omega,hV.up ha⟩,by dsimp only;omega⟩,by dsimp only;omega,aa.refl _⟩,λh=>by rw[hE,cn,decide_eq_true hin] at h;cases h⟩
   ·exact⟨⟨by omega,by omega⟩,(w.1+1,v.2),⟨⟨by dsimp only;omega,hV.le (by dsimp only;omega)⟩,by dsimp only;omega⟩,by dsimp only;omega,aa.refl _⟩
  ·have hz:=hG.us _ (hG.dom _ hroot);exact⟨λ_=>⟨hG.dom _ hroot,⟨by omega,by omega⟩,hG.dom _ hroot,⟨z.1,y.A,y.g⟩,⟨hB,λh hh=>hG.dom _ (hB.dom h hh),λh hh=>hG.cS _ (hB.dom h hh)⟩,aa.refl _,aa.fmap hE λ_=>rfl,K9⟩,λh=>by rw[hE,cn,decide_eq_true hB.root] at h;cases h⟩
theorem Yx:az M 46 (cD Ow) :=gx (n:=20) (fn:=c6) Tryz.func46 (by kernel_rfl) (by kernel_rfl) Ow λx hx=>⟨_,Y7,rfl,Ox x hx⟩
structure abY (n:Nat)(t:Nat->Bool)(i:Nat):Prop where
 up:qn n t i
 le:i<=46
def Ym (z:Bool)(o c n:Nat)(f:Nat->List UInt8)(key:Option Nat):Seen:=⟨key,z,o,n,c,[.str f]⟩
def shT:List tO:=[.of (.slice dP)]
def VW (f:Nat->List UInt8)(i k:Nat):Bool:=!(F (aC (f k)=aC (f i))&& !decide (f k=f i))
def apR (f:Nat->List UInt8)(i:Nat):Bool:=(K i).all (VW f i)
def fq (n:Nat)(f:Nat->List UInt8):Bool:=(K n).all (apR f)
def S0 (f:Nat->List UInt8)(i c:Nat):SB:=.rows C i [.str λq=>aC (f q)] d (c*1) 9
noncomputable def YD (n:Nat)(f:Nat->List UInt8):aV :={α:=Nat×Nat,pre:=λ_ y=>cT n (apR f) y.1/\y.1<=y.2,kT:=λ_ y=>n - y.1,fresh:=1,slots:=λst y=>[(4,.int .i64 d y.1),(3,.aZ st.nx 1 C 0 y.1 y.2)],mem:=λst y=>[(st.nx,S0 f y.1 y.2)]}
noncomputable def YE (i:Nat)(f:Nat->List UInt8):aV :={α:=Nat,pre:=λ_ k=>cT i (VW f i) k,kT:=λ_ k=>i - k,fresh:=0,slots:=λ_ k=>[(6,.int .i64 d k)],mem:=λ_ _=>[]}
noncomputable def Rv (n:Nat)(f:Nat->List UInt8):fJ:={cm with cG:=λf=>aE f fP,bx:=λh=>if h=45 then [(3,always (YD n f)),(7,λst=>match slot st.tmps 4 with
 | some (.int _ _ i)=>L (one (YE i.toNat f))
 | _=>I)] else []}
theorem Y8 (n:Nat)(f:Nat->List UInt8):Sx.Good M (Rv n f):=.of bR cO bl
theorem Xq (n:Nat)(f:Nat->List UInt8)(z:Bool)(o c:Nat)(key:Option Nat):cZ (.n (.s 0 (.n .k (.n .k .t))) (.n (.s 2 (.n (.s 0 (.n .k .t)) (.n (.s 1 (.n (.s 6 (.n .k .t)) (.s 1 (.n .k .t)))) (.s 3 (.n .k (.n (.s 0 .k) (.s 0 (.n .k .t)))))))) .t)) (gD (Rv n f) 45 c5 [.bS 0 1 z o 0 n c] [Ym z o c n f key] (.ret (.bool d (fq n f)))) (((∃(u9:Nat×Nat),(cT n (apR f) u9.1/\u9.1<=u9.2)/\0=(u9.1:Int)/\u9.1=0/\(S0 f u9.1 u9.2).no=C)/\∀(u8:Nat×Nat),cT n (apR f) u8.1/\u8.1<=u8.2->(F ((u8.1:Int)<(n:Int))=C->(0<=(u8.1:Int)/\(u8.1:Int)<(n:Int))/\(o=o/\0+(u8.1:Int).toNat<n)/\(True/\BT [f (0+(u8.1:Int).toNat)])/\(∃(u7:Nat),cT (u8.1:Int).toNat (VW f (u8.1:Int).toNat) u7/\0=(u7:Int))/\∀(u6:Nat),cT (u8.1:Int).toNat (VW f (u8.1:Int).toNat) u6->(F ((u6:Int)<(u8.1:Int))=C->(0<=(u6:Int)/\(u6:Int)<(u8.1:Int))/\0+(u6:Int).toNat<u8.1/\(F (aC (f (0+(u6:Int).toNat))=aC (flat [f (0+(u8.1:Int).toNat)]))=C->(0<=(u6:Int)/\(u6:Int)<(n:Int))/\(o=o/\0+(u6:Int).toNat<n)/\(0<=(u8.1:Int)/\(u8.1:Int)<(n:Int))/\(o=o/\0+(u8.1:Int).toNat<n)/\((!decide (f (0+(u6:Int).toNat)=f (0+(u8.1:Int).toNat)))=C->af (SV.bool C d) (SV.bool d (fq n f)))/\((!decide (f (0+(u6:Int).toNat)=f (0+(u8.1:Int).toNat)))=d ->I6 ((u6:Int)+1)/\∃(u5:Nat),(cT (u8.1:Int).toNat (VW f (u8.1:Int).toNat) u5/\(u8.1:Int).toNat - u5<(u8.1:Int).toNat - u6)/\(u6:Int)+1=(u5:Int)))/\(F (aC (f (0+(u6:Int).toNat))=aC (flat [f (0+(u8.1:Int).toNat)]))=d->I6 ((u6:Int)+1)/\∃(u4:Nat),(cT (u8.1:Int).toNat (VW f (u8.1:Int).toNat) u4/\(u8.1:Int).toNat - u4<(u8.1:Int).toNat - u6)/\(u6:Int)+1=(u4:Int)))/\(F ((u6:Int)<(u8.1:Int))=d->(0+u8.1<=u8.1/\True/\2*(u8.1+1)*16<=(281474976710656:Nat)/\u8.1+1<(9223372036854775808:Nat))/\∀(u3:Nat),u8.1+1<=u3->I6 ((u8.1:Int)+1)/\∃(u2:Nat×Nat),((cT n (apR f) u2.1/\u2.1<=u2.2)/\n - u2.1<n - u8.1)/\(u8.1:Int)+1=(u2.1:Int)/\(u8.1+1=u2.1/\u3=u2.2) /\aa (SB.rows C (u8.1+1) [aq.str λu1=>if u1<u8.1 then aC (f u1)else bP [aC (flat [f (0+(u8.1:Int).toNat)])] (u1 - u8.1)] d (u3*1) 9) (SB.rows C u2.1 [aq.str λu0=>aC (f u0)] d (u2.2*1) 9)))/\(F ((u8.1:Int)<(n:Int))=d->af (SV.bool C C) (SV.bool d (fq n f))))):=⟨by kernel_rfl,by kernel_rfl⟩
theorem G1 {n:Nat}{f:Nat->List UInt8}(h:fq n f=C){i k:Nat}(hi:i<n)(hk:k<i)(e:aC (f k)=aC (f i)):f k=f i:=by have h1:=eP.1 h i (W.2 hi);have h2:=eP.1 h1 k (W.2 hk);unfold VW at h2;rw[decide_eq_true e,Bool.true_and,Bool.not_not] at h2;exact of_decide_eq_true h2
theorem tP {n:Nat}{f:Nat->List UInt8}(h:fq n f=C){i k:Nat}(hi:i<n)(hk:k<n)(e:aC (f k)=aC (f i)):f k=f i:=by
 rcases Nat.lt_trichotomy k i with g | g | g
 ·exact G1 h hi g e
 ·rw[g]
 ·exact(G1 h hk g e.symm).symm
theorem UT {n:Nat}{f:Nat->List UInt8}(h:fq n f=C){i:Nat}(hi:i<n):qi n f (aC (f i))=f i:=by obtain⟨h1,h2,h3⟩:=gG f n _ (qG f n i hi);exact tP h hi (by omega) h3
theorem G0 (n:Nat)(f:Nat->List UInt8)(hn:n<=100000)(hf: ∀ i,i<n->(f i).length<1099511627776)(z:Bool)(o c:Nat)(key:Option Nat):aB (gD (Rv n f) 45 c5 [.bS 0 1 z o 0 n c] [Ym z o c n f key] (.ret (.bool d (fq n f)))):=by
 refine aB.pr (Xq n f z o c key) ?_;have ef: ∀ i,flat [f i]=f i:=λi=>by unfold flat;simp
 simp only[c7,eu,true_and,decide_eq_true_eq,decide_eq_false_iff_not,cy,Bool.not_eq_false',ef];refine⟨⟨(0,0),⟨cT.zero _ _,S _⟩,rfl,rfl,rfl⟩,λx ⟨h1,h2⟩=>⟨λh=> ?_,λh=>dM (h1.done h).symm⟩⟩;obtain⟨i,c⟩:=x;dsimp only at h1 h2 h ⊢;have hlt:i<n:=by omega
 have hi:=hf i hlt;refine⟨⟨by omega,h⟩,hlt,⟨by rw[ef];exact Nat.lt_trans hi (by decide),by show 1<_;decide⟩,⟨0,cT.zero _ _,rfl⟩,λk hk=>⟨λhj=> ?_,λhj=> ?_⟩⟩
 ·have hlt2:k<i:=by omega
  have hkn:k<n:=by omega
  refine⟨⟨by omega,hj⟩,hlt2,λhe=>⟨⟨by omega,by omega⟩,hkn,⟨by omega,h⟩,hlt,λhne=>dM ?_,λhse=>⟨⟨by omega,by omega⟩,k+1,⟨hk.next hj ?_,by omega⟩,by omega⟩⟩,λhne=>⟨⟨by omega,by omega⟩,k+1,⟨hk.next hj ?_,by omega⟩,by omega⟩⟩
  ·cases ha:fq n f with
   | false=>rfl
   | true=>exact absurd (tP ha hlt hkn he) hne
  ·unfold VW;rw[decide_eq_true hse,Bool.not_true,eA];rfl
  ·unfold VW;rw[decide_eq_false hne,eB];rfl
 ·refine⟨⟨S _,by omega,by omega⟩,λc' hc'=>⟨⟨by omega,by omega⟩,(i+1,c'),⟨⟨h1.next h (hk.done hj),hc'⟩,by dsimp only;omega⟩,by dsimp only;omega,⟨rfl,rfl⟩,?_⟩⟩
  refine gZ rfl rfl rfl λk c1 c2 e1 e2 q hq E=> ?_
  match k,e1,e2 with
  | 0,e1,e2 =>
    injection e1 with e1;injection e2 with e2;subst e1;subst e2;simp only[aq.at,SV.val];by_cases hqi:q<i
    ·rw[if_pos hqi]
    ·obtain rfl:q=i:=by omega
     rw[if_neg hqi,Nat.sub_self];rfl
  | k+1,e1,_=>simp at e1
def wX (vs:List SV)(l:List Seen):Option (Prop×cL):=match vs,l with
 | [_],[⟨_,_,_,n,_,[.str f]⟩]=>L (n<=100000/\(∀ i,i<n->(f i).length<1099511627776),.ret (.bool d (fq n f)))
 | _,_=>I
theorem Rk:az M 45 (bE shT wX):=by
 refine fT (n:=20) (fn:=c5) Tryz.func45 (by kernel_rfl) (by kernel_rfl) ?_;intro vs l q a h hq;unfold wX at h;split at h
 ·rename_i v key z o n c f;injection h with h;injection h with h1 h2;subst h1;subst h2;exact⟨_,Y8 n f,rfl,rfl,G0 n f hq.1 hq.2 z o c key⟩
 ·cases h
abbrev Rw:=List UInt8×List UInt8
def bH:List UInt8->List UInt8->Nat
 | a::r,b::s=>if a=b then bH r s+1 else 0
 | _,_=>0
def b7 (k:Nat)(l:List Rw):List Rw:=l.map λr=>(r.1.drop k,r.2)
def kW (i:Nat)(p:List UInt8):Bool:=match p with
 | []=>d
 | b::_=>decide (b.toNat=i)
def bB (i:Nat)(l:List Rw):List Rw:=l.filter λr=>kW i r.1
def aP (l:List Rw)(i:Nat):List Rw:=match l with
 | []=>[]
 | [_]=>[]
 | r::s::t=>if 0<bH r.1 ((s::t).getLastD r).1 then(if i=0 then b7 (bH r.1 ((s::t).getLastD r).1) (r::s::t)else [])else b7 1 (bB i (r::s::t))
def gN (ref:List Rw->List UInt8)(l:List Rw):Nd:=match l with
 | []=>e8
 | [r]=>⟨1,r.1,r.2,bF⟩
 | r::s::t=>if 0<bH r.1 ((s::t).getLastD r).1 then⟨2,r.1.take (bH r.1 ((s::t).getLastD r).1),[],bC (ref (aP (r::s::t) 0))⟩
   else⟨3,[],if r.1=[] then r.2 else [],dx λi=>ref (aP (r::s::t) i)⟩
def dh:Nat->List Rw->Nd
 | 0,_=>e8
 | m+1,l=>gN (λl'=>if l'=[] then [] else eS (cR (dh m l'))) l
def ctext (m:Nat)(l:List Rw):List UInt8:=cR (dh m l)
def cw:Nat->List Rw->List (List UInt8)
 | 0,_=>[]
 | m+1,l=>(K 16).flatMap λi=>if aP l i=[] then [] else(if(ctext m (aP l i)).length<32 then [] else [ctext m (aP l i)])++cw m (aP l i)
def b8 (m:Nat)(l:List Rw):List (List UInt8):=ctext m l::cw m l
def rowsOf (l:List (List UInt8×List UInt8)):List Rw:=l.map λe=>(ak e.1,e.2)
def aj (fr to:List UInt8)(l:List (List UInt8×List UInt8)):List (List UInt8×List UInt8):=l.filter λe=>hasB fr to (ak e.1)
def tM (l:List Rw):Prop:=l.Pairwise λa b=>H a.1 b.1=C
def gI (fr to p:List UInt8)(l:List Rw):List (List UInt8×List UInt8):=(l.filter λr=>hasB fr to (cat p r.1)).map λr=>(aX (cat p r.1),r.2)
def Clear (w:Sp)(l:List (List UInt8)):Prop:=∀ t,t∈ l->bD w (aC t)=C->w.at (aC t)=t
def xG (k:List UInt8):Bool:=!decide (k=[])&&F ((k.length:Int)<=6)
def sZ (v:List UInt8):Bool:=!decide (v=[])&&F ((v.length:Int)<=80)
def iX (f g:Nat->List UInt8)(i:Nat):Bool:=xG (f i)&&(sZ (g i)&&(F (i=0)||H (f (i - 1)) (f i)))
def Hw (n:Nat)(f g:Nat->List UInt8):Bool:=(K n).all (iX f g)
def cA (n:Nat)(f g:Nat->List UInt8):Int:=bif Hw n f g then(if(40:Int)<(n:Int)then 12 else 0)else 1
def av (n:Nat)(f g:Nat->List UInt8):List Rw:=(K n).map λi=>(f i,g i)
def pN (z:Bool)(l:List Rw)(c:Nat)(ro:Bool):SB:=.rows z l.length [bK l,bL l] ro (c*2) 174
def dE:List aq:=[.str λ_=>[],.str λ_=>[]]
def UK:List tO:=[.of (.slice dE)]
def fD (z:Bool)(o c n:Nat)(f g:Nat->List UInt8)(key:Option Nat):Seen:=⟨key,z,o,n,c,[.str f,.str g]⟩
noncomputable def RA (n:Nat)(f g:Nat->List UInt8):fJ:={cm with cG:=λf=>aE f fP,bx:=λh=>if h=62 then [(2,always (Ki 7 n (iX f g)))] else []}
theorem Zf (n:Nat)(f g:Nat->List UInt8):Sx.Good M (RA n f g):=.of bR cO bl
def tr (f g:Nat->List UInt8)(i:Nat):Bool:=!decide ((20:Int)<((f i).length:Int))&& !decide ((100:Int)<((g i).length:Int))
def oQ (n:Nat)(f g:Nat->List UInt8):Bool:=F ((n:Int)<=45)&&(K n).all (tr f g)
structure EX (n:Nat)(t:Nat->Bool)(i:Nat):Prop where
 up:cT n t i
 le:i<=46
noncomputable def VP (n:Nat)(t:Nat->Bool):aV :={α:=Nat,pre:=λ_ i=>EX n t i,kT:=λ_ i=>n - i,fresh:=0,slots:=λ_ i=>[(3,.int .i64 d i)],mem:=λ_ _=>[]}
noncomputable def RD (n:Nat)(f g:Nat->List UInt8):fJ:={cm with cG:=λf=>aE f fP,bx:=λh=>if h=19 then [(2,always (VP n (tr f g)))] else []}
theorem Zi (n:Nat)(f g:Nat->List UInt8):Sx.Good M (RD n f g):=.of bR cO bl
noncomputable def MT (t1 t2 n:Nat)(f g:Nat->List UInt8):aV :=
 {α:=Nat×Nat,pre:=λ_ x=>x.1<=n/\x.1<=x.2,kT:=λ_ x=>n - x.1,fresh:=1,slots:=λst x=>[(t1,.int .i64 d x.1),(t2,.aZ st.nx 2 d 0 x.1 x.2)],
  mem:=λst x=>[(st.nx,.rows d x.1 [.str f,.str g] d (x.2*2) 174)]}
noncomputable def RS (n:Nat)(f g:Nat->List UInt8):fJ:={cm with cG:=λf=>aE f fP,bx:=λh=>if h=64 then [(3,always (MT 11 3 n (λi=>ak (f i)) g))] else []}
theorem Zz (n:Nat)(f g:Nat->List UInt8):Sx.Good M (RS n f g):=.of bR cO bl
noncomputable def Sa (n k:Nat)(f g:Nat->List UInt8):fJ:={cm with cG:=λf=>aE f fP,bx:=λh=>if h=102 then [(3,always (MT 13 5 n (λi=>(f i).drop k) g))] else []}
theorem ZH (n k:Nat)(f g:Nat->List UInt8):Sx.Good M (Sa n k f g):=.of bR cO bl
def Cj (l:List Rw):cL:=.all Nat λc=>.req (l.length<=c) (.new (λk=>.aZ k 2 d 0 l.length c) (pN d l c d))
def Cp (a b:List UInt8)(i:Nat):Bool:=F (ai a i=ai b i)
noncomputable def RB (a b:List UInt8):fJ:={cm with cG:=λf=>aE f fP,bx:=λh=>if h=100 then [(3,always (Ki 13 (min a.length b.length) (Cp a b)))] else []}
theorem Zg (a b:List UInt8):Sx.Good M (RB a b):=.of bR cO bl
noncomputable def YJ (i:Nat)(l:List Rw):aV :=
 {α:=Nat×Nat,pre:=λ_ x=>x.1<=l.length/\(bB i (l.take x.1)).length<=x.2,kT:=λ_ x=>l.length - x.1,fresh:=1,slots:=λst x=>[(10,.int .i64 d x.1),(5,.aZ st.nx 2 C 0 (bB i (l.take x.1)).length x.2)],
  mem:=λst x=>[(st.nx,pN C (bB i (l.take x.1)) x.2 d)]}
noncomputable def RC (i:Nat)(l:List Rw):fJ:={cm with cG:=λf=>aE f fP,bx:=λh=>if h=103 then [(3,always (YJ i l))] else []}
theorem Zh (i:Nat)(l:List Rw):Sx.Good M (RC i l):=.of bR cO bl
def Sm:gE :=
 {G:=List Rw×Nat×Nat,n:=2,N:=3,pre:=λx=>x.1.length<=1000,args:=λx=>[.aZ 0 2 d 0 x.1.length x.2.1,.func (.func 104) [] [.ptr 1 C 0]],
  mem:=λx=>[(0,pN d x.1 x.2.1 C),(1,.cells [.int .i64 d x.2.2] 1 3)],
  wP:=λx=>.all Nat λc=>.req ((bB x.2.2 x.1).length<=c) (.ret (.aZ 2 2 C 0 (bB x.2.2 x.1).length c) [(1,.cells [.int .i64 d x.2.2] 1 3),(2,pN C (bB x.2.2 x.1) c d)])}
theorem Xt (n:Nat)(f g:Nat->List UInt8)(z:Bool)(o c:Nat)(key:Option Nat):cZ (.n (.s 0 (.n .k .t)) (.n (.s 1 (.n (.s 0 (.n (.s 0 (.n (.s 5 (.n .k .t)) (.s 1 (.n .k .t)))) .t)) .t)) .t)) (gD (RA n f g) 62 Tryz.f62 [.bS 0 2 z o 0 n c] [fD z o c n f g key] (.ret (.int .i64 d (cA n f g)))) (((∃(u3:Nat),cT n (iX f g) u3/\0=(u3:Int))/\∀(u2:Nat),cT n (iX f g) u2->(F ((u2:Int)<(n:Int))=C->(0<=(u2:Int)/\(u2:Int)<(n:Int))/\(o=o/\0+(u2:Int).toNat<n)/\((!decide (f (0+(u2:Int).toNat)=[]))=C->((!decide ((↑(f (0+(u2:Int).toNat)).length:Int)<=6))=C->af (SV.int .i64 C 1) (SV.int .i64 d (cA n f g)))/\((!decide ((↑(f (0+(u2:Int).toNat)).length:Int)<=6))=d->((!decide (g (0+(u2:Int).toNat)=[]))=C->((!decide ((↑(g (0+(u2:Int).toNat)).length:Int)<=80))=C->af (SV.int .i64 C 1) (SV.int .i64 d (cA n f g)))/\((!decide ((↑(g (0+(u2:Int).toNat)).length:Int)<=80))=d->(F (0<(u2:Int))=C->I6 ((u2:Int) - 1)/\(0<=(u2:Int) - 1/\(u2:Int) - 1<(n:Int))/\(o=o/\0+((u2:Int) - 1).toNat<n)/\((!Op.bytesLess (f (0+((u2:Int) - 1).toNat)) (f (0+(u2:Int).toNat)))=C->af (SV.int .i64 C 1) (SV.int .i64 d (cA n f g)))/\((!Op.bytesLess (f (0+((u2:Int) - 1).toNat)) (f (0+(u2:Int).toNat)))=d ->I6 ((u2:Int)+1)/\∃(u1:Nat),(cT n (iX f g) u1/\n - u1<n - u2)/\(u2:Int)+1=(u1:Int)))/\(F (0<(u2:Int))=d->I6 ((u2:Int)+1)/\∃(u0:Nat),(cT n (iX f g) u0/\n - u0<n - u2)/\(u2:Int)+1=(u0:Int))))/\((!decide (g (0+(u2:Int).toNat)=[]))=d->af (SV.int .i64 C 1) (SV.int .i64 d (cA n f g)))))/\((!decide (f (0+(u2:Int).toNat)=[]))=d->af (SV.int .i64 C 1) (SV.int .i64 d (cA n f g))))/\(F ((u2:Int)<(n:Int))=d->(F (40<(n:Int))=C->af (SV.int .i64 C 12) (SV.int .i64 d (cA n f g)))/\(F (40<(n:Int))=d->af (SV.int .i64 C 0) (SV.int .i64 d (cA n f g)))))):=⟨by kernel_rfl,by kernel_rfl⟩
theorem Xv (n:Nat)(f g:Nat->List UInt8)(z:Bool)(o c:Nat)(key:Option Nat):cZ (.n (.s 0 (.n .k .t)) (.n (.n (.s 7 (.n .k .t)) .t) .t)) (gD (RD n f g) 19 Tryz.f19 [.bS 0 2 z o 0 n c] [fD z o c n f g key] (.ret (.bool d (oQ n f g)))) (((∃(u2:Nat),EX n (tr f g) u2/\0=(u2:Int))/\∀(u1:Nat),EX n (tr f g) u1->(F ((u1:Int)<(n:Int))=C->(F ((u1:Int)<=45)=C->(0<=(u1:Int)/\(u1:Int)<(n:Int))/\(o=o/\0+(u1:Int).toNat<n)/\(F (20<(↑(f (0+(u1:Int).toNat)).length:Int))=C->af (SV.bool C d) (SV.bool d (oQ n f g)))/\(F (20<(↑(f (0+(u1:Int).toNat)).length:Int))=d->(0<=(u1:Int)/\(u1:Int)<(n:Int))/\(o=o/\0+(u1:Int).toNat<n)/\(F (100<(↑(g (0+(u1:Int).toNat)).length:Int))=C->af (SV.bool C d) (SV.bool d (oQ n f g)))/\(F (100<(↑(g (0+(u1:Int).toNat)).length:Int))=d->I6 ((u1:Int)+1)/\∃(u0:Nat),(EX n (tr f g) u0/\n - u0<n - u1)/\(u1:Int)+1=(u0:Int))))/\(F ((u1:Int)<=45)=d->af (SV.bool (d&&C) (F ((n:Int)<=45))) (SV.bool d (oQ n f g))))/\(F ((u1:Int)<(n:Int))=d->af (SV.bool (d&&C) (F ((n:Int)<=45))) (SV.bool d (oQ n f g))))):=⟨by kernel_rfl,by kernel_rfl⟩
theorem aaH (n:Nat)(f g:Nat->List UInt8)(z:Bool)(o c:Nat)(key:Option Nat):cZ (.s 0 (.n (.s 0 (.n .k (.n (.s 0 .k) (.s 0 (.n .k .t))))) (.n (.s 7 (.n .k (.n (.s 0 .k) (.s 0 (.n .k .t))))) .k))) (gD (RS n f g) 64 Tryz.f64 [.bS 0 2 z o 0 n c] [fD z o c n f g key] (Cj (av n (λi=>ak (f i)) g))) (((0<=(n:Int)/\32*(n:Int)<=140737488355328/\(n:Int)<=9223372036854775807)/\(∃(u14:Nat×Nat),(u14.1<=n/\u14.1<=u14.2)/\0=(u14.1:Int)/\(0=u14.1/\(n:Int).toNat=u14.2)/\aa (SB.cells [] ((n:Int).toNat*2) 174) (SB.rows d u14.1 [aq.str λu13=>ak (f u13),aq.str g] d (u14.2*2) 174))/\∀(u12:Nat×Nat),u12.1<=n/\u12.1<=u12.2->(F ((u12.1:Int)<(n:Int))=C->(0<=(u12.1:Int)/\(u12.1:Int)<(n:Int))/\(o=o/\0+(u12.1:Int).toNat<n)/\(f (0+(u12.1:Int).toNat)).length<1099511627776/\L (SB.cells (aT (SV.agg [SV.str C [],SV.str C []]).cells 0 (SV.agg [aq.at (0+(u12.1:Int).toNat) (aq.str f),aq.at (0+(u12.1:Int).toNat) (aq.str g)]).cells) 2 50)=L (SB.cells (aT (SV.agg [SV.str C [],SV.str C []]).cells 0 (SV.agg [aq.at (0+(u12.1:Int).toNat) (aq.str f),aq.at (0+(u12.1:Int).toNat) (aq.str g)]).cells) 2 50)/\(0+u12.1<=u12.1/\True/\2*(u12.1+1)*32<=(281474976710656:Nat)/\u12.1+1<(9223372036854775808:Nat))/\∀(u11:Nat),u12.1+1<=u11 ->I6 ((u12.1:Int)+1)/\∃(u10:Nat×Nat),((u10.1<=n/\u10.1<=u10.2)/\n - u10.1<n - u12.1)/\(u12.1:Int)+1=(u10.1:Int)/\(u12.1+1=u10.1/\u11=u10.2)/\aa (SB.rows d (u12.1+1) [aq.str λu9=>if u9<u12.1 then ak (f u9)else bP [ak (f (0+(u12.1:Int).toNat))] (u9 - u12.1),aq.str λu8=>if u8<u12.1 then g u8 else bP [g (0+(u12.1:Int).toNat)] (u8 - u12.1)] d (u11*2) 174) (SB.rows d u10.1 [aq.str λu7=>ak (f u7),aq.str g] d (u10.2*2) 174))/\(F ((u12.1:Int)<(n:Int))=d->∃(u6:Nat),(av n (fun(u5:Nat)=>ak (f u5)) g).length<=u6/\aa (SB.rows d u12.1 [aq.str λu4=>ak (f u4),aq.str g] d (u12.2*2) 174) (SB.rows d (av n (fun(u3:Nat)=>ak (f u3)) g).length [bK (av n (fun(u2:Nat)=>ak (f u2)) g),bL (av n (fun(u1:Nat)=>ak (f u1)) g)] d (u6*2) 174) /\af (SV.aZ ((2:Nat)) 2 d 0 u12.1 u12.2) (SV.aZ ((2:Nat)) 2 d 0 (av n (fun(u0:Nat)=>ak (f u0)) g).length u6)))):=⟨by kernel_rfl,by kernel_rfl⟩
theorem QZ (n k:Nat)(f g:Nat->List UInt8)(z:Bool)(o c:Nat)(key:Option Nat):cZ (.s 0 (.n (.s 0 (.n .k (.n (.s 0 .k) (.s 0 (.n .k .t))))) (.n (.s 6 (.n .k (.n (.s 0 .k) (.s 0 (.n .k .t))))) .k))) (gD (Sa n k f g) 102 Tryz.f102 [.bS 0 2 z o 0 n c,.int .i64 d k] [fD z o c n f g key] (Cj (b7 k (av n f g)))) (((0<=(n:Int)/\32*(n:Int)<=140737488355328/\(n:Int)<=9223372036854775807)/\(∃(u9:Nat×Nat),(u9.1<=n/\u9.1<=u9.2)/\0=(u9.1:Int)/\(0=u9.1/\(n:Int).toNat=u9.2)/\aa (SB.cells [] ((n:Int).toNat*2) 174) (SB.rows d u9.1 [aq.str λu8=>a_ k (f u8),aq.str g] d (u9.2*2) 174))/\∀(u7:Nat×Nat),u7.1<=n/\u7.1<=u7.2->(F ((u7.1:Int)<(n:Int))=C->(0<=(u7.1:Int)/\(u7.1:Int)<(n:Int))/\(o=o/\0+(u7.1:Int).toNat<n)/\(0<=(k:Int)/\(k:Int)<=(↑(f (0+(u7.1:Int).toNat)).length:Int)/\(↑(f (0+(u7.1:Int).toNat)).length:Int)<=(↑(f (0+(u7.1:Int).toNat)).length:Int))/\(0+u7.1<=u7.1/\True/\2*(u7.1+1)*32<=(281474976710656:Nat)/\u7.1+1<(9223372036854775808:Nat))/\∀(u6:Nat),u7.1+1<=u6->I6 ((u7.1:Int)+1)/\∃(u5:Nat×Nat),((u5.1<=n/\u5.1<=u5.2)/\n - u5.1<n - u7.1)/\(u7.1:Int)+1=(u5.1:Int)/\(u7.1+1=u5.1/\u6=u5.2) /\aa (SB.rows d (u7.1+1) [aq.str λu4=>if u4<u7.1 then a_ k (f u4)else bP [cj (f (0+(u7.1:Int).toNat)) (L (Operand.tmp 20)) I (k:Int) (↑(f (0+(u7.1:Int).toNat)).length:Int)] (u4 - u7.1),aq.str λu3=>if u3<u7.1 then g u3 else bP [g (0+(u7.1:Int).toNat)] (u3 - u7.1)] d (u6*2) 174) (SB.rows d u5.1 [aq.str λu2=>a_ k (f u2),aq.str g] d (u5.2*2) 174))/\(F ((u7.1:Int)<(n:Int))=d->∃(u1:Nat),(b7 k (av n f g)).length<=u1/\aa (SB.rows d u7.1 [aq.str λu0=>a_ k (f u0),aq.str g] d (u7.2*2) 174) (SB.rows d (b7 k (av n f g)).length [bK (b7 k (av n f g)),bL (b7 k (av n f g))] d (u1*2) 174)/\af (SV.aZ ((2:Nat)) 2 d 0 u7.1 u7.2) (SV.aZ ((2:Nat)) 2 d 0 (b7 k (av n f g)).length u1)))):=⟨by kernel_rfl,by kernel_rfl⟩
theorem U7 (a b:List UInt8):cZ .k (hJ (RB a b) 100 Tryz.f100 [.str d a,.str d b] (.ret (.int .i64 d (bH a b)))) (((∃(u2:Nat),cT (min a.length b.length) (Cp a b) u2/\0=(u2:Int))/\∀(u1:Nat),cT (min a.length b.length) (Cp a b) u1->(F ((u1:Int)<min (a.length:Int) (b.length:Int))=C->(0<=(u1:Int)/\(u1:Int)<(a.length:Int))/\(0<=(u1:Int)/\(u1:Int)<(b.length:Int))/\((!decide (ai a (u1:Int)=ai b (u1:Int)))=C->af (SV.int .i64 d (u1:Int)) (SV.int .i64 d (↑(bH a b):Int)))/\((!decide (ai a (u1:Int)=ai b (u1:Int)))=d->I6 ((u1:Int)+1)/\∃(u0:Nat),(cT (min a.length b.length) (Cp a b) u0/\min a.length b.length - u0<min a.length b.length - u1)/\(u1:Int)+1=(u0:Int)))/\(F ((u1:Int)<min (a.length:Int) (b.length:Int))=d->af (SV.int .i64 (d&&d) (min (a.length:Int) (b.length:Int))) (SV.int .i64 d (↑(bH a b):Int))))):=⟨by kernel_rfl,by kernel_rfl⟩
theorem zS: ∀(a b:List UInt8),bH a b<=a.length/\bH a b<=b.length
 | [],_=>by simp[bH]
 | _::_,[]=>by simp[bH]
 | a::r,b::s=>by
   unfold bH;split
   ·have:=zS r s;simp only[e7];omega
   ·simp
theorem BG: ∀(k:Nat) (a b c:List UInt8),k<=bH a c->H b a=d->H c b=d->b.take k=a.take k
 | 0,_,_,_,_,_,_=>by simp
 | k+1,[],_,_,h,_,_=>by simp[bH] at h
 | k+1,_::_,_,[],h,_,_=>by simp[bH] at h
 | k+1,a::r,b,c::t,h,h1,h2=>by
   unfold bH at h;split at h
   ·rename_i e;subst e;cases b with
    | nil=>simp[H] at h1
    | cons b s =>
      simp only[H] at h1 h2;by_cases e1:b<a
      ·simp[e1] at h1
      ·by_cases e2:a<b
       ·simp[e2] at h2
       ·have e:b=a:=by
         apply fB
         ·exact ez.1 e2
         ·exact ez.1 e1
        subst e;simp at h1 h2;rw[cl,cl,BG k r s t (by omega) h1 h2]
   ·omega
theorem eX: ∀(a b:List UInt8),H a b=C->H b a=d
 | _,[],h=>by simp[H] at h
 | [],_::_,_=>by simp[H]
 | a::r,b::s,h=>by
   simp only[H,R,decide_eq_true_eq,an,beq_iff_eq] at h;simp only[H,eL,decide_eq_false_iff_not];rcases h with h | ⟨h1,h2⟩
   ·refine⟨λe=>absurd (UInt8.lt_trans h e) (ct _),?_⟩;have:(b==a)=false:=by rw[beq_eq_false_iff_ne];intro e;subst e;exact absurd h (ct _)
    rw[this,eB]
   ·subst h1;refine⟨ct _,?_⟩;rw[eX r s h2,eA]
theorem i7 (a:List UInt8):H a a=false:=by
 cases h:H a a with
 | false=>rfl
 | true=>rw[eX a a h] at h;cases h
theorem nR: ∀(r:Rw) (l:List Rw),l.getLastD r∈ r::l
 | r,[]=>by simp
 | r,s::l=>by rw[e5];exact bO _ (nR s l)
theorem EF: ∀(r:Rw) (l:List Rw),tM (r::l)->∀ x,x∈ r::l->x=l.getLastD r∨H x.1 (l.getLastD r).1=C
 | r,[],_,x,hx=>by simp only[en,List.not_mem_nil,or_false] at hx;exact .inl hx
 | r,s::l,h,x,hx=>by
   rw[e5];have h':tM (r::s::l):=h;unfold tM at h';rw[b!] at h';rcases en.1 hx with e | e
   ·subst e;exact .inr (h'.1 _ (nR s l))
   ·exact EF s l h'.2 x e
theorem Mg {r:Rw}{l:List Rw}(h:tM (r::l)){x:Rw}(hx:x∈ r::l):H x.1 r.1=false:=by
 unfold tM at h;rw[b!] at h;rcases en.1 hx with e | e
 ·subst e;exact i7 _
 ·exact eX _ _ (h.1 x e)
theorem sM {r:Rw}{l:List Rw}(h:tM (r::l)){x:Rw}(hx:x∈ r::l):x.1.take (bH r.1 (l.getLastD r).1)=r.1.take (bH r.1 (l.getLastD r).1):=by
 refine BG _ r.1 x.1 (l.getLastD r).1 (S _) (Mg h hx) ?_;rcases EF r l h x hx with e | e
 ·subst e;exact i7 _
 ·exact eX _ _ e
theorem DR: ∀(k:Nat) (a b:List UInt8),a.take k=b.take k->k<=a.length->k<=b.length->H (a.drop k) (b.drop k)=H a b
 | 0,_,_,_,_,_=>rfl
 | k+1,[],_,_,h,_=>by simp at h
 | k+1,_::_,[],_,_,h=>by simp at h
 | k+1,a::r,b::s,h,h1,h2=>by rw[cl,cl] at h;injection h with e h;subst e;rw[eR,eR,DR k r s h (by simpa using h1) (by simpa using h2)];have: ¬ a<a:=ct _;simp[H,this]
theorem Cw {α:Type}(f:α->Nat)(n:Nat): ∀(l:List α),l.Pairwise (λa b=>f a<=f b)->l.filter (λx=>decide (f x<n))++l.filter (λx=>!decide (f x<n))=l
 | [],_=>rfl
 | x::l,h=>by
   rw[b!] at h;by_cases hx:f x<n
   ·rw[V (by simpa using hx),T (by simpa using hx),c8,Cw f n l h.2]
   ·have hl: ∀ y,y∈ l->¬ f y<n:=λy hy=>by have:=h.1 y hy;omega
    rw[T (by simpa using hx),V (by simpa using hx)];rw[c_.2 (λy hy=>by simpa using hl y hy),List.nil_append];rw[List.filter_eq_self.2 (λy hy=>by simpa using hl y hy)]
theorem gW {α β:Type}{f g:α->List β}: ∀ {l:List α},(∀ i,i∈ l->f i=g i)->l.flatMap f=l.flatMap g
 | [],_=>rfl
 | a::l,h=>by rw[P,P,h a (O ..),gW λi hi=>h i (bO _ hi)]
theorem vm {α:Type}(f:α->Nat): ∀(n:Nat) (l:List α),l.Pairwise (λa b=>f a<=f b)->(∀ x,x∈ l->f x<n)->(K n).flatMap (λi=>l.filter λx=>decide (f x=i))=l
 | 0,l,_,h=>by
   cases l with
   | nil=>rfl
   | cons x l=>exact absurd (h x (O ..)) (Y _)
 | n+1,l,hp,h=>by
   have hs:=Cw f n l hp;rw[fm,List.flatMap_append];have e1:(K n).flatMap (λi=>l.filter λx=>decide (f x=i))=l.filter (λx=>decide (f x<n)):=by
    have hA:=vm f n (l.filter λx=>decide (f x<n)) (hp.filter _) (λx hx=>by simpa using (b_.1 hx).2);rw[← hA];have: ∀ i,i∈ K n->(l.filter λx=>decide (f x=i))=(l.filter λx=>decide (f x<n)).filter λx=>decide (f x=i):=λi hi=>by
     rw[List.filter_filter];refine c9 λx _=> ?_;have hi:=W.1 hi;by_cases e:f x=i
     ·have:f x<n:=by omega
      rw[decide_eq_true e,decide_eq_true this];rfl
     ·rw[decide_eq_false e];rfl
    rw[gW this,hA]
   have e2:[n].flatMap (λi=>l.filter λx=>decide (f x=i))=l.filter (λx=>!decide (f x<n)):=by
    simp only[P,List.flatMap_nil,aM];refine c9 λx hx=> ?_;have:=h x hx;by_cases e:f x=n
    ·rw[decide_eq_true e,decide_eq_false (by omega)];rfl
    ·rw[decide_eq_false e,decide_eq_true (by omega)];rfl
   rw[e1,e2,hs]
def jF (p:List UInt8):Nat:=match p with
 | []=>0
 | b::_=>b.toNat+1
theorem Tl: ∀ {a b:List UInt8},H a b=C->jF a<=jF b
 | [],_,_=>Z _
 | _::_,[],h=>by simp[H] at h
 | a::r,b::s,h=>by
   simp only[H,R,decide_eq_true_eq,an,beq_iff_eq] at h;show a.toNat+1<=b.toNat+1;rcases h with h | ⟨h,_⟩
   ·have:a.toNat<b.toNat:=UInt8.lt_iff_toNat_lt.1 h;omega
   ·subst h;exact S _
theorem oV (i:Nat)(p:List UInt8):kW i p=F (jF p=i+1):=by
 cases p with
 | nil=>simp[kW,jF]
 | cons b r=>simp[kW,jF]
theorem Mh {l:List Rw}(h:tM l)(hn: ∀ x,x∈ l->jF x.1<17):l.filter (λx=>decide (jF x.1=0))++(K 16).flatMap (λi=>bB i l)=l:=by
 have hg:=vm (λx:Rw=>jF x.1) 17 l (h.imp Tl) hn;have e:(K 17).flatMap (λi=>l.filter λx=>decide (jF x.1=i))=l.filter (λx=>decide (jF x.1=0))++(K 16).flatMap (λi=>bB i l):=by rw[fo,P,eT];congr 1;refine gW λi _=> ?_;unfold bB;refine c9 λx _=> ?_;rw[oV]
 rw[← e];exact hg
theorem Iz (fr to p:List UInt8)(a b:List Rw):gI fr to p (a++b)=gI fr to p a++gI fr to p b:=by simp[gI,List.filter_append,List.map_append]
theorem Ed (fr to p:List UInt8)(f:Nat->List Rw): ∀(l:List Nat),gI fr to p (l.flatMap f)=l.flatMap λi=>gI fr to p (f i)
 | []=>rfl
 | i::l=>by rw[P,P,Iz,Ed fr to p f l]
theorem xU (fr to p q:List UInt8)(k:Nat): ∀(l:List Rw),(∀ x,x∈ l->x.1=q++x.1.drop k)->gI fr to p l=gI fr to (cat p q) (b7 k l)
 | [],_=>rfl
 | x::l,h=>by
   have ih:=xU fr to p q k l λy hy=>h y (bO _ hy);have e:cat (cat p q) (x.1.drop k)=cat p x.1:=by show(p++q)++x.1.drop k=p++x.1;rw[List.append_assoc,← h x (O ..)]
   unfold gI b7 at ih ⊢;rw[ec];cases hb:hasB fr to (cat p x.1)with
   | true=>rw[V (p:=λr:Rw=>hasB fr to (cat p r.1)) hb,V (p:=λr:Rw=>hasB fr to (cat (cat p q) r.1)) (show hasB fr to (cat (cat p q) (x.1.drop k))=C by rw[e];exact hb),ec,ec,ih,e]
   | false=>rw[T (p:=λr:Rw=>hasB fr to (cat p r.1)) (by simp[hb]),T (p:=λr:Rw=>hasB fr to (cat (cat p q) r.1)) (by simp[e,hb]),ih]
theorem IA (fr to p:List UInt8){l:List Rw}(h:tM l)(hn: ∀ x,x∈ l->jF x.1<17) :
  gI fr to p l=gI fr to p (l.filter λx=>decide (jF x.1=0))++(K 16).flatMap λi=>gI fr to (cat p [ag i]) (b7 1 (bB i l)):=by
 conv=>lhs;rw[← Mh h hn]
 rw[Iz,Ed];congr 1;refine gW λi hi=> ?_;have hi:=W.1 hi;refine xU fr to p [ag i] 1 _ λx hx=> ?_;have hx:=(b_.1 hx).2;rw[oV,decide_eq_true_eq] at hx;obtain⟨q,v⟩:=x;cases q with
 | nil=>cases hx
 | cons b r =>have hb:b.toNat=i:=Nat.succ.inj hx;show b::r=[ag i]++r;rw[← hb,fI];rfl
theorem TO (fr to p:List UInt8){r:Rw}{l:List Rw}(h:tM (r::l)) :
  gI fr to p (r::l)=gI fr to (cat p (r.1.take (bH r.1 (l.getLastD r).1))) (b7 (bH r.1 (l.getLastD r).1) (r::l)) :=
 xU fr to p _ _ _ λx hx=>by rw[← sM h hx,List.take_append_drop]
theorem o8 {a b:UInt8}{r s:List UInt8}:H (a::r) (b::s)=d↔b<=a/\(a=b->H r s=d):=by
 simp only[H,eL,decide_eq_false_iff_not,ez,Bool.and_eq_false_iff,beq_eq_false_iff_ne];constructor
 ·rintro⟨h1,h2⟩;exact⟨h1,λe=>h2.resolve_left (λh=>h e)⟩
 ·rintro⟨h1,h2⟩;refine⟨h1,?_⟩;by_cases e:a=b
  ·exact .inr (h2 e)
  ·exact .inl e
theorem gJ: ∀(a b c:List UInt8),H b a=d->H c b=d->H c a=d
 | [],_,c,_,_=>by cases c<;>simp[H]
 | _::_,[],_,h,_=>by simp[H] at h
 | _::_,_::_,[],_,h=>by simp[H] at h
 | x::a,y::b,z::c,h1,h2=>by rw[o8] at h1 h2 ⊢;refine⟨UInt8.le_trans h1.1 h2.1,λe=> ?_⟩;subst e;have e:z=y:=fB h1.1 h2.1;exact gJ a b c (h1.2 e.symm) (h2.2 e)
theorem Ej: ∀(q r:List UInt8),H (q++r) q=d
 | [],r=>by cases r<;>simp[H]
 | a::q,r=>by rw[c8,o8];exact⟨UInt8.le_refl _,λ_=>Ej q r⟩
theorem Hi: ∀(q r:List UInt8),q.length<=bH q (q++r)
 | [],_=>Z _
 | a::q,r=>by rw[c8];unfold bH;rw[if_pos rfl,e7];have:=Hi q r;omega
theorem zc {a b:List UInt8}(h:(H a b||decide (a=b))=C):H b a=false:=by
 rw[R,decide_eq_true_eq] at h;rcases h with h | h
 ·exact eX _ _ h
 ·subst h;exact i7 _
theorem JY: ∀(a b:List UInt8),H b a=d->(H a b||decide (a=b))=C
 | [],[],_=>by simp
 | [],_::_,_=>by simp[H]
 | _::_,[],h=>by simp[H] at h
 | x::a,y::b,h=>by
   rw[o8] at h;by_cases e:x=y
   ·subst e;have:=JY a b (h.2 rfl);rw[R,decide_eq_true_eq] at this ⊢;rcases this with h1 | h1
    ·left;simp[H,h1]
    ·right;rw[h1]
   ·rw[R];left;have:x<y:=UInt8.lt_of_le_of_ne h.1 e;simp[H,this]
theorem OX {fr to q r:List UInt8}(h:hasB fr to (q++r)=C):bN fr to q=true:=by
 unfold hasB at h;rw[an,cy] at h;obtain⟨h1,h2⟩:=h;have h3:=zc h2;have hq:=Ej q r;unfold bN;rw[an];refine⟨JY _ _ (gJ _ _ _ hq h3),?_⟩;cases hl:H q (ak fr)with
 | false=>rfl
 | true =>have ht:=BG q.length q (ak fr) (q++r) (Hi q r) (eX _ _ hl) h1;rw[List.take_length] at ht;show(d||preB q (ak fr))=C;rw[eC];unfold preB;have hl:=congrArg e6 ht;rw[d!] at hl;rw[decide_eq_true ht,decide_eq_true (show q.length<=(ak fr).length by omega)];rfl
theorem Py {fr to p:List UInt8}(h:bN fr to p=d)(l:List Rw):gI fr to p l=[]:=by
 unfold gI;rw[c_.2]
 ·rfl
 ·intro x _ hx;have:bN fr to p=true:=OX (r:=x.1) hx;rw[h] at this;cases this
structure cg (m:Nat)(l:List Rw):Prop where
 yb:tM l
 len: ∀ x,x∈ l->x.1.length<m
 Yf: ∀ x,x∈ l->∀ b,b∈ x.1->b.toNat<16
 val: ∀ x,x∈ l->0<x.2.length/\x.2.length<=80
theorem Hu {m k:Nat}{q:List UInt8}{l:List Rw}(h:cg (m+1) l)(hk:0<k)(hq: ∀ x,x∈ l->k<=x.1.length/\x.1.take k=q):cg m (b7 k l):=by
 refine⟨?_,λx hx=> ?_,λx hx b hb=> ?_,λx hx=> ?_⟩
 ·have hr:=h.yb;unfold tM b7 at *;rw[e!];refine List.Pairwise.imp_of_mem (λ{a b} ha hb hab=> ?_) hr;have h1:=hq a ha;have h2:=hq b hb;show H (a.1.drop k) (b.1.drop k)=C;rw[DR k a.1 b.1 (h1.2.trans h2.2.symm) h1.1 h2.1];exact hab
 all_goals
  obtain⟨y,hy,rfl⟩:=e_.1 hx
 ·have:=h.len y hy;have:=(hq y hy).1;show(y.1.drop k).length<m;rw[List.length_drop];omega
 ·exact h.Yf y hy b (List.mem_of_mem_drop hb)
 ·exact h.val y hy
theorem V6 {m:Nat}{l:List Rw}(h:cg m l)(i:Nat):cg m (bB i l):=by have hm: ∀ x,x∈ bB i l->x∈ l:=λx hx=>(b_.1 hx).1;exact⟨h.yb.filter _,λx hx=>h.len x (hm x hx),λx hx=>h.Yf x (hm x hx),λx hx=>h.val x (hm x hx)⟩
theorem cI (r s:Rw)(t:List Rw)(i:Nat):aP (r::s::t) i=if 0<bH r.1 ((s::t).getLastD r).1 then(if i=0 then b7 (bH r.1 ((s::t).getLastD r).1) (r::s::t)else [])else b7 1 (bB i (r::s::t)):=rfl
theorem gA {m:Nat}{l:List Rw}(h:cg (m+1) l)(i:Nat):cg m (aP l i):=by
 have nil:cg m []:=⟨List.Pairwise.nil,(λx hx=>by cases hx),(λx hx=>by cases hx),(λx hx=>by cases hx)⟩
 match l,h with
 | [],_=>exact nil
 | [_],_=>exact nil
 | r::s::t,h =>
   rw[cI];split
   ·rename_i hk;split
    ·refine Hu (q:=r.1.take (bH r.1 ((s::t).getLastD r).1)) h hk λx hx=> ?_;have ht:=sM h.yb hx;refine⟨?_,ht⟩;have hl:=congrArg e6 ht;rw[d!,d!] at hl;have:=(zS r.1 ((s::t).getLastD r).1).1;omega
    ·exact nil
   ·refine Hu (q:=[ag i]) (V6 h i) (er _) λx hx=> ?_;have hx:=(b_.1 hx).2;rw[oV,decide_eq_true_eq] at hx;obtain⟨q,v⟩:=x;cases q with
    | nil=>cases hx
    | cons b r =>
      have hb:b.toNat=i:=Nat.succ.inj hx;refine⟨by simp,?_⟩;show [b]=[ag i]
      rw[← hb,fI]
theorem KI {r:Rw}{l:List Rw}(h:tM (r::l)):(r::l).filter (λx=>decide (jF x.1=0))=if r.1=[] then [r] else []:=by
 have hl:l.filter (λx=>decide (jF x.1=0))=[]:=by
  rw[c_];intro x hx;unfold tM at h;rw[b!] at h;have hx:=h.1 x hx;obtain⟨q,v⟩:=x;cases q with
  | nil=>simp[H] at hx
  | cons b q=>simp[jF]
 obtain⟨q,v⟩:=r;cases q with
 | nil=>rw[V (by simp[jF]),hl];rfl
 | cons b q=>rw[T (by simp[jF]),hl,if_neg (by simp)]
def BV (fr to p:List UInt8)(x:Nd):List (List UInt8×List UInt8):=if x.v=[] then [] else(if hasB fr to (cat p x.p)=C then [(aX (cat p x.p),x.v)] else [])
theorem IB (fr to p:List UInt8)(r:Rw):gI fr to p [r]=if hasB fr to (cat p r.1)=C then [(aX (cat p r.1),r.2)] else []:=by
 unfold gI;by_cases h:hasB fr to (cat p r.1)=C
 ·rw[if_pos h,V (p:=λr:Rw=>hasB fr to (cat p r.1)) h];rfl
 ·rw[if_neg h,T (p:=λr:Rw=>hasB fr to (cat p r.1)) h];rfl
theorem qH {α:Type}{f:Nat->List α}: ∀ {l:List Nat},(∀ i,i∈ l->f i=[])->l.flatMap f=[]
 | [],_=>rfl
 | i::l,h=>by rw[P,h i (O ..),qH λj hj=>h j (bO _ hj)];rfl
theorem KS {α:Type}{f:Nat->List α}(h: ∀ i,0<i->f i=[]):(K 16).flatMap f=f 0:=by rw[fo,P,eT,qH λi _=>h _ (er _),aM]
theorem Px (fr to p:List UInt8){m:Nat}{l:List Rw}(hl:l≠[])(h:cg (m+1) l) :
  gI fr to p l=BV fr to p (dh (m+1) l)++(K 16).flatMap λi=>gI fr to (fc (dh (m+1) l) p i) (aP l i):=by
 match l,hl,h with
 | [r],_,h =>
   have hv:r.2≠[]:=λe=>by have:=(h.val r (O ..)).1;rw[e] at this;cases this
   rw[qH (f:=λi=>gI fr to (fc (dh (m+1) [r]) p i) (aP [r] i)) λi _=>rfl,aM,IB];show _=if r.2=[] then [] else _
   rw[if_neg hv];rfl
 | r::s::t,_,h =>
   by_cases hk:0<bH r.1 ((s::t).getLastD r).1
   ·have hc:dh (m+1) (r::s::t)=⟨2,r.1.take (bH r.1 ((s::t).getLastD r).1),[],bC (if aP (r::s::t) 0=[] then [] else eS (cR (dh m (aP (r::s::t) 0))))⟩:=by show gN _ (r::s::t)=_;unfold gN;dsimp only;rw[if_pos hk]
    have h0: ∀ i,0<i->aP (r::s::t) i=[]:=λi hi=>by rw[cI,if_pos hk,if_neg (by omega)]
    rw[KS (f:=λi=>gI fr to (fc (dh (m+1) (r::s::t)) p i) (aP (r::s::t) i)) λi hi=>by rw[h0 i hi];rfl];have e0:aP (r::s::t) 0=b7 (bH r.1 ((s::t).getLastD r).1) (r::s::t):=by rw[cI,if_pos hk,if_pos rfl]
    rw[hc,e0,TO fr to p h.yb];rfl
   ·have hn: ∀ x,x∈ r::s::t->jF x.1<17:=λx hx=>by
     have:=h.Yf x hx;obtain⟨q,v⟩:=x;cases q with
     | nil=>exact er _
     | cons b q =>have:=this b (O ..);show b.toNat+1<17;omega
    have hc:dh (m+1) (r::s::t)=⟨3,[],if r.1=[] then r.2 else [],dx λi=>if aP (r::s::t) i=[] then [] else eS (cR (dh m (aP (r::s::t) i)))⟩:=by show gN _ (r::s::t)=_;unfold gN;dsimp only;rw[if_neg hk]
    rw[hc,IA fr to p h.yb hn,KI h.yb];have hp:cat p []=p:=by show p++[]=p;rw[aM]
    congr 1
    ·unfold BV;dsimp only;by_cases he:r.1=[]
     ·have hv:r.2≠[]:=λe=>by have:=(h.val r (O ..)).1;rw[e] at this;cases this
      rw[if_pos he,if_pos he,if_neg hv,IB,he]
     ·rw[if_neg he,if_neg he,if_pos rfl];rfl
    ·refine gW λi _=> ?_;rw[cI,if_neg hk];unfold fc;rw[if_pos rfl];dsimp only;rw[hp]
end Go.Proofs.YtoibaecagklkaaaGreatDoor
