/-
  The framework's fifteenth part: regions that draw their order, joined to the machine; code; functions.
-/
import Derived.Test.YtoibaecagklkaaaGreatDoorMg
import Derived.Test.YtoibaecagklkaaaGreatDoorMe
import Derived.RangeFuncRecord
import Derived.Scope
open Array renaming all_eq_true'->cB,getD_eq_getD_getElem?->O,getElem?_eq_getElem->a!,getElem?_eq_some_iff->cL,getElem?_setIfInBounds->c4
open Bool renaming and_eq_true->J,false->H,not_eq_true'->bn,or_eq_true->c5,true->G
open Go.Obj renaming deferred->V
open List renaming all_eq_true->Z,contains_iff_mem->b!,getD_eq_getElem?_getD->c6,getElem?_map->b5,getElem?_set->b6,length_cons->c_,mem_cons->W,mem_cons_of_mem->b9,mem_cons_self->b_,mem_filter->cm,mem_map->c!,mem_of_mem_erase->d_,mem_range->d!
open Nat renaming beq->T,blt->L,blt_eq->ag,le_add_right->ef,le_refl->a_,le_trans->bh,lt_of_lt_of_le->M,lt_trans->ei
open Option renaming getD_some->bl,map_some->ej,none->I,some->C
namespace Go.Proofs.YtoibaecagklkaaaGreatDoor
open Go Sx
variable {a:Act}{ops:Array Oper}{c:Code}{e:Exit}{Q:Exit->Act->World->Prop}{masks:List Nat}{R:Loop}{m m':Mem}{base i k k1 kh n nx nx':Nat}{E':Nat->Nat}{P:Program}{v:SV}{K:SV->Mem->Nat->VC}{w:World}{Γ:bg}
namespace Sx
open Go
noncomputable section
def jF (o:Oper):List Nat:=(o.after.toList.filter λe=>Region.binds .any e).map (·.on)
def nS (acc:List Nat)(ds:List Nat):Nat:=match ds with
 | []=>0
 | d::r=>2^ d ||| acc.getD d 0 ||| nS acc r
def FX:List Oper->List Nat->List Nat
 | [],acc=>acc
 | o::r,acc=>FX r (acc++[nS acc (jF o)])
def Reach (ops:Array Oper)(i j:Nat):Prop :=∀ S:Nat->Prop,(∀ k o,ops[k]?=C o->S k->∀ d∈ jF o,S d)->(∀ o,ops[i]?=C o->∀ d∈ jF o,S d)->S j
theorem FW {acc ds:List Nat}{j:Nat}(h:(nS acc ds).testBit j=G): ∃ d∈ ds,d=j∨(acc.getD d 0).testBit j=true:=by
 induction ds with
 | nil=>simp[nS] at h
 | cons d r ih =>
   simp only[nS,Nat.testBit_or,c5] at h;rcases h with (h | h) | h
   ·rw[Nat.testBit_two_pow] at h;exact⟨d,by simp,.inl (by simpa using h)⟩
   ·exact⟨d,by simp,.inr h⟩
   ·obtain⟨e,he,hh⟩:=ih h;exact⟨e,by simp[he],hh⟩
theorem Ba {ops:Array Oper}: ∀(l:List Oper) (acc:List Nat),(∀ k,l[k]?=ops[acc.length+k]?) ->
  (∀ i j,(acc.getD i 0).testBit j=G->Reach ops i j)->∀ i j,((FX l acc).getD i 0).testBit j=G->Reach ops i j
 | [],acc,_,h,i,j,hb=>h i j hb
 | o::r,acc,hl,h,i,j,hb=>by
   refine Ba r (acc++[nS acc (jF o)]) (λk=> ?_) (λi j hb=> ?_) i j hb
   ·have:=hl (k+1);simp only[List.getElem?_cons_succ] at this;rw[this];congr 1;simp;omega
   ·rw[c6] at hb;by_cases hi:i<acc.length
    ·rw[List.getElem?_append_left hi,← c6] at hb;exact h i j hb
    ·rw[List.getElem?_append_right (by omega)] at hb;by_cases he:i=acc.length
     ·subst he;simp only[Nat.sub_self,List.getElem?_cons_zero,bl] at hb;obtain⟨d,hd,hh⟩:=FW hb;have ho:ops[acc.length]?=C o:=by have:=hl 0;simpa using this.symm
      intro S hS hi;have hSd:=hi o ho d hd;rcases hh with rfl | hh
      ·exact hSd
      ·exact h d j hh S hS (λo' ho' e he=>hS d o' ho' hSd e he)
     ·rw[List.getElem?_eq_none (by simp;omega)] at hb;simp at hb
def NZ (ops:Array Oper):List Nat:=FX ops.toList []
theorem LR {j:Nat}(h:((NZ ops).getD i 0).testBit j=G):Reach ops i j :=Ba ops.toList [] (λk=>by simp) (λi j h=>by simp at h) i j h
def U7 (P:Program)(ops:List Oper)(quiet:Bool)(done:Nat)(i:Nat):Option Nat :=
 match ops with
 | []=>I
 | o::r=>if(!done.testBit i&&(!quiet||dQ P o.op)&&(jF o).all λd=>done.testBit d)=G then C i else U7 P r quiet done (i+1)
def qK (P:Program)(ops:List Oper):Nat->Nat->List Nat
 | 0,_=>[]
 | n+1,done=>match U7 P ops G done 0 with
   | some i=>i::qK P ops n (done ||| 2^ i)
   | none=>(match U7 P ops H done 0 with
     | some i=>i::qK P ops n (done ||| 2^ i)
     | none=>[])
def Mx (P:Program)(ops:Array Oper)(masks:List Nat)(p i:Nat):Bool :=
 match ops[p]?,ops[i]? with
 | some op,C oi=>!(jF op).contains i&& !Nat.beq p i&&((masks.getD i 0).testBit p||(masks.getD p 0).testBit i||(!dQ P op.op&& !dQ P oi.op)||Oper.apart ops op oi)
 | _,_=>H
def qN (P:Program)(ops:Array Oper)(masks:List Nat):List Nat->Bool
 | []=>G
 | p::r=>r.all (Mx P ops masks p)&&qN P ops masks r
def ZH (P:Program)(ops:Array Oper)(masks N:List Nat):Bool :=
 (List.range ops.size).all (λi=>N.contains i)&&N.all (λi=>L i ops.size&&match ops[i]? with
   | some o=>(jF o).all λd=>!Nat.beq d i&&L d ops.size
   | none=>H)&&qN P ops masks N
def draw (P:Program)(call:mF->PT)(ops:Array Oper)(K:St->VC)(st:St):VC :=
 let masks:=NZ ops;let N:=qK P ops.toList ops.size 0
 match ZH P ops masks N with
 | true=>cI P call ops masks ops.size N [] K st
 | false=>.fail "a region that draws its order"
theorem DT {P:Program}{ops:Array Oper}{masks:List Nat}: ∀ {R:List Nat},qN P ops masks R=G->∀ {p i:Nat},p∈ R->i∈ R->p≠i->Mx P ops masks p i=G∨Mx P ops masks i p=G
 | [],_,_,_,h,_,_=>by cases h
 | q::R,hp,p,i,h1,h2,hne=>by
   simp only[qN,J,Z] at hp;rw[W] at h1 h2;rcases h1 with rfl | h1<;>rcases h2 with rfl | h2
   ·exact absurd rfl hne
   ·exact .inl (hp.1 _ h2)
   ·exact .inr (hp.1 _ h1)
   ·exact DT hp.2 h1 h2 hne
theorem Jh {p:Nat}(h:Mx P ops masks p i=G):Rel P ops masks p i/\Rel P ops masks i p:=by
 unfold Mx at h;split at h
 ·rename_i op oi h1 h2;simp only[J,c5,bn] at h;have h3:=h.2;have ap:Oper.apart ops op oi=G->yp ops op oi:=λhb=>by obtain⟨s1,s2,s3⟩:=Oper.apart_spec hb;exact⟨s1,s2,s3⟩
  refine⟨⟨op,oi,h1,h2,?_⟩,⟨oi,op,h2,h1,?_⟩⟩
  ·rcases h3 with ((h | h) | h) | h
   ·exact .inl h
   ·exact .inr (.inl h)
   ·exact .inr (.inr (.inl h))
   ·exact .inr (.inr (.inr (ap h)))
  ·rcases h3 with ((h | h) | h) | h
   ·exact .inr (.inl h)
   ·exact .inl h
   ·exact .inr (.inr (.inl ⟨h.2,h.1⟩))
   ·exact .inr (.inr (.inr (ap h).symm))
 ·cases h
theorem Mc {R:List Nat}(h:qN P ops masks R=G):Ke P ops masks R:=λp hp i hi hne=>by
 rcases DT h hp hi hne with h | h
 ·exact(Jh h).1
 ·exact(Jh h).2
theorem yS {P:Program}{ops:Array Oper}{masks:List Nat}{i:Nat}: ∀ {R:List Nat},qN P ops masks R=G->qN P ops masks (R.erase i)=G/\(i∉ R.erase i)
 | [],_=>⟨rfl,by simp⟩
 | q::R,hp=>by
   simp only[qN,J,Z] at hp;by_cases e:q=i
   ·subst e;rw[List.erase_cons_head];refine⟨hp.2,λhm=> ?_⟩;have:=hp.1 _ hm;unfold Mx at this;split at this
    ·simp at this
    ·cases this
   ·rw[List.erase_cons_tail (by simpa using e)];obtain⟨h1,h2⟩:=yS (i:=i) hp.2;refine⟨by simp only[qN,J,Z];exact⟨λx hx=>hp.1 x (d_ hx),h1⟩,λhm=> ?_⟩;rw[W] at hm;rcases hm with h | h
    ·exact e h.symm
    ·exact h2 h
theorem xX {md:Region.Mode}{listed:Array Bool}:i∈ Region.ready md ops listed ↔
  i<ops.size/\listed.getD i G=H/\∃ o,ops[i]?=C o/\∀ e∈ o.after,Region.binds md e=G->listed.getD e.on H=true:=by
 unfold Region.ready;simp only[cm,d!,J,bn];constructor
 ·rintro⟨h1,h2,h3⟩;refine⟨h1,h2,?_⟩;have ho:ops[i]?=C ops[i]:=a! h1;rw[ho] at h3;simp only[ej,bl] at h3;refine⟨_,ho,λe he hb=> ?_⟩;rw[cB] at h3;have:=h3 e he;simpa [hb] using this
 ·rintro⟨h1,h2,o,ho,h3⟩;refine⟨h1,h2,?_⟩;rw[ho];simp only[ej,bl,cB];intro e he;by_cases hb:Region.binds md e=G
  ·simp[hb,h3 e he hb]
  ·simp[hb]
section
variable {P : Program} {call : mF -> PT} {ops : Array Oper}
theorem Xu {ro:Option Nat}{KP:PK}(hm: ∀ f,bq (call f))(hcall: ∀ c,pW P Γ KP c (call c))(hmask: ∀ i j,(masks.getD i 0).testBit j=G->Reach ops i j)
   {K:St->VC} {E0:Nat->Nat} {uF:Nat} {T0:List (Option SV)} (hP: ∀ e a w,cP E0 (unsure ops T0) a->kZ KP Γ E0 uF e a w->Q e a w): ∀(fuel:Nat) (R:List Nat) (listed:Array Bool) {st:St} {E:Nat->Nat} {a:Act} {w:World},
   cP E0 (unsure ops T0) a->(∀ k,k<uF->E k=E0 k)->uF<=st.nx->R.length<=fuel->(∀ i,i∈ R↔i<ops.size/\listed.getD i G=H)->qN P ops masks R=G->(∀ i∈ R,∀ o,ops[i]?=C o->∀ d∈ jF o,d≠i/\d<ops.size) ->
   listed.size=ops.size->(∀ k o,ops[k]?=C o->listed.getD k H=G->∀ d∈ jF o,listed.getD d H=G) ->
   (cI P call ops masks fuel R [] K st).holds->Sat Γ E st a w->(∀ a w,iK K Γ E st.nx a w->Q .normal a w)->wpAnyIn (Fr ro) 0 P .any ops Q fuel listed a w:=by
 intro fuel;induction fuel with
 | zero =>intro R listed st E a w hF hE0 hn0 hlen hR hpair hself hsize hcl h hs hQ;have hnil:R=[]:=List.eq_nil_of_length_eq_zero (by omega);subst hnil;refine⟨?_,hQ _ _ ⟨E,st,λ_ _=>rfl,a_ _,hs,h⟩⟩;rw[List.eq_nil_iff_forall_not_mem];intro i hi;rw[xX] at hi;have:=(hR i).2 ⟨hi.1,hi.2.1⟩;cases this
 | succ fuel ih =>
   intro R listed st E a w hF hE0 hn0 hlen hR hpair hself hsize hcl h hs hQ;refine⟨λhnone=> ?_,λi hi=> ?_⟩
   ·
    cases R with
    | nil=>exact hQ _ _ ⟨E,st,λ_ _=>rfl,a_ _,hs,by rw[mL] at h;exact h⟩
    | cons r0 R =>
      exfalso;have hr0:=(hR r0).1 (by simp);have ho:ops[r0]?=C ops[r0]:=a! hr0.1;have:r0∈ Region.ready .any ops listed:=by
       rw[xX];refine⟨hr0.1,hr0.2,_,ho,λe he hb=> ?_⟩;have hd:e.on∈ jF ops[r0]:=by simp only[jF,c!,cm];exact⟨e,⟨by simpa using he,hb⟩,rfl⟩
       generalize e.on=d at hd ⊢;cases hl:listed.getD d H with
       | true=>rfl
       | false =>
         exfalso;have hself0:=hself r0 (by simp) _ ho d hd;have hlt:=hself0.2;have hmem:d∈ r0::R:=(hR d).2 ⟨hlt,by rw[O] at hl ⊢;rw[a! (by omega)] at hl ⊢;exact hl⟩
         rw[W] at hmem;rcases hmem with e1 | hmem
         ·exact hself0.1 e1
         ·simp only[qN,J,Z] at hpair;have hrel:=hpair.1 _ hmem;simp only[Mx,ho] at hrel;split at hrel
          ·rename_i op oi e1 _;injection e1 with e1;subst e1;simp only[J,bn] at hrel;have h1:=hrel.1.1;rw[b!.2 hd] at h1;cases h1
          ·cases hrel
      rw[hnone] at this;cases this
   ·rw[xX] at hi;obtain⟨hlt,hnl,oi,ho,hdeps⟩:=hi;have hmem:i∈ R:=(hR i).2 ⟨hlt,hnl⟩;have hdl: ∀ d∈ jF oi,listed.getD d H=true:=by intro d hd;simp only[jF,c!,cm] at hd;obtain⟨e,⟨he,hb⟩,rfl⟩:=hd;exact hdeps e (by simpa using he) hb
    have hbits: ∀ p∈ R,(masks.getD i 0).testBit p=false:=by
     intro p hp;cases hb:(masks.getD i 0).testBit p with
     | false=>rfl
     | true =>exfalso;have:=hmask i p hb (λk=>listed.getD k H=G) (λk o hk hS d hd=>hcl k o hk hS d hd) (λo' ho' d hd=>by rw[ho] at ho';injection ho' with ho';subst ho';exact hdl d hd);have hpl:=((hR p).1 hp).2;have hps:=((hR p).1 hp).1;rw[O] at this hpl;rw[a! (by omega)] at this hpl;simp only[bl] at this hpl;rw[this] at hpl;cases hpl
    have hb:=(aai hm fuel).1 hlen (Mc hpair) hmem ho hbits h;obtain⟨hpair',hne⟩:=yS (i:=i) hpair;have hstep:(dz P call ops i oi (λst'=>.and (.atom (st.nx<=st'.nx∨True)) (cI P call ops masks fuel (R.erase i) [] K st')) st).holds:=by
     unfold Bs at hb;cases hq:dQ P oi.op with
     | true =>rw[hq] at hb;exact cG hm (λu m nx hh=>⟨.inr trivial,lT hm (λx hx=>by cases hx) hh⟩) hb
     | false =>rw[hq] at hb;exact cG hm (λu m nx hh=>by rw[gi,lE] at hh;exact⟨.inr trivial,hh.2.2⟩) hb
    have hmemO:oi∈ ops.toList:=by have ho':=ho;rw[← Array.getElem?_toList] at ho';exact List.mem_of_getElem? ho'
    have hsound:=pG (ro:=ro) hcall hstep hs Q (λe w hb=>hP e a w hF (hb.weaken hE0 hn0));have go: ∀ a' w',((∃ r,a'=a.put oi.dst r)/\iK (λst'=>.and (.atom (st.nx<=st'.nx∨True)) (cI P call ops masks fuel (R.erase i) [] K st')) Γ E st.nx a' w')->wpAnyIn (Fr ro) 0 P .any ops Q fuel (listed.setIfInBounds i G) a' w':=by
     rintro a' w' ⟨⟨rr,ha⟩,E',st',g1,g2,g3,g4⟩
     refine ih (R.erase i) (listed.setIfInBounds i G) (ha▸ cP.uB hF hmemO rr) (λk hk=>(g1 k (M hk hn0)).trans (hE0 k hk)) (bh hn0 g2) (by rw[List.length_erase_of_mem hmem];omega) (λj=> ?_) hpair' (λj hj=>hself j (d_ hj)) (by simpa using hsize) (λk o hk hl d hd=> ?_) g4.2 g3
      (λa'' w'' hbh=>hQ a'' w'' ?_)
     ·rw[O,c4];by_cases e:i=j
      ·subst e;simp only[if_true];rw[if_pos (by omega)];simp only[bl];constructor
       ·intro hj;exact absurd hj hne
       ·rintro⟨_,hh⟩;cases hh
      ·rw[if_neg e,← O,← hR j];exact List.mem_erase_of_ne (λh=>e h.symm)
     ·rw[O,c4] at hl ⊢;by_cases ed:i=d
      ·rw[if_pos ed,if_pos (by omega)];rfl
      ·rw[if_neg ed,← O];by_cases ek:i=k
       ·subst ek;rw[ho] at hk;injection hk with hk;subst hk;exact hdl d hd
       ·rw[if_neg ek,← O] at hl;exact hcl k o hk hl d hd
     ·obtain⟨E'',st'',k1,k2,k3,k4⟩:=hbh;exact⟨E'',st'',λk hk=>(k1 k (M hk g2)).trans (g1 k hk),bh g2 k2,k3,k4⟩
    unfold wpOpIn;rw[ho];simp only;split
    ·rename_i hw;rw[if_pos hw] at hsound;exact Oper.wpIn_mono go hsound
    ·rename_i hw;rw[if_neg hw] at hsound;exact⟨p7 ro,go _ _ ⟨⟨_,rfl⟩,hsound⟩⟩
theorem KE {ro:Option Nat}{KP:PK}(hmix:P.follows .mixedOrders=G)(hm: ∀ f,bq (call f))(hcall: ∀ c,pW P Γ KP c (call c)){id:Nat}{K:St->VC}
  {st:St} {E:Nat->Nat}   (h:(draw P call ops K st).holds) (hs:Sat Γ E st a w) (hP: ∀ e a w,cP E (unsure ops st.tmps) a->kZ KP Γ E st.nx e a w->Q e a w) (hQ: ∀ a w,iK K Γ E st.nx a w->Q .normal a w):(Code.region id ops G).wpIn (Fr ro) 0 P Q a w:=by
 unfold draw at h;simp only at h;split at h
 ·rename_i hg;simp only[ZH,J,Z] at hg;obtain⟨⟨h1,h2⟩,h3⟩:=hg;refine wpIn_region_any hmix ?_;have hs':Sat Γ E st a {w with drawn:=w.drawn+1}:=⟨hs.tm,hs.wt,hs.df,hs.mm.drew _⟩
  have hlen:(qK P ops.toList ops.size 0).length<=ops.size:=by
   have: ∀(n d:Nat),(qK P ops.toList n d).length<=n:=by
    intro n;induction n with
    | zero=>intro d;simp[qK]
    | succ n ih =>
      intro d;simp only[qK];split
      ·have:=ih (d ||| 2^ (by assumption));simp only[c_];omega
      ·split
       ·have:=ih (d ||| 2^ (by assumption));simp only[c_];omega
       ·simp
   exact this _ _
  refine Xu hm hcall (λi j hb=>LR hb) (T0:=st.tmps) hP ops.size (qK P ops.toList ops.size 0) _ hs.tm.unsure (λ_ _=>rfl) (a_ _) hlen (λi=> ?_) h3 (λi hi o ho d hd=> ?_) (by simp) (λk o hk hl d hd=> ?_) h hs' hQ
  ·constructor
   ·intro hi;have:=h2 i hi;simp only[ag] at this;refine⟨this.1,?_⟩;rw[O,a! (by simpa using this.1)];simp
   ·rintro⟨hi,_⟩;have:=h1 i (d!.2 hi)
    rwa [b!] at this
  ·have:=h2 i hi;rw[ho] at this;simp only[Z,J,bn,ag] at this;have hd':=this.2 d hd;refine⟨λe=> ?_,hd'.2⟩;have h5:=hd'.1;rw[e] at h5;simp at h5
  ·exfalso;rw[O] at hl;by_cases hks:k<ops.size
   ·rw[a! (by simpa using hks)] at hl;simp at hl
   ·rw[Array.getElem?_eq_none (by simpa using hks)] at hl;simp at hl
 ·exact h.elim
end
structure aX where
 α:Type
 pre:St->α->Prop
 jx:St->α->Nat
 fresh:Nat
 slots:St->α->List (Nat×SV)
 mem:St->α->List (Nat×SB)
 drop:St->List Nat:=λ_=>[]
 gh:St->List Gh:=λ_=>[]
def written:Code->List Nat
 | .region _ ops _=>ops.toList.filterMap (·.dst)
 | .seq a b=>written a++written b
 | .cond _ a b=>written a++written b
 | .block _ b=>written b
 | .loop b=>written b
 | .scope b=>written b
 | .rangeFunc _ _ a b=>written a++written b
 | _=>[]
def forget (l:List Nat)(tmps:List (Option SV)):List (Option SV):=match l with
 | []=>tmps
 | i::r=>forget r (tmps.set i I)
def kC (l:List (Nat×SV))(tmps:List (Option SV)):List (Option SV):=match l with
 | []=>tmps
 | (i,v)::r=>kC r (tmps.set i (C v))
theorem ah.cells {cs cs':List SV}{tot tot':Nat}{ty:TypeId}(h: ∀ E,cs'.map (SV.val E)=cs.map (SV.val E))(ht:tot'=tot):ah (.cells cs tot ty) (.cells cs' tot' ty):=by
 subst ht;refine ah.of rfl rfl λ_=>⟨rfl,λE o ⟨c,fr,h1,h2,h3,h4⟩=>⟨c,fr,h1,h2,λi v hv=> ?_,h4⟩,id⟩
 have he:=h E;have:(cs'.map (SV.val E))[i]?=C (v.val E):=by rw[b5,hv];rfl
 rw[he,b5] at this;cases hc:cs[i]? with
 | none=>rw[hc] at this;cases this
 | some u =>rw[hc] at this;injection this with this;rw[← this];exact h3 i u hc
theorem ah.ZD {d:e_->Bool}{c:bL}{clock:Nat}(hd: ∀ s,d s=H):ah (.map [] clock) (.fmap d c I):=by obtain rfl:d=λ_=>false:=funext hd;exact ah.of rfl rfl λ_=>⟨rfl,λ_ _ h=>⟨#[],clock,h,zg.nil c clock⟩,id⟩
theorem ah.fmap {d d':e_->Bool}{c c':bL}{p:Option (e_×Int)}(hd: ∀ s,d s=d' s)(hc: ∀ s,c.val s=c'.val s):ah (.fmap d c p) (.fmap d' c' I):=by obtain rfl:=funext hd;exact ah.of rfl rfl λ_=>⟨rfl,λ_ _ ⟨es,cl,h,h1,h2,h3,h4,_⟩=>⟨es,cl,h,h1,h2,λs hs=>by rw[← hc];exact h3 s hs,h4,λ_ _ h=>by cases h⟩,id⟩
abbrev Ren:=List (Nat×Nat)
def Ren.get (k:Nat):Ren->Option Nat
 | []=>I
 | e::r=>if e.1=k then C e.2 else Ren.get k r
def dF (base:Nat)(aV:Ren)(kh k1:Nat)(t:Ren->VC):VC :=
 match L kh base with
 | true=>if kh=k1 then t aV else .fail "loop: another block"
 | false=>(match aV.get kh with
   | some k=>if k=k1 then t aV else .fail "loop: two blocks for one"
   | none=>t ((kh,k1)::aV))
def zeq (z z':Bool)(n:Nat):VC:=match z,z' with
 | true,G=>.tt
 | false,H=>.tt
 | _,_=>.atom (0<n)
theorem GW {z z':Bool}(h:(zeq z z' n).holds):(z&&T n 0)=(z'&&T n 0):=by
 have h0:0<n->T n 0=false:=λh=>by cases n with
  | zero=>omega
  | succ n=>rfl
 cases z<;>cases z'<;>simp only[zeq] at h
 ·rfl
 ·have:=h0 h;simp[this]
 ·have:=h0 h;simp[this]
 ·rfl
def jr (base:Nat):List SV->List SV->Ren->(Ren->VC)->VC
 | [],[],aV,t=>t aV
 | .ptr kh _ o::hs,.ptr k1 _ o'::us,aV,t=>dF base aV kh k1 (λaV=>.and (jG o' o) (jr base hs us aV t))
 | _,_,_,_=>.fail "loop: what a function has captured"
def kE (base:Nat)(aV:Ren)(h u:SV)(t:Ren->VC):VC :=
 match h,u with
 | .int a _ n,.int b _ m=>if a=b then .and (jG m n) (t aV)else .fail "loop: kinds"
 | .bool _ a,.bool _ b=>.and (jG b a) (t aV)
 | .str _ a,.str _ b=>.and (jG b a) (t aV)
 | .cH,.cH=>t aV
 | .aK,.aK=>t aV
 | .gr,.gr=>t aV
 | .aA,.aA=>t aV
 | .fk,.fk=>t aV
 | .ptr kh _ o,.ptr k1 _ o'=>dF base aV kh k1 (λaV=>.and (jG o' o) (t aV))
 | .kN kh w i k,.kN k1 w' i' k'=>if w=w'/\k=k' then dF base aV kh k1 (λaV=>.and (jG i' i) (t aV))else .fail "loop: rows"
 | .slc kh o n _ c,.slc k1 o' n' _ c'=>dF base aV kh k1 (λaV=>.and (.and (jG o' o) (.and (jG n' n) (jG c' c))) (t aV))
 | .bx kh w z i n c,.bx k1 w' z' i' n' c'=>if w=w' then dF base aV kh k1 (λaV=>.and (.and (jG i' i) (.and (jG n' n) (jG c' c))) (.and (zeq z z' n) (t aV)))else .fail "loop: rows"
 | .bx kh w z i n c,.slc k1 o' n' _ c'=>dF base aV kh k1 (λaV=>.and (.and (jG o' (i*w)) (.and (jG n' n) (jG c' c))) (.and (zeq z H n) (t aV)))
 | .bx _ _ G _ n _,.aK=>.and (jG n 0) (t aV)
 | .slc kh o n _ c,.bx k1 w z i n' c'=>dF base aV kh k1 (λaV=>.and (.and (jG (i*w) o) (.and (jG n' n) (jG c' c))) (.and (zeq z H n') (t aV)))
 | .aS kh w z o i n c,.aS k1 w' z' o' i' n' c'=>if w=w' then dF base aV kh k1 (λaV=>.and (.and (jG z' z) (.and (jG o' o) (.and (jG i' i) (.and (jG n' n) (jG c' c))))) (t aV))else .fail "loop: rows"
 | .aS kh w z o i n c,.slc k1 o' n' _ c'=>dF base aV kh k1 (λaV=>.and (.and (jG o' (o+i*w)) (.and (jG n' n) (jG c' c))) (.and (jG (H&&T n 0) (z&&T n 0)) (t aV)))
 | .aS kh w z o i n c,.bx k1 w' z' i' n' c'=>if w=w' then dF base aV kh k1 (λaV=>.and (.and (jG (i'*w) (o+i*w)) (.and (jG n' n) (jG c' c))) (.and (jG (z'&&T n 0) (z&&T n 0)) (t aV)))else .fail "loop: rows"
 | .iface a (.ptr kh _ o),.iface b (.ptr k1 _ o')=>if a=b then dF base aV kh k1 (λaV=>.and (jG o' o) (t aV))else .fail "loop: another type"
 | .func (.func f) a b,.func (.func g) a' b'=>if f=g then jr base a a' aV (λaV=>jr base b b' aV t)else .fail "loop: another function"
 | .map kh,.map k1=>dF base aV kh k1 t
 | .fY kh a o,.fY k1 a' o'=>dF base aV kh k1 (λaV=>.and (jG a' a) (.and (jG o' o) (t aV)))
 | .fc kh w z a i n c,.fc k1 w' z' a' i' n' c'=>if w=w'/\z=z' then dF base aV kh k1 (λaV=>.and (jG a' a) (.and (jG i' i) (.and (jG n' n) (.and (jG c' c) (t aV)))))else .fail "loop: rows"
 | .raw v,.raw v'=>.and (jG v' v) (t aV)
 | h,u=>(match h.wf 0&&u.wf 0 with
   | true=>.and (.eqv (∀ E,u.val E=h.val E) (∀ E,u.val E=u.val E) (λ_=>rfl)) (t aV)
   | false=>.fail "loop: another value")
def hJ (base:Nat):List SV->List SV->Ren->(Ren->VC)->VC
 | [],[],aV,t=>t aV
 | h::hs,u::us,aV,t=>kE base aV h u (λaV=>hJ base hs us aV t)
 | _,_,_,_=>.fail "loop: lengths"
def uu (base:Nat)(aV:Ren)(h u:SV)(t:Ren->VC):VC :=
 match h,u with
 | .agg a,.agg b=>hJ base a b aV t
 | .aD a,.aD b=>hJ base a b aV t
 | .iface a v,.iface b v'=>if a=b then(match v,v' with
    | .agg c,.agg d=>hJ base c d aV t
    | v,v'=>kE base aV v v' t)else .fail "loop: another type"
 | h,u=>kE base aV h u t
def su (base:Nat):List (Nat×SV)->List (Option SV)->Ren->(Ren->VC)->VC
 | [],_,aV,t=>t aV
 | (i,h)::r,tmps,aV,t=>match slot tmps i with
   | some u=>uu base aV h u (λaV=>su base r tmps aV t)
   | none=>.fail "loop: a slot that is not known"
def dX (base:Nat)(aV:Ren)(kh:Nat):Option Nat:=match L kh base with
 | true=>C kh
 | false=>aV.get kh
def AW (base:Nat)(m:Mem)(kh k1:Nat)(aV:Ren):Ren:=match L kh base,aV.get kh,m.get k1 with
 | false,I,C B=>(match B.jg with
   | true=>(kh,k1)::aV
   | false=>aV)
 | _,_,_=>aV
def iX (base:Nat)(m:Mem):List aE->List aE->Ren->Ren
 | .ref kh _::r',.ref k1 _::r,aV=>iX base m r' r (AW base m kh k1 aV)
 | .fc kh _ _ _ _ _::r',.fc k1 _ _ _ _ _::r,aV=>iX base m r' r (AW base m kh k1 aV)
 | _::r',_::r,aV=>iX base m r' r aV
 | _,_,aV=>aV
def pU (base:Nat)(m:Mem)(B' B:SB)(aV:Ren):Ren:=match B',B with
 | .rows _ _ c' _ _ _,.rows _ _ c _ _ _=>iX base m c' c aV
 | .tq _ c' _ _ _,.tq _ c _ _ _=>iX base m c' c aV
 | .j8 _ _ c' _,.j8 _ _ c _=>iX base m (c'.map (dx.at 0)) (c.map (dx.at 0)) aV
 | .fmap _ (.ref kh _) _,.fmap _ (.ref k1 _) _=>AW base m kh k1 aV
 | _,_=>aV
def leA (B B':SB):VC:=.eqv (ah B B') (ah B B) (ah.refl B)
def gC (base:Nat)(m:Mem):List (Nat×SB)->List Nat->Ren->(Ren->VC)->VC
 | [],_,aV,t=>t aV
 | (kh,B')::r,used,aV,t=>match dX base aV kh with
   | some k1=>if used.contains k1 then .fail "loop: one block for two" else(match m.get k1 with
     | some B=>(match B'.wf base with
       | true=>.and (leA B B') (gC base m r (k1::used) (pU base m B' B aV) t)
       | false=>(match B',B with
         | .cells cs' tot' ty',.cells cs tot ty=>if ty'=ty then .and (jG tot' tot) (hJ base cs' cs aV (λaV=>gC base m r (k1::used) aV t))else .fail "loop: a block's type"
         | _,_=>.fail "loop: a block that names blocks"))
     | none=>.fail "loop: no such block")
   | none=>(match B'.wf base with
      | true=>(match B'.jg with
        | false=>.and (.atom (B'.no=G)) (gC base m r used aV t)
        | true=>.and (.atom (∀ a,¬ B'.iz 0 a)) (gC base m r used aV t))
      | false=>.fail "loop: a block that names blocks")
def Ren.E (base:Nat)(aV:Ren)(E:Nat->Nat)(k:Nat):Nat:=match dX base aV k with
 | some k1=>E k1
 | none=>E k
def Ren.le (a b:Ren):Prop:=∀ k v,a.get k=C v->b.get k=C v
theorem Ren.le_refl (a:Ren):a.le a:=λ_ _ h=>h
theorem Ren.le_trans {a b c:Ren}(h:a.le b)(h':b.le c):a.le c:=λk v x=>h' k v (h k v x)
theorem Ren.Nj {aV:Ren}{E:Nat->Nat}(h:k<base):Ren.E base aV E k=E k:=by
 have:L k base=true:=by simpa [ag] using h
 simp[Ren.E,dX,this]
theorem cz {aV:Ren}{t:Ren->VC}(h:(dF base aV kh k1 t).holds) :
  ∃ ren',aV.le ren'/\(t ren').holds/\∀ ren'' (E:Nat->Nat),ren'.le ren''->Ren.E base ren'' E kh=E k1:=by
 unfold dF at h;split at h
 ·rename_i hb;split at h
  ·rename_i e;subst e;exact⟨aV,Ren.le_refl _,h,λren'' E _=>Ren.Nj (by simpa [ag] using hb)⟩
  ·exact h.elim
 ·rename_i hb;split at h
  ·rename_i k hk;split at h
   ·rename_i e;subst e;exact⟨aV,Ren.le_refl _,h,λren'' E hle=>by simp[Ren.E,dX,hb,hle _ _ hk]⟩
   ·exact h.elim
  ·rename_i hk;refine⟨(kh,k1)::aV,λk v hv=> ?_,h,λren'' E hle=> ?_⟩
   ·by_cases e:kh=k
    ·subst e;rw[hk] at hv;cases hv
    ·simp only[Ren.get,e,if_false];exact hv
   ·have:=hle kh k1 (by simp[Ren.get]);simp[Ren.E,dX,hb,this]
theorem mz {base:Nat}: ∀ {hs us:List SV} {aV:Ren} {t:Ren->VC},(jr base hs us aV t).holds ->
  ∃ ren',aV.le ren'/\(t ren').holds/\∀ ren'' (E:Nat->Nat),ren'.le ren''->SV.vals (Ren.E base ren'' E) hs=SV.vals E us
 | hs,us,aV,t,hh=>by
   unfold jr at hh;split at hh
   ·exact⟨aV,Ren.le_refl _,hh,λ_ _ _=>rfl⟩
   ·obtain⟨r1,h1,h2,h3⟩:=cz hh;obtain⟨r2,g1,g2,g3⟩:=mz h2.2;refine⟨r2,Ren.le_trans h1 g1,g2,λr'' E hle=> ?_⟩;have e:_=_:=h2.1;simp only[SV.vals,SV.val,h3 r'' E (Ren.le_trans g1 hle),g3 r'' E hle,e]
   ·exact hh.elim
theorem mw {aV:Ren}{h u:SV}{t:Ren->VC}(hh:(kE base aV h u t).holds) :
  ∃ ren',aV.le ren'/\(t ren').holds/\∀ ren'' (E:Nat->Nat),ren'.le ren''->h.val (Ren.E base ren'' E)=u.val E:=by
 unfold kE at hh;split at hh
 ·split at hh
  ·rename_i e;subst e;exact⟨aV,Ren.le_refl _,hh.2,λ_ _ _=>by have:_=_:=hh.1;simp[SV.val,this]⟩
  ·exact hh.elim
 ·exact⟨aV,Ren.le_refl _,hh.2,λ_ _ _=>by have:_=_:=hh.1;simp[SV.val,this]⟩
 ·exact⟨aV,Ren.le_refl _,hh.2,λ_ _ _=>by have:_=_:=hh.1;simp[SV.val,this]⟩
 ·exact⟨aV,Ren.le_refl _,hh,λ_ _ _=>rfl⟩
 ·exact⟨aV,Ren.le_refl _,hh,λ_ _ _=>rfl⟩
 ·exact⟨aV,Ren.le_refl _,hh,λ_ _ _=>rfl⟩
 ·exact⟨aV,Ren.le_refl _,hh,λ_ _ _=>rfl⟩
 ·exact⟨aV,Ren.le_refl _,hh,λ_ _ _=>rfl⟩
 ·obtain⟨r',h1,h2,h3⟩:=cz hh;exact⟨r',h1,h2.2,λr'' E hle=>by have:_=_:=h2.1;simp[SV.val,h3 r'' E hle,this]⟩
 ·split at hh
  ·rename_i e;obtain⟨rfl,rfl⟩:=e;obtain⟨r',h1,h2,h3⟩:=cz hh;exact⟨r',h1,h2.2,λr'' E hle=>by have:_=_:=h2.1;simp[SV.val,h3 r'' E hle,this]⟩
  ·exact hh.elim
 ·obtain⟨r',h1,h2,h3⟩:=cz hh;exact⟨r',h1,h2.2,λr'' E hle=>by obtain⟨a,b,c⟩:=h2.1;have a:_=_:=a;have b:_=_:=b;have c:_=_:=c;simp[SV.val,h3 r'' E hle,a,b,c]⟩
 ·split at hh
  ·rename_i e;subst e;obtain⟨r',h1,h2,h3⟩:=cz hh;exact⟨r',h1,h2.2.2,λr'' E hle=>by obtain⟨a,b,c⟩:=h2.1;have a:_=_:=a;have b:_=_:=b;have c:_=_:=c;have hz:=GW h2.2.1;simp[SV.val,h3 r'' E hle,a,b,c,hz]⟩
  ·exact hh.elim
 ·obtain⟨r',h1,h2,h3⟩:=cz hh;exact⟨r',h1,h2.2.2,λr'' E hle=>by obtain⟨a,b,c⟩:=h2.1;have a:_=_:=a;have b:_=_:=b;have c:_=_:=c;have hz:=GW h2.2.1;simp[SV.val,h3 r'' E hle,a,b,c,hz]⟩
 ·exact⟨aV,Ren.le_refl _,hh.2,λ_ _ _=>by have:_=_:=hh.1;simp[SV.val,this]⟩
 ·obtain⟨r',h1,h2,h3⟩:=cz hh;exact⟨r',h1,h2.2.2,λr'' E hle=>by obtain⟨a,b,c⟩:=h2.1;have a:_=_:=a;have b:_=_:=b;have c:_=_:=c;have hz:=GW h2.2.1;simp[SV.val,h3 r'' E hle,a,← b,c,hz]⟩
 ·split at hh
  ·rename_i e;subst e;obtain⟨r',h1,h2,h3⟩:=cz hh;exact⟨r',h1,h2.2,λr'' E hle=>by obtain⟨a,b,c,d,e⟩:=h2.1;have a:_=_:=a;have b:_=_:=b;have c:_=_:=c;have d:_=_:=d;have e:_=_:=e;simp[SV.val,h3 r'' E hle,a,b,c,d,e]⟩
  ·exact hh.elim
 ·obtain⟨r',h1,h2,h3⟩:=cz hh;exact⟨r',h1,h2.2.2,λr'' E hle=>by obtain⟨a,b,c⟩:=h2.1;have a:_=_:=a;have b:_=_:=b;have c:_=_:=c;have hz:_=_:=h2.2.1;simp only[SV.val,h3 r'' E hle,a,b,c,← hz];simp⟩
 ·split at hh
  ·rename_i e;subst e;obtain⟨r',h1,h2,h3⟩:=cz hh;exact⟨r',h1,h2.2.2,λr'' E hle=>by obtain⟨a,b,c⟩:=h2.1;have a:_=_:=a;have b:_=_:=b;have c:_=_:=c;have hz:_=_:=h2.2.1;simp only[SV.val,h3 r'' E hle,← a,b,c,← hz]⟩
  ·exact hh.elim
 ·split at hh
  ·rename_i e;subst e;obtain⟨r',h1,h2,h3⟩:=cz hh;exact⟨r',h1,h2.2,λr'' E hle=>by have:_=_:=h2.1;simp[SV.val,h3 r'' E hle,this]⟩
  ·exact hh.elim
 ·split at hh
  ·rename_i e;subst e;obtain⟨r1,h1,h2,h3⟩:=mz hh;obtain⟨r2,g1,g2,g3⟩:=mz h2;exact⟨r2,Ren.le_trans h1 g1,g2,λr'' E hle=>by simp only[SV.val,h3 r'' E (Ren.le_trans g1 hle),g3 r'' E hle]⟩
  ·exact hh.elim
 ·obtain⟨r',h1,h2,h3⟩:=cz hh;exact⟨r',h1,h2,λr'' E hle=>by simp[SV.val,h3 r'' E hle]⟩
 ·obtain⟨r',h1,⟨a,b,h2⟩,_⟩:=cz hh;exact⟨r',h1,h2,λr'' E hle=>by have a:_=_:=a;have b:_=_:=b;simp[SV.val,a,b]⟩
 ·split at hh
  ·rename_i e;obtain⟨rfl,rfl⟩:=e;obtain⟨r',h1,⟨a,b,c,d,h2⟩,_⟩:=cz hh;exact⟨r',h1,h2,λr'' E hle=>by have a:_=_:=a;have b:_=_:=b;have c:_=_:=c;have d:_=_:=d;simp[SV.val,a,b,c,d]⟩
  ·exact hh.elim
 ·exact⟨aV,Ren.le_refl _,hh.2,λ_ _ _=>by have:_=_:=hh.1;simp[SV.val,this]⟩
 ·split at hh
  ·rename_i hw;simp only[J] at hw;refine⟨aV,Ren.le_refl _,hh.2,λren'' E _=> ?_⟩;have h1: ∀ E,SV.val E _=SV.val E _:=hh.1;rw[h1 E];exact SV.val_congr (nx:=0) (λk hk=>absurd hk (Nat.not_lt_zero _)) _ hw.1
  ·exact hh.elim
theorem gd {base:Nat}: ∀ {hs us:List SV} {aV:Ren} {t:Ren->VC},(hJ base hs us aV t).holds ->
  ∃ ren',aV.le ren'/\(t ren').holds/\∀ ren'' (E:Nat->Nat),ren'.le ren''->SV.vals (Ren.E base ren'' E) hs=SV.vals E us
 | [],[],aV,t,h=>⟨aV,Ren.le_refl _,h,λ_ _ _=>rfl⟩
 | h::hs,u::us,aV,t,hh=>by simp only[hJ] at hh;obtain⟨r1,h1,h2,h3⟩:=mw hh;obtain⟨r2,g1,g2,g3⟩:=gd h2;exact⟨r2,Ren.le_trans h1 g1,g2,λr'' E hle=>by simp only[SV.vals];rw[h3 r'' E (Ren.le_trans g1 hle),g3 r'' E hle]⟩
 | [],_::_,_,_,h=>h.elim
 | _::_,[],_,_,h=>h.elim
theorem vR {aV:Ren}{h u:SV}{t:Ren->VC}(hh:(uu base aV h u t).holds) :
  ∃ ren',aV.le ren'/\(t ren').holds/\∀ ren'' (E:Nat->Nat),ren'.le ren''->h.val (Ren.E base ren'' E)=u.val E:=by
 unfold uu at hh;split at hh
 ·obtain⟨r',h1,h2,h3⟩:=gd hh;exact⟨r',h1,h2,λr'' E hle=>by simp only[SV.val,h3 r'' E hle]⟩
 ·obtain⟨r',h1,h2,h3⟩:=gd hh;exact⟨r',h1,h2,λr'' E hle=>by simp only[SV.val,h3 r'' E hle]⟩
 ·split at hh
  ·rename_i e;subst e;split at hh
   ·obtain⟨r',h1,h2,h3⟩:=gd hh;exact⟨r',h1,h2,λr'' E hle=>by simp only[SV.val,h3 r'' E hle]⟩
   ·obtain⟨r',h1,h2,h3⟩:=mw hh;exact⟨r',h1,h2,λr'' E hle=>by simp only[SV.val,h3 r'' E hle]⟩
  ·exact hh.elim
 ·exact mw hh
theorem pV {base:Nat}: ∀ {l:List (Nat×SV)} {tmps:List (Option SV)} {aV:Ren} {t:Ren->VC},(su base l tmps aV t).holds ->
  ∃ ren',aV.le ren'/\(t ren').holds/\∀ ren'' (E:Nat->Nat),ren'.le ren''->∀ i h,(i,h)∈ l->∃ u,slot tmps i=C u/\h.val (Ren.E base ren'' E)=u.val E
 | [],_,aV,t,h=>⟨aV,Ren.le_refl _,h,λ_ _ _ i h hm=>by cases hm⟩
 | (i,x)::r,tmps,aV,t,hh=>by
   simp only[su] at hh;split at hh
   ·rename_i u hu;obtain⟨r1,h1,h2,h3⟩:=vR hh;obtain⟨r2,g1,g2,g3⟩:=pV h2;refine⟨r2,Ren.le_trans h1 g1,g2,λr'' E hle j h hm=> ?_⟩;rw[W] at hm;rcases hm with hm | hm
    ·injection hm with e1 e2;subst e1;subst e2;exact⟨u,hu,h3 r'' E (Ren.le_trans g1 hle)⟩
    ·exact g3 r'' E hle j h hm
   ·exact hh.elim
theorem qU {aV ren':Ren}(h:aV.le ren')(hk:dX base aV kh=C k1):dX base ren' kh=C k1:=by
 unfold dX at hk ⊢;split at hk
 ·exact hk
 ·exact h _ _ hk
theorem xp {aV:Ren}:aV.le (AW base m kh k1 aV):=by
 unfold AW;split
 ·rename_i hn _;split
  ·intro k v hv;by_cases e:kh=k
   ·subst e;rw[hn] at hv;cases hv
   ·simp only[Ren.get,e,if_false];exact hv
  ·exact Ren.le_refl _
 ·exact Ren.le_refl _
theorem k6 {base:Nat}{m:Mem}: ∀ {a b:List aE} {aV:Ren},aV.le (iX base m a b aV)
 | a,b,aV=>by
   unfold iX;split
   ·exact Ren.le_trans xp k6
   ·exact Ren.le_trans xp k6
   ·exact k6
   ·exact Ren.le_refl _
theorem H7 {B' B:SB}{aV:Ren}:aV.le (pU base m B' B aV):=by unfold pU;split<;>first | exact k6 | exact xp | exact Ren.le_refl _
def CD (base:Nat)(m:Mem)(used:List Nat)(aV:Ren)(kh:Nat)(B':SB):Prop :=∀ b a,B'.iz b a->∃ k1 B,dX base aV kh=C k1/\k1∉ used/\m.get k1=C B/\B.iz b a/\(∀ E o,bS E (B.el a) o->bS (Ren.E base aV E) (B'.el a) o)/\(B'.ro=H->B.ro=H)
theorem iC {base:Nat}{m:Mem}: ∀ {l:List (Nat×SB)} {used:List Nat} {aV:Ren} {t:Ren->VC},(gC base m l used aV t).holds ->
  ∃ ren',aV.le ren'/\(t ren').holds/\∀ ren'',ren'.le ren''->(∀ kh B',Mem.get kh l=C B'->CD base m used ren'' kh B') /\
    (∀ kh kh' B B' k1,Mem.get kh l=C B->(∃ b a,B.iz b a)->Mem.get kh' l=C B'->(∃ b a,B'.iz b a)->dX base ren'' kh=C k1->dX base ren'' kh'=C k1->kh=kh')
 | [],_,aV,t,h=>⟨aV,Ren.le_refl _,h,λ_ _=>⟨(λ_ _ h=>by cases h),(λ_ _ _ _ _ h=>by cases h)⟩⟩
 | (k0,B0)::r,used,aV,t,hh=>by
   simp only[gC] at hh;split at hh
   ·rename_i k1 hk1;split at hh
    ·exact hh.elim
    ·rename_i hnu;have hnu:k1∉ used:=by simpa using hnu
     split at hh
     ·rename_i B hB
      have key: ∀ {ren1:Ren},aV.le ren1->(∀ ren'',ren1.le ren''->CD base m used ren'' k0 B0)->(gC base m r (k1::used) ren1 t).holds ->
        ∃ ren',aV.le ren'/\(t ren').holds/\∀ ren'',ren'.le ren''->(∀ kh B',Mem.get kh ((k0,B0)::r)=C B'->CD base m used ren'' kh B') /\
          (∀ kh kh' B B' k1,Mem.get kh ((k0,B0)::r)=C B->(∃ b a,B.iz b a)->Mem.get kh' ((k0,B0)::r)=C B'->(∃ b a,B'.iz b a)->dX base ren'' kh=C k1->dX base ren'' kh'=C k1->kh=kh'):=by
       intro ren1 hle1 h0 hr;obtain⟨ren2,hle2,ht,g⟩:=iC hr;refine⟨ren2,Ren.le_trans hle1 hle2,ht,λren'' hle=> ?_⟩;obtain⟨g2,g3⟩:=g ren'' hle;have hk1'':dX base ren'' k0=C k1:=qU (Ren.le_trans hle1 (Ren.le_trans hle2 hle)) hk1;refine⟨λkh B' hg=> ?_,λkh kh' X X' q hg hn hg' hn' hq hq'=> ?_⟩
       ·rcases Mem.fH hg with ⟨rfl,rfl⟩ | ⟨_,hg⟩
        ·exact h0 ren'' (Ren.le_trans hle2 hle)
        ·intro b a hn;obtain⟨q,Y,h1,h2,h3⟩:=g2 kh B' hg b a hn;exact⟨q,Y,h1,λhm=>h2 (b9 _ hm),h3⟩
       ·rcases Mem.fH hg with ⟨e1,_⟩ | ⟨_,hgr⟩<;>rcases Mem.fH hg' with ⟨e2,_⟩ | ⟨_,hgr'⟩
        ·exact e1.trans e2.symm
        ·subst e1;rw[hk1''] at hq;injection hq with hq;subst hq;obtain⟨b,a,hn'⟩:=hn';obtain⟨q2,Y,h1,h2,_⟩:=g2 kh' X' hgr' b a hn';rw[hq'] at h1;injection h1 with h1;subst h1;exact absurd (b_ ..) h2
        ·subst e2;rw[hk1''] at hq';injection hq' with hq';subst hq';obtain⟨b,a,hn⟩:=hn;obtain⟨q2,Y,h1,h2,_⟩:=g2 kh X hgr b a hn;rw[hq] at h1;injection h1 with h1;subst h1;exact absurd (b_ ..) h2
        ·exact g3 kh kh' X X' q hgr hn hgr' hn' hq hq'
      split at hh
      ·rename_i hwf;have hle:ah B B0:=hh.1;refine key H7 (λren'' hl b0 a0 hn=> ?_) hh.2;obtain⟨a,b,c⟩:=hle.2 b0 a0 hn;exact⟨k1,B,qU (Ren.le_trans H7 hl) hk1,hnu,hB,a,λE o ho=>(b E o ho).congr (λk hk=>Ren.Nj hk) (SB.Hu hwf a0),c⟩
      ·split at hh
       ·rename_i cs' tot' ty' cs tot ty _;split at hh
        ·rename_i hty;obtain⟨htot,hh⟩:=hh;have htot:tot'=tot:=htot;obtain⟨ren1,hle1,hr,hv⟩:=gd hh;refine key hle1 (λren'' hl b0 a0 hn=>⟨k1,_,qU (Ren.le_trans hle1 hl) hk1,hnu,hB,hn,λE o ho=> ?_,id⟩) hr;obtain⟨c,fr,h1,h2,h3,h4⟩:=ho;refine⟨c,fr,by rw[hty];exact h1,h2,λi v hvi=> ?_,by rw[htot];exact h4⟩;have hvv:=hv ren'' E hl;rw[SV.bP,SV.bP] at hvv;have:(cs'.map (SV.val (Ren.E base ren'' E)))[i]?=C (v.val (Ren.E base ren'' E)):=by rw[b5,hvi];rfl
         rw[hvv,b5] at this;cases hc:cs[i]? with
         | none=>rw[hc] at this;cases this
         | some u =>rw[hc] at this;injection this with this;rw[← this];exact h3 i u hc
        ·exact hh.elim
       ·exact hh.elim
     ·exact hh.elim
   ·split at hh
    ·have hh:(∀ b a,¬ B0.iz b a)/\(gC base m r used aV t).holds:=by
      cases hF:B0.jg with
      | true=>rw[hF] at hh;exact⟨λb a ha=>hh.1 a (SB.Yc hF ha),hh.2⟩
      | false =>rw[hF] at hh;refine⟨λb a ha=> ?_,hh.2⟩;have h1:B0.no=true:=hh.1;rw[((SB.iH hF).1 ha).1] at h1;cases h1
     obtain⟨ren2,hle2,ht,g⟩:=iC hh.2;have hno:=hh.1;refine⟨ren2,hle2,ht,λren'' hle=> ?_⟩;obtain⟨g2,g3⟩:=g ren'' hle;refine⟨λkh B' hg=> ?_,λkh kh' X X' q hg hn hg' hn' hq hq'=> ?_⟩
     ·rcases Mem.fH hg with ⟨rfl,rfl⟩ | ⟨_,hg⟩
      ·exact λb a hn=>(hno b a hn).elim
      ·exact g2 kh B' hg
     ·rcases Mem.fH hg with ⟨_,rfl⟩ | ⟨_,hgr⟩
      ·obtain⟨b,a,hn⟩:=hn;exact(hno b a hn).elim
      ·rcases Mem.fH hg' with ⟨_,rfl⟩ | ⟨_,hgr'⟩
       ·obtain⟨b,a,hn'⟩:=hn';exact(hno b a hn').elim
       ·exact g3 kh kh' X X' q hgr hn hgr' hn' hq hq'
    ·exact hh.elim
def ZX:SV->Option Nat
 | .ptr k _ _=>C k
 | .kN k _ _ _=>C k
 | .oB k _ _ _=>C k
 | .slc k _ _ _ _=>C k
 | .bx k _ _ _ _ _=>C k
 | .map k=>C k
 | .yield k=>C k
 | .fY k _ _=>C k
 | .fc k _ _ _ _ _ _=>C k
 | _=>I
def dropKeys (base:Nat)(tmps:List (Option SV)):List (Nat×SV)->List Nat
 | []=>[]
 | (i,h)::r=>match ZX h with
   | some kh=>(match L kh base with
     | true=>dropKeys base tmps r
     | false=>(match slot tmps i with
       | some u=>(match ZX u with
         | some k1=>k1::dropKeys base tmps r
         | none=>dropKeys base tmps r)
       | none=>dropKeys base tmps r))
   | none=>dropKeys base tmps r
def jX (ks:List Nat):Mem->Mem
 | []=>[]
 | e::r=>match ks.contains e.1 with
   | true=>jX ks r
   | false=>e::jX ks r
def aX.UI (A:aX)(st:St)(x:A.α):Mem :=A.mem st x++jX ((A.mem st x).map (·.1)++(dropKeys st.nx st.tmps (A.slots st x)++A.drop st)) st.m
def hd (body:Code)(A:aX)(st:St)(x:A.α):St :=⟨kC (A.slots st x) (forget (written body) st.tmps),A.UI st x,st.nx+A.fresh⟩
def p9 (body:Code)(A:aX)(st:St)(x:A.α):Bool :=(A.slots st x).all (λp=>(written body).contains p.1&&p.2.wf (st.nx+A.fresh))&&(A.UI st x).all (λp=>L p.1 (st.nx+A.fresh))
def tg (body:Code)(A:aX)(st:St)(y:A.α)(st1:St):VC :=
 match p9 body A st y with
 | true=>RK (A.gh st1) st1.tmps st1.m (λtmps m=>su st.nx (A.slots st y) tmps [] (λaV=>gC st.nx m (A.UI st y) [] aV (λ_=>.tt)))
 | false=>.fail "loop: the annotation"
theorem m9: ∀ {l:List Nat} {tmps:List (Option SV)},(forget l tmps).length=tmps.length
 | [],_=>rfl
 | i::r,tmps=>by simp[forget,m9 (l:=r)]
theorem kR: ∀ {l:List (Nat×SV)} {tmps:List (Option SV)},(kC l tmps).length=tmps.length
 | [],_=>rfl
 | (i,v)::r,tmps=>by simp[kC,kR (l:=r)]
theorem tw: ∀ {l:List Nat} {tmps:List (Option SV)} {i:Nat} {v:SV},(forget l tmps)[i]?=C (C v)->tmps[i]?=C (C v)/\i∉ l
 | [],_,_,_,h=>⟨h,by simp⟩
 | j::r,tmps,i,v,h=>by
   simp only[forget] at h;have:=tw h;rw[b6] at this;split at this
   ·rename_i e;subst e;split at this
    ·simp at this
    ·simp at this
   ·rename_i e;refine⟨this.1,?_⟩;rw[W];rintro(h1 | h1)
    ·exact e h1.symm
    ·exact this.2 h1
theorem C7: ∀ {l:List Nat} {tmps:List (Option SV)} {i:Nat},i∉ l->(forget l tmps)[i]?=tmps[i]?
 | [],_,_,_=>rfl
 | j::r,tmps,i,h=>by rw[W] at h;simp only[forget];rw[C7 (λx=>h (.inr x)),b6,if_neg (λe=>h (.inl e.symm))]
theorem oX: ∀ {l:List (Nat×SV)} {tmps:List (Option SV)} {i:Nat} {v:SV},(kC l tmps)[i]?=C (C v)->(i,v)∈ l∨(tmps[i]?=C (C v)/\∀ u,(i,u)∉ l)
 | [],_,_,_,h=>.inr ⟨h,λ_ h=>by cases h⟩
 | (j,x)::r,tmps,i,v,h=>by
   simp only[kC] at h;rcases oX h with h | ⟨h',hn⟩
   ·exact .inl (b9 _ h)
   ·rw[b6] at h';by_cases e:j=i
    ·subst e;rw[if_pos rfl] at h';split at h'
     ·injection h' with h';injection h' with h';subst h';exact .inl (b_ ..)
     ·cases h'
    ·rw[if_neg e] at h';refine .inr ⟨h',λu hu=> ?_⟩;rw[W] at hu;rcases hu with hu | hu
     ·injection hu with e1 _;exact e e1.symm
     ·exact hn u hu
theorem yR: ∀ {l:List (Nat×SV)} {tmps:List (Option SV)} {i:Nat},(∀ u,(i,u)∉ l)->(kC l tmps)[i]?=tmps[i]?
 | [],_,_,_=>rfl
 | (j,x)::r,tmps,i,h=>by simp only[kC];rw[yR (λu hu=>h u (b9 _ hu)),b6,if_neg (λe=>h x (by subst e;exact b_ ..))]
theorem sD {nx:Nat}: ∀ {l:List (Option SV)},(∀(i:Nat) (v:SV),l[i]?=C (C v)->v.wf nx=G)->dw nx l=G
 | [],_=>rfl
 | none::r,h=>sD (l:=r) λi v hv=>h (i+1) v (by simpa using hv)
 | some x::r,h=>by simp only[dw,J];exact⟨h 0 x rfl,sD λi v hv=>h (i+1) v (by simpa using hv)⟩
theorem oC {body:Code}{A:aX}{st st1:St}{y:A.α}(h:(tg body A st y st1).holds){E:Nat->Nat}
  (hnx:Γ.uF<=st.nx) (hwt:dw st.nx st.tmps=G) (hkeep: ∀ i,i∉ written body->st1.tmps[i]?=st.tmps[i]?) (hlen:st1.tmps.length=st.tmps.length) (hs:Sat Γ E st1 a w) :
  ∃ E',(∀ k,k<st.nx->E' k=E k)/\Sat Γ E' (hd body A st y) a w:=by
 unfold tg at h;split at h
 ·rename_i hok;simp only[p9,J,Z,ag,b!] at hok;obtain⟨tmps',m',htold,hsm,h⟩:=nL h hs.mm;obtain⟨ren1,_,h1,h2⟩:=pV h;obtain⟨aV,hle,_,h34⟩:=iC h1;obtain⟨h3,h4⟩:=h34 aV (Ren.le_refl _);have hold: ∀ k,k<st.nx->Ren.E st.nx aV E k=E k:=λk hk=>Ren.Nj hk;refine⟨Ren.E st.nx aV E,hold,⟨⟨by simp[hd,kR,m9,hs.tm.size,hlen],λi v hv=> ?_⟩,sD λi v hv=> ?_,hs.df,?_⟩⟩
  ·rcases oX hv with hm | ⟨hv,_⟩
   ·obtain⟨u,hu,hval⟩:=h2 aV E hle i v hm;obtain⟨v0,q1,q2,_⟩:=htold.get i u (m5 hu);rw[hval,q2];exact hs.tm.val i v0 q1
   ·obtain⟨hv,hn⟩:=tw hv;have:=hs.tm.val i v (by rw[hkeep i hn];exact hv);rw[SV.val_congr hold v (jS hwt hv)];exact this
  ·rcases oX hv with hm | ⟨hv,_⟩
   ·exact(hok.1 (i,v) hm).2
   ·obtain⟨hv,hn⟩:=tw hv;exact SV.fE (ef _ _) v (jS hwt hv)
  ·have hE: ∀ kh k1,dX st.nx aV kh=C k1->Ren.E st.nx aV E kh=E k1:=λkh k1 hr=>by simp[Ren.E,hr]
   refine⟨λkh B' a hg hn=> ?_,λkh kh' B B' a hg hn hg' hn' hr=> ?_,λkh B' hg=> ?_,λkh B' a hg hn hro=> ?_,hsm.ext,⟨bh hnx (ef _ _),λk hk=>(hold k (M hk hnx)).trans (hsm.cx.2 k hk)⟩,hsm.kp⟩
   ·obtain⟨k1,B,g1,_,g3,g5,g6,_⟩:=h3 kh B' hg _ a hn;rw[hE kh k1 g1] at g5;obtain⟨o,ho,hb⟩:=hsm.gD k1 B a g3 g5;exact⟨o,ho,g6 E o hb⟩
   ·obtain⟨k1,X,g1,_,g3,g5,_,g7⟩:=h3 kh B hg _ a hn;obtain⟨k1',X',g1',_,g3',g5',_,g7'⟩:=h3 kh' B' hg' _ a hn';rw[hE kh k1 g1] at g5;rw[hE kh' k1' g1'] at g5';have:=hsm.iq k1 k1' X X' a g3 g5 g3' g5' (hr.imp g7 g7');subst this;exact h4 kh kh' B B' k1 hg ⟨_,_,hn⟩ hg' ⟨_,_,hn'⟩ g1 g1'
   ·have: ∀(l:List (Nat×SB)),(∀ p∈ l,p.1<st.nx+A.fresh)->Mem.get kh l=C B'->kh<st.nx+A.fresh:=by
     intro l;induction l with
     | nil=>intro _ h;cases h
     | cons e r ih =>
       intro ha hg;by_cases e1:e.1=kh
       ·rw[← e1];exact ha e (by simp)
       ·simp only[Mem.get,e1,if_false] at hg;exact ih (λp hp=>ha p (by simp[hp])) hg
    exact this _ hok.2 hg
   ·obtain⟨k1,B,g1,_,g3,g5,_,g7⟩:=h3 kh B' hg _ a hn;rw[hE kh k1 g1] at g5;exact hsm.iM k1 B a g3 g5 (g7 hro)
 ·exact h.elim
def older (nx:Nat):Mem->Mem
 | []=>[]
 | e::r=>match L e.1 nx with
   | true=>e::older nx r
   | false=>older nx r
def KQ (nx:Nat):Mem->Bool
 | []=>G
 | e::r=>match e.2 with
   | .fmap _ (.ref k _) _=>L k nx&&KQ nx r
   | _=>KQ nx r
def n7 (nx:Nat)(v:SV)(m':Mem)(nx':Nat)(K:SV->Mem->Nat->VC):VC :=
 match v.wf nx&&(Mem.wf nx (older nx m')&&KQ nx (older nx m'))with
 | true=>K v (older nx m') nx
 | false=>K v m' nx'
theorem lJ {nx:Nat}: ∀ {m:Mem} {k:Nat} {B:SB},(older nx m).get k=C B->m.get k=C B/\k<nx
 | [],_,_,h=>by cases h
 | e::r,k,B,h=>by
   simp only[older] at h;cases hb:L e.1 nx with
   | true =>
     rw[hb] at h;simp only at h;by_cases he:e.1=k
     ·rw[Mem.get,if_pos he] at h ⊢;exact⟨h,by rw[← he];simpa [ag] using hb⟩
     ·rw[Mem.get,if_neg he] at h ⊢;exact lJ h
   | false =>
     rw[hb] at h;have:=lJ h;refine⟨?_,this.2⟩;rw[Mem.get,if_neg (λe1=> ?_)]
     ·exact this.1
     ·have h2:=this.2;have h3: ¬ (e.1<nx):=by
       intro hlt;have h4:L e.1 nx=true:=by rw[ag];exact hlt
       rw[h4] at hb;cases hb
      omega
theorem pg {E:Nat->Nat}(h:(n7 nx v m' nx' K).holds)(hs:aO Γ E' m' nx' w)
  (hg:Γ.uF<=nx) (hE: ∀ k,k<nx->E' k=E k) (hn:nx<=nx'):bF (lift K) Γ E nx (v.val E') w:=by
 unfold n7 at h;split at h
 ·rename_i hw;simp only[J] at hw;exact⟨E',C v,older nx m',nx,hE,a_ _,λu hu=>by injection hu with hu;subst hu;rfl,hs.sub (λk B hk=>(lJ hk).1) (λk B hk=>(lJ hk).2) (.inr hg),h⟩
 ·exact⟨E',C v,m',nx',hE,hn,λu hu=>by injection hu with hu;subst hu;rfl,hs,h⟩
theorem sq {K':SV->Mem->Nat->VC}(hK: ∀ v m nx,(K v m nx).holds->(K' v m nx).holds)(h:(n7 nx v m' nx' K).holds):(n7 nx v m' nx' K').holds:=by
 unfold n7 at h ⊢;split at h
 ·exact hK _ _ _ h
 ·exact hK _ _ _ h
mutual
def SV.refs:SV->List Nat->List Nat
 | .ptr key _ _,l=>key::l
 | .kN key _ _ _,l=>key::l
 | .oB key _ _ _,l=>key::l
 | .slc key _ _ _ _,l=>key::l
 | .bx key _ _ _ _ _,l=>key::l
 | .aS key _ _ _ _ _ _,l=>key::l
 | .iD key _ _ _ _,l=>key::l
 | .map key,l=>key::l
 | .yield key,l=>key::l
 | .fY key _ _,l=>key::l
 | .fc key _ _ _ _ _ _,l=>key::l
 | .m8 key _ _ _ _,l=>key::l
 | .agg cs,l=>SV.D1 cs l
 | .aD vs,l=>SV.D1 vs l
 | .iface _ v,l=>v.refs l
 | .func _ a b,l=>SV.D1 a (SV.D1 b l)
 | _,l=>l
def SV.D1:List SV->List Nat->List Nat
 | [],l=>l
 | x::r,l=>x.refs (SV.D1 r l)
end
def Tp:List (Nat×SV×SV)->List Nat->List Nat
 | [],l=>l
 | e::r,l=>e.2.1.refs (e.2.2.refs (Tp r l))
def oG:List aE->List Nat->List Nat
 | [],l=>l
 | .ref key _::r,l=>key::oG r l
 | .fc key _ _ _ _ _::r,l=>key::oG r l
 | _::r,l=>oG r l
def SB.refs:SB->List Nat->List Nat
 | .cells cs _ _,l=>SV.D1 cs l
 | .map es _,l=>Tp es l
 | .W8 (C k) _ _ _,l=>k::l
 | .rows _ _ az _ _ _,l=>oG az l
 | .view _ _ _ az,l=>oG az l
 | .tq _ cs _ _ _,l=>oG cs l
 | .j8 _ _ az _,l=>oG (az.map (dx.at 0)) l
 | .fmap _ (.ref k _) _,l=>k::l
 | _,l=>l
def zR (nx:Nat):Mem->List Nat->List Nat
 | [],l=>l
 | e::r,l=>match L e.1 nx,e.2 with
   | true,B=>B.refs (zR nx r l)
   | false,.loop .. =>e.1::zR nx r l
   | false,_=>zR nx r l
def abc (k:Nat):List Nat->Bool
 | []=>H
 | x::r=>match T x k with
   | true=>G
   | false=>abc k r
def Gl:Nat->List Nat->List Nat->Mem->List Nat
 | 0,_,seen,_=>seen
 | _+1,[],seen,_=>seen
 | f+1,k::r,seen,m=>match abc k seen with
   | true=>Gl f r seen m
   | false=>(match m.get k with
     | some B=>Gl f (B.refs r) (k::seen) m
     | none=>Gl f r seen m)
def AN (p:Nat->Bool):Mem->Mem
 | []=>[]
 | e::r=>match p e.1 with
   | true=>e::AN p r
   | false=>AN p r
def ZY (nx:Nat)(v:SV)(m:Mem):Mem :=
 let live:=Gl 100000 (v.refs (zR nx m [])) [] m
 AN (λk=>match L k nx with
  | true=>G
  | false=>abc k live) m
theorem rT {p:Nat->Bool}: ∀ {m:Mem} {k:Nat} {B:SB},(AN p m).get k=C B->m.get k=C B
 | [],_,_,h=>by cases h
 | e::r,k,B,h=>by
   simp only[AN] at h;cases hp:p e.1 with
   | true =>
     rw[hp] at h;simp only at h;by_cases he:e.1=k
     ·rw[Mem.get,if_pos he] at h ⊢;exact h
     ·rw[Mem.get,if_neg he] at h ⊢;exact rT h
   | false =>
     rw[hp] at h;have hk:p k=true:=by
      clear hp;have: ∀ {m:Mem},(AN p m).get k=C B->p k=true:=by
       intro m;induction m with
       | nil=>intro h;cases h
       | cons e r ih =>
         intro h;simp only[AN] at h;cases hp:p e.1 with
         | true =>
           rw[hp] at h;simp only at h;by_cases he:e.1=k
           ·rw[← he];exact hp
           ·rw[Mem.get,if_neg he] at h;exact ih h
         | false=>rw[hp] at h;exact ih h
      exact this h
     have he: ¬ e.1=k:=λhe=>by rw[he,hk] at hp;cases hp
     rw[Mem.get,if_neg he];exact rT h
def Vr (g:Bool)(nx:Nat)(v:SV)(m':Mem)(nx':Nat)(K:SV->Mem->Nat->VC):VC:=match g with
 | false=>n7 nx v m' nx' K
 | true=>n7 nx v (ZY nx v m') nx' K
theorem aO.adl {E:Nat->Nat}(hs:aO Γ E m' nx' w):aO Γ E (ZY nx v m') nx' w :=hs.sub (λ_ _ h=>rT h) (λ_ _ h=>hs.lt _ _ (rT h)) (.inl (a_ _))
theorem MA {g:Bool}{E:Nat->Nat}(h:(Vr g nx v m' nx' K).holds)(hs:aO Γ E' m' nx' w)
  (hg:Γ.uF<=nx) (hE: ∀ k,k<nx->E' k=E k) (hn:nx<=nx'):bF (lift K) Γ E nx (v.val E') w:=by
 cases g with
 | false=>exact pg h hs hg hE hn
 | true=>exact pg h hs.adl hg hE hn
theorem D5 {g:Bool}{K':SV->Mem->Nat->VC}(hK: ∀ v m nx,(K v m nx).holds->(K' v m nx).holds)(h:(Vr g nx v m' nx' K).holds):(Vr g nx v m' nx' K').holds:=by
 cases g with
 | false=>exact sq hK h
 | true=>exact sq hK h
inductive Ex where
 | normal
 | exit (id:Nat)
 | ret
def Ex.to:Ex->Exit
 | .normal=>.normal
 | .exit id=>.exit id
 | .ret=>.ret
def Ex.jump:Ex->Option Code
 | .normal=>I
 | .exit id=>C (.exit id)
 | .ret=>C .ret
abbrev XK:=Ex->St->VC
abbrev XP:=SV->St->VC
def zM:XP:=λ_ _=>.fail "a panic"
def zq:PK:=λ_ _ _=>.fail "a panic"
def nB (X:XP)(Γ:bg)(E:Nat->Nat)(nx:Nat)(e:Exit)(a:Act)(w:World):Prop :=∃ v E' st',e=.panic [{v:=SV.val E' v,recovered:=H}]/\v.wf st'.nx=G/\(∀ k,k<nx->E' k=E k)/\nx<=st'.nx/\Sat Γ E' st' a w/\(X v st').holds
def gx (K:XK)(X:XP)(Γ:bg)(E:Nat->Nat)(nx:Nat)(e:Exit)(a:Act)(w:World):Prop :=(∃ ex:Ex,e=ex.to/\iK (K ex) Γ E nx a w)∨nB X Γ E nx e a w
theorem nB.weaken {X:XP}{E:Nat->Nat}(h:nB X Γ E' nx' e a w)(hE: ∀ k,k<nx->E' k=E k)(hn:nx<=nx') :
  nB X Γ E nx e a w:=by
 obtain⟨v,E'',st'',k0,kw,k1,k2,k3,k4⟩:=h;exact⟨v,E'',st'',k0,kw,λk hk=>(k1 k (M hk hn)).trans (hE k hk),bh hn k2,k3,k4⟩
theorem gx.weaken {K:XK}{X:XP}{E:Nat->Nat}(h:gx K X Γ E' nx' e a w)(hE: ∀ k,k<nx->E' k=E k)(hn:nx<=nx') :
  gx K X Γ E nx e a w:=by
 rcases h with ⟨ex,he,E'',st'',k1,k2,k3,k4⟩ | h
 ·exact .inl ⟨ex,he,E'',st'',λk hk=>(k1 k (M hk hn)).trans (hE k hk),bh hn k2,k3,k4⟩
 ·exact .inr (h.weaken hE hn)
theorem nB.none {E:Nat->Nat}(h:nB zM Γ E nx e a w):False:=by obtain⟨_,_,_,_,_,_,_,_,h⟩:=h;exact h.elim
theorem Mem.fE (h:n<=k): ∀ {m:Mem},Mem.wf n m=G->Mem.wf k m=G
 | [],_=>rfl
 | e::r,hm=>by simp only[Mem.wf,J] at hm ⊢;exact⟨SB.fE h hm.1,Mem.fE h hm.2⟩
def q8:List Nat->List SV->List (Option SV)->List (Option SV)
 | p::ps,v::vs,t=>q8 ps vs (t.set p (C v))
 | _,_,t=>t
theorem Jw {E:Nat->Nat}{ds:List Deferred}: ∀ {ps:List Nat} {vs:List SV} {tmps:List (Option SV)} {ts:Array Value},cP E tmps ⟨ts,ds⟩ ->
  cP E (q8 ps vs tmps) ⟨(ps.zip (SV.vals E vs)).foldl (λt (p,v)=>t.setIfInBounds p v) ts,ds⟩
 | [],vs,tmps,ts,h=>by simpa [q8] using h
 | p::ps,[],tmps,ts,h=>by simpa [q8,SV.vals] using h
 | p::ps,v::vs,tmps,ts,h=>by simp only[q8,SV.vals,List.zip_cons_cons,List.foldl_cons];refine Jw ?_;have:=h.put (dst:=C p) (sv:=C v) (r:=v.val E) (λu hu=>by injection hu with hu;subst hu;rfl);exact this
theorem Jx {nx:Nat}: ∀ {ps:List Nat} {vs:List SV} {tmps:List (Option SV)},dw nx tmps=G->SV.e9 nx vs=G->dw nx (q8 ps vs tmps)=G
 | [],vs,tmps,h,_=>by simpa [q8] using h
 | p::ps,[],tmps,h,_=>by simpa [q8] using h
 | p::ps,v::vs,tmps,h,hv=>by simp only[SV.e9,J] at hv;simp only[q8];exact Jx (pN h (λu hu=>by injection hu with hu;subst hu;exact hv.1)) hv.2
def pR (kl:Nat)(R:Loop)(ps:List Nat)(tmps0:List (Option SV))(fa fb:XK->St->VC):PT:=λargs m nx K =>
 match m.get kl,T ps.length args.length with
 | some (.loop .ready I R'),G=>.and (jG R' R) (fa (λe st1=>match e with
    | .normal=>(match st1.m.get kl with
      | some (.loop .ready pe R1)=>fb (λe st2=>match st2.m.get kl with
         | some (.loop _ _ R2)=>(match e with
           | .normal=>n7 nx (.bool G G) (st2.m.put kl (.loop .ready I R2)) st2.nx K
           | .exit id=>n7 nx (.bool G H) (st2.m.put kl (.loop .done (C (.exit id)) R2)) st2.nx K
           | .ret=>n7 nx (.bool G H) (st2.m.put kl (.loop .done (C .ret) R2)) st2.nx K)
         | _=>.fail "yield: the record") ⟨st1.tmps,st1.m.put kl (.loop .busy pe R1),st1.nx⟩
      | _=>.fail "yield: the record")
    | _=>.fail "yield: a jump out of an assignment") ⟨q8 ps args tmps0,m,nx⟩)
 | _,_=>.fail "yield: the record"
section
variable {P : Program} {Γ : bg}
theorem aO.Ga {E:Nat->Nat}(h:aO Γ E m nx w){st st':LoopState}{pe pe':Option Code}(hk:m.get k=C (.loop st pe R)) :
  aO Γ E (m.put k (.loop st' pe' R)) nx (w.putObj (E k) (.loop {R with state:=st',pending:=pe'})) :=
 h.write hk rfl rfl rfl rfl
theorem Ni {kl l:Nat}{tmps0:List (Option SV)}{fa fb:XK->St->VC}{E1:Nat->Nat}(hkl:kl<Γ.uF)(hl:Γ.E0 kl=l)(h1: ∀ k,k<kl->Γ.E0 k=E1 k)
  (ht:cP E1 tmps0 ⟨R.tmps,[]⟩) (hw:dw kl tmps0=G)
  (ia: ∀ Δ,Γ.le Δ->∀ K st E a w,(fa K st).holds->Sat Δ E st a w->R.assign.wpIn (Fr (C l)) 0 P (gx K zM Δ E st.nx) a w)
  (ib: ∀ Δ,Γ.le Δ->∀ K st E a w,(fb K st).holds->Sat Δ E st a w->R.body.wpIn (Fr (C l)) 0 P (gx K zM Δ E st.nx) a w) (KP:PK) :
  pW P Γ KP (.yield kl) (pR kl R R.params.toList tmps0 fa fb):=by
 intro Δ' hle' args m nx K h hwf hargs E w hs';refine Out.mono (R:=bF (lift K) Δ'.own E nx) (RP:=ij KP Δ'.own E nx) ?_ (λ_ _ h=>h.zc) (λ_ _ h=>h.zc);have hle:=bg.le_trans hle' Δ'.U3;have hs:=hs'.adf;have htl:Δ'.own.tail=[]:=rfl;generalize Δ'.own=Δ at hle hs htl ⊢;unfold pR at h;have hkΔ:kl<Δ.uF:=M hkl hle.nx;have hEl: ∀ E':Nat->Nat,(∀ k,k<Δ.uF->E' k=Δ.E0 k)->E' kl=l:=λE' hE'=>(hE' kl hkΔ).trans ((hle.e kl hkl).trans hl);split at h
 ·rename_i R' hk hlen;obtain⟨hR,h⟩:=h;have hR:R'=R:=hR;subst hR;have hlen:R'.params.toList.length=args.length:=Nat.eq_of_beq_eq_true hlen;have hE:E kl=l:=hEl E hs.cx.2;obtain⟨o,ho,hb⟩:=hs.ny kl _ hk rfl;have hb:o=.loop {R' with state:=.ready,pending:=I}:=hb;subst hb;rw[hE] at ho;have hrun:(mF.sem E (.yield kl) (SV.vals E args).toArray).run P w=.ok (.round l R'.fn ((R'.params.zip (SV.vals E args).toArray).foldl (λtmps (t,a)=>tmps.setIfInBounds t a) R'.tmps) R'.assign R'.body) w:=by simp only[mF.sem,hE];exact run_yield (r:={R' with state:=.ready,pending:=I}) ho (by simpa [SV.bP] using hlen.symm)
  rw[hrun];simp only[Out];have hE1: ∀ k,k<kl->E k=E1 k:=λk hk=>(hs.cx.2 k (ei hk hkΔ)).trans ((hle.e k (ei hk hkl)).trans (h1 k hk));have hnx:kl<=nx:=Nat.le_of_lt (M hkΔ hs.cx.1);have hsat:Sat Δ E ⟨q8 R'.params.toList args tmps0,m,nx⟩ ⟨(R'.params.zip (SV.vals E args).toArray).foldl (λtmps (t,a)=>tmps.setIfInBounds t a) R'.tmps,[]⟩ w:=by refine⟨?_,Jx (i9 hnx hw) hargs,Marks.nil _ _ htl,hs⟩;have:=Jw (ps:=R'.params.toList) (vs:=args) (ht.congr hw hE1);rw[← Array.foldl_toList,Array.toList_zip];exact this
  refine roundIn_of_wpIn (F:=Fence.wide) trivial (wpIn_mono (ia Δ hle _ _ E _ w h hsat) ?_);rintro e a1 w1 (⟨ex,rfl,E2,st1,g1,g2,g3,g4⟩ | hp)
  rotate_left
  ·exact hp.none.elim
  cases ex with
  | exit id=>exact g4.elim
  | ret=>exact g4.elim
  | normal =>
    simp only[Ex.to,Exit.then]
    simp only at g4;split at g4
    ·rename_i pe R1 hk1;have hE2:E2 kl=l:=hEl E2 g3.mm.cx.2;obtain⟨o1,ho1,hb1⟩:=g3.mm.ny kl _ hk1 rfl;have hb1:o1=.loop {R1 with state:=.ready,pending:=pe}:=hb1;subst hb1;rw[hE2] at ho1;refine⟨_,run_beginRound ho1 rfl,?_⟩;have hm2:=g3.mm.Ga (st':=.busy) (pe':=pe) hk1;rw[hE2] at hm2;have hsat2:Sat Δ E2 ⟨st1.tmps,st1.m.put kl (.loop .busy pe R1),st1.nx⟩ a1 (w1.putObj l (.loop {R1 with state:=.busy,pending:=pe})):=by
      refine⟨g3.tm,g3.wt,?_,hm2⟩;obtain⟨Ds,d1,d2,d3,d4⟩:=g3.df;refine⟨Ds,d1,d2,λD hD=>⟨?_,(d3 D hD).2⟩,d4⟩;have hne:D≠l:=λe=>by have:=(d3 D hD).1;rw[e,ho1] at this;cases this
      rw[World.putObj_heap_other hne];exact(d3 D hD).1
     refine wpIn_mono (ib Δ hle _ _ E2 _ _ g4 hsat2) ?_;rintro e a2 w2 (⟨ex,rfl,E3,st2,q1,q2,q3,q4⟩ | hp)
     rotate_left
     ·exact hp.none.elim
     simp only at q4;split at q4
     ·rename_i s2 pe2 R2 hk2;have hE3:E3 kl=l:=hEl E3 q3.mm.cx.2;obtain⟨o2,ho2,hb2⟩:=q3.mm.ny kl _ hk2 rfl;have hb2:o2=.loop {R2 with state:=s2,pending:=pe2}:=hb2;subst hb2;rw[hE3] at ho2;have hEE: ∀ k,k<nx->E3 k=E k:=λk hk=>(q1 k (M hk g2)).trans (g1 k hk);have hnn:nx<=st2.nx:=bh g2 q2
      have fin: ∀(j:Option Code),(n7 nx (.bool G j.isNone) (st2.m.put kl (.loop (if j.isNone then .ready else .done) j R2)) st2.nx K).holds ->
        ∃ v w',(Instr.endRound l j).run P w2=.ok v w'/\∃ u,Ending.returned v=.returned u/\bF (lift K) Δ E nx u w':=by
       intro j hh;refine⟨_,_,run_endRound j ho2,_,rfl,?_⟩;have hm3:=q3.mm.Ga (st':=if j.isNone then .ready else .done) (pe':=j) hk2
       rw[hE3] at hm3;exact pg (v:=.bool G j.isNone) hh hm3 hs.cx.1 hEE hnn
      cases ex with
      | normal=>exact fin I q4
      | exit id=>exact fin (C (.exit id)) q4
      | ret=>exact fin (C .ret) q4
     ·exact q4.elim
    ·exact g4.elim
 ·exact h.elim
theorem wA {kl:Nat}{ps:List Nat}{tmps0:List (Option SV)}{fa fb:XK->St->VC}(ia: ∀(K K':XK) st,(∀ e st',(K e st').holds->(K' e st').holds)->(fa K st).holds->(fa K' st).holds)
  (ib: ∀(K K':XK) st,(∀ e st',(K e st').holds->(K' e st').holds)->(fb K st).holds->(fb K' st).holds):bq (pR kl R ps tmps0 fa fb):=by
 intro args m nx K K' hK h;unfold pR at h ⊢;split at h
 ·refine⟨h.1,ia _ _ _ (λe st1 h1=> ?_) h.2⟩;cases e with
  | exit id=>exact h1
  | ret=>exact h1
  | normal =>
    simp only at h1 ⊢;split at h1
    ·refine ib _ _ _ (λe st2 h2=> ?_) h1;split at h2
     ·cases e<;>exact sq hK h2
     ·exact h2
    ·exact h1
 ·exact h
theorem aO.enter {E:Nat->Nat}(h:aO Γ E m nx w)(hw:Mem.wf nx m=G)(hR:R.state=.ready)(hp:R.pending=I){Ds:List Nat}(hD: ∀ D∈ Ds,w.heap[D]?=C (V (C []))) :
  ∃ Δ:bg,Γ.le Δ/\(∀ D,D∈ w.heap.size::(Ds++Γ.keep)->D∈ Δ.keep)/\Δ.uF=nx+1/\Δ.E0=(λk=>if k=nx then w.heap.size+1 else E k) /\
    aO Δ Δ.E0 ((nx,.loop .ready I R)::m) (nx+1) ((w.alloc (V (C []))).alloc (.loop R)):=by
 have hE: ∀ k,k<nx->(λk=>if k=nx then w.heap.size+1 else E k) k=E k:=λk hk=>by simp[Nat.ne_of_lt hk]
 refine⟨{Γ with uF:=nx+1,E0:=λk=>if k=nx then w.heap.size+1 else E k,keep:=w.heap.size::(Ds++Γ.keep)},⟨rfl,rfl,Nat.le_succ_of_le h.cx.1,λk hk=> ?_,λD hD=>b9 _ (List.mem_append_right _ hD)⟩,
  λD hD=>hD,rfl,rfl,?_⟩
 ·exact(hE k (M hk h.cx.1)).trans (h.cx.2 k hk)
 ·have hm1:aO {Γ with keep:=w.heap.size::(Ds++Γ.keep)} E m nx (w.alloc (V (C []))):=by
   have hold: ∀ i,i<w.heap.size->(w.alloc (V (C []))).heap[i]?=w.heap[i]?:=λi hi=>by show(w.heap.push _)[i]?=_;rw[Array.getElem?_push,if_neg (by omega)]
   refine⟨λk B a hk hn=> ?_,h.iq,h.lt,h.iM,⟨h.ext.os,h.ext.tape,h.ext.output,?_,λk hk hm=> ?_⟩,h.cx,λD hD2=> ?_⟩
   ·obtain⟨o,ho,hb⟩:=h.gD k B a hk hn;exact⟨o,by rw[hold _ (cL.1 ho).1];exact ho,hb⟩
   ·have:=h.ext.size;show _<=(w.heap.push _).size;simp;omega
   ·rw[hold k (M hk h.ext.size)];exact h.ext.block k hk hm
   ·have hold2: ∀ D,w.heap[D]?=C (V (C []))->(w.alloc (V (C []))).heap[D]?=C (V (C [])):=λD hd=>by rw[hold D (cL.1 hd).1];exact hd
    rcases W.1 hD2 with e | hD2
    ·subst e;show(w.heap.push _)[w.heap.size]?=_;simp
    ·rcases List.mem_append.1 hD2 with h1 | h1
     ·exact hold2 D (hD D h1)
     ·exact hold2 D (h.kp D h1)
  have hsz:(w.alloc (V (C []))).heap.size=w.heap.size+1:=by show(w.heap.push _).size=_;simp
  have hm2:=hm1.alloc hw (B:=.loop .ready I R) (o:=.loop R) (by show Obj.loop R=.loop {R with state:=.ready,pending:=I};rw[← hR,← hp])
  rw[hsz] at hm2;exact⟨hm2.gD,hm2.iq,hm2.lt,hm2.iM,hm2.ext,⟨a_ _,λk hk=>rfl⟩,hm2.kp⟩
theorem aO.leave {E:Nat->Nat}(h:aO Γ E m nx w){st st':LoopState}{pe pe':Option Code}(hk:m.get k=C (.loop st pe R)) :
  aO Γ E (m.drop k) nx (w.putObj (E k) (.loop {R with state:=st',pending:=pe'})):=by
 refine(h.Ga (st':=st') (pe':=pe') hk).sub (λj B hj=> ?_) (λj B hj=>h.lt j B (Mem.fj hj).2) (.inl (a_ _));obtain⟨hne,hj⟩:=Mem.fj hj;rw[Mem.KW hne];exact hj
end
theorem iY {b:Frame}{k:List Item}{cs:List Frame}:step P (lone (b.atR a (.code (.scope c)::k)) cs w)=.next (lone (b.atR a (.code c::.inScope c::k)) cs w) :=step_lone_go (by simp[Go.stepG,Go.stepG.exec,Frame.atR])
theorem Cw {b:Frame}{k:List Item}{cs:List Frame}:step P (lone (b.atR a (.inScope c::k)) cs w)=.next (lone (b.atR a k) cs w) :=step_lone_go (by simp[Go.stepG,Go.stepG.exec,Frame.atR])
theorem sL {F:Fence}(h:c.wpIn F n P (Exit.noGoto Q) a w):(Code.scope c).wpIn F n P Q a w:=by
 intro b k cs hro hb hr;have h0:(lone (b.atR a (.code (.scope c)::k)) cs w).fenced P F:=fenced_calm hb hr rfl;obtain⟨e,a₁,w₁,hq,harr⟩:=h b (.inScope c::k) cs hro hb hr;cases e with
 | normal=>exact⟨.normal,a₁,w₁,hq,.head h0 iY (StepsIn.trans harr (.one (fenced_calm hb hr rfl) Cw))⟩
 | exit id =>
   have hx:exitTo id (.inScope c::k)=exitTo id k:=by simp[exitTo]
   exact⟨.exit id,a₁,w₁,hq,λk' hk=>.head h0 iY (harr.1 k' (by rw[hx];exact hk)),
    λhr' hk=>let ⟨k₁,h1,h2⟩:=harr.2 hr' (by rw[hx];exact hk);⟨k₁,h1,.head h0 iY h2⟩⟩
 | goto l=>exact hq.elim
 | ret=>exact⟨_,a₁,w₁,hq,.of_steps (.one h0 iY) harr⟩
 | panic ch=>exact⟨_,a₁,w₁,hq,.of_steps (.one h0 iY) harr⟩
 | outgrown=>exact⟨_,a₁,w₁,hq,.of_steps (.one h0 iY) harr⟩
end
end Sx
end Go.Proofs.YtoibaecagklkaaaGreatDoor
