/-
  The framework's fifteenth part: regions that draw their order, joined to the machine; code; functions.
-/
import Derived.Test.YtoibaecagklkaaaGreatDoorMg
import Derived.Test.YtoibaecagklkaaaGreatDoorMe
import Derived.RangeFuncRecord
import Derived.Scope
namespace Go.Proofs.YtoibaecagklkaaaGreatDoor.Sx
open Go
noncomputable section
def iP (o:Oper):List Nat:=(o.after.toList.filter fun e=>Region.binds .any e).map (·.on)
def lV (acc:List Nat)(ds:List Nat):Nat:=match ds with
 | []=>0
 | d::r=>2^ d ||| acc.getD d 0 ||| lV acc r
def CP:List Oper->List Nat->List Nat
 | [],acc=>acc
 | o::r,acc=>CP r (acc++[lV acc (iP o)])
def Reach (ops:Array Oper)(i j:Nat):Prop :=
 ∀ S:Nat->Prop,(∀ k o,ops[k]?=some o->S k->∀ d∈ iP o,S d)->(∀ o,ops[i]?=some o->∀ d∈ iP o,S d)->S j
theorem Dy {acc ds:List Nat}{j:Nat}(h:(lV acc ds).testBit j=true): ∃ d∈ ds,d=j∨(acc.getD d 0).testBit j=true:=by
 induction ds with
 | nil=>simp[lV] at h
 | cons d r ih =>
   simp only[lV,Nat.testBit_or,Bool.or_eq_true] at h
   rcases h with (h | h) | h
   ·rw[Nat.testBit_two_pow] at h;exact⟨d,by simp,.inl (by simpa using h)⟩
   ·exact⟨d,by simp,.inr h⟩
   ·obtain⟨e,he,hh⟩:=ih h;exact⟨e,by simp[he],hh⟩
theorem zy {ops:Array Oper}: ∀(l:List Oper) (acc:List Nat),(∀ k,l[k]?=ops[acc.length+k]?) ->
  (∀ i j,(acc.getD i 0).testBit j=true->Reach ops i j)->∀ i j,((CP l acc).getD i 0).testBit j=true->Reach ops i j
 | [],acc,_,h,i,j,hb=>h i j hb
 | o::r,acc,hl,h,i,j,hb=>by
   refine zy r (acc++[lV acc (iP o)]) (fun k=> ?_) (fun i j hb=> ?_) i j hb
   ·have:=hl (k+1)
    simp only[List.getElem?_cons_succ] at this
    rw[this];congr 1;simp;omega
   ·rw[List.getD_eq_getElem?_getD] at hb
    by_cases hi:i<acc.length
    ·rw[List.getElem?_append_left hi,← List.getD_eq_getElem?_getD] at hb;exact h i j hb
    ·rw[List.getElem?_append_right (by omega)] at hb
     by_cases he:i=acc.length
     ·subst he
      simp only[Nat.sub_self,List.getElem?_cons_zero,Option.getD_some] at hb
      obtain⟨d,hd,hh⟩:=Dy hb
      have ho:ops[acc.length]?=some o:=by have:=hl 0;simpa using this.symm
      intro S hS hi
      have hSd:=hi o ho d hd
      rcases hh with rfl | hh
      ·exact hSd
      ·exact h d j hh S hS (fun o' ho' e he=>hS d o' ho' hSd e he)
     ·rw[List.getElem?_eq_none (by simp;omega)] at hb;simp at hb
def Jw (ops:Array Oper):List Nat:=CP ops.toList []
theorem Hs {ops:Array Oper}{i j:Nat}(h:((Jw ops).getD i 0).testBit j=true):Reach ops i j :=
 zy ops.toList [] (fun k=>by simp) (fun i j h=>by simp at h) i j h
def Py (P:Program)(ops:List Oper)(quiet:Bool)(done:Nat)(i:Nat):Option Nat :=
 match ops with
 | []=>none
 | o::r=>if(!done.testBit i&&(!quiet||dr P o.op)&&(iP o).all fun d=>done.testBit d)=true then some i else Py P r quiet done (i+1)
def ou (P:Program)(ops:List Oper):Nat->Nat->List Nat
 | 0,_=>[]
 | n+1,done=>match Py P ops true done 0 with
   | some i=>i::ou P ops n (done ||| 2^ i)
   | none=>(match Py P ops false done 0 with
     | some i=>i::ou P ops n (done ||| 2^ i)
     | none=>[])
def Hy (P:Program)(ops:Array Oper)(masks:List Nat)(p i:Nat):Bool :=
 match ops[p]?,ops[i]? with
 | some op,some oi=>!(iP op).contains i&& !Nat.beq p i&&((masks.getD i 0).testBit p||(masks.getD p 0).testBit i||(!dr P op.op&& !dr P oi.op)||Oper.apart ops op oi)
 | _,_=>false
def oz (P:Program)(ops:Array Oper)(masks:List Nat):List Nat->Bool
 | []=>true
 | p::r=>r.all (Hy P ops masks p)&&oz P ops masks r
def T9 (P:Program)(ops:Array Oper)(masks N:List Nat):Bool :=
 (List.range ops.size).all (fun i=>N.contains i)&&N.all (fun i=>Nat.blt i ops.size&&match ops[i]? with
   | some o=>(iP o).all fun d=>!Nat.beq d i&&Nat.blt d ops.size
   | none=>false)&&oz P ops masks N
def draw (P:Program)(call:mg->PT)(ops:Array Oper)(K:St->VC)(st:St):VC :=
 let masks:=Jw ops
 let N:=ou P ops.toList ops.size 0
 match T9 P ops masks N with
 | true=>bV P call ops masks ops.size N [] K st
 | false=>.fail "a region that draws its order"
theorem B9 {P:Program}{ops:Array Oper}{masks:List Nat}: ∀ {R:List Nat},oz P ops masks R=true->∀ {p i:Nat},p∈ R->i∈ R->p≠i->Hy P ops masks p i=true∨Hy P ops masks i p=true
 | [],_,_,_,h,_,_=>by cases h
 | q::R,hp,p,i,h1,h2,hne=>by
   simp only[oz,Bool.and_eq_true,List.all_eq_true] at hp
   rw[List.mem_cons] at h1 h2
   rcases h1 with rfl | h1<;>rcases h2 with rfl | h2
   ·exact absurd rfl hne
   ·exact .inl (hp.1 _ h2)
   ·exact .inr (hp.1 _ h1)
   ·exact B9 hp.2 h1 h2 hne
theorem Fu {P:Program}{ops:Array Oper}{masks:List Nat}{p i:Nat}(h:Hy P ops masks p i=true):Rel P ops masks p i/\Rel P ops masks i p:=by
 unfold Hy at h
 split at h
 ·rename_i op oi h1 h2
  simp only[Bool.and_eq_true,Bool.or_eq_true,Bool.not_eq_true'] at h
  have h3:=h.2
  have ap:Oper.apart ops op oi=true->wm ops op oi:=fun hb=>by
   obtain⟨s1,s2,s3⟩:=Oper.apart_spec hb
   exact⟨s1,s2,s3⟩
  refine⟨⟨op,oi,h1,h2,?_⟩,⟨oi,op,h2,h1,?_⟩⟩
  ·rcases h3 with ((h | h) | h) | h
   ·exact .inl h
   ·exact .inr (.inl h)
   ·exact .inr (.inr (.inl h))
   ·exact .inr (.inr (.inr (ap h)))
  ·rcases h3 with ((h | h) | h) | h
   ·exact .inr (.inl h)
   ·exact .inl h
   ·exact .inr (.inr (.inl ⟨h.2,h.1⟩))
   ·exact .inr (.inr (.inr (ap h).symm))
 ·cases h
theorem IY {P:Program}{ops:Array Oper}{masks R:List Nat}(h:oz P ops masks R=true):I2 P ops masks R:=fun p hp i hi hne=>by
 rcases B9 h hp hi hne with h | h
 ·exact(Fu h).1
 ·exact(Fu h).2
theorem vJ {P:Program}{ops:Array Oper}{masks:List Nat}{i:Nat}: ∀ {R:List Nat},oz P ops masks R=true->oz P ops masks (R.erase i)=true/\(i∉ R.erase i)
 | [],_=>⟨rfl,by simp⟩
 | q::R,hp=>by
   simp only[oz,Bool.and_eq_true,List.all_eq_true] at hp
   by_cases e:q=i
   ·subst e
    rw[List.erase_cons_head]
    refine⟨hp.2,fun hm=> ?_⟩
    have:=hp.1 _ hm
    unfold Hy at this
    split at this
    ·simp at this
    ·cases this
   ·rw[List.erase_cons_tail (by simpa using e)]
    obtain⟨h1,h2⟩:=vJ (i:=i) hp.2
    refine⟨by simp only[oz,Bool.and_eq_true,List.all_eq_true];exact⟨fun x hx=>hp.1 x (List.mem_of_mem_erase hx),h1⟩,fun hm=> ?_⟩
    rw[List.mem_cons] at hm
    rcases hm with h | h
    ·exact e h.symm
    ·exact h2 h
theorem vG {md:Region.Mode}{ops:Array Oper}{listed:Array Bool}{i:Nat}:i∈ Region.ready md ops listed ↔
  i<ops.size/\listed.getD i true=false/\∃ o,ops[i]?=some o/\∀ e∈ o.after,Region.binds md e=true->listed.getD e.on false=true:=by
 unfold Region.ready
 simp only[List.mem_filter,List.mem_range,Bool.and_eq_true,Bool.not_eq_true']
 constructor
 ·rintro⟨h1,h2,h3⟩
  refine⟨h1,h2,?_⟩
  have ho:ops[i]?=some ops[i]:=Array.getElem?_eq_getElem h1
  rw[ho] at h3
  simp only[Option.map_some,Option.getD_some] at h3
  refine⟨_,ho,fun e he hb=> ?_⟩
  rw[Array.all_eq_true'] at h3
  have:=h3 e he
  simpa [hb] using this
 ·rintro⟨h1,h2,o,ho,h3⟩
  refine⟨h1,h2,?_⟩
  rw[ho]
  simp only[Option.map_some,Option.getD_some,Array.all_eq_true']
  intro e he
  by_cases hb:Region.binds md e=true
  ·simp[hb,h3 e he hb]
  ·simp[hb]
section
variable {P : Program} {call : mg -> PT} {ops : Array Oper}
theorem Tl {Γ:aY}{ro:Option Nat}{KP:PK}(hm: ∀ f,aR (call f))(hcall: ∀ c,nQ P Γ KP c (call c)){masks:List Nat}(hmask: ∀ i j,(masks.getD i 0).testBit j=true->Reach ops i j)
  {Q:Exit->Act->World->Prop} {K:St->VC} {E0:Nat->Nat} {qF:Nat} {T0:List (Option SV)} (hP: ∀ e a w,cv E0 (unsure ops T0) a->lB KP Γ E0 qF e a w->Q e a w): ∀(fuel:Nat) (R:List Nat) (listed:Array Bool) {st:St} {E:Nat->Nat} {a:Act} {w:World},
   cv E0 (unsure ops T0) a->(∀ k,k<qF->E k=E0 k)->qF<=st.nx->R.length<=fuel->(∀ i,i∈ R↔i<ops.size/\listed.getD i true=false)->oz P ops masks R=true->(∀ i∈ R,∀ o,ops[i]?=some o->∀ d∈ iP o,d≠i/\d<ops.size) ->
   listed.size=ops.size->(∀ k o,ops[k]?=some o->listed.getD k false=true->∀ d∈ iP o,listed.getD d false=true) ->
   (bV P call ops masks fuel R [] K st).holds->Sat Γ E st a w->(∀ a w,iZ K Γ E st.nx a w->Q .normal a w)->wpAnyIn (Fr ro) 0 P .any ops Q fuel listed a w:=by
 intro fuel
 induction fuel with
 | zero =>
   intro R listed st E a w hF hE0 hn0 hlen hR hpair hself hsize hcl h hs hQ
   have hnil:R=[]:=List.eq_nil_of_length_eq_zero (by omega)
   subst hnil
   refine⟨?_,hQ _ _ ⟨E,st,fun _ _=>rfl,Nat.le_refl _,hs,h⟩⟩
   rw[List.eq_nil_iff_forall_not_mem]
   intro i hi
   rw[vG] at hi
   have:=(hR i).2 ⟨hi.1,hi.2.1⟩
   cases this
 | succ fuel ih =>
   intro R listed st E a w hF hE0 hn0 hlen hR hpair hself hsize hcl h hs hQ
   refine⟨fun hnone=> ?_,fun i hi=> ?_⟩
   ·
    cases R with
    | nil=>exact hQ _ _ ⟨E,st,fun _ _=>rfl,Nat.le_refl _,hs,by rw[kS] at h;exact h⟩
    | cons r0 R =>
      exfalso
      have hr0:=(hR r0).1 (by simp)
      have ho:ops[r0]?=some ops[r0]:=Array.getElem?_eq_getElem hr0.1
      have:r0∈ Region.ready .any ops listed:=by
       rw[vG]
       refine⟨hr0.1,hr0.2,_,ho,fun e he hb=> ?_⟩
       have hd:e.on∈ iP ops[r0]:=by
        simp only[iP,List.mem_map,List.mem_filter]
        exact⟨e,⟨by simpa using he,hb⟩,rfl⟩
       generalize e.on=d at hd ⊢
       cases hl:listed.getD d false with
       | true=>rfl
       | false =>
         exfalso
         have hself0:=hself r0 (by simp) _ ho d hd
         have hlt:=hself0.2
         have hmem:d∈ r0::R:=(hR d).2 ⟨hlt,by
          rw[Array.getD_eq_getD_getElem?] at hl ⊢
          rw[Array.getElem?_eq_getElem (by omega)] at hl ⊢
          exact hl⟩
         rw[List.mem_cons] at hmem
         rcases hmem with e1 | hmem
         ·exact hself0.1 e1
         ·simp only[oz,Bool.and_eq_true,List.all_eq_true] at hpair
          have hrel:=hpair.1 _ hmem
          simp only[Hy,ho] at hrel
          split at hrel
          ·rename_i op oi e1 _
           injection e1 with e1;subst e1
           simp only[Bool.and_eq_true,Bool.not_eq_true'] at hrel
           have h1:=hrel.1.1
           rw[List.contains_iff_mem.2 hd] at h1;cases h1
          ·cases hrel
      rw[hnone] at this;cases this
   ·rw[vG] at hi
    obtain⟨hlt,hnl,oi,ho,hdeps⟩:=hi
    have hmem:i∈ R:=(hR i).2 ⟨hlt,hnl⟩
    have hdl: ∀ d∈ iP oi,listed.getD d false=true:=by
     intro d hd
     simp only[iP,List.mem_map,List.mem_filter] at hd
     obtain⟨e,⟨he,hb⟩,rfl⟩:=hd
     exact hdeps e (by simpa using he) hb
    have hbits: ∀ p∈ R,(masks.getD i 0).testBit p=false:=by
     intro p hp
     cases hb:(masks.getD i 0).testBit p with
     | false=>rfl
     | true =>
       exfalso
       have:=hmask i p hb (fun k=>listed.getD k false=true) (fun k o hk hS d hd=>hcl k o hk hS d hd) (fun o' ho' d hd=>by rw[ho] at ho';injection ho' with ho';subst ho';exact hdl d hd)
       have hpl:=((hR p).1 hp).2
       have hps:=((hR p).1 hp).1
       rw[Array.getD_eq_getD_getElem?] at this hpl
       rw[Array.getElem?_eq_getElem (by omega)] at this hpl
       simp only[Option.getD_some] at this hpl
       rw[this] at hpl;cases hpl
    have hb:=(VJ hm fuel).1 hlen (IY hpair) hmem ho hbits h
    obtain⟨hpair',hne⟩:=vJ (i:=i) hpair
    have hstep:(cM P call ops i oi (fun st'=>.and (.atom (st.nx<=st'.nx∨True)) (bV P call ops masks fuel (R.erase i) [] K st')) st).holds:=by
     unfold x9 at hb
     cases hq:dr P oi.op with
     | true =>
       rw[hq] at hb
       exact bR hm (fun u m nx hh=>⟨.inr trivial,j7 hm (fun x hx=>by cases hx) hh⟩) hb
     | false =>
       rw[hq] at hb
       exact bR hm (fun u m nx hh=>by rw[fo,jX] at hh;exact⟨.inr trivial,hh.2.2⟩) hb
    have hmemO:oi∈ ops.toList:=by
     have ho':=ho
     rw[← Array.getElem?_toList] at ho';exact List.mem_of_getElem? ho'
    have hsound:=s8 (ro:=ro) hcall hstep hs Q (fun e w hb=>hP e a w hF (hb.weaken hE0 hn0))
    have go: ∀ a' w',((∃ r,a'=a.put oi.dst r)/\iZ (fun st'=>.and (.atom (st.nx<=st'.nx∨True)) (bV P call ops masks fuel (R.erase i) [] K st')) Γ E st.nx a' w')->wpAnyIn (Fr ro) 0 P .any ops Q fuel (listed.setIfInBounds i true) a' w':=by
     rintro a' w' ⟨⟨rr,ha⟩,E',st',g1,g2,g3,g4⟩
     refine ih (R.erase i) (listed.setIfInBounds i true) (ha▸ cv.zZ hF hmemO rr) (fun k hk=>(g1 k (Nat.lt_of_lt_of_le hk hn0)).trans (hE0 k hk)) (Nat.le_trans hn0 g2) (by rw[List.length_erase_of_mem hmem];omega) (fun j=> ?_) hpair' (fun j hj=>hself j (List.mem_of_mem_erase hj)) (by simpa using hsize) (fun k o hk hl d hd=> ?_) g4.2 g3
      (fun a'' w'' hbh=>hQ a'' w'' ?_)
     ·rw[Array.getD_eq_getD_getElem?,Array.getElem?_setIfInBounds]
      by_cases e:i=j
      ·subst e
       simp only[if_true]
       rw[if_pos (by omega)]
       simp only[Option.getD_some]
       constructor
       ·intro hj;exact absurd hj hne
       ·rintro⟨_,hh⟩;cases hh
      ·rw[if_neg e,← Array.getD_eq_getD_getElem?,← hR j]
       exact List.mem_erase_of_ne (fun h=>e h.symm)
     ·rw[Array.getD_eq_getD_getElem?,Array.getElem?_setIfInBounds] at hl ⊢
      by_cases ed:i=d
      ·rw[if_pos ed,if_pos (by omega)];rfl
      ·rw[if_neg ed,← Array.getD_eq_getD_getElem?]
       by_cases ek:i=k
       ·subst ek
        rw[ho] at hk;injection hk with hk;subst hk
        exact hdl d hd
       ·rw[if_neg ek,← Array.getD_eq_getD_getElem?] at hl
        exact hcl k o hk hl d hd
     ·obtain⟨E'',st'',k1,k2,k3,k4⟩:=hbh
      exact⟨E'',st'',fun k hk=>(k1 k (Nat.lt_of_lt_of_le hk g2)).trans (g1 k hk),Nat.le_trans g2 k2,k3,k4⟩
    unfold wpOpIn
    rw[ho]
    simp only
    split
    ·rename_i hw
     rw[if_pos hw] at hsound
     exact Oper.wpIn_mono go hsound
    ·rename_i hw
     rw[if_neg hw] at hsound
     exact⟨yA ro,go _ _ ⟨⟨_,rfl⟩,hsound⟩⟩
theorem Iz {Γ:aY}{ro:Option Nat}{KP:PK}(hmix:P.follows .mixedOrders=true)(hm: ∀ f,aR (call f))(hcall: ∀ c,nQ P Γ KP c (call c)){id:Nat}{Q:Exit->Act->World->Prop}{K:St->VC}
  {st:St} {E:Nat->Nat} {a:Act} {w:World} (h:(draw P call ops K st).holds) (hs:Sat Γ E st a w) (hP: ∀ e a w,cv E (unsure ops st.tmps) a->lB KP Γ E st.nx e a w->Q e a w) (hQ: ∀ a w,iZ K Γ E st.nx a w->Q .normal a w):(Code.region id ops true).wpIn (Fr ro) 0 P Q a w:=by
 unfold draw at h
 simp only at h
 split at h
 ·rename_i hg
  simp only[T9,Bool.and_eq_true,List.all_eq_true] at hg
  obtain⟨⟨h1,h2⟩,h3⟩:=hg
  refine wpIn_region_any hmix ?_
  have hs':Sat Γ E st a {w with drawn:=w.drawn+1}:=⟨hs.tm,hs.wt,hs.df,hs.mm.drew _⟩
  have hlen:(ou P ops.toList ops.size 0).length<=ops.size:=by
   have: ∀(n d:Nat),(ou P ops.toList n d).length<=n:=by
    intro n
    induction n with
    | zero=>intro d;simp[ou]
    | succ n ih =>
      intro d
      simp only[ou]
      split
      ·have:=ih (d ||| 2^ (by assumption));simp only[List.length_cons];omega
      ·split
       ·have:=ih (d ||| 2^ (by assumption));simp only[List.length_cons];omega
       ·simp
   exact this _ _
  refine Tl hm hcall (fun i j hb=>Hs hb) (T0:=st.tmps) hP ops.size (ou P ops.toList ops.size 0) _ hs.tm.unsure (fun _ _=>rfl) (Nat.le_refl _) hlen (fun i=> ?_) h3 (fun i hi o ho d hd=> ?_) (by simp) (fun k o hk hl d hd=> ?_) h hs' hQ
  ·constructor
   ·intro hi
    have:=h2 i hi
    simp only[Nat.blt_eq] at this
    refine⟨this.1,?_⟩
    rw[Array.getD_eq_getD_getElem?,Array.getElem?_eq_getElem (by simpa using this.1)];simp
   ·rintro⟨hi,_⟩
    have:=h1 i (List.mem_range.2 hi)
    rwa [List.contains_iff_mem] at this
  ·have:=h2 i hi
   rw[ho] at this
   simp only[List.all_eq_true,Bool.and_eq_true,Bool.not_eq_true',Nat.blt_eq] at this
   have hd':=this.2 d hd
   refine⟨fun e=> ?_,hd'.2⟩
   have h5:=hd'.1
   rw[e] at h5
   simp at h5
  ·exfalso
   rw[Array.getD_eq_getD_getElem?] at hl
   by_cases hks:k<ops.size
   ·rw[Array.getElem?_eq_getElem (by simpa using hks)] at hl;simp at hl
   ·rw[Array.getElem?_eq_none (by simpa using hks)] at hl;simp at hl
 ·exact h.elim
end
structure bC where
 α:Type
 pre:St->α->Prop
 nY:St->α->Nat
 fresh:Nat
 slots:St->α->List (Nat×SV)
 mem:St->α->List (Nat×SB)
 drop:St->List Nat:=fun _=>[]
 gh:St->List Gh:=fun _=>[]
def written:Code->List Nat
 | .region _ ops _=>ops.toList.filterMap (·.dst)
 | .seq a b=>written a++written b
 | .cond _ a b=>written a++written b
 | .block _ b=>written b
 | .loop b=>written b
 | .scope b=>written b
 | .rangeFunc _ _ a b=>written a++written b
 | _=>[]
def forget (l:List Nat)(tmps:List (Option SV)):List (Option SV):=match l with
 | []=>tmps
 | i::r=>forget r (tmps.set i none)
def jx (l:List (Nat×SV))(tmps:List (Option SV)):List (Option SV):=match l with
 | []=>tmps
 | (i,v)::r=>jx r (tmps.set i (some v))
theorem ah.cells {cs cs':List SV}{tot tot':Nat}{ty:TypeId}(h: ∀ E,cs'.map (SV.val E)=cs.map (SV.val E))(ht:tot'=tot):ah (.cells cs tot ty) (.cells cs' tot' ty):=by
 subst ht
 refine ah.of rfl rfl fun _=>⟨rfl,fun E o ⟨c,fr,h1,h2,h3,h4⟩=>⟨c,fr,h1,h2,fun i v hv=> ?_,h4⟩,id⟩
 have he:=h E
 have:(cs'.map (SV.val E))[i]?=some (v.val E):=by rw[List.getElem?_map,hv];rfl
 rw[he,List.getElem?_map] at this
 cases hc:cs[i]? with
 | none=>rw[hc] at this;cases this
 | some u =>
   rw[hc] at this;injection this with this
   rw[← this];exact h3 i u hc
theorem ah.N9 {d:List UInt8->Bool}{c:aV}{clock:Nat}(hd: ∀ s,d s=false):ah (.map [] clock) (.fmap d c none):=by
 obtain rfl:d=fun _=>false:=funext hd
 exact ah.of rfl rfl fun _=>⟨rfl,fun _ _ h=>⟨#[],clock,h,wN.nil c clock⟩,id⟩
theorem ah.fmap {d d':List UInt8->Bool}{c c':aV}{p:Option (List UInt8×Int)}(hd: ∀ s,d s=d' s)(hc: ∀ s,c.val s=c'.val s):ah (.fmap d c p) (.fmap d' c' none):=by
 obtain rfl:=funext hd
 exact ah.of rfl rfl fun _=>⟨rfl,fun _ _ ⟨es,cl,h,h1,h2,h3,h4,_⟩=>⟨es,cl,h,h1,h2,fun s hs=>by rw[← hc];exact h3 s hs,h4,fun _ _ h=>by cases h⟩,id⟩
abbrev Ren:=List (Nat×Nat)
def Ren.get (k:Nat):Ren->Option Nat
 | []=>none
 | e::r=>if e.1=k then some e.2 else Ren.get k r
def dc (base:Nat)(aH:Ren)(kh k1:Nat)(t:Ren->VC):VC :=
 match Nat.blt kh base with
 | true=>if kh=k1 then t aH else .fail "loop: another block"
 | false=>(match aH.get kh with
   | some k=>if k=k1 then t aH else .fail "loop: two blocks for one"
   | none=>t ((kh,k1)::aH))
def WI (z z':Bool)(n:Nat):VC:=match z,z' with
 | true,true=>.tt
 | false,false=>.tt
 | _,_=>.atom (0<n)
theorem Cy {z z':Bool}{n:Nat}(h:(WI z z' n).holds):(z&&Nat.beq n 0)=(z'&&Nat.beq n 0):=by
 have h0:0<n->Nat.beq n 0=false:=fun h=>by cases n with
  | zero=>omega
  | succ n=>rfl
 cases z<;>cases z'<;>simp only[WI] at h
 ·rfl
 ·have:=h0 h;simp[this]
 ·have:=h0 h;simp[this]
 ·rfl
def iz (base:Nat):List SV->List SV->Ren->(Ren->VC)->VC
 | [],[],aH,t=>t aH
 | .ptr kh _ o::hs,.ptr k1 _ o'::us,aH,t=>dc base aH kh k1 (fun aH=>.and (j9 o' o) (iz base hs us aH t))
 | _,_,_,_=>.fail "loop: what a function has captured"
def jq (base:Nat)(aH:Ren)(h u:SV)(t:Ren->VC):VC :=
 match h,u with
 | .int a _ n,.int b _ m=>if a=b then .and (j9 m n) (t aH)else .fail "loop: kinds"
 | .bool _ a,.bool _ b=>.and (j9 b a) (t aH)
 | .str _ a,.str _ b=>.and (j9 b a) (t aH)
 | .bD,.bD=>t aH
 | .aO,.aO=>t aH
 | .eM,.eM=>t aH
 | .aI,.aI=>t aH
 | .ee,.ee=>t aH
 | .ptr kh _ o,.ptr k1 _ o'=>dc base aH kh k1 (fun aH=>.and (j9 o' o) (t aH))
 | .jz kh w i k,.jz k1 w' i' k'=>if w=w'/\k=k' then dc base aH kh k1 (fun aH=>.and (j9 i' i) (t aH))else .fail "loop: rows"
 | .slc kh o n _ c,.slc k1 o' n' _ c'=>dc base aH kh k1 (fun aH=>.and (.and (j9 o' o) (.and (j9 n' n) (j9 c' c))) (t aH))
 | .bw kh w z i n c,.bw k1 w' z' i' n' c'=>if w=w' then dc base aH kh k1 (fun aH=>.and (.and (j9 i' i) (.and (j9 n' n) (j9 c' c))) (.and (WI z z' n) (t aH)))else .fail "loop: rows"
 | .bw kh w z i n c,.slc k1 o' n' _ c'=>dc base aH kh k1 (fun aH=>.and (.and (j9 o' (i*w)) (.and (j9 n' n) (j9 c' c))) (.and (WI z false n) (t aH)))
 | .bw _ _ true _ n _,.aO=>.and (j9 n 0) (t aH)
 | .slc kh o n _ c,.bw k1 w z i n' c'=>dc base aH kh k1 (fun aH=>.and (.and (j9 (i*w) o) (.and (j9 n' n) (j9 c' c))) (.and (WI z false n') (t aH)))
 | .bP kh w z o i n c,.bP k1 w' z' o' i' n' c'=>if w=w' then dc base aH kh k1 (fun aH=>.and (.and (j9 z' z) (.and (j9 o' o) (.and (j9 i' i) (.and (j9 n' n) (j9 c' c))))) (t aH))else .fail "loop: rows"
 | .iface a (.ptr kh _ o),.iface b (.ptr k1 _ o')=>if a=b then dc base aH kh k1 (fun aH=>.and (j9 o' o) (t aH))else .fail "loop: another type"
 | .func (.func f) a b,.func (.func g) a' b'=>if f=g then iz base a a' aH (fun aH=>iz base b b' aH t)else .fail "loop: another function"
 | .map kh,.map k1=>dc base aH kh k1 t
 | .eD kh a o,.eD k1 a' o'=>dc base aH kh k1 (fun aH=>.and (j9 a' a) (.and (j9 o' o) (t aH)))
 | .cn kh w z a i n c,.cn k1 w' z' a' i' n' c'=>if w=w'/\z=z' then dc base aH kh k1 (fun aH=>.and (j9 a' a) (.and (j9 i' i) (.and (j9 n' n) (.and (j9 c' c) (t aH)))))else .fail "loop: rows"
 | .raw v,.raw v'=>.and (j9 v' v) (t aH)
 | h,u=>(match h.wf 0&&u.wf 0 with
   | true=>.and (.eqv (∀ E,u.val E=h.val E) (∀ E,u.val E=u.val E) (fun _=>rfl)) (t aH)
   | false=>.fail "loop: another value")
def fT (base:Nat):List SV->List SV->Ren->(Ren->VC)->VC
 | [],[],aH,t=>t aH
 | h::hs,u::us,aH,t=>jq base aH h u (fun aH=>fT base hs us aH t)
 | _,_,_,_=>.fail "loop: lengths"
def oW (base:Nat)(aH:Ren)(h u:SV)(t:Ren->VC):VC :=
 match h,u with
 | .agg a,.agg b=>fT base a b aH t
 | .aL a,.aL b=>fT base a b aH t
 | .iface a v,.iface b v'=>if a=b then(match v,v' with
    | .agg c,.agg d=>fT base c d aH t
    | v,v'=>jq base aH v v' t)else .fail "loop: another type"
 | h,u=>jq base aH h u t
def qy (base:Nat):List (Nat×SV)->List (Option SV)->Ren->(Ren->VC)->VC
 | [],_,aH,t=>t aH
 | (i,h)::r,tmps,aH,t=>match slot tmps i with
   | some u=>oW base aH h u (fun aH=>qy base r tmps aH t)
   | none=>.fail "loop: a slot that is not known"
def cR (base:Nat)(aH:Ren)(kh:Nat):Option Nat:=match Nat.blt kh base with
 | true=>some kh
 | false=>aH.get kh
def yC (base:Nat)(m:Mem)(kh k1:Nat)(aH:Ren):Ren:=match Nat.blt kh base,aH.get kh,m.get k1 with
 | false,none,some B=>(match B.iA with
   | true=>(kh,k1)::aH
   | false=>aH)
 | _,_,_=>aH
def gT (base:Nat)(m:Mem):List au->List au->Ren->Ren
 | .ref kh _::r',.ref k1 _::r,aH=>gT base m r' r (yC base m kh k1 aH)
 | .cn kh _ _ _ _ _::r',.cn k1 _ _ _ _ _::r,aH=>gT base m r' r (yC base m kh k1 aH)
 | _::r',_::r,aH=>gT base m r' r aH
 | _,_,aH=>aH
def yZ (base:Nat)(m:Mem)(B' B:SB)(aH:Ren):Ren:=match B',B with
 | .rows _ _ c' _ _ _,.rows _ _ c _ _ _=>gT base m c' c aH
 | .iw _ c' _ _ _,.iw _ c _ _ _=>gT base m c' c aH
 | .dI _ _ c' _,.dI _ _ c _=>gT base m (c'.map (bU.at 0)) (c.map (bU.at 0)) aH
 | .fmap _ (.ref kh _) _,.fmap _ (.ref k1 _) _=>yC base m kh k1 aH
 | _,_=>aH
def WY (B B':SB):VC:=.eqv (ah B B') (ah B B) (ah.refl B)
def dO (base:Nat)(m:Mem):List (Nat×SB)->List Nat->Ren->(Ren->VC)->VC
 | [],_,aH,t=>t aH
 | (kh,B')::r,used,aH,t=>match cR base aH kh with
   | some k1=>if used.contains k1 then .fail "loop: one block for two" else(match m.get k1 with
     | some B=>(match B'.wf base with
       | true=>.and (WY B B') (dO base m r (k1::used) (yZ base m B' B aH) t)
       | false=>(match B',B with
         | .cells cs' tot' ty',.cells cs tot ty=>if ty'=ty then .and (j9 tot' tot) (fT base cs' cs aH (fun aH=>dO base m r (k1::used) aH t))else .fail "loop: a block's type"
         | _,_=>.fail "loop: a block that names blocks"))
     | none=>.fail "loop: no such block")
   | none=>(match B'.wf base with
      | true=>(match B'.iA with
        | false=>.and (.atom (B'.no=true)) (dO base m r used aH t)
        | true=>.and (.atom (∀ a,¬ B'.eO 0 a)) (dO base m r used aH t))
      | false=>.fail "loop: a block that names blocks")
def Ren.E (base:Nat)(aH:Ren)(E:Nat->Nat)(k:Nat):Nat:=match cR base aH k with
 | some k1=>E k1
 | none=>E k
def Ren.le (a b:Ren):Prop:=∀ k v,a.get k=some v->b.get k=some v
theorem Ren.le_refl (a:Ren):a.le a:=fun _ _ h=>h
theorem Ren.le_trans {a b c:Ren}(h:a.le b)(h':b.le c):a.le c:=fun k v x=>h' k v (h k v x)
theorem Ren.vZ {base:Nat}{aH:Ren}{E:Nat->Nat}{k:Nat}(h:k<base):Ren.E base aH E k=E k:=by
 have:Nat.blt k base=true:=by simpa [Nat.blt_eq] using h
 simp[Ren.E,cR,this]
theorem b7 {base:Nat}{aH:Ren}{kh k1:Nat}{t:Ren->VC}(h:(dc base aH kh k1 t).holds) :
  ∃ ren',aH.le ren'/\(t ren').holds/\∀ ren'' (E:Nat->Nat),ren'.le ren''->Ren.E base ren'' E kh=E k1:=by
 unfold dc at h
 split at h
 ·rename_i hb
  split at h
  ·rename_i e;subst e
   exact⟨aH,Ren.le_refl _,h,fun ren'' E _=>Ren.vZ (by simpa [Nat.blt_eq] using hb)⟩
  ·exact h.elim
 ·rename_i hb
  split at h
  ·rename_i k hk
   split at h
   ·rename_i e;subst e
    exact⟨aH,Ren.le_refl _,h,fun ren'' E hle=>by simp[Ren.E,cR,hb,hle _ _ hk]⟩
   ·exact h.elim
  ·rename_i hk
   refine⟨(kh,k1)::aH,fun k v hv=> ?_,h,fun ren'' E hle=> ?_⟩
   ·by_cases e:kh=k
    ·subst e;rw[hk] at hv;cases hv
    ·simp only[Ren.get,e,if_false];exact hv
   ·have:=hle kh k1 (by simp[Ren.get])
    simp[Ren.E,cR,hb,this]
theorem kg {base:Nat}: ∀ {hs us:List SV} {aH:Ren} {t:Ren->VC},(iz base hs us aH t).holds ->
  ∃ ren',aH.le ren'/\(t ren').holds/\∀ ren'' (E:Nat->Nat),ren'.le ren''->SV.vals (Ren.E base ren'' E) hs=SV.vals E us
 | hs,us,aH,t,hh=>by
   unfold iz at hh
   split at hh
   ·exact⟨aH,Ren.le_refl _,hh,fun _ _ _=>rfl⟩
   ·obtain⟨r1,h1,h2,h3⟩:=b7 hh
    obtain⟨r2,g1,g2,g3⟩:=kg h2.2
    refine⟨r2,Ren.le_trans h1 g1,g2,fun r'' E hle=> ?_⟩
    have e:_=_:=h2.1
    simp only[SV.vals,SV.val,h3 r'' E (Ren.le_trans g1 hle),g3 r'' E hle,e]
   ·exact hh.elim
theorem ki {base:Nat}{aH:Ren}{h u:SV}{t:Ren->VC}(hh:(jq base aH h u t).holds) :
  ∃ ren',aH.le ren'/\(t ren').holds/\∀ ren'' (E:Nat->Nat),ren'.le ren''->h.val (Ren.E base ren'' E)=u.val E:=by
 unfold jq at hh
 split at hh
 ·split at hh
  ·rename_i e;subst e
   exact⟨aH,Ren.le_refl _,hh.2,fun _ _ _=>by have:_=_:=hh.1;simp[SV.val,this]⟩
  ·exact hh.elim
 ·exact⟨aH,Ren.le_refl _,hh.2,fun _ _ _=>by have:_=_:=hh.1;simp[SV.val,this]⟩
 ·exact⟨aH,Ren.le_refl _,hh.2,fun _ _ _=>by have:_=_:=hh.1;simp[SV.val,this]⟩
 ·exact⟨aH,Ren.le_refl _,hh,fun _ _ _=>rfl⟩
 ·exact⟨aH,Ren.le_refl _,hh,fun _ _ _=>rfl⟩
 ·exact⟨aH,Ren.le_refl _,hh,fun _ _ _=>rfl⟩
 ·exact⟨aH,Ren.le_refl _,hh,fun _ _ _=>rfl⟩
 ·exact⟨aH,Ren.le_refl _,hh,fun _ _ _=>rfl⟩
 ·obtain⟨r',h1,h2,h3⟩:=b7 hh
  exact⟨r',h1,h2.2,fun r'' E hle=>by have:_=_:=h2.1;simp[SV.val,h3 r'' E hle,this]⟩
 ·split at hh
  ·rename_i e;obtain⟨rfl,rfl⟩:=e
   obtain⟨r',h1,h2,h3⟩:=b7 hh
   exact⟨r',h1,h2.2,fun r'' E hle=>by have:_=_:=h2.1;simp[SV.val,h3 r'' E hle,this]⟩
  ·exact hh.elim
 ·obtain⟨r',h1,h2,h3⟩:=b7 hh
  exact⟨r',h1,h2.2,fun r'' E hle=>by obtain⟨a,b,c⟩:=h2.1;have a:_=_:=a;have b:_=_:=b;have c:_=_:=c;simp[SV.val,h3 r'' E hle,a,b,c]⟩
 ·split at hh
  ·rename_i e;subst e
   obtain⟨r',h1,h2,h3⟩:=b7 hh
   exact⟨r',h1,h2.2.2,fun r'' E hle=>by obtain⟨a,b,c⟩:=h2.1;have a:_=_:=a;have b:_=_:=b;have c:_=_:=c;have hz:=Cy h2.2.1;simp[SV.val,h3 r'' E hle,a,b,c,hz]⟩
  ·exact hh.elim
 ·obtain⟨r',h1,h2,h3⟩:=b7 hh
  exact⟨r',h1,h2.2.2,fun r'' E hle=>by obtain⟨a,b,c⟩:=h2.1;have a:_=_:=a;have b:_=_:=b;have c:_=_:=c;have hz:=Cy h2.2.1;simp[SV.val,h3 r'' E hle,a,b,c,hz]⟩
 ·exact⟨aH,Ren.le_refl _,hh.2,fun _ _ _=>by have:_=_:=hh.1;simp[SV.val,this]⟩
 ·obtain⟨r',h1,h2,h3⟩:=b7 hh
  exact⟨r',h1,h2.2.2,fun r'' E hle=>by obtain⟨a,b,c⟩:=h2.1;have a:_=_:=a;have b:_=_:=b;have c:_=_:=c;have hz:=Cy h2.2.1;simp[SV.val,h3 r'' E hle,a,← b,c,hz]⟩
 ·split at hh
  ·rename_i e;subst e
   obtain⟨r',h1,h2,h3⟩:=b7 hh
   exact⟨r',h1,h2.2,fun r'' E hle=>by obtain⟨a,b,c,d,e⟩:=h2.1;have a:_=_:=a;have b:_=_:=b;have c:_=_:=c;have d:_=_:=d;have e:_=_:=e;simp[SV.val,h3 r'' E hle,a,b,c,d,e]⟩
  ·exact hh.elim
 ·split at hh
  ·rename_i e;subst e
   obtain⟨r',h1,h2,h3⟩:=b7 hh
   exact⟨r',h1,h2.2,fun r'' E hle=>by have:_=_:=h2.1;simp[SV.val,h3 r'' E hle,this]⟩
  ·exact hh.elim
 ·split at hh
  ·rename_i e;subst e
   obtain⟨r1,h1,h2,h3⟩:=kg hh
   obtain⟨r2,g1,g2,g3⟩:=kg h2
   exact⟨r2,Ren.le_trans h1 g1,g2,fun r'' E hle=>by simp only[SV.val,h3 r'' E (Ren.le_trans g1 hle),g3 r'' E hle]⟩
  ·exact hh.elim
 ·obtain⟨r',h1,h2,h3⟩:=b7 hh
  exact⟨r',h1,h2,fun r'' E hle=>by simp[SV.val,h3 r'' E hle]⟩
 ·obtain⟨r',h1,⟨a,b,h2⟩,_⟩:=b7 hh
  exact⟨r',h1,h2,fun r'' E hle=>by have a:_=_:=a;have b:_=_:=b;simp[SV.val,a,b]⟩
 ·split at hh
  ·rename_i e;obtain⟨rfl,rfl⟩:=e
   obtain⟨r',h1,⟨a,b,c,d,h2⟩,_⟩:=b7 hh
   exact⟨r',h1,h2,fun r'' E hle=>by have a:_=_:=a;have b:_=_:=b;have c:_=_:=c;have d:_=_:=d;simp[SV.val,a,b,c,d]⟩
  ·exact hh.elim
 ·exact⟨aH,Ren.le_refl _,hh.2,fun _ _ _=>by have:_=_:=hh.1;simp[SV.val,this]⟩
 ·split at hh
  ·rename_i hw
   simp only[Bool.and_eq_true] at hw
   refine⟨aH,Ren.le_refl _,hh.2,fun ren'' E _=> ?_⟩
   have h1: ∀ E,SV.val E _=SV.val E _:=hh.1
   rw[h1 E]
   exact SV.val_congr (nx:=0) (fun k hk=>absurd hk (Nat.not_lt_zero _)) _ hw.1
  ·exact hh.elim
theorem eY {base:Nat}: ∀ {hs us:List SV} {aH:Ren} {t:Ren->VC},(fT base hs us aH t).holds ->
  ∃ ren',aH.le ren'/\(t ren').holds/\∀ ren'' (E:Nat->Nat),ren'.le ren''->SV.vals (Ren.E base ren'' E) hs=SV.vals E us
 | [],[],aH,t,h=>⟨aH,Ren.le_refl _,h,fun _ _ _=>rfl⟩
 | h::hs,u::us,aH,t,hh=>by
   simp only[fT] at hh
   obtain⟨r1,h1,h2,h3⟩:=ki hh
   obtain⟨r2,g1,g2,g3⟩:=eY h2
   exact⟨r2,Ren.le_trans h1 g1,g2,fun r'' E hle=>by simp only[SV.vals];rw[h3 r'' E (Ren.le_trans g1 hle),g3 r'' E hle]⟩
 | [],_::_,_,_,h=>h.elim
 | _::_,[],_,_,h=>h.elim
theorem nG {base:Nat}{aH:Ren}{h u:SV}{t:Ren->VC}(hh:(oW base aH h u t).holds) :
  ∃ ren',aH.le ren'/\(t ren').holds/\∀ ren'' (E:Nat->Nat),ren'.le ren''->h.val (Ren.E base ren'' E)=u.val E:=by
 unfold oW at hh
 split at hh
 ·obtain⟨r',h1,h2,h3⟩:=eY hh
  exact⟨r',h1,h2,fun r'' E hle=>by simp only[SV.val,h3 r'' E hle]⟩
 ·obtain⟨r',h1,h2,h3⟩:=eY hh
  exact⟨r',h1,h2,fun r'' E hle=>by simp only[SV.val,h3 r'' E hle]⟩
 ·split at hh
  ·rename_i e;subst e
   split at hh
   ·obtain⟨r',h1,h2,h3⟩:=eY hh
    exact⟨r',h1,h2,fun r'' E hle=>by simp only[SV.val,h3 r'' E hle]⟩
   ·obtain⟨r',h1,h2,h3⟩:=ki hh
    exact⟨r',h1,h2,fun r'' E hle=>by simp only[SV.val,h3 r'' E hle]⟩
  ·exact hh.elim
 ·exact ki hh
theorem nO {base:Nat}: ∀ {l:List (Nat×SV)} {tmps:List (Option SV)} {aH:Ren} {t:Ren->VC},(qy base l tmps aH t).holds ->
  ∃ ren',aH.le ren'/\(t ren').holds/\∀ ren'' (E:Nat->Nat),ren'.le ren''->∀ i h,(i,h)∈ l->∃ u,slot tmps i=some u/\h.val (Ren.E base ren'' E)=u.val E
 | [],_,aH,t,h=>⟨aH,Ren.le_refl _,h,fun _ _ _ i h hm=>by cases hm⟩
 | (i,x)::r,tmps,aH,t,hh=>by
   simp only[qy] at hh
   split at hh
   ·rename_i u hu
    obtain⟨r1,h1,h2,h3⟩:=nG hh
    obtain⟨r2,g1,g2,g3⟩:=nO h2
    refine⟨r2,Ren.le_trans h1 g1,g2,fun r'' E hle j h hm=> ?_⟩
    rw[List.mem_cons] at hm
    rcases hm with hm | hm
    ·injection hm with e1 e2;subst e1;subst e2
     exact⟨u,hu,h3 r'' E (Ren.le_trans g1 hle)⟩
    ·exact g3 r'' E hle j h hm
   ·exact hh.elim
theorem oL {base:Nat}{aH ren':Ren}(h:aH.le ren'){kh k1:Nat}(hk:cR base aH kh=some k1):cR base ren' kh=some k1:=by
 unfold cR at hk ⊢
 split at hk
 ·exact hk
 ·exact h _ _ hk
theorem uS {base:Nat}{m:Mem}{kh k1:Nat}{aH:Ren}:aH.le (yC base m kh k1 aH):=by
 unfold yC
 split
 ·rename_i hn _
  split
  ·intro k v hv
   by_cases e:kh=k
   ·subst e;rw[hn] at hv;cases hv
   ·simp only[Ren.get,e,if_false];exact hv
  ·exact Ren.le_refl _
 ·exact Ren.le_refl _
theorem jI {base:Nat}{m:Mem}: ∀ {a b:List au} {aH:Ren},aH.le (gT base m a b aH)
 | a,b,aH=>by
   unfold gT
   split
   ·exact Ren.le_trans uS jI
   ·exact Ren.le_trans uS jI
   ·exact jI
   ·exact Ren.le_refl _
theorem Gy {base:Nat}{m:Mem}{B' B:SB}{aH:Ren}:aH.le (yZ base m B' B aH):=by
 unfold yZ
 split<;>first | exact jI | exact uS | exact Ren.le_refl _
def xO (base:Nat)(m:Mem)(used:List Nat)(aH:Ren)(kh:Nat)(B':SB):Prop :=
 ∀ b a,B'.eO b a->∃ k1 B,cR base aH kh=some k1/\k1∉ used/\m.get k1=some B/\B.eO b a/\(∀ E o,bn E (B.el a) o->bn (Ren.E base aH E) (B'.el a) o)/\(B'.ro=false->B.ro=false)
theorem eA {base:Nat}{m:Mem}: ∀ {l:List (Nat×SB)} {used:List Nat} {aH:Ren} {t:Ren->VC},(dO base m l used aH t).holds ->
  ∃ ren',aH.le ren'/\(t ren').holds/\∀ ren'',ren'.le ren''->(∀ kh B',Mem.get kh l=some B'->xO base m used ren'' kh B') /\
    (∀ kh kh' B B' k1,Mem.get kh l=some B->(∃ b a,B.eO b a)->Mem.get kh' l=some B'->(∃ b a,B'.eO b a)->cR base ren'' kh=some k1->cR base ren'' kh'=some k1->kh=kh')
 | [],_,aH,t,h=>⟨aH,Ren.le_refl _,h,fun _ _=>⟨(fun _ _ h=>by cases h),(fun _ _ _ _ _ h=>by cases h)⟩⟩
 | (k0,B0)::r,used,aH,t,hh=>by
   simp only[dO] at hh
   split at hh
   ·rename_i k1 hk1
    split at hh
    ·exact hh.elim
    ·rename_i hnu
     have hnu:k1∉ used:=by simpa using hnu
     split at hh
     ·rename_i B hB
      have key: ∀ {ren1:Ren},aH.le ren1->(∀ ren'',ren1.le ren''->xO base m used ren'' k0 B0)->(dO base m r (k1::used) ren1 t).holds ->
        ∃ ren',aH.le ren'/\(t ren').holds/\∀ ren'',ren'.le ren''->(∀ kh B',Mem.get kh ((k0,B0)::r)=some B'->xO base m used ren'' kh B') /\
          (∀ kh kh' B B' k1,Mem.get kh ((k0,B0)::r)=some B->(∃ b a,B.eO b a)->Mem.get kh' ((k0,B0)::r)=some B'->(∃ b a,B'.eO b a)->cR base ren'' kh=some k1->cR base ren'' kh'=some k1->kh=kh'):=by
       intro ren1 hle1 h0 hr
       obtain⟨ren2,hle2,ht,g⟩:=eA hr
       refine⟨ren2,Ren.le_trans hle1 hle2,ht,fun ren'' hle=> ?_⟩
       obtain⟨g2,g3⟩:=g ren'' hle
       have hk1'':cR base ren'' k0=some k1:=oL (Ren.le_trans hle1 (Ren.le_trans hle2 hle)) hk1
       refine⟨fun kh B' hg=> ?_,fun kh kh' X X' q hg hn hg' hn' hq hq'=> ?_⟩
       ·rcases Mem.eJ hg with ⟨rfl,rfl⟩ | ⟨_,hg⟩
        ·exact h0 ren'' (Ren.le_trans hle2 hle)
        ·intro b a hn
         obtain⟨q,Y,h1,h2,h3⟩:=g2 kh B' hg b a hn
         exact⟨q,Y,h1,fun hm=>h2 (List.mem_cons_of_mem _ hm),h3⟩
       ·rcases Mem.eJ hg with ⟨e1,_⟩ | ⟨_,hgr⟩<;>rcases Mem.eJ hg' with ⟨e2,_⟩ | ⟨_,hgr'⟩
        ·exact e1.trans e2.symm
        ·subst e1
         rw[hk1''] at hq;injection hq with hq;subst hq
         obtain⟨b,a,hn'⟩:=hn'
         obtain⟨q2,Y,h1,h2,_⟩:=g2 kh' X' hgr' b a hn'
         rw[hq'] at h1;injection h1 with h1;subst h1
         exact absurd (List.mem_cons_self ..) h2
        ·subst e2
         rw[hk1''] at hq';injection hq' with hq';subst hq'
         obtain⟨b,a,hn⟩:=hn
         obtain⟨q2,Y,h1,h2,_⟩:=g2 kh X hgr b a hn
         rw[hq] at h1;injection h1 with h1;subst h1
         exact absurd (List.mem_cons_self ..) h2
        ·exact g3 kh kh' X X' q hgr hn hgr' hn' hq hq'
      split at hh
      ·rename_i hwf
       have hle:ah B B0:=hh.1
       refine key Gy (fun ren'' hl b0 a0 hn=> ?_) hh.2
       obtain⟨a,b,c⟩:=hle.2 b0 a0 hn
       exact⟨k1,B,oL (Ren.le_trans Gy hl) hk1,hnu,hB,a,fun E o ho=>(b E o ho).congr (fun k hk=>Ren.vZ hk) (SB.FC hwf a0),c⟩
      ·split at hh
       ·rename_i cs' tot' ty' cs tot ty _
        split at hh
        ·rename_i hty
         obtain⟨htot,hh⟩:=hh
         have htot:tot'=tot:=htot
         obtain⟨ren1,hle1,hr,hv⟩:=eY hh
         refine key hle1 (fun ren'' hl b0 a0 hn=>⟨k1,_,oL (Ren.le_trans hle1 hl) hk1,hnu,hB,hn,fun E o ho=> ?_,id⟩) hr
         obtain⟨c,fr,h1,h2,h3,h4⟩:=ho
         refine⟨c,fr,by rw[hty];exact h1,h2,fun i v hvi=> ?_,by rw[htot];exact h4⟩
         have hvv:=hv ren'' E hl
         rw[SV.bp,SV.bp] at hvv
         have:(cs'.map (SV.val (Ren.E base ren'' E)))[i]?=some (v.val (Ren.E base ren'' E)):=by rw[List.getElem?_map,hvi];rfl
         rw[hvv,List.getElem?_map] at this
         cases hc:cs[i]? with
         | none=>rw[hc] at this;cases this
         | some u =>
           rw[hc] at this;injection this with this
           rw[← this];exact h3 i u hc
        ·exact hh.elim
       ·exact hh.elim
     ·exact hh.elim
   ·split at hh
    ·have hh:(∀ b a,¬ B0.eO b a)/\(dO base m r used aH t).holds:=by
      cases hF:B0.iA with
      | true=>rw[hF] at hh;exact⟨fun b a ha=>hh.1 a (SB.SJ hF ha),hh.2⟩
      | false =>
        rw[hF] at hh
        refine⟨fun b a ha=> ?_,hh.2⟩
        have h1:B0.no=true:=hh.1
        rw[((SB.gy hF).1 ha).1] at h1
        cases h1
     obtain⟨ren2,hle2,ht,g⟩:=eA hh.2
     have hno:=hh.1
     refine⟨ren2,hle2,ht,fun ren'' hle=> ?_⟩
     obtain⟨g2,g3⟩:=g ren'' hle
     refine⟨fun kh B' hg=> ?_,fun kh kh' X X' q hg hn hg' hn' hq hq'=> ?_⟩
     ·rcases Mem.eJ hg with ⟨rfl,rfl⟩ | ⟨_,hg⟩
      ·exact fun b a hn=>(hno b a hn).elim
      ·exact g2 kh B' hg
     ·rcases Mem.eJ hg with ⟨_,rfl⟩ | ⟨_,hgr⟩
      ·obtain⟨b,a,hn⟩:=hn;exact(hno b a hn).elim
      ·rcases Mem.eJ hg' with ⟨_,rfl⟩ | ⟨_,hgr'⟩
       ·obtain⟨b,a,hn'⟩:=hn';exact(hno b a hn').elim
       ·exact g3 kh kh' X X' q hgr hn hgr' hn' hq hq'
    ·exact hh.elim
def Uh:SV->Option Nat
 | .ptr k _ _=>some k
 | .jz k _ _ _=>some k
 | .mR k _ _ _=>some k
 | .slc k _ _ _ _=>some k
 | .bw k _ _ _ _ _=>some k
 | .map k=>some k
 | .yield k=>some k
 | .eD k _ _=>some k
 | .cn k _ _ _ _ _ _=>some k
 | _=>none
def dropKeys (base:Nat)(tmps:List (Option SV)):List (Nat×SV)->List Nat
 | []=>[]
 | (i,h)::r=>match Uh h with
   | some kh=>(match Nat.blt kh base with
     | true=>dropKeys base tmps r
     | false=>(match slot tmps i with
       | some u=>(match Uh u with
         | some k1=>k1::dropKeys base tmps r
         | none=>dropKeys base tmps r)
       | none=>dropKeys base tmps r))
   | none=>dropKeys base tmps r
def i7 (ks:List Nat):Mem->Mem
 | []=>[]
 | e::r=>match ks.contains e.1 with
   | true=>i7 ks r
   | false=>e::i7 ks r
def bC.PO (A:bC)(st:St)(x:A.α):Mem :=
 A.mem st x++i7 ((A.mem st x).map (·.1)++(dropKeys st.nx st.tmps (A.slots st x)++A.drop st)) st.m
def hd (body:Code)(A:bC)(st:St)(x:A.α):St :=
 ⟨jx (A.slots st x) (forget (written body) st.tmps),A.PO st x,st.nx+A.fresh⟩
def o5 (body:Code)(A:bC)(st:St)(x:A.α):Bool :=
 (A.slots st x).all (fun p=>(written body).contains p.1&&p.2.wf (st.nx+A.fresh))&&(A.PO st x).all (fun p=>Nat.blt p.1 (st.nx+A.fresh))
def rq (body:Code)(A:bC)(st:St)(y:A.α)(st1:St):VC :=
 match o5 body A st y with
 | true=>MS (A.gh st1) st1.tmps st1.m (fun tmps m=>qy st.nx (A.slots st y) tmps [] (fun aH=>dO st.nx m (A.PO st y) [] aH (fun _=>.tt)))
 | false=>.fail "loop: the annotation"
theorem lO: ∀ {l:List Nat} {tmps:List (Option SV)},(forget l tmps).length=tmps.length
 | [],_=>rfl
 | i::r,tmps=>by simp[forget,lO (l:=r)]
theorem jB: ∀ {l:List (Nat×SV)} {tmps:List (Option SV)},(jx l tmps).length=tmps.length
 | [],_=>rfl
 | (i,v)::r,tmps=>by simp[jx,jB (l:=r)]
theorem rY: ∀ {l:List Nat} {tmps:List (Option SV)} {i:Nat} {v:SV},(forget l tmps)[i]?=some (some v)->tmps[i]?=some (some v)/\i∉ l
 | [],_,_,_,h=>⟨h,by simp⟩
 | j::r,tmps,i,v,h=>by
   simp only[forget] at h
   have:=rY h
   rw[List.getElem?_set] at this
   split at this
   ·rename_i e;subst e
    split at this
    ·simp at this
    ·simp at this
   ·rename_i e
    refine⟨this.1,?_⟩
    rw[List.mem_cons];rintro(h1 | h1)
    ·exact e h1.symm
    ·exact this.2 h1
theorem Bb: ∀ {l:List Nat} {tmps:List (Option SV)} {i:Nat},i∉ l->(forget l tmps)[i]?=tmps[i]?
 | [],_,_,_=>rfl
 | j::r,tmps,i,h=>by
   rw[List.mem_cons] at h
   simp only[forget]
   rw[Bb (fun x=>h (.inr x)),List.getElem?_set,if_neg (fun e=>h (.inl e.symm))]
theorem mY: ∀ {l:List (Nat×SV)} {tmps:List (Option SV)} {i:Nat} {v:SV},(jx l tmps)[i]?=some (some v)->(i,v)∈ l∨(tmps[i]?=some (some v)/\∀ u,(i,u)∉ l)
 | [],_,_,_,h=>.inr ⟨h,fun _ h=>by cases h⟩
 | (j,x)::r,tmps,i,v,h=>by
   simp only[jx] at h
   rcases mY h with h | ⟨h',hn⟩
   ·exact .inl (List.mem_cons_of_mem _ h)
   ·rw[List.getElem?_set] at h'
    by_cases e:j=i
    ·subst e
     rw[if_pos rfl] at h'
     split at h'
     ·injection h' with h';injection h' with h';subst h';exact .inl (List.mem_cons_self ..)
     ·cases h'
    ·rw[if_neg e] at h'
     refine .inr ⟨h',fun u hu=> ?_⟩
     rw[List.mem_cons] at hu
     rcases hu with hu | hu
     ·injection hu with e1 _;exact e e1.symm
     ·exact hn u hu
theorem wh: ∀ {l:List (Nat×SV)} {tmps:List (Option SV)} {i:Nat},(∀ u,(i,u)∉ l)->(jx l tmps)[i]?=tmps[i]?
 | [],_,_,_=>rfl
 | (j,x)::r,tmps,i,h=>by
   simp only[jx]
   rw[wh (fun u hu=>h u (List.mem_cons_of_mem _ hu)),List.getElem?_set,if_neg (fun e=>h x (by subst e;exact List.mem_cons_self ..))]
theorem qw {nx:Nat}: ∀ {l:List (Option SV)},(∀(i:Nat) (v:SV),l[i]?=some (some v)->v.wf nx=true)->cN nx l=true
 | [],_=>rfl
 | none::r,h=>qw (l:=r) fun i v hv=>h (i+1) v (by simpa using hv)
 | some x::r,h=>by
   simp only[cN,Bool.and_eq_true]
   exact⟨h 0 x rfl,qw fun i v hv=>h (i+1) v (by simpa using hv)⟩
theorem mU {body:Code}{A:bC}{st st1:St}{y:A.α}(h:(rq body A st y st1).holds){Γ:aY}{E:Nat->Nat}{a:Act}{w:World}
  (hnx:Γ.qF<=st.nx) (hwt:cN st.nx st.tmps=true) (hkeep: ∀ i,i∉ written body->st1.tmps[i]?=st.tmps[i]?) (hlen:st1.tmps.length=st.tmps.length) (hs:Sat Γ E st1 a w) :
  ∃ E',(∀ k,k<st.nx->E' k=E k)/\Sat Γ E' (hd body A st y) a w:=by
 unfold rq at h
 split at h
 ·rename_i hok
  simp only[o5,Bool.and_eq_true,List.all_eq_true,Nat.blt_eq,List.contains_iff_mem] at hok
  obtain⟨tmps',m',htold,hsm,h⟩:=l9 h hs.mm
  obtain⟨ren1,_,h1,h2⟩:=nO h
  obtain⟨aH,hle,_,h34⟩:=eA h1
  obtain⟨h3,h4⟩:=h34 aH (Ren.le_refl _)
  have hold: ∀ k,k<st.nx->Ren.E st.nx aH E k=E k:=fun k hk=>Ren.vZ hk
  refine⟨Ren.E st.nx aH E,hold,⟨⟨by simp[hd,jB,lO,hs.tm.size,hlen],fun i v hv=> ?_⟩,qw fun i v hv=> ?_,hs.df,?_⟩⟩
  ·rcases mY hv with hm | ⟨hv,_⟩
   ·obtain⟨u,hu,hval⟩:=h2 aH E hle i v hm
    obtain⟨v0,q1,q2,_⟩:=htold.get i u (lg hu)
    rw[hval,q2];exact hs.tm.val i v0 q1
   ·obtain⟨hv,hn⟩:=rY hv
    have:=hs.tm.val i v (by rw[hkeep i hn];exact hv)
    rw[SV.val_congr hold v (iX hwt hv)];exact this
  ·rcases mY hv with hm | ⟨hv,_⟩
   ·exact(hok.1 (i,v) hm).2
   ·obtain⟨hv,hn⟩:=rY hv
    exact SV.eV (Nat.le_add_right _ _) v (iX hwt hv)
  ·have hE: ∀ kh k1,cR st.nx aH kh=some k1->Ren.E st.nx aH E kh=E k1:=fun kh k1 hr=>by simp[Ren.E,hr]
   refine⟨fun kh B' a hg hn=> ?_,fun kh kh' B B' a hg hn hg' hn' hr=> ?_,fun kh B' hg=> ?_,fun kh B' a hg hn hro=> ?_,hsm.ext,⟨Nat.le_trans hnx (Nat.le_add_right _ _),fun k hk=>(hold k (Nat.lt_of_lt_of_le hk hnx)).trans (hsm.cx.2 k hk)⟩,hsm.kp⟩
   ·obtain⟨k1,B,g1,_,g3,g5,g6,_⟩:=h3 kh B' hg _ a hn
    rw[hE kh k1 g1] at g5
    obtain⟨o,ho,hb⟩:=hsm.gi k1 B a g3 g5
    exact⟨o,ho,g6 E o hb⟩
   ·obtain⟨k1,X,g1,_,g3,g5,_,g7⟩:=h3 kh B hg _ a hn
    obtain⟨k1',X',g1',_,g3',g5',_,g7'⟩:=h3 kh' B' hg' _ a hn'
    rw[hE kh k1 g1] at g5
    rw[hE kh' k1' g1'] at g5'
    have:=hsm.gk k1 k1' X X' a g3 g5 g3' g5' (hr.imp g7 g7')
    subst this
    exact h4 kh kh' B B' k1 hg ⟨_,_,hn⟩ hg' ⟨_,_,hn'⟩ g1 g1'
   ·have: ∀(l:List (Nat×SB)),(∀ p∈ l,p.1<st.nx+A.fresh)->Mem.get kh l=some B'->kh<st.nx+A.fresh:=by
     intro l
     induction l with
     | nil=>intro _ h;cases h
     | cons e r ih =>
       intro ha hg
       by_cases e1:e.1=kh
       ·rw[← e1];exact ha e (by simp)
       ·simp only[Mem.get,e1,if_false] at hg
        exact ih (fun p hp=>ha p (by simp[hp])) hg
    exact this _ hok.2 hg
   ·obtain⟨k1,B,g1,_,g3,g5,_,g7⟩:=h3 kh B' hg _ a hn
    rw[hE kh k1 g1] at g5
    exact hsm.gW k1 B a g3 g5 (g7 hro)
 ·exact h.elim
def older (nx:Nat):Mem->Mem
 | []=>[]
 | e::r=>match Nat.blt e.1 nx with
   | true=>e::older nx r
   | false=>older nx r
def s9 (nx:Nat)(v:SV)(m':Mem)(nx':Nat)(K:SV->Mem->Nat->VC):VC :=
 match v.wf nx&&Mem.wf nx (older nx m')with
 | true=>K v (older nx m') nx
 | false=>K v m' nx'
theorem jS {nx:Nat}: ∀ {m:Mem} {k:Nat} {B:SB},(older nx m).get k=some B->m.get k=some B/\k<nx
 | [],_,_,h=>by cases h
 | e::r,k,B,h=>by
   simp only[older] at h
   cases hb:Nat.blt e.1 nx with
   | true =>
     rw[hb] at h
     simp only at h
     by_cases he:e.1=k
     ·rw[Mem.get,if_pos he] at h ⊢
      exact⟨h,by rw[← he];simpa [Nat.blt_eq] using hb⟩
     ·rw[Mem.get,if_neg he] at h ⊢
      exact jS h
   | false =>
     rw[hb] at h
     have:=jS h
     refine⟨?_,this.2⟩
     rw[Mem.get,if_neg (fun e1=> ?_)]
     ·exact this.1
     ·have h2:=this.2
      have h3: ¬ (e.1<nx):=by
       intro hlt
       have h4:Nat.blt e.1 nx=true:=by rw[Nat.blt_eq];exact hlt
       rw[h4] at hb;cases hb
      omega
theorem rH {nx:Nat}{v:SV}{m':Mem}{nx':Nat}{K:SV->Mem->Nat->VC}{Γ:aY}{E E':Nat->Nat}{w:World}(h:(s9 nx v m' nx' K).holds)(hs:aJ Γ E' m' nx' w)
  (hg:Γ.qF<=nx) (hE: ∀ k,k<nx->E' k=E k) (hn:nx<=nx'):bg (lift K) Γ E nx (v.val E') w:=by
 unfold s9 at h
 split at h
 ·rename_i hw
  simp only[Bool.and_eq_true] at hw
  exact⟨E',some v,older nx m',nx,hE,Nat.le_refl _,fun u hu=>by injection hu with hu;subst hu;rfl,hs.sub (fun k B hk=>(jS hk).1) (fun k B hk=>(jS hk).2) (.inr hg),h⟩
 ·exact⟨E',some v,m',nx',hE,hn,fun u hu=>by injection hu with hu;subst hu;rfl,hs,h⟩
theorem pX {nx:Nat}{v:SV}{m':Mem}{nx':Nat}{K K':SV->Mem->Nat->VC}(hK: ∀ v m nx,(K v m nx).holds->(K' v m nx).holds)(h:(s9 nx v m' nx' K).holds):(s9 nx v m' nx' K').holds:=by
 unfold s9 at h ⊢
 split at h
 ·exact hK _ _ _ h
 ·exact hK _ _ _ h
mutual
def SV.refs:SV->List Nat->List Nat
 | .ptr key _ _,l=>key::l
 | .jz key _ _ _,l=>key::l
 | .mR key _ _ _,l=>key::l
 | .slc key _ _ _ _,l=>key::l
 | .bw key _ _ _ _ _,l=>key::l
 | .bP key _ _ _ _ _ _,l=>key::l
 | .gu key _ _ _ _,l=>key::l
 | .map key,l=>key::l
 | .yield key,l=>key::l
 | .eD key _ _,l=>key::l
 | .cn key _ _ _ _ _ _,l=>key::l
 | .lJ key _ _ _ _,l=>key::l
 | .agg cs,l=>SV.BY cs l
 | .aL vs,l=>SV.BY vs l
 | .iface _ v,l=>v.refs l
 | .func _ a b,l=>SV.BY a (SV.BY b l)
 | _,l=>l
def SV.BY:List SV->List Nat->List Nat
 | [],l=>l
 | x::r,l=>x.refs (SV.BY r l)
end
def Q2:List (Nat×SV×SV)->List Nat->List Nat
 | [],l=>l
 | e::r,l=>e.2.1.refs (e.2.2.refs (Q2 r l))
def ny:List au->List Nat->List Nat
 | [],l=>l
 | .ref key _::r,l=>key::ny r l
 | .cn key _ _ _ _ _::r,l=>key::ny r l
 | _::r,l=>ny r l
def SB.refs:SB->List Nat->List Nat
 | .cells cs _ _,l=>SV.BY cs l
 | .map es _,l=>Q2 es l
 | .Ec (some k) _ _ _,l=>k::l
 | .rows _ _ av _ _ _,l=>ny av l
 | .view _ _ _ av,l=>ny av l
 | .iw _ cs _ _ _,l=>ny cs l
 | .dI _ _ av _,l=>ny (av.map (bU.at 0)) l
 | .fmap _ (.ref k _) _,l=>k::l
 | _,l=>l
def wT (nx:Nat):Mem->List Nat->List Nat
 | [],l=>l
 | e::r,l=>match Nat.blt e.1 nx,e.2 with
   | true,B=>B.refs (wT nx r l)
   | false,.loop .. =>e.1::wT nx r l
   | false,_=>wT nx r l
def UG (k:Nat):List Nat->Bool
 | []=>false
 | x::r=>match Nat.beq x k with
   | true=>true
   | false=>UG k r
def CV:Nat->List Nat->List Nat->Mem->List Nat
 | 0,_,seen,_=>seen
 | _+1,[],seen,_=>seen
 | f+1,k::r,seen,m=>match UG k seen with
   | true=>CV f r seen m
   | false=>(match m.get k with
     | some B=>CV f (B.refs r) (k::seen) m
     | none=>CV f r seen m)
def zf (p:Nat->Bool):Mem->Mem
 | []=>[]
 | e::r=>match p e.1 with
   | true=>e::zf p r
   | false=>zf p r
def T5 (nx:Nat)(v:SV)(m:Mem):Mem :=
 let live:=CV 100000 (v.refs (wT nx m [])) [] m
 zf (fun k=>match Nat.blt k nx with
  | true=>true
  | false=>UG k live) m
theorem pL {p:Nat->Bool}: ∀ {m:Mem} {k:Nat} {B:SB},(zf p m).get k=some B->m.get k=some B
 | [],_,_,h=>by cases h
 | e::r,k,B,h=>by
   simp only[zf] at h
   cases hp:p e.1 with
   | true =>
     rw[hp] at h
     simp only at h
     by_cases he:e.1=k
     ·rw[Mem.get,if_pos he] at h ⊢;exact h
     ·rw[Mem.get,if_neg he] at h ⊢;exact pL h
   | false =>
     rw[hp] at h
     have hk:p k=true:=by
      clear hp
      have: ∀ {m:Mem},(zf p m).get k=some B->p k=true:=by
       intro m
       induction m with
       | nil=>intro h;cases h
       | cons e r ih =>
         intro h
         simp only[zf] at h
         cases hp:p e.1 with
         | true =>
           rw[hp] at h
           simp only at h
           by_cases he:e.1=k
           ·rw[← he];exact hp
           ·rw[Mem.get,if_neg he] at h;exact ih h
         | false=>rw[hp] at h;exact ih h
      exact this h
     have he: ¬ e.1=k:=fun he=>by rw[he,hk] at hp;cases hp
     rw[Mem.get,if_neg he];exact pL h
def NB (g:Bool)(nx:Nat)(v:SV)(m':Mem)(nx':Nat)(K:SV->Mem->Nat->VC):VC:=match g with
 | false=>s9 nx v m' nx' K
 | true=>s9 nx v (T5 nx v m') nx' K
theorem aJ.Wr {nx:Nat}{v:SV}{m':Mem}{nx':Nat}{Γ:aY}{E:Nat->Nat}{w:World}(hs:aJ Γ E m' nx' w):aJ Γ E (T5 nx v m') nx' w :=
 hs.sub (fun _ _ h=>pL h) (fun _ _ h=>hs.lt _ _ (pL h)) (.inl (Nat.le_refl _))
theorem Ip {g:Bool}{nx:Nat}{v:SV}{m':Mem}{nx':Nat}{K:SV->Mem->Nat->VC}{Γ:aY}{E E':Nat->Nat}{w:World}(h:(NB g nx v m' nx' K).holds)(hs:aJ Γ E' m' nx' w)
  (hg:Γ.qF<=nx) (hE: ∀ k,k<nx->E' k=E k) (hn:nx<=nx'):bg (lift K) Γ E nx (v.val E') w:=by
 cases g with
 | false=>exact rH h hs hg hE hn
 | true=>exact rH h hs.Wr hg hE hn
theorem BI {g:Bool}{nx:Nat}{v:SV}{m':Mem}{nx':Nat}{K K':SV->Mem->Nat->VC}(hK: ∀ v m nx,(K v m nx).holds->(K' v m nx).holds)(h:(NB g nx v m' nx' K).holds):(NB g nx v m' nx' K').holds:=by
 cases g with
 | false=>exact pX hK h
 | true=>exact pX hK h
inductive Ex where
 | normal
 | exit (id:Nat)
 | ret
def Ex.to:Ex->Exit
 | .normal=>.normal
 | .exit id=>.exit id
 | .ret=>.ret
def Ex.jump:Ex->Option Code
 | .normal=>none
 | .exit id=>some (.exit id)
 | .ret=>some .ret
abbrev XK:=Ex->St->VC
abbrev XP:=SV->St->VC
def CC:XP:=fun _ _=>.fail "a panic"
def vL:PK:=fun _ _ _=>.fail "a panic"
def lX (X:XP)(Γ:aY)(E:Nat->Nat)(nx:Nat)(e:Exit)(a:Act)(w:World):Prop :=
 ∃ v E' st',e=.panic [{v:=SV.val E' v,recovered:=false}]/\v.wf st'.nx=true/\(∀ k,k<nx->E' k=E k)/\nx<=st'.nx/\Sat Γ E' st' a w/\(X v st').holds
def i9 (K:XK)(X:XP)(Γ:aY)(E:Nat->Nat)(nx:Nat)(e:Exit)(a:Act)(w:World):Prop :=
 (∃ ex:Ex,e=ex.to/\iZ (K ex) Γ E nx a w)∨lX X Γ E nx e a w
theorem lX.weaken {X:XP}{Γ:aY}{E E':Nat->Nat}{nx nx':Nat}{e:Exit}{a:Act}{w:World}(h:lX X Γ E' nx' e a w)(hE: ∀ k,k<nx->E' k=E k)(hn:nx<=nx') :
  lX X Γ E nx e a w:=by
 obtain⟨v,E'',st'',k0,kw,k1,k2,k3,k4⟩:=h
 exact⟨v,E'',st'',k0,kw,fun k hk=>(k1 k (Nat.lt_of_lt_of_le hk hn)).trans (hE k hk),Nat.le_trans hn k2,k3,k4⟩
theorem i9.weaken {K:XK}{X:XP}{Γ:aY}{E E':Nat->Nat}{nx nx':Nat}{e:Exit}{a:Act}{w:World}(h:i9 K X Γ E' nx' e a w)(hE: ∀ k,k<nx->E' k=E k)(hn:nx<=nx') :
  i9 K X Γ E nx e a w:=by
 rcases h with ⟨ex,he,E'',st'',k1,k2,k3,k4⟩ | h
 ·exact .inl ⟨ex,he,E'',st'',fun k hk=>(k1 k (Nat.lt_of_lt_of_le hk hn)).trans (hE k hk),Nat.le_trans hn k2,k3,k4⟩
 ·exact .inr (h.weaken hE hn)
theorem lX.none {Γ:aY}{E:Nat->Nat}{nx:Nat}{e:Exit}{a:Act}{w:World}(h:lX CC Γ E nx e a w):False:=by
 obtain⟨_,_,_,_,_,_,_,_,h⟩:=h
 exact h.elim
theorem Mem.eV {n k:Nat}(h:n<=k): ∀ {m:Mem},Mem.wf n m=true->Mem.wf k m=true
 | [],_=>rfl
 | e::r,hm=>by
   simp only[Mem.wf,Bool.and_eq_true] at hm ⊢
   exact⟨SB.eV h hm.1,Mem.eV h hm.2⟩
def pG:List Nat->List SV->List (Option SV)->List (Option SV)
 | p::ps,v::vs,t=>pG ps vs (t.set p (some v))
 | _,_,t=>t
theorem FB {E:Nat->Nat}{ds:List Deferred}: ∀ {ps:List Nat} {vs:List SV} {tmps:List (Option SV)} {ts:Array Value},cv E tmps ⟨ts,ds⟩ ->
  cv E (pG ps vs tmps) ⟨(ps.zip (SV.vals E vs)).foldl (fun t (p,v)=>t.setIfInBounds p v) ts,ds⟩
 | [],vs,tmps,ts,h=>by simpa [pG] using h
 | p::ps,[],tmps,ts,h=>by simpa [pG,SV.vals] using h
 | p::ps,v::vs,tmps,ts,h=>by
   simp only[pG,SV.vals,List.zip_cons_cons,List.foldl_cons]
   refine FB ?_
   have:=h.put (dst:=some p) (sv:=some v) (r:=v.val E) (fun u hu=>by injection hu with hu;subst hu;rfl)
   exact this
theorem Gr {nx:Nat}: ∀ {ps:List Nat} {vs:List SV} {tmps:List (Option SV)},cN nx tmps=true->SV.ep nx vs=true->cN nx (pG ps vs tmps)=true
 | [],vs,tmps,h,_=>by simpa [pG] using h
 | p::ps,[],tmps,h,_=>by simpa [pG] using h
 | p::ps,v::vs,tmps,h,hv=>by
   simp only[SV.ep,Bool.and_eq_true] at hv
   simp only[pG]
   exact Gr (m4 h (fun u hu=>by injection hu with hu;subst hu;exact hv.1)) hv.2
def nM (kl:Nat)(R:Loop)(ps:List Nat)(tmps0:List (Option SV))(fa fb:XK->St->VC):PT:=fun args m nx K =>
 match m.get kl,Nat.beq ps.length args.length with
 | some (.loop .ready none R'),true=>.and (j9 R' R) (fa (fun e st1=>match e with
    | .normal=>(match st1.m.get kl with
      | some (.loop .ready pe R1)=>fb (fun e st2=>match st2.m.get kl with
         | some (.loop _ _ R2)=>(match e with
           | .normal=>s9 nx (.bool true true) (st2.m.put kl (.loop .ready none R2)) st2.nx K
           | .exit id=>s9 nx (.bool true false) (st2.m.put kl (.loop .done (some (.exit id)) R2)) st2.nx K
           | .ret=>s9 nx (.bool true false) (st2.m.put kl (.loop .done (some .ret) R2)) st2.nx K)
         | _=>.fail "yield: the record") ⟨st1.tmps,st1.m.put kl (.loop .busy pe R1),st1.nx⟩
      | _=>.fail "yield: the record")
    | _=>.fail "yield: a jump out of an assignment") ⟨pG ps args tmps0,m,nx⟩)
 | _,_=>.fail "yield: the record"
section
variable {P : Program} {Γ : aY}
theorem aJ.DY {E:Nat->Nat}{m:Mem}{nx:Nat}{w:World}(h:aJ Γ E m nx w){k:Nat}{st st':LoopState}{pe pe':Option Code}{R:Loop}(hk:m.get k=some (.loop st pe R)) :
  aJ Γ E (m.put k (.loop st' pe' R)) nx (w.putObj (E k) (.loop {R with state:=st',pending:=pe'})) :=
 h.write hk rfl rfl rfl rfl
theorem HR {kl l:Nat}{R:Loop}{tmps0:List (Option SV)}{fa fb:XK->St->VC}{E1:Nat->Nat}(hkl:kl<Γ.qF)(hl:Γ.E0 kl=l)(h1: ∀ k,k<kl->Γ.E0 k=E1 k)
  (ht:cv E1 tmps0 ⟨R.tmps,[]⟩) (hw:cN kl tmps0=true)
  (ia: ∀ Δ,Γ.le Δ->∀ K st E a w,(fa K st).holds->Sat Δ E st a w->R.assign.wpIn (Fr (some l)) 0 P (i9 K CC Δ E st.nx) a w)
  (ib: ∀ Δ,Γ.le Δ->∀ K st E a w,(fb K st).holds->Sat Δ E st a w->R.body.wpIn (Fr (some l)) 0 P (i9 K CC Δ E st.nx) a w) (KP:PK) :
  nQ P Γ KP (.yield kl) (nM kl R R.params.toList tmps0 fa fb):=by
 intro Δ' hle' args m nx K h hwf hargs E w hs'
 refine Out.mono (R:=bg (lift K) Δ'.own E nx) (RP:=iT KP Δ'.own E nx) ?_ (fun _ _ h=>h.we) (fun _ _ h=>h.we)
 have hle:=aY.le_trans hle' Δ'.QK
 have hs:=hs'.Ww
 have htl:Δ'.own.tail=[]:=rfl
 generalize Δ'.own=Δ at hle hs htl ⊢
 unfold nM at h
 have hkΔ:kl<Δ.qF:=Nat.lt_of_lt_of_le hkl hle.nx
 have hEl: ∀ E':Nat->Nat,(∀ k,k<Δ.qF->E' k=Δ.E0 k)->E' kl=l:=fun E' hE'=>(hE' kl hkΔ).trans ((hle.e kl hkl).trans hl)
 split at h
 ·rename_i R' hk hlen
  obtain⟨hR,h⟩:=h
  have hR:R'=R:=hR
  subst hR
  have hlen:R'.params.toList.length=args.length:=Nat.eq_of_beq_eq_true hlen
  have hE:E kl=l:=hEl E hs.cx.2
  obtain⟨o,ho,hb⟩:=hs.kO kl _ hk rfl
  have hb:o=.loop {R' with state:=.ready,pending:=none}:=hb
  subst hb
  rw[hE] at ho
  have hrun:(mg.sem E (.yield kl) (SV.vals E args).toArray).run P w=.ok (.round l R'.fn ((R'.params.zip (SV.vals E args).toArray).foldl (fun tmps (t,a)=>tmps.setIfInBounds t a) R'.tmps) R'.assign R'.body) w:=by
   simp only[mg.sem,hE]
   exact run_yield (r:={R' with state:=.ready,pending:=none}) ho (by simpa [SV.bp] using hlen.symm)
  rw[hrun]
  simp only[Out]
  have hE1: ∀ k,k<kl->E k=E1 k:=fun k hk=>(hs.cx.2 k (Nat.lt_trans hk hkΔ)).trans ((hle.e k (Nat.lt_trans hk hkl)).trans (h1 k hk))
  have hnx:kl<=nx:=Nat.le_of_lt (Nat.lt_of_lt_of_le hkΔ hs.cx.1)
  have hsat:Sat Δ E ⟨pG R'.params.toList args tmps0,m,nx⟩ ⟨(R'.params.zip (SV.vals E args).toArray).foldl (fun tmps (t,a)=>tmps.setIfInBounds t a) R'.tmps,[]⟩ w:=by
   refine⟨?_,Gr (gQ hnx hw) hargs,Marks.nil _ _ htl,hs⟩
   have:=FB (ps:=R'.params.toList) (vs:=args) (ht.congr hw hE1)
   rw[← Array.foldl_toList,Array.toList_zip]
   exact this
  refine roundIn_of_wpIn (F:=Fence.wide) trivial (wpIn_mono (ia Δ hle _ _ E _ w h hsat) ?_)
  rintro e a1 w1 (⟨ex,rfl,E2,st1,g1,g2,g3,g4⟩ | hp)
  rotate_left
  ·exact hp.none.elim
  cases ex with
  | exit id=>exact g4.elim
  | ret=>exact g4.elim
  | normal =>
    simp only[Ex.to,Exit.then]
    simp only at g4
    split at g4
    ·rename_i pe R1 hk1
     have hE2:E2 kl=l:=hEl E2 g3.mm.cx.2
     obtain⟨o1,ho1,hb1⟩:=g3.mm.kO kl _ hk1 rfl
     have hb1:o1=.loop {R1 with state:=.ready,pending:=pe}:=hb1
     subst hb1
     rw[hE2] at ho1
     refine⟨_,run_beginRound ho1 rfl,?_⟩
     have hm2:=g3.mm.DY (st':=.busy) (pe':=pe) hk1
     rw[hE2] at hm2
     have hsat2:Sat Δ E2 ⟨st1.tmps,st1.m.put kl (.loop .busy pe R1),st1.nx⟩ a1 (w1.putObj l (.loop {R1 with state:=.busy,pending:=pe})):=by
      refine⟨g3.tm,g3.wt,?_,hm2⟩
      obtain⟨Ds,d1,d2,d3,d4⟩:=g3.df
      refine⟨Ds,d1,d2,fun D hD=>⟨?_,(d3 D hD).2⟩,d4⟩
      have hne:D≠l:=fun e=>by
       have:=(d3 D hD).1
       rw[e,ho1] at this;cases this
      rw[World.putObj_heap_other hne];exact(d3 D hD).1
     refine wpIn_mono (ib Δ hle _ _ E2 _ _ g4 hsat2) ?_
     rintro e a2 w2 (⟨ex,rfl,E3,st2,q1,q2,q3,q4⟩ | hp)
     rotate_left
     ·exact hp.none.elim
     simp only at q4
     split at q4
     ·rename_i s2 pe2 R2 hk2
      have hE3:E3 kl=l:=hEl E3 q3.mm.cx.2
      obtain⟨o2,ho2,hb2⟩:=q3.mm.kO kl _ hk2 rfl
      have hb2:o2=.loop {R2 with state:=s2,pending:=pe2}:=hb2
      subst hb2
      rw[hE3] at ho2
      have hEE: ∀ k,k<nx->E3 k=E k:=fun k hk=>(q1 k (Nat.lt_of_lt_of_le hk g2)).trans (g1 k hk)
      have hnn:nx<=st2.nx:=Nat.le_trans g2 q2
      have fin: ∀(j:Option Code),(s9 nx (.bool true j.isNone) (st2.m.put kl (.loop (if j.isNone then .ready else .done) j R2)) st2.nx K).holds ->
        ∃ v w',(Instr.endRound l j).run P w2=.ok v w'/\∃ u,Ending.returned v=.returned u/\bg (lift K) Δ E nx u w':=by
       intro j hh
       refine⟨_,_,run_endRound j ho2,_,rfl,?_⟩
       have hm3:=q3.mm.DY (st':=if j.isNone then .ready else .done) (pe':=j) hk2
       rw[hE3] at hm3
       exact rH (v:=.bool true j.isNone) hh hm3 hs.cx.1 hEE hnn
      cases ex with
      | normal=>exact fin none q4
      | exit id=>exact fin (some (.exit id)) q4
      | ret=>exact fin (some .ret) q4
     ·exact q4.elim
    ·exact g4.elim
 ·exact h.elim
theorem s7 {kl:Nat}{R:Loop}{ps:List Nat}{tmps0:List (Option SV)}{fa fb:XK->St->VC}(ia: ∀(K K':XK) st,(∀ e st',(K e st').holds->(K' e st').holds)->(fa K st).holds->(fa K' st).holds)
  (ib: ∀(K K':XK) st,(∀ e st',(K e st').holds->(K' e st').holds)->(fb K st).holds->(fb K' st).holds):aR (nM kl R ps tmps0 fa fb):=by
 intro args m nx K K' hK h
 unfold nM at h ⊢
 split at h
 ·refine⟨h.1,ia _ _ _ (fun e st1 h1=> ?_) h.2⟩
  cases e with
  | exit id=>exact h1
  | ret=>exact h1
  | normal =>
    simp only at h1 ⊢
    split at h1
    ·refine ib _ _ _ (fun e st2 h2=> ?_) h1
     split at h2
     ·cases e<;>exact pX hK h2
     ·exact h2
    ·exact h1
 ·exact h
theorem aJ.enter {E:Nat->Nat}{m:Mem}{nx:Nat}{w:World}(h:aJ Γ E m nx w)(hw:Mem.wf nx m=true){R:Loop}(hR:R.state=.ready)(hp:R.pending=none){Ds:List Nat}(hD: ∀ D∈ Ds,w.heap[D]?=some (Obj.deferred (some []))) :
  ∃ Δ:aY,Γ.le Δ/\(∀ D,D∈ w.heap.size::(Ds++Γ.keep)->D∈ Δ.keep)/\Δ.qF=nx+1/\Δ.E0=(fun k=>if k=nx then w.heap.size+1 else E k) /\
    aJ Δ Δ.E0 ((nx,.loop .ready none R)::m) (nx+1) ((w.alloc (Obj.deferred (some []))).alloc (.loop R)):=by
 have hE: ∀ k,k<nx->(fun k=>if k=nx then w.heap.size+1 else E k) k=E k:=fun k hk=>by simp[Nat.ne_of_lt hk]
 refine⟨{Γ with qF:=nx+1,E0:=fun k=>if k=nx then w.heap.size+1 else E k,keep:=w.heap.size::(Ds++Γ.keep)},⟨rfl,rfl,Nat.le_succ_of_le h.cx.1,fun k hk=> ?_,fun D hD=>List.mem_cons_of_mem _ (List.mem_append_right _ hD)⟩,
  fun D hD=>hD,rfl,rfl,?_⟩
 ·exact(hE k (Nat.lt_of_lt_of_le hk h.cx.1)).trans (h.cx.2 k hk)
 ·have hm1:aJ {Γ with keep:=w.heap.size::(Ds++Γ.keep)} E m nx (w.alloc (Obj.deferred (some []))):=by
   have hold: ∀ i,i<w.heap.size->(w.alloc (Obj.deferred (some []))).heap[i]?=w.heap[i]?:=fun i hi=>by
    show(w.heap.push _)[i]?=_
    rw[Array.getElem?_push,if_neg (by omega)]
   refine⟨fun k B a hk hn=> ?_,h.gk,h.lt,h.gW,⟨h.ext.os,h.ext.tape,h.ext.output,?_,fun k hk hm=> ?_⟩,h.cx,fun D hD2=> ?_⟩
   ·obtain⟨o,ho,hb⟩:=h.gi k B a hk hn
    exact⟨o,by rw[hold _ (Array.getElem?_eq_some_iff.1 ho).1];exact ho,hb⟩
   ·have:=h.ext.size
    show _<=(w.heap.push _).size
    simp;omega
   ·rw[hold k (Nat.lt_of_lt_of_le hk h.ext.size)];exact h.ext.block k hk hm
   ·have hold2: ∀ D,w.heap[D]?=some (Obj.deferred (some []))->(w.alloc (Obj.deferred (some []))).heap[D]?=some (Obj.deferred (some [])):=fun D hd=>by
     rw[hold D (Array.getElem?_eq_some_iff.1 hd).1];exact hd
    rcases List.mem_cons.1 hD2 with e | hD2
    ·subst e
     show(w.heap.push _)[w.heap.size]?=_
     simp
    ·rcases List.mem_append.1 hD2 with h1 | h1
     ·exact hold2 D (hD D h1)
     ·exact hold2 D (h.kp D h1)
  have hsz:(w.alloc (Obj.deferred (some []))).heap.size=w.heap.size+1:=by show(w.heap.push _).size=_;simp
  have hm2:=hm1.alloc hw (B:=.loop .ready none R) (o:=.loop R) (by
   show Obj.loop R=.loop {R with state:=.ready,pending:=none}
   rw[← hR,← hp])
  rw[hsz] at hm2
  exact⟨hm2.gi,hm2.gk,hm2.lt,hm2.gW,hm2.ext,⟨Nat.le_refl _,fun k hk=>rfl⟩,hm2.kp⟩
theorem aJ.leave {E:Nat->Nat}{m:Mem}{nx:Nat}{w:World}(h:aJ Γ E m nx w){k:Nat}{st st':LoopState}{pe pe':Option Code}{R:Loop}(hk:m.get k=some (.loop st pe R)) :
  aJ Γ E (m.drop k) nx (w.putObj (E k) (.loop {R with state:=st',pending:=pe'})):=by
 refine(h.DY (st':=st') (pe':=pe') hk).sub (fun j B hj=> ?_) (fun j B hj=>h.lt j B (Mem.dW hj).2) (.inl (Nat.le_refl _))
 obtain⟨hne,hj⟩:=Mem.dW hj
 rw[Mem.Hh hne];exact hj
end
theorem gL {P:Program}{b:Frame}{a:Act}{k:List Item}{cs:List Frame}{w:World}{c:Code}:step P (lone (b.atR a (.code (.scope c)::k)) cs w)=.next (lone (b.atR a (.code c::.inScope c::k)) cs w) :=
 step_lone_go (by simp[Go.stepG,Go.stepG.exec,Frame.atR])
theorem Aq {P:Program}{b:Frame}{a:Act}{k:List Item}{cs:List Frame}{w:World}{c:Code}:step P (lone (b.atR a (.inScope c::k)) cs w)=.next (lone (b.atR a k) cs w) :=
 step_lone_go (by simp[Go.stepG,Go.stepG.exec,Frame.atR])
theorem qC {F:Fence}{n:Nat}{P:Program}{Q:Exit->Act->World->Prop}{a:Act}{w:World}{c:Code}(h:c.wpIn F n P (Exit.noGoto Q) a w):(Code.scope c).wpIn F n P Q a w:=by
 intro b k cs hro hb hr
 have h0:(lone (b.atR a (.code (.scope c)::k)) cs w).fenced P F:=fenced_calm hb hr rfl
 obtain⟨e,a₁,w₁,hq,harr⟩:=h b (.inScope c::k) cs hro hb hr
 cases e with
 | normal=>exact⟨.normal,a₁,w₁,hq,.head h0 gL (StepsIn.trans harr (.one (fenced_calm hb hr rfl) Aq))⟩
 | exit id =>
   have hx:exitTo id (.inScope c::k)=exitTo id k:=by simp[exitTo]
   exact⟨.exit id,a₁,w₁,hq,fun k' hk=>.head h0 gL (harr.1 k' (by rw[hx];exact hk)),
    fun hr' hk=>let ⟨k₁,h1,h2⟩:=harr.2 hr' (by rw[hx];exact hk);⟨k₁,h1,.head h0 gL h2⟩⟩
 | goto l=>exact hq.elim
 | ret=>exact⟨_,a₁,w₁,hq,.of_steps (.one h0 gL) harr⟩
 | panic ch=>exact⟨_,a₁,w₁,hq,.of_steps (.one h0 gL) harr⟩
 | outgrown=>exact⟨_,a₁,w₁,hq,.of_steps (.one h0 gL) harr⟩
end
end Go.Proofs.YtoibaecagklkaaaGreatDoor.Sx
