/-
  The framework's seventeenth part: code and functions: 'sx', and that it is sound.
-/
import Derived.Test.YtoalfimkkibpdaaGreatDoorMi
namespace Go.Proofs.YtoalfimkkibpdaaGreatDoor.Sx
open Go
noncomputable section
def firstRegion:Code→Option Nat
 | .region id _ _=>some id
 | .seq a b=>match firstRegion a with
   | some i=>some i
   | none=>firstRegion b
 | .cond _ a b=>match firstRegion a with
   | some i=>some i
   | none=>firstRegion b
 | .block _ b=>firstRegion b
 | .loop b=>firstRegion b
 | .scope b=>firstRegion b
 | _=>none
structure Multi where
 tags:List Nat
 tag:St→Nat
 A:Nat→LoopAnn
def one (A:LoopAnn):Multi:=⟨[0],fun _=>0,fun _=>A⟩
abbrev Anns:=List (Nat×(St→Option Multi))
def always (A:LoopAnn):St→Option Multi:=fun _=>some (one A)
def Anns.find (anns:Anns)(i:Nat)(st:St):Option Multi:=match anns with
 | []=>none
 | (j,A)::r=>if j=i then A st else Anns.find r i st
def annAt (anns:Anns)(body:Code)(st:St):Option Multi:=match firstRegion body with
 | some i=>anns.find i st
 | none=>none
def unroll:Nat→(XK→St→VC)→XK→St→VC
 | 0,_,_,_=>.fail "loop: too many rounds"
 | n+1,f,K,st=>f (fun e st'=>match e with
   | .normal=>unroll n f K st'
   | e=>K e st') st
def pickTag (t:Nat)(k:Nat→VC):List Nat→VC
 | []=>.fail "loop: no such head"
 | a::r=>if t=a then k a else pickTag t k r
theorem pickTag_iff {t:Nat} {k:Nat→VC}: ∀ {l:List Nat},(pickTag t k l).holds→t∈ l∧(k t).holds
 | [],h=>h.elim
 | a::r,h=>by
   simp only[pickTag] at h
   split at h
   ·rename_i e;subst e;exact⟨List.mem_cons_self ..,h⟩
   ·have:=pickTag_iff h;exact⟨List.mem_cons_of_mem _ this.1,this.2⟩
def entry (L:Multi)(body:Code)(st st1:St):VC :=
 pickTag (L.tag st1) (fun t=>.ex (L.A t).α fun y=>.and (.atom ((L.A t).pre st y)) (atHead body (L.A t) st y st1)) L.tags
def backTo (L:Multi)(body:Code)(st:St)(n:Nat)(st1:St):VC :=
 pickTag (L.tag st1) (fun t=>.ex (L.A t).α fun y=>.and (.atom ((L.A t).pre st y∧(L.A t).mea st y<n)) (atHead body (L.A t) st y st1)) L.tags
def roundAt (L:Multi)(body:Code)(f:XK→St→VC)(K:XK)(st:St)(t:Nat):VC :=
 .all (L.A t).α fun x=>.imp ((L.A t).pre st x) (match annOk body (L.A t) st x with
   | true=>f (fun e st1=>match e with
     | .normal=>backTo L body st ((L.A t).mea st x) st1
     | e=>K e st1) (hd body (L.A t) st x)
   | false=>.fail "loop: the annotation")
def roundsOf (g:Nat→VC):List Nat→VC
 | []=>.tt
 | [t]=>g t
 | t::r=>.and (g t) (roundsOf g r)
theorem roundsOf_mem {g:Nat→VC}: ∀ {l:List Nat},(roundsOf g l).holds→∀ t∈ l,(g t).holds
 | [],_,t,ht=>by cases ht
 | [a],h,t,ht=>by simp at ht;subst ht;exact h
 | a::b::r,h,t,ht=>by
   rw[List.mem_cons] at ht
   rcases ht with rfl | ht
   ·exact h.1
   ·exact roundsOf_mem (l:=b::r) h.2 t ht
theorem roundsOf_mono {g g':Nat→VC} (hg: ∀ t,(g t).holds→(g' t).holds): ∀ {l:List Nat},(roundsOf g l).holds→(roundsOf g' l).holds
 | [],h=>h
 | [a],h=>hg a h
 | a::b::r,h=>⟨hg a h.1,roundsOf_mono hg (l:=b::r) h.2⟩
def annLoop (L:Multi)(body:Code)(f:XK→St→VC)(K:XK)(st:St):VC :=
 .and (entry L body st st) (roundsOf (roundAt L body f K st) L.tags)
def joinAt (anns:Anns)(a:Code)(st:St):Option Multi:=match anns with
 | []=>none
 | _=>(match firstRegion a with
   | some i=>anns.find (1000+i) st
   | none=>none)
def joinAt2 (anns:Anns)(a b:Code)(st:St):Option Multi:=match anns with
 | []=>none
 | _=>(match joinAt anns a st with
   | some L=>some L
   | none=>(match firstRegion a,firstRegion b with
     | some i,some j=>anns.find (100000+(1000*i+j)) st
     | _,_=>none))
def joinRest (L:Multi)(a:Code)(f:St→VC)(st:St)(t:Nat):VC :=
 .all (L.A t).α fun x=>.imp ((L.A t).pre st x) (match annOk a (L.A t) st x with
   | true=>f (hd a (L.A t) st x)
   | false=>.fail "join: the annotation")
def condK (c:Option SV)(t f:VC):VC:=match c with
 | some (.bool true b)=>(match b with
   | true=>t
   | false=>f)
 | some (.bool false b)=>fork b (fun v=>match v with
   | true=>t
   | false=>f)
 | _=>.fail "cond"
abbrev Env:=List (Nat×PT)
def Env.find (env:Env)(k:Nat):Option PT:=match env with
 | []=>none
 | e::r=>if e.1=k then some e.2 else Env.find r k
def rangeEnd (kl:Nat)(tmps:List (Option SV))(K:XK):SV→Mem→Nat→VC:=fun _ m nx =>
 match m.get kl with
 | some (.loop .ready none _)=>K .normal ⟨tmps,m.drop kl,nx⟩
 | some (.loop .done (some .ret) _)=>K .ret ⟨tmps,m.drop kl,nx⟩
 | some (.loop .done (some (.exit id)) _)=>K (.exit id) ⟨tmps,m.drop kl,nx⟩
 | _=>.fail "range: the record"
structure Calling where
 callE:Env→PK→Cal→PT
 bd:FuncId→Bool
def sx (P:Program)(C:Calling)(env:Env)(anns:Anns)(n:Nat):Code→Bool→XP→XK→St→VC
 | .skip,_,_,K,st=>K .normal st
 | .label _,_,_,K,st=>K .normal st
 | .region _ ops d,_,X,K,st=>(match d with
   | true=>draw P (C.callE env fun v m nx=>X v ⟨unsure ops st.tmps,m,nx⟩) ops (K .normal) st
   | false=>seqOps P (C.callE env fun v m nx=>X v ⟨unsure ops st.tmps,m,nx⟩) ops (List.range ops.size) (K .normal) st)
 | .seq a b,r,X,K,st=>(match joinAt2 anns a b st with
   | some L=>.and (sx P C env anns n a r X (fun e st'=>match e with
     | .normal=>entry L a st st'
     | e=>K e st') st) (roundsOf (joinRest L a (sx P C env anns n b r X K) st) L.tags)
   | none=>sx P C env anns n a r X (fun e st'=>match e with
     | .normal=>sx P C env anns n b r X K st'
     | e=>K e st') st)
 | .cond c a b,r,X,K,st=>condK (ev st.tmps c) (sx P C env anns n a r X K st) (sx P C env anns n b r X K st)
 | .block id body,r,X,K,st=>sx P C env anns n body r X (fun e st'=>match e with
   | .exit j=>if j=id then K .normal st' else K (.exit j) st'
   | e=>K e st') st
 | .loop body,r,X,K,st=>(match annAt anns body st with
   | some A=>annLoop A body (sx P C env anns n body r X) K st
   | none=>unroll n (sx P C env anns n body r X) K st)
 | .exit id,_,_,K,st=>K (.exit id) st
 | .ret,_,_,K,st=>K .ret st
 | .scope body,r,X,K,st=>sx P C env anns n body r X K st
 | .rangeFunc g ps assign body,false,_,K,st=>(match ev st.tmps g,Mem.wf st.nx st.m with
   | some (.func (.func f) first captured),true=>(match C.bd f with
     | true=>.all Loop fun R=>C.callE ((st.nx,yieldPT st.nx R ps.toList st.tmps (sx P C env anns n assign true noX) (sx P C env anns n body true noX))::env) noP (.fn f)
        (first++[.yield st.nx]++captured) ((st.nx,.loop .ready none R)::st.m) (st.nx+1) (rangeEnd st.nx st.tmps K)
     | false=>.fail "range: over what")
   | _,_=>.fail "range: over what")
 | _,_,_,_,_=>.fail "code"
structure CallingOk (P:Program)(C:Calling):Prop where
 mono: ∀ env,(∀ p∈ env,MonoPT p.2)→∀ KP c,MonoPT (C.callE env KP c)
 monoP: ∀ env,(∀ p∈ env,MonoPT p.2)→∀ KP KP':PK,(∀ v m nx,(KP v m nx).holds→(KP' v m nx).holds)→∀ c args m nx K,(C.callE env KP c args m nx K).holds→(C.callE env KP' c args m nx K).holds
 ok: ∀(Γ:Base) env,(∀ p∈ env,MonoPT p.2)→(∀ p∈ env,∀ KP,COk P Γ KP (.yield p.1) p.2)→∀ KP c,COk P Γ KP c (C.callE env KP c)
 bd: ∀ f,C.bd f=true→∀(args:Array Value) (w:World),(callFunc f args).run P w=.ok (.enter f args) w
structure Kp (l:List Nat)(t t':List (Option SV)):Prop where
 len:t'.length=t.length
 get: ∀ i,i∉ l→t'[i]?=t[i]?
theorem Kp.refl (l:List Nat)(t:List (Option SV)):Kp l t t:=⟨rfl,fun _ _=>rfl⟩
theorem Kp.trans {l:List Nat} {a b c:List (Option SV)} (h:Kp l a b)(h':Kp l b c):Kp l a c:=⟨h'.len.trans h.len,fun i hi=>(h'.get i hi).trans (h.get i hi)⟩
theorem Kp.mono {l l':List Nat} {a b:List (Option SV)} (h:Kp l a b)(hl: ∀ i∈ l,i∈ l'):Kp l' a b:=⟨h.len,fun i hi=>h.get i fun x=>hi (hl i x)⟩
theorem Kp.set {l:List Nat} {t:List (Option SV)} {dst:Option Nat} {u:Option SV} (h: ∀ d,dst=some d→d∈ l):Kp l t (setSlot t dst u):=by
 cases dst with
 | none=>exact Kp.refl _ _
 | some d=>exact⟨by simp[setSlot],fun i hi=>by simp only[setSlot];rw[List.getElem?_set,if_neg (fun(e:d=i)=>hi (by rw[← e];exact h d rfl))]⟩
section
variable {P : Program} {call : Cal → PT} {C : Calling} {env : Env} {anns : Anns} {n : Nat}
theorem seqOps_mono (hm: ∀ f,MonoPT (call f)) {ops:Array Oper} {l0:List Nat} (hl0: ∀(j:Nat) o d,ops[j]?=some o→o.dst=some d→d∈ l0) {K K':St→VC} {t0:List (Option SV)}
  (hK: ∀ st',Kp l0 t0 st'.tmps→(K st').holds→(K' st').holds): ∀(l:List Nat) (st:St),Kp l0 t0 st.tmps→(seqOps P call ops l K st).holds→(seqOps P call ops l K' st).holds
 | [],st,hk,h=>hK st hk h
 | j::r,st,hk,h=>by
   simp only[seqOps] at h ⊢
   cases ho:ops[j]? with
   | none=>rw[ho] at h;exact h.elim
   | some o =>
     rw[ho] at h
     exact stepOp_mono hm (fun u m nx hh=>seqOps_mono hm hl0 hK r _ (hk.trans (Kp.set fun d hd=>hl0 j o d ho hd)) hh) h
theorem drawOps_mono (hm: ∀ f,MonoPT (call f)) {ops:Array Oper} {masks:List Nat} {l0:List Nat} (hl0: ∀(j:Nat) o d,ops[j]?=some o→o.dst=some d→d∈ l0) {K K':St→VC} {t0:List (Option SV)}
  (hK: ∀ st',Kp l0 t0 st'.tmps→(K st').holds→(K' st').holds): ∀(n:Nat) (l:List Nat) (rd:List (Nat×Nat)) (st:St),Kp l0 t0 st.tmps→(drawOps P call ops masks n l rd K st).holds→(drawOps P call ops masks n l rd K' st).holds
 | n,[],_,st,hk,h=>by rw[drawOps_nil] at h ⊢;exact hK st hk h
 | 0,_::_,_,_,_,h=>h.elim
 | n+1,x::r,rd,st,hk,h=>by
   simp only[drawOps] at h ⊢
   split at h
   ·rename_i i _
    cases ho:ops[i]? with
    | none=>rw[ho] at h;exact h.elim
    | some o =>
      rw[ho] at h
      exact stepOp_mono hm (fun u m nx hh=>drawOps_mono hm hl0 hK n _ _ _ (hk.trans (Kp.set fun d hd=>hl0 i o d ho hd)) hh) h
   ·refine branches_mono (fun j hj=> ?_) h
    cases hoj:ops[j]? with
    | none=>rw[hoj] at hj;exact hj.elim
    | some oj =>
      rw[hoj] at hj
      simp only at hj ⊢
      refine stepOp_mono hm (fun u m nx hh=> ?_) hj
      rw[preserved_iff,grows_iff] at hh ⊢
      exact⟨hh.1,hh.2.1,drawOps_mono hm hl0 hK n _ _ _ (hk.trans (Kp.set fun d hd=>hl0 j oj d hoj hd)) hh.2.2⟩
theorem lop_call {call call':Cal→PT} (hc: ∀ c args m nx K,(call c args m nx K).holds→(call' c args m nx K).holds) {σ:Operand→Option SV} {m:Mem} {nx:Nat} {o:Op} {K:KL}:(lop P call σ m nx o K).holds→(lop P call' σ m nx o K).holds:=by
 cases o
 case call c =>
  show(lcall P call σ c m nx K).holds→(lcall P call' σ c m nx K).holds
  unfold lcall
  split
  ·split
   ·exact hc _ _ _ _ _
   ·exact hc _ _ _ _ _
   ·exact id
  ·split
   ·split
    ·split
     ·exact hc _ _ _ _ _
     ·exact id
    ·exact id
   ·exact id
  all_goals exact id
 case panic x =>
  show(lpanic call (σ x) m nx).holds→(lpanic call' (σ x) m nx).holds
  unfold lpanic
  split
  ·exact hc _ _ _ _ _
  ·exact id
 all_goals exact id
theorem stepOp_call {call call':Cal→PT} (hc: ∀ c args m nx K,(call c args m nx K).holds→(call' c args m nx K).holds) {ops:Array Oper} {j:Nat} {o:Oper} {K:St→VC} {st:St} (h:(stepOp P call ops j o K st).holds):(stepOp P call' ops j o K st).holds:=by
 unfold stepOp at h ⊢
 split at h
 ·split at h
  ·exact h
  ·split at h
   ·exact lop_call hc h
   ·exact h
 ·exact h
 ·exact h
theorem seqOps_call {call call':Cal→PT} (hm: ∀ f,MonoPT (call f))(hc: ∀ c args m nx K,(call c args m nx K).holds→(call' c args m nx K).holds) {ops:Array Oper} {K:St→VC}: ∀(l:List Nat)(st:St),(seqOps P call ops l K st).holds→(seqOps P call' ops l K st).holds
 | [],_,h=>h
 | j::r,st,h=>by
   simp only[seqOps] at h ⊢
   cases ho:ops[j]? with
   | none=>rw[ho] at h;exact h.elim
   | some o =>
     rw[ho] at h
     exact stepOp_call hc (stepOp_mono hm (fun u m nx hh=>seqOps_call hm hc r _ hh) h)
theorem drawOps_call {call call':Cal→PT} (hm: ∀ f,MonoPT (call f))(hc: ∀ c args m nx K,(call c args m nx K).holds→(call' c args m nx K).holds) {ops:Array Oper} {masks:List Nat} {K:St→VC} :
  ∀(n:Nat) (l:List Nat) (rd:List (Nat×Nat)) (st:St),(drawOps P call ops masks n l rd K st).holds→(drawOps P call' ops masks n l rd K st).holds
 | n,[],_,st,h=>by rw[drawOps_nil] at h ⊢;exact h
 | 0,_::_,_,_,h=>h.elim
 | n+1,x::r,rd,st,h=>by
   simp only[drawOps] at h ⊢
   split at h
   ·rename_i i _
    cases ho:ops[i]? with
    | none=>rw[ho] at h;exact h.elim
    | some o =>
      rw[ho] at h
      exact stepOp_call hc (stepOp_mono hm (fun u m nx hh=>drawOps_call hm hc n _ _ _ hh) h)
   ·refine branches_mono (fun j hj=> ?_) h
    cases hoj:ops[j]? with
    | none=>rw[hoj] at hj;exact hj.elim
    | some oj =>
      rw[hoj] at hj
      simp only at hj ⊢
      refine stepOp_call hc (stepOp_mono hm (fun u m nx hh=> ?_) hj)
      rw[preserved_iff,grows_iff] at hh ⊢
      exact⟨hh.1,hh.2.1,drawOps_call hm hc n _ _ _ hh.2.2⟩
theorem dst_mem {ops:Array Oper} {j:Nat} {o:Oper} {d:Nat} (ho:ops[j]?=some o)(hd:o.dst=some d):d∈ ops.toList.filterMap (·.dst) :=
 List.mem_filterMap.2 ⟨o,List.mem_of_getElem? (by rw[Array.getElem?_toList];exact ho),hd⟩
theorem Kp.hd {body:Code} {A:LoopAnn} {st:St} {x:A.α} (h:annOk body A st x=true):Kp (written body) st.tmps (Sx.hd body A st x).tmps:=by
 simp only[annOk,Bool.and_eq_true,List.all_eq_true,List.contains_iff_mem] at h
 refine⟨by simp[Sx.hd,override_length,forget_length],fun i hi=> ?_⟩
 simp only[Sx.hd]
 rw[override_ne (fun u hu=>hi (h.1 _ hu).1),forget_ne hi]
theorem condK_mono {c:Option SV} {t t' f f':VC} (ht:t.holds→t'.holds)(hf:f.holds→f'.holds):(condK c t f).holds→(condK c t' f').holds:=by
 unfold condK
 split
 ·split
  ·exact ht
  ·exact hf
 ·intro h
  rw[fork_iff] at h ⊢
  split at h
  ·exact ht h
  ·exact hf h
 ·exact id
theorem unroll_mono2 {l0:List Nat} {f f':XK→St→VC} (hf: ∀(K K':XK) st,(∀ e st',Kp l0 st.tmps st'.tmps→(K e st').holds→(K' e st').holds)→(f K st).holds→(f' K' st).holds): ∀(n:Nat)(K K':XK)(st:St),
  (∀ e st',Kp l0 st.tmps st'.tmps→(K e st').holds→(K' e st').holds)→(unroll n f K st).holds→(unroll n f' K' st).holds
 | 0,_,_,_,_,h=>h
 | n+1,K,K',st,hK,h=>by
   simp only[unroll] at h ⊢
   refine hf _ _ st (fun e st' hk hh=> ?_) h
   cases e with
   | normal=>exact unroll_mono2 hf n K K' st' (fun e st'' hk'=>hK e st'' (hk.trans hk')) hh
   | exit id=>exact hK _ _ hk hh
   | ret=>exact hK _ _ hk hh
theorem sx_mono (hC: ∀ env,(∀ p∈ env,MonoPT p.2)→∀ KP c,MonoPT (C.callE env KP c))
  (hCP: ∀ env,(∀ p∈ env,MonoPT p.2)→∀ KP KP':PK,(∀ v m nx,(KP v m nx).holds→(KP' v m nx).holds)→∀ c args m nx K,(C.callE env KP c args m nx K).holds→(C.callE env KP' c args m nx K).holds) (he: ∀ p∈ env,MonoPT p.2) :
  ∀(c:Code) (r:Bool) (X X':XP) (_: ∀ v st,(X v st).holds→(X' v st).holds) (K K':XK) (st:St),(∀ e st',Kp (written c) st.tmps st'.tmps→(K e st').holds→(K' e st').holds) →
  (sx P C env anns n c r X K st).holds→(sx P C env anns n c r X' K' st).holds:=by
 have hm:=hC env he
 intro c
 induction c with
 | skip=>intro r X X' hX K K' st hK h;exact hK _ _ (Kp.refl _ _) h
 | label l=>intro r X X' hX K K' st hK h;exact hK _ _ (Kp.refl _ _) h
 | exit id=>intro r X X' hX K K' st hK h;exact hK _ _ (Kp.refl _ _) h
 | ret=>intro r X X' hX K K' st hK h;exact hK _ _ (Kp.refl _ _) h
 | region id ops d =>
   intro r X X' hX K K' st hK h
   simp only[sx] at h ⊢
   cases d with
   | true =>
     simp only at h ⊢
     unfold draw at h ⊢
     simp only at h ⊢
     split at h
     ·refine drawOps_call (hm _) (hCP env he _ _ fun v m nx=>hX _ _) _ _ _ _ ?_
      exact drawOps_mono (hm _) (l0:=ops.toList.filterMap (fun(o:Oper)=>o.dst)) (t0:=st.tmps) (fun j o d ho hd=>dst_mem ho hd) (fun st' hk=>hK _ st' hk) _ _ _ st (Kp.refl _ _) h
     ·exact h.elim
   | false =>
     refine seqOps_call (hm _) (hCP env he _ _ fun v m nx=>hX _ _) _ _ ?_
     exact seqOps_mono (hm _) (l0:=ops.toList.filterMap (fun(o:Oper)=>o.dst)) (t0:=st.tmps) (fun j o d ho hd=>dst_mem ho hd) (fun st' hk=>hK _ st' hk) _ st (Kp.refl _ _) h
 | seq a b iha ihb =>
   intro r X X' hX K K' st hK h
   simp only[sx] at h ⊢
   cases hj:joinAt2 anns a b st
   ·rw[hj] at h
    simp only at h ⊢
    refine iha r X X' hX _ _ st (fun e st' hk hh=> ?_) h
    have hk1:=hk.mono (l':=written (.seq a b)) (fun i hi=>by simp only[written,List.mem_append];exact .inl hi)
    cases e with
    | normal=>exact ihb r X X' hX _ _ st' (fun e st'' hk'=>hK e st'' (hk1.trans (hk'.mono fun i hi=>by simp only[written,List.mem_append];exact .inr hi))) hh
    | exit id=>exact hK _ _ hk1 hh
    | ret=>exact hK _ _ hk1 hh
   ·rename_i L
    rw[hj] at h
    simp only at h ⊢
    refine⟨iha r X X' hX _ _ st (fun e st' hk hh=> ?_) h.1,roundsOf_mono (g:=joinRest L a (sx P C env anns n b r X K) st) (g':=joinRest L a (sx P C env anns n b r X' K') st) (fun t h2=>fun x hx=> ?_) h.2⟩
    ·have hk1:=hk.mono (l':=written (.seq a b)) (fun i hi=>by simp only[written,List.mem_append];exact .inl hi)
     cases e with
     | normal=>exact hh
     | exit id=>exact hK _ _ hk1 hh
     | ret=>exact hK _ _ hk1 hh
    ·have h2:=h2 x hx
     cases hok:annOk a (L.A t) st x with
     | false=>rw[hok] at h2;exact h2.elim
     | true =>
       rw[hok] at h2
       have hk1:=(Kp.hd hok).mono (l':=written (.seq a b)) (fun i hi=>by simp only[written,List.mem_append];exact .inl hi)
       exact ihb r X X' hX _ _ _ (fun e st'' hk'=>hK e st'' (hk1.trans (hk'.mono fun i hi=>by simp only[written,List.mem_append];exact .inr hi))) h2
 | cond c a b iha ihb =>
   intro r X X' hX K K' st hK h
   simp only[sx] at h ⊢
   exact condK_mono (iha r X X' hX _ _ st fun e st' hk=>hK e st' (hk.mono fun i hi=>by simp only[written,List.mem_append];exact .inl hi))
    (ihb r X X' hX _ _ st fun e st' hk=>hK e st' (hk.mono fun i hi=>by simp only[written,List.mem_append];exact .inr hi)) h
 | block id body ih =>
   intro r X X' hX K K' st hK h
   simp only[sx] at h ⊢
   refine ih r X X' hX _ _ st (fun e st' hk hh=> ?_) h
   cases e with
   | normal=>exact hK _ _ hk hh
   | ret=>exact hK _ _ hk hh
   | exit j =>
     simp only at hh ⊢
     split at hh
     ·rename_i e;rw[if_pos e];exact hK _ _ hk hh
     ·rename_i e;rw[if_neg e];exact hK _ _ hk hh
 | loop body ih =>
   intro r X X' hX K K' st hK h
   simp only[sx] at h ⊢
   cases ha:annAt anns body st with
   | none=>rw[ha] at h;exact unroll_mono2 (f:=sx P C env anns n body r X) (f':=sx P C env anns n body r X') (ih r X X' hX) n K K' st hK h
   | some A =>
     rw[ha] at h
     simp only at h ⊢
     refine⟨h.1,roundsOf_mono (g:=roundAt A body (sx P C env anns n body r X) K st) (g':=roundAt A body (sx P C env anns n body r X') K' st) (fun t h2=>fun x hx=> ?_) h.2⟩
     have h2:=h2 x hx
     cases hok:annOk body (A.A t) st x with
     | false=>rw[hok] at h2;exact h2.elim
     | true =>
       rw[hok] at h2
       refine ih r X X' hX _ _ _ (fun e st1 hk hh=> ?_) h2
       cases e with
       | normal=>exact hh
       | exit id=>exact hK _ _ ((Kp.hd hok).trans hk) hh
       | ret=>exact hK _ _ ((Kp.hd hok).trans hk) hh
 | rangeFunc g ps a b iha ihb =>
   intro r X X' hX K K' st hK h
   cases r with
   | true=>exact h
   | false =>
     simp only[sx] at h ⊢
     split at h
     ·split at h
      ·intro R
       refine hC _ (fun p hp=> ?_) _ _ _ _ _ _ _ (fun v m nx hh=> ?_) (h R)
       ·rcases List.mem_cons.1 hp with e | hp
        ·subst e
         exact yieldPT_mono (fun K K' st hK=>iha true noX noX (fun _ _ h=>h) K K' st fun e st' _=>hK e st') (fun K K' st hK=>ihb true noX noX (fun _ _ h=>h) K K' st fun e st' _=>hK e st')
        ·exact he p hp
       ·unfold rangeEnd at hh ⊢
        split at hh
        ·exact hK _ _ (Kp.refl _ _) hh
        ·exact hK _ _ (Kp.refl _ _) hh
        ·exact hK _ _ (Kp.refl _ _) hh
        ·exact hh
      ·exact h
     ·exact h
 | scope b ih=>intro r X X' hX K K' st hK h;simp only[sx] at h ⊢;exact ih r X X' hX K K' st hK h
 | goto l=>intro r X X' hX K K' st hK h;exact h
 | refuse w=>intro r X X' hX K K' st hK h;exact h
theorem condK_sound {E:Nat→Nat} {st:St} {a:Act} (ht:TmpsOk E st.tmps a) {c:Operand} {t f:VC} (h:(condK (ev st.tmps c) t f).holds): ∃ b,a.eval c=.bool b∧(if b then t else f).holds:=by
 unfold condK at h
 split at h
 ·rename_i b hb
  have:=ht.reads _ _ hb
  refine⟨b,by rw[this];rfl,?_⟩
  cases b
  ·exact h
  ·exact h
 ·rename_i b hb
  have:=ht.reads _ _ hb
  rw[fork_iff] at h
  refine⟨b,by rw[this];rfl,?_⟩
  cases b
  ·exact h
  ·exact h
 ·exact h.elim
theorem regionX {X:XP} {K:XK} {Γ:Base} {E:Nat→Nat} {st:St} {ops:Array Oper} (hwt:wfTmps st.nx st.tmps=true): ∀ e a w,TmpsOk E (unsure ops st.tmps) a→BehindP (fun v m nx=>X v ⟨unsure ops st.tmps,m,nx⟩) Γ E st.nx e a w→BehindX K X Γ E st.nx e a w:=by
 rintro e a w ht ⟨ch,rfl,hd,E',v,m',nx',h1,h2,rfl,h4,h5,h6⟩
 exact .inr ⟨v,E',_,rfl,h4,h1,h2,⟨ht.congr (unsure_wf hwt) h1,wfTmps_mono h2 (unsure_wf hwt),hd,h5⟩,h6⟩
theorem unroll_sound {body:Code} {f:XK→St→VC} {X:XP} {Γ:Base} {ro:Option Nat}
  (hf: ∀(K:XK) st E a w,(f K st).holds→Sat Γ E st a w→body.wpIn (Fr ro) 0 P (BehindX K X Γ E st.nx) a w): ∀(n:Nat) (K:XK) (st:St) (E:Nat→Nat) (a:Act) (w:World),
  (unroll n f K st).holds→Sat Γ E st a w→∀(b:Frame) (k:List Item) (cs:List Frame),b.roundOf=(Fr ro).round→(Fr ro).fn b.fn→(Fr ro).room (cs.length+1+0)→∃ e a' w',BehindX K X Γ E st.nx e a' w'∧ArrivesIn (Machine.fenced P (Fr ro)) P (lone (b.atR a (.code body::.inLoop body::k)) cs w) b k cs e a' w'
 | 0,_,_,_,_,_,h,_,_,_,_,_,_,_=>h.elim
 | n+1,K,st,E,a,w,h,hs,b,k,cs,hro,hb,hr=>by
   simp only[unroll] at h
   obtain⟨e,a1,w1,hq,harr⟩:=hf _ st E a w h hs b (.inLoop body::k) cs hro hb hr
   rcases hq with ⟨ex,rfl,E1,st1,g1,g2,g3,g4⟩ | hp
   rotate_left
   ·have hp':=hp
    obtain⟨v,E1,st1,rfl,_⟩:=hp'
    exact⟨_,a1,w1,.inr hp,.pass (x:=.inLoop body) rfl (fun _ _=>.inl (by simp)) harr⟩
   cases ex with
   | normal =>
     obtain⟨e2,a2,w2,hq2,harr2⟩:=unroll_sound hf n K st1 E1 a1 w1 g4 g3 b k cs hro hb hr
     exact⟨e2,a2,w2,hq2.weaken g1 g2,.of_steps (StepsIn.trans harr (.one (fenced_calm hb hr rfl) stepR_inLoop)) harr2⟩
   | exit id=>exact⟨_,a1,w1,.inl ⟨.exit id,rfl,E1,st1,g1,g2,g3,g4⟩,.pass (x:=.inLoop body) rfl (fun _ _=>.inl (by simp[Ex.to])) harr⟩
   | ret=>exact⟨_,a1,w1,.inl ⟨.ret,rfl,E1,st1,g1,g2,g3,g4⟩,.pass (x:=.inLoop body) rfl (fun _ _=>.inl (by simp[Ex.to])) harr⟩
theorem sx_sound (hmix:P.follows .mixedOrders=true)(hC:CallingOk P C)(hem: ∀ p∈ env,MonoPT p.2): ∀(c:Code)(r:Bool)(ro:Option Nat),(r=false→ro=none)→∀(Γ:Base),(r=false→Γ.rf=true)→(∀ p∈ env,∀ KP,COk P Γ KP (.yield p.1) p.2) →
  ∀(X:XP) (K:XK) (st:St) (E:Nat→Nat) (a:Act) (w:World),
  (sx P C env anns n c r X K st).holds→Sat Γ E st a w→c.wpIn (Fr ro) 0 P (BehindX K X Γ E st.nx) a w:=by
 have hm:=hC.mono env hem
 intro c
 induction c with
 | skip=>intro r ro hrr Γ hrf hek X K st E a w h hs;exact wpIn_skip (.inl ⟨.normal,rfl,E,st,fun _ _=>rfl,Nat.le_refl _,hs,h⟩)
 | label l=>intro r ro hrr Γ hrf hek X K st E a w h hs;exact wpIn_label (.inl ⟨.normal,rfl,E,st,fun _ _=>rfl,Nat.le_refl _,hs,h⟩)
 | exit id=>intro r ro hrr Γ hrf hek X K st E a w h hs;exact wpIn_exit (.inl ⟨.exit id,rfl,E,st,fun _ _=>rfl,Nat.le_refl _,hs,h⟩)
 | ret=>intro r ro hrr Γ hrf hek X K st E a w h hs;exact wpIn_ret (.inl ⟨.ret,rfl,E,st,fun _ _=>rfl,Nat.le_refl _,hs,h⟩)
 | region id ops d =>
   intro r ro hrr Γ hrf hek X K st E a w h hs
   simp only[sx] at h
   cases d with
   | true=>exact draw_sound hmix (hm _) (hC.ok Γ env hem hek _) h hs (regionX hs.wt) fun a w hb=>.inl ⟨.normal,rfl,hb⟩
   | false=>exact wpIn_region (seqOps_sound (hC.ok Γ env hem hek _) hs.wt (regionX hs.wt) _ h hs hs.tm.unsure (fun _ _=>rfl) (Nat.le_refl _) fun a w hb=>.inl ⟨.normal,rfl,hb⟩)
 | seq x y ihx ihy =>
   intro r ro hrr Γ hrf hek X K st E a w h hs
   simp only[sx] at h
   cases hj:joinAt2 anns x y st
   ·rw[hj] at h
    simp only at h
    refine wpIn_seq (wpIn_mono (ihx r ro hrr Γ hrf hek X _ st E a w h hs) ?_)
    rintro e a1 w1 (⟨ex,rfl,E1,st1,g1,g2,g3,g4⟩ | hp)
    rotate_left
    ·have hp':=hp
     obtain⟨v,E1,st1,rfl,_⟩:=hp'
     exact .inr hp
    cases ex with
    | normal=>exact wpIn_mono (ihy r ro hrr Γ hrf hek X K st1 E1 a1 w1 g4 g3) fun e a2 w2 hb=>hb.weaken g1 g2
    | exit id=>exact .inl ⟨.exit id,rfl,E1,st1,g1,g2,g3,g4⟩
    | ret=>exact .inl ⟨.ret,rfl,E1,st1,g1,g2,g3,g4⟩
   ·rename_i L
    rw[hj] at h
    simp only at h
    obtain⟨h1,h2⟩:=h
    have hx:=sx_mono hC.mono hC.monoP hem x r X X (fun _ _ h=>h) _ (fun e st1=>.and (.atom (Kp (written x) st.tmps st1.tmps)) (match e with
     | .normal=>entry L x st st1
     | e=>K e st1)) st (fun e st1 hk hh=>⟨hk,by cases e<;>exact hh⟩) h1
    refine wpIn_seq (wpIn_mono (ihx r ro hrr Γ hrf hek X _ st E a w hx hs) ?_)
    rintro e a1 w1 (⟨ex,rfl,E1,st1,g1,g2,g3,hkp,g4⟩ | hp)
    rotate_left
    ·have hp':=hp
     obtain⟨v,E1,st1,rfl,_⟩:=hp'
     exact .inr hp
    have hkp:Kp (written x) st.tmps st1.tmps:=hkp
    cases ex with
    | normal =>
      have g4:(entry L x st st1).holds:=g4
      unfold entry at g4
      obtain⟨ht,y0,hy0,hat⟩:=pickTag_iff g4
      obtain⟨E',q1,q2⟩:=atHead_sound hat hs.mm.cx.1 hs.wt hkp.get hkp.len g3
      have hr:=roundsOf_mem h2 _ ht y0 hy0
      have hok:annOk x (L.A (L.tag st1)) st y0=true:=by
       unfold atHead at hat
       split at hat
       ·rename_i h';exact h'
       ·exact hat.elim
      rw[hok] at hr
      exact wpIn_mono (ihy r ro hrr Γ hrf hek X K _ E' a1 w1 hr q2) fun e a2 w2 hb=>hb.weaken (fun k hk=>(q1 k hk).trans (g1 k hk)) (Nat.le_add_right _ _)
    | exit id=>exact .inl ⟨.exit id,rfl,E1,st1,g1,g2,g3,g4⟩
    | ret=>exact .inl ⟨.ret,rfl,E1,st1,g1,g2,g3,g4⟩
 | cond c x y ihx ihy =>
   intro r ro hrr Γ hrf hek X K st E a w h hs
   simp only[sx] at h
   obtain⟨b,hb,hk⟩:=condK_sound hs.tm h
   refine wpIn_cond hb ?_
   cases b
   ·exact ihy r ro hrr Γ hrf hek X K st E a w hk hs
   ·exact ihx r ro hrr Γ hrf hek X K st E a w hk hs
 | block id body ih =>
   intro r ro hrr Γ hrf hek X K st E a w h hs
   simp only[sx] at h
   refine wpIn_block (wpIn_mono (ih r ro hrr Γ hrf hek X _ st E a w h hs) ?_)
   rintro e a1 w1 (⟨ex,rfl,E1,st1,g1,g2,g3,g4⟩ | hp)
   rotate_left
   ·have hp':=hp
    obtain⟨v,E1,st1,rfl,_⟩:=hp'
    exact .inr hp
   cases ex with
   | normal=>exact .inl ⟨.normal,rfl,E1,st1,g1,g2,g3,g4⟩
   | ret=>exact .inl ⟨.ret,rfl,E1,st1,g1,g2,g3,g4⟩
   | exit j =>
     simp only[Ex.to,Exit.inBlock]
     simp only at g4
     split
     ·rename_i e;rw[if_pos e] at g4;exact .inl ⟨.normal,rfl,E1,st1,g1,g2,g3,g4⟩
     ·rename_i e;rw[if_neg e] at g4;exact .inl ⟨.exit j,rfl,E1,st1,g1,g2,g3,g4⟩
 | loop body ih =>
   intro r ro hrr Γ hrf hek X K st E a w h hs
   simp only[sx] at h
   cases ha:annAt anns body st with
   | none =>
     rw[ha] at h
     intro b k cs hro hb hr
     obtain⟨e,a',w',hq,harr⟩:=unroll_sound (fun K st E a w h hs=>ih r ro hrr Γ hrf hek X K st E a w h hs) n K st E a w h hs b k cs hro hb hr
     exact⟨e,a',w',hq,.of_steps (.one (fenced_calm hb hr rfl) stepR_loop) harr⟩
   | some L =>
     rw[ha] at h
     simp only at h
     obtain⟨hent,hrounds⟩:=h
     have hent:(entry L body st st).holds:=hent
     let Inv:=fun(t:Nat) (x:(L.A t).α) (a:Act) (w:World)=>t∈ L.tags∧(L.A t).pre st x∧annOk body (L.A t) st x=true∧∃ E',(∀ k,k<st.nx→E' k=E k)∧Sat Γ E' (hd body (L.A t) st x) a w
     have hok: ∀ {A:LoopAnn} {y:A.α} {st1},(atHead body A st y st1).holds→annOk body A st y=true:=by
      intro A y st1 h
      unfold atHead at h
      split at h
      ·rename_i h';exact h'
      ·exact h.elim
     have hent2: ∃ t x,Inv t x a w:=by
      unfold entry at hent
      obtain⟨ht,x0,hx0,hat0⟩:=pickTag_iff hent
      obtain⟨E',g1,g2⟩:=atHead_sound hat0 hs.mm.cx.1 hs.wt (fun i _=>rfl) rfl hs
      exact⟨L.tag st,x0,ht,hx0,hok hat0,E',g1,g2⟩
     obtain⟨t0,x0,hinv0⟩:=hent2
     intro b k cs hro hb hr
     have key: ∀(N:Nat) (t:Nat) (x:(L.A t).α) a w,(L.A t).mea st x=N→Inv t x a w→∃ e a' w',BehindX K X Γ E st.nx e a' w'∧ArrivesIn (Machine.fenced P (Fr ro)) P (lone (b.atR a (.code body::.inLoop body::k)) cs w) b k cs e a' w':=by
      intro N
      induction N using Nat.strongRecOn with
      | _ N ihN =>
        intro t x a w hN ⟨ht,hx,hokx,E1,hE1,hs1⟩
        have hrd:=roundsOf_mem hrounds t ht x hx
        rw[hokx] at hrd
        have hr2:=sx_mono hC.mono hC.monoP hem body r X X (fun _ _ h=>h) _ (fun e st1=>.and (.atom (Kp (written body) (hd body (L.A t) st x).tmps st1.tmps)) (match e with
         | .normal=>backTo L body st ((L.A t).mea st x) st1
         | e=>K e st1)) (hd body (L.A t) st x) (fun e st1 hk hh=>⟨hk,by cases e<;>exact hh⟩) hrd
        obtain⟨e,a1,w1,hq,harr⟩:=ih r ro hrr Γ hrf hek X _ _ E1 a w hr2 hs1 b (.inLoop body::k) cs hro hb hr
        rcases hq with ⟨ex,rfl,E2,st1,g1,g2,g3,g4⟩ | hp
        rotate_left
        ·have hp':=hp.weaken (nx:=st.nx) (E:=E) hE1 (Nat.le_add_right _ _)
         have hp2:=hp
         obtain⟨v,E2,st1,rfl,_⟩:=hp2
         exact⟨_,a1,w1,.inr hp',.pass (x:=.inLoop body) rfl (fun _ _=>.inl (by simp)) harr⟩
        have hE2: ∀ k,k<st.nx→E2 k=E k:=fun k hk=>(g1 k (Nat.lt_of_lt_of_le hk (Nat.le_add_right _ _))).trans (hE1 k hk)
        have hn2:st.nx≤st1.nx:=Nat.le_trans (Nat.le_add_right _ _) g2
        obtain⟨hkp,g4⟩:=g4
        have hkp:Kp (written body) (hd body (L.A t) st x).tmps st1.tmps:=hkp
        cases ex with
        | normal =>
          have g4:(backTo L body st ((L.A t).mea st x) st1).holds:=g4
          unfold backTo at g4
          obtain⟨ht1,y,⟨hy,hlt⟩,hat⟩:=pickTag_iff g4
          have hkp2:=(Kp.hd hokx).trans hkp
          obtain⟨E3,q1,q2⟩:=atHead_sound hat hs.mm.cx.1 hs.wt hkp2.get hkp2.len g3
          have hinv:Inv (L.tag st1) y a1 w1:=⟨ht1,hy,hok hat,E3,fun k hk=>(q1 k hk).trans (hE2 k hk),q2⟩
          obtain⟨e2,a2,w2,hq2,harr2⟩:=ihN ((L.A (L.tag st1)).mea st y) (hN▸ hlt) (L.tag st1) y a1 w1 rfl hinv
          exact⟨e2,a2,w2,hq2,.of_steps (StepsIn.trans harr (.one (fenced_calm hb hr rfl) stepR_inLoop)) harr2⟩
        | exit id=>exact⟨_,a1,w1,.inl ⟨.exit id,rfl,E2,st1,hE2,hn2,g3,g4⟩,.pass (x:=.inLoop body) rfl (fun _ _=>.inl (by simp[Ex.to])) harr⟩
        | ret=>exact⟨_,a1,w1,.inl ⟨.ret,rfl,E2,st1,hE2,hn2,g3,g4⟩,.pass (x:=.inLoop body) rfl (fun _ _=>.inl (by simp[Ex.to])) harr⟩
     obtain⟨e,a',w',hq,harr⟩:=key _ t0 x0 a w rfl hinv0
     exact⟨e,a',w',hq,.of_steps (.one (fenced_calm hb hr rfl) stepR_loop) harr⟩
 | rangeFunc g ps assign body iha ihb =>
   intro r ro hrr Γ hrf hek X K st E a w h hs
   cases r with
   | true=>exact h.elim
   | false =>
     have hro:=hrr rfl
     subst hro
     simp only[sx] at h
     split at h
     ·rename_i f first captured hg hwf
      split at h
      ·rename_i hbd
       refine wpIn_rangeFunc fun fn _=> ?_
       have hgv:a.eval g=(SV.func (.func f) first captured).val E:=hs.tm.reads _ _ hg
       have hgw:=TmpsOk.wf hs.wt _ _ hg
       simp only[SV.wf,Bool.and_eq_true] at hgw
       obtain⟨Ds,d1,d2,d3,d4⟩:=hs.df
       obtain⟨Δ,hle,hkeep,hnx,hE0,hsm⟩:=hs.mm.enter hwf (R:={state:=.ready,pending:=none,fn,tmps:=a.tmps,params:=ps,assign,body,defers:=w.heap.size}) rfl rfl (fun D hD=>(d3 D hD).1)
       have hEk: ∀ k,k<st.nx→Δ.E0 k=E k:=fun k hk=>by rw[hE0];simp[Nat.ne_of_lt hk]
       have hEn:Δ.E0 st.nx=w.heap.size+1:=by rw[hE0];simp
       generalize hw1:(w.alloc (Obj.deferred (some []))).alloc (.loop {state:=.ready,pending:=none,fn,tmps:=a.tmps,params:=ps,assign,body,defers:=w.heap.size})=w1 at hsm
       refine⟨w.heap.size+1,[markOf w.heap.size],w1,{target:=.fn (.func f) (SV.vals Δ.E0 captured).toArray,args:=(SV.vals Δ.E0 (first++[.yield st.nx])).toArray},w1,f,
        (SV.vals Δ.E0 (first++[.yield st.nx]++captured)).toArray,w1,by rw[← hw1];exact run_enterLoop_outer _ _ _ _ _,?_,fun _ _=>trivial,?_,fun h=>(by cases h),?_⟩
       ·have hc1:SV.vals Δ.E0 captured=SV.vals E captured:=SV.vals_congr hEk captured hgw.2
        have hc2:SV.vals Δ.E0 first=SV.vals E first:=SV.vals_congr hEk first hgw.1
        simp only[resolve,hgv,SV.val,Deferred.ofValue,Sem.run_pure]
        rw[vals_append,hc1,hc2]
        simp[SV.vals,SV.val,hEn,Act.eval]
       ·simp only[invoke]
        have:=hC.bd f hbd (SV.vals Δ.E0 (first++[.yield st.nx]++captured)).toArray w1
        rw[show(SV.vals Δ.E0 (first++[SV.yield st.nx])).toArray++(SV.vals Δ.E0 captured).toArray=(SV.vals Δ.E0 (first++[.yield st.nx]++captured)).toArray by rw[vals_append Δ.E0 (first++[SV.yield st.nx]) captured];simp only[List.append_toArray]]
        exact this
       ·refine callsIn_fr.2 ?_
        have hek2: ∀ p∈ (st.nx,yieldPT st.nx {state:=.ready,pending:=none,fn,tmps:=a.tmps,params:=ps,assign,body,defers:=w.heap.size} ps.toList st.tmps (sx P C env anns n assign true noX) (sx P C env anns n body true noX))::env,∀ KP,COk P Δ KP (.yield p.1) p.2:=by
         intro p hp KP
         rcases List.mem_cons.1 hp with e | hp
         ·subst e
          exact yieldPT_ok (Γ:=Δ) (R:={state:=.ready,pending:=none,fn,tmps:=a.tmps,params:=ps,assign,body,defers:=w.heap.size}) (by omega) hEn hEk ⟨hs.tm.size,hs.tm.val⟩ hs.wt
           (fun Θ hΘ K st E a w h hs=>iha true _ (fun h=>by cases h) Θ (fun h=>by cases h) (fun p hp KP=>(hek p hp KP).mono (Base.le_trans hle hΘ)) noX K st E a w h hs)
           (fun Θ hΘ K st E a w h hs=>ihb true _ (fun h=>by cases h) Θ (fun h=>by cases h) (fun p hp KP=>(hek p hp KP).mono (Base.le_trans hle hΘ)) noX K st E a w h hs) KP
         ·exact(hek p hp KP).mono hle
        have hem2: ∀ p∈ (st.nx,yieldPT st.nx {state:=.ready,pending:=none,fn,tmps:=a.tmps,params:=ps,assign,body,defers:=w.heap.size} ps.toList st.tmps (sx P C env anns n assign true noX) (sx P C env anns n body true noX))::env,MonoPT p.2:=by
         intro p hp
         rcases List.mem_cons.1 hp with e | hp
         ·subst e
          exact yieldPT_mono (fun K K' st hK=>sx_mono hC.mono hC.monoP hem assign true noX noX (fun _ _ h=>h) K K' st fun e st' _=>hK e st') (fun K K' st hK=>sx_mono hC.mono hC.monoP hem body true noX noX (fun _ _ h=>h) K K' st fun e st' _=>hK e st')
         ·exact hem p hp
        have hcall:=hC.ok Δ _ hem2 hek2 noP (.fn f) Δ Δ.le_refl _ _ _ _ (h _) (by
          simp only[Mem.wf,Bool.and_eq_true]
          exact⟨rfl,Mem.wf_mono (Nat.le_succ _) hwf⟩) (by
          refine wfs_append (wfs_append (SV.wfs_mono (Nat.le_succ _) _ hgw.1) ?_) (SV.wfs_mono (Nat.le_succ _) _ hgw.2)
          simp[SV.wfs,SV.wf]) _ _ hsm
        simp only[Cal.sem] at hcall
        rw[hC.bd f hbd] at hcall
        refine Calls.mono hcall ?_
        rintro e w3 (⟨v,rfl,haft⟩ | ⟨ch,_,_,_,_,_,_,_,_,_,_,hno⟩)
        rotate_left
        ·exact hno.elim
        obtain⟨E3,sv,m3,nx3,q1,q2,_,q4,q5⟩:=haft
        have hEe: ∀ k,k<st.nx→E3 k=E k:=fun k hk=>(q1 k (Nat.lt_succ_of_lt hk)).trans (hEk k hk)
        have hEl:E3 st.nx=w.heap.size+1:=(q1 st.nx (Nat.lt_succ_self _)).trans hEn
        have hnn:st.nx≤nx3:=Nat.le_trans (Nat.le_succ _) q2
        cases sv with
        | none=>exact q5.elim
        | some u =>
          simp only[lift] at q5
          have fin: ∀ stt pe R3,m3.get st.nx=some (.loop stt pe R3)→stt≠.busy→∃ w4,(Instr.endLoop (w.heap.size+1)).run P w3=.ok pe w4 ∧
            Sat Γ E3 ⟨st.tmps,m3.drop st.nx,nx3⟩ {a with defers:=[markOf w.heap.size]++a.defers} w4:=by
           intro stt pe R3 hk hb
           obtain⟨o,ho,hbk⟩:=q4.blk st.nx _ hk rfl
           have hbk:o=.loop {R3 with state:=stt,pending:=pe}:=hbk
           subst hbk
           rw[hEl] at ho
           refine⟨_,run_endLoop ho hb,?_⟩
           have hl:=q4.leave (st':=.exhausted) (pe':=pe) hk
           rw[hEl] at hl
           refine⟨⟨hs.tm.size,fun i v hv=>(hs.tm.congr hs.wt hEe).val i v hv⟩,wfTmps_mono hnn hs.wt,?_,hl.weaken hle⟩
           refine⟨w.heap.size::Ds,by simp[d1],?_,fun D hD=> ?_,fun hno=>by rw[hrf rfl] at hno;cases hno⟩
           ·refine List.nodup_cons.2 ⟨fun hm=> ?_,d2⟩
            have:=(Array.getElem?_eq_some_iff.1 (d3 _ hm).1).1
            omega
           ·refine⟨hl.kp D (hkeep D (by rcases List.mem_cons.1 hD with e | e;subst e;simp;simp[e])),?_⟩
            rcases List.mem_cons.1 hD with e | e
            ·subst e
             refine⟨fun hm=> ?_,hs.mm.ext.size⟩
             have:=(Array.getElem?_eq_some_iff.1 (hs.mm.kp _ hm)).1
             omega
            ·exact(d3 D e).2
          unfold rangeEnd at q5
          split at q5
          ·rename_i R3 hk
           obtain⟨w4,hw4,hsat⟩:=fin _ _ _ hk (by simp)
           exact⟨_,w4,hw4,.inl ⟨.normal,rfl,E3,_,hEe,hnn,hsat,q5⟩⟩
          ·rename_i R3 hk
           obtain⟨w4,hw4,hsat⟩:=fin _ _ _ hk (by simp)
           exact⟨_,w4,hw4,wpIn_ret (.inl ⟨.ret,rfl,E3,_,hEe,hnn,hsat,q5⟩)⟩
          ·rename_i id R3 hk
           obtain⟨w4,hw4,hsat⟩:=fin _ _ _ hk (by simp)
           exact⟨_,w4,hw4,wpIn_exit (.inl ⟨.exit id,rfl,E3,_,hEe,hnn,hsat,q5⟩)⟩
          ·exact q5.elim
      ·exact h.elim
     ·exact h.elim
 | scope b ih =>
   intro r ro hrr Γ hrf hek X K st E a w h hs
   simp only[sx] at h
   refine wpIn_scope_straight (wpIn_mono (ih r ro hrr Γ hrf hek X K st E a w h hs) ?_)
   rintro e a1 w1 (⟨ex,rfl,hb⟩ | hp)
   rotate_left
   ·have hp':=hp
    obtain⟨v,E1,st1,rfl,_⟩:=hp'
    exact .inr hp
   cases ex<;>exact .inl ⟨_,rfl,hb⟩
 | goto l=>intro r ro hrr Γ hrf hek X K st E a w h;exact h.elim
 | refuse w=>intro r ro hrr Γ hrf hek X K st E a w h;exact h.elim
end
end
end Go.Proofs.YtoalfimkkibpdaaGreatDoor.Sx
namespace Go.Proofs.YtoalfimkkibpdaaGreatDoor.Sx
open Go
noncomputable section
def resOne (P:Program)(st:St):ResultVar→Option SV
 | .tmp t=>slot st.tmps t
 | .cell a t=>(match slot st.tmps a with
   | some (.ptr key true o)=>(match st.m.get key with
     | some (.cells cs _ _)=>partOf P t cs o
     | _=>none)
   | _=>none)
def resAll (P:Program)(st:St):List ResultVar→Option (List SV)
 | []=>some []
 | r::rs=>match resOne P st r,resAll P st rs with
   | some v,some l=>some (v::l)
   | _,_=>none
def resVal:List SV→SV
 | [v]=>v
 | l=>.tup l
def panK (nx:Nat)(KP:PK):XP:=fun v st=>retK nx v st.m st.nx KP
def runFn (P:Program)(C:Calling)(env:Env)(KP:PK)(anns:Anns)(n:Nat)(fn:Func):PT:=fun args m nx K =>
 match fn.body with
 | some body=>sx P C env anns n body false (panK nx KP) (fun e st=>match e with
    | .exit _=>.fail "a jump out of a function"
    | _=>(match resAll P st fn.results.toList with
      | some vs=>retG (Nat.ble 1000 n) nx (resVal vs) st.m st.nx K
      | none=>.fail "a result that is not known"))
    ⟨args.map some++List.replicate (fn.ntmps - args.length) none,m,nx⟩
 | none=>.fail "a function without a body"
structure Cfg where
 summ:FuncId→Option PT
 fns:FuncId→Option Func
 anns:FuncId→Anns
 rounds:Nat
def Cfg.bd (cfg:Cfg)(f:FuncId):Bool:=match cfg.fns f with
 | some fn=>fn.body.isSome
 | none=>false
def raise (KP:PK):PT:=fun args m nx _=>match args with
 | [.iface t v]=>(match v.wf nx with
   | true=>KP (.iface t v) m nx
   | false=>.fail "a key out of bounds")
 | _=>.fail "a panic of what"
def callOf (P:Program)(cfg:Cfg):Nat→Env→PK→Cal→PT
 | _,env,_,.yield k=>(match env.find k with
   | some pt=>pt
   | none=>fun _ _ _ _=>.fail "a yield that is not known")
 | _,_,KP,.panic=>raise KP
 | 0,_,_,.fn _=>fun _ _ _ _=>.fail "calls too deep"
 | n+1,env,KP,.fn f=>match cfg.summ f with
   | some pt=>pt
   | none=>(match cfg.fns f with
     | some fn=>runFn P ⟨callOf P cfg n,cfg.bd⟩ env KP (cfg.anns f) cfg.rounds fn
     | none=>fun _ _ _ _=>.fail "a function that is not known")
def calling (P:Program)(cfg:Cfg)(n:Nat):Calling:=⟨callOf P cfg n,cfg.bd⟩
structure Good (P:Program)(cfg:Cfg):Prop where
 mix:P.follows .mixedOrders=true
 summ: ∀ f pt,cfg.summ f=some pt→CallOk P f pt∧MonoPT pt
 fns: ∀ f fn,cfg.fns f=some fn→P.funcs[f]?=some fn∧(fn.name== "runtime.NumGoroutine")=false
section
variable {P : Program}
theorem resOne_run {Γ:Base} {E:Nat→Nat} {st:St} {a:Act} {w:World} (htm:TmpsOk E st.tmps a)(hmm:SatM Γ E st.m st.nx w) {r:ResultVar} {v:SV} (h:resOne P st r=some v) :
  (match r with
    | .tmp t=>(pure (a.tmps.getD t undef):Sem Value)
    | .cell b t=>do loadVar t (← asAddr (a.tmps.getD b undef))).run P w=.ok (v.val E) w:=by
 cases r with
 | tmp t =>
   have:=htm.val t v (slot_eq h)
   simp[Array.getD_eq_getD_getElem?,this]
 | cell b t =>
   simp only[resOne] at h
   split at h
   ·rename_i key o hb
    split at h
    ·rename_i cs tot ty hk
     have hv:=htm.val b _ (slot_eq hb)
     obtain⟨ob,ho,c,fr,rfl,_,h2,_⟩:=hmm.blk key _ hk rfl
     simp only[Array.getD_eq_getD_getElem?,hv,Option.getD_some,SV.val,asAddr,Sem.run_bind,Sem.run_pure,Result.andThen_ok]
     unfold partOf at h
     split at h
     ·cases h
     ·rename_i d hd
      split at h
      ·rename_i ha
       split at h
       ·rename_i n hn
        split at h
        ·rename_i l hl
         injection h with h;subst h
         have hg:=takeAt_get hl
         have hll:=run_loadCells (P:=P) ho o (l.map (SV.val E)) (fun j v hj=>by
          rw[List.getElem?_map] at hj
          cases hjl:l[j]? with
          | none=>rw[hjl] at hj;cases hj
          | some u=>rw[hjl] at hj;injection hj with hj;subst hj;exact h2 _ _ (hg.2 j u hjl))
         rw[List.length_map,hg.1] at hll
         simp only[loadVar,Sem.run_bind,run_isAgg hd,ha,Result.andThen_ok,if_true,run_sz hn,hll,Sem.run_pure,SV.vals_eq,SV.val]
        ·cases h
       ·cases h
      ·rename_i ha
       simp only[loadVar,Sem.run_bind,run_isAgg hd,ha,Result.andThen_ok,Bool.false_eq_true,if_false,run_load,cell_of ho,h2 _ _ h]
    ·cases h
   ·cases h
theorem resAll_run {Γ:Base} {E:Nat→Nat} {st:St} {a:Act} {w:World} (htm:TmpsOk E st.tmps a)(hmm:SatM Γ E st.m st.nx w): ∀ {rs:List ResultVar} {l:List SV},resAll P st rs=some l →
  (rs.mapM (fun r=>match r with
    | .tmp t=>(pure (a.tmps.getD t undef):Sem Value)
    | .cell b t=>do loadVar t (← asAddr (a.tmps.getD b undef))):Sem (List Value)).run P w=.ok (SV.vals E l) w
 | [],l,h=>by simp[resAll] at h;subst h;simp[SV.vals]
 | r::rs,l,h=>by
   simp only[resAll] at h
   split at h
   ·rename_i v l' hv hl
    injection h with h;subst h
    simp only[List.mapM_cons,Sem.run_bind,resOne_run htm hmm hv,Result.andThen_ok,resAll_run htm hmm hl,Sem.run_pure,SV.vals]
   ·cases h
theorem results_run {Γ:Base} {E:Nat→Nat} {st:St} {a:Act} {w:World} (htm:TmpsOk E st.tmps a)(hmm:SatM Γ E st.m st.nx w) {fn:Func} {vs:List SV} (h:resAll P st fn.results.toList=some vs) :
  (results fn a.tmps).run P w=.ok ((resVal vs).val E) w:=by
 have:=resAll_run (P:=P) htm hmm h
 unfold results
 rw[Array.mapM_eq_mapM_toList]
 simp only[Sem.run_bind,Sem.run_map]
 have key: ∀ r:Result (List Value),r=.ok (SV.vals E vs) w→((r.andThen fun a w'=>Result.ok a.toArray w').andThen fun a w'=>Sem.run P (pure (if h:a.size=1 then a[0] else Value.tuple a)) w')=Result.ok ((resVal vs).val E) w:=by
  rintro r rfl
  simp only[Result.andThen_ok,Sem.run_pure]
  congr 1
  match vs with
  | []=>rfl
  | [v]=>rfl
  | _::_::_=>simp[SV.vals,resVal,SV.val]
 exact key _ this
theorem callFunc_run {f:FuncId} {fn:Func} (hf:P.funcs[f]?=some fn)(hn:(fn.name== "runtime.NumGoroutine")=false) {body:Code} (hb:fn.body=some body)(args:Array Value)(w:World) :
  (callFunc f args).run P w=.ok (.enter f args) w:=by
 simp only[callFunc,Sem.run_bind,run_program,Result.andThen_ok,hf,hn,hb]
 rfl
theorem SatM.shut {Γ:Base} {E:Nat→Nat} {m:Mem} {nx:Nat} {w:World} (h:SatM Γ E m nx w) {D:Nat} {ds:Option (List Deferred)} (hd:w.heap[D]?=some (.deferred ds))(hk:D∉ Γ.keep)(hD:Γ.w0.heap.size≤D)(o:Obj) :
  SatM Γ E m nx (w.putObj D o):=by
 refine⟨fun k B hm hn=> ?_,h.inj,h.lt,h.own,⟨h.ext.os,h.ext.tape,h.ext.output,by simpa using h.ext.size,fun k hk' hm=> ?_⟩,h.cx,fun D' hD'=> ?_⟩
 ·obtain⟨o',ho,hb⟩:=h.blk k B hm hn
  refine⟨o',?_,hb⟩
  rw[World.putObj_heap_other (fun e=> ?_)]
  ·exact ho
  ·rw[e,hd] at ho
   injection ho with ho
   exact hb.not_mark _ ho.symm
 ·rw[World.putObj_heap_other (by omega)];exact h.ext.block k hk' hm
 ·rw[World.putObj_heap_other (fun e=>hk (by rw[← e];exact hD'))];exact h.kp D' hD'
theorem leaves_marksM {fn:Func} {Γ:Base} {E:Nat→Nat} {m:Mem} {nx:Nat} {tmps:Array Value} {R:Ending→World→Prop} {u:FrameMode} (hu:u≠.run)
  (fin: ∀ w,SatM Γ E m nx w→LeavesInM Fence.wide 0 P fn tmps R [] u w): ∀(Ds:List Nat) (w:World),Ds.Nodup →
  (∀ D∈ Ds,w.heap[D]?=some (.deferred (some []))∧D∉ Γ.keep∧Γ.w0.heap.size≤D)→SatM Γ E m nx w→LeavesInM Fence.wide 0 P fn tmps R (Ds.map markOf) u w
 | [],w,_,_,hm=>fin w hm
 | D::Ds,w,hnd,hD,hm=>by
   obtain⟨h1,h2,h3⟩:=hD D (by simp)
   rw[List.nodup_cons] at hnd
   refine⟨hu,.inl ⟨D,_,rfl,run_takeDeferred h1,leaves_marksM hu fin Ds _ hnd.2 (fun D' hD'=> ?_) (hm.shut h1 h2 h3 _)⟩⟩
   obtain⟨g1,g2⟩:=hD D' (by simp[hD'])
   exact⟨by rw[World.putObj_heap_other (fun e=>hnd.1 (by rw[← e];exact hD'))];exact g1,g2⟩
theorem retK_afterP {nx:Nat} {v:SV} {m':Mem} {nx':Nat} {KP:PK} {Γ:Base} {E E':Nat→Nat} {w:World} (h:(retK nx v m' nx' KP).holds)(hv:v.wf nx'=true)(hs:SatM Γ E' m' nx' w)
  (hg:Γ.nx0≤nx) (hE: ∀ k,k<nx→E' k=E k) (hn:nx≤nx'):AfterP KP Γ E nx [{v:=v.val E',recovered:=false}] w:=by
 unfold retK at h
 split at h
 ·rename_i hw
  simp only[Bool.and_eq_true] at hw
  exact⟨E',v,older nx m',nx,hE,Nat.le_refl _,rfl,hw.1,hs.sub (fun k B hk=>(older_get hk).1) (fun k B hk=>(older_get hk).2) (.inr hg),h⟩
 ·exact⟨E',v,m',nx',hE,hn,rfl,hv,hs,h⟩
theorem SatM.start {Δ:Base} {E:Nat→Nat} {m:Mem} {nx:Nat} {w:World} (hs:SatM Δ E m nx w)(ht:Δ.tail=[]) {args:List SV} (hargs:SV.wfs nx args=true)(k:Nat) :
  Sat Δ E ⟨args.map some++List.replicate (k - args.length) none,m,nx⟩ ⟨(SV.vals E args).toArray++Array.replicate (k - (SV.vals E args).toArray.size) undef,[]⟩ w:=by
 have hsize:(SV.vals E args).toArray.size=args.length:=by simp[SV.vals_eq]
 refine⟨⟨by simp[SV.vals_eq],fun i v hv=> ?_⟩,wfTmps_of fun i v hv=> ?_,Marks.nil _ _ ht,hs⟩
 ·rw[List.getElem?_append] at hv
  rw[Array.getElem?_append]
  split at hv
  ·rename_i hlt
   rw[List.length_map] at hlt
   rw[if_pos (by rw[hsize];exact hlt)]
   rw[List.getElem?_map] at hv
   rw[List.getElem?_toArray,SV.vals_eq,List.getElem?_map]
   cases ha:args[i]? with
   | none=>rw[ha] at hv;cases hv
   | some u=>rw[ha] at hv;injection hv with hv;injection hv with hv;subst hv;rfl
  ·rw[List.getElem?_replicate] at hv
   split at hv<;>cases hv
 ·rw[List.getElem?_append] at hv
  split at hv
  ·rw[List.getElem?_map] at hv
   cases ha:args[i]? with
   | none=>rw[ha] at hv;cases hv
   | some u=>rw[ha] at hv;injection hv with hv;injection hv with hv;subst hv;exact SV.wfs_get hargs ha
  ·rw[List.getElem?_replicate] at hv
   split at hv<;>cases hv
theorem runFn_ok {C:Calling} {env:Env} (hmix:P.follows .mixedOrders=true)(hC:CallingOk P C)(hem: ∀ p∈ env,MonoPT p.2) {Γ:Base} (hek: ∀ p∈ env,∀ KP,COk P Γ KP (.yield p.1) p.2) {KP:PK} {anns:Anns} {n:Nat} {f:FuncId} {fn:Func} (hf:P.funcs[f]?=some fn)
  (hname:(fn.name== "runtime.NumGoroutine")=false):COk P Γ KP (.fn f) (runFn P C env KP anns n fn):=by
 intro Δ' hle' args m nx K h hwf hargs E w hs'
 refine Out.mono (R:=After (lift K) Δ'.own E nx) (RP:=AfterP KP Δ'.own E nx) ?_ (fun _ _ h=>h.unown) (fun _ _ h=>h.unown)
 have hle:=Base.le_trans hle' Δ'.own_le
 have hs:=hs'.own'
 have htl:Δ'.own.tail=[]:=rfl
 have hrf:Δ'.own.rf=true:=rfl
 generalize Δ'.own=Δ at hle hs htl hrf ⊢
 unfold runFn at h
 split at h
 ·rename_i body hb
  simp only[Cal.sem]
  rw[callFunc_run hf hname hb]
  simp only[Out]
  refine callsIn_wide.1 (callsIn_of_wp_marks (F:=Fence.wide) (n:=0) hf hb trivial ?_)
  refine wpIn_mono (sx_sound hmix hC hem body false none (fun _=>rfl) Δ (fun _=>hrf) (fun p hp KP=>(hek p hp KP).mono hle) _ _ _ E _ w h (hs.start htl hargs _)) (fun e a' w' hq=> ?_)
  rcases hq with ⟨ex,rfl,E',st',g1,g2,g3,g4⟩ | ⟨v,E',st',rfl,gw,g1,g2,g3,g4⟩
  ·obtain⟨Ds,d1,d2,d3,d4⟩:=g3.df
   rw[htl,List.append_nil] at d1
   have fin: ∀ vs,resAll P st' fn.results.toList=some vs→(retG (Nat.ble 1000 n) nx (resVal vs) st'.m st'.nx K).holds →
     LeavesInM Fence.wide 0 P fn a'.tmps (fun e w'=>(∃ v,e=.returned v∧After (lift K) Δ E nx v w')∨∃ ch,e=.panicked ch∧AfterP KP Δ E nx ch w') a'.defers .returning w':=by
    intro vs hvs hk
    rw[d1]
    refine leaves_marksM (by simp) (fun w hm=>by
     show ∃ v,_∧_
     exact⟨_,results_run g3.tm hm hvs,.inl ⟨_,rfl,retG_after hk hm hs.cx.1 g1 g2⟩⟩) Ds w' d2 d3 g3.mm
   cases ex with
   | exit id=>exact g4.elim
   | normal =>
     simp only at g4
     cases hvs:resAll P st' fn.results.toList with
     | none=>rw[hvs] at g4;exact g4.elim
     | some vs=>rw[hvs] at g4;exact fin vs hvs g4
   | ret =>
     simp only at g4
     cases hvs:resAll P st' fn.results.toList with
     | none=>rw[hvs] at g4;exact g4.elim
     | some vs=>rw[hvs] at g4;exact fin vs hvs g4
  ·obtain⟨Ds,d1,d2,d3,d4⟩:=g3.df
   rw[htl,List.append_nil] at d1
   show LeavesInM _ _ _ _ _ _ _ _ _
   rw[d1]
   exact leaves_marksM (by simp) (fun w hm=>by
    show _∨_
    exact .inr ⟨_,rfl,retK_afterP g4 gw hm hs.cx.1 g1 g2⟩) Ds w' d2 d3 g3.mm
 ·exact h.elim
theorem runFn_mono {C:Calling} {env:Env} (hC:CallingOk P C)(hem: ∀ p∈ env,MonoPT p.2) {KP:PK} {anns:Anns} {n:Nat} {fn:Func}:MonoPT (runFn P C env KP anns n fn):=by
 intro args m nx K K' hK h
 unfold runFn at h ⊢
 split at h
 ·refine sx_mono hC.mono hC.monoP hem _ _ _ _ (fun _ _ h=>h) _ _ _ (fun e st' _ hh=> ?_) h
  cases e with
  | exit id=>exact hh
  | normal =>
    simp only at hh ⊢
    cases hvs:resAll P st' fn.results.toList with
    | none=>rw[hvs] at hh;exact hh
    | some vs=>rw[hvs] at hh;exact retG_mono hK hh
  | ret =>
    simp only at hh ⊢
    cases hvs:resAll P st' fn.results.toList with
    | none=>rw[hvs] at hh;exact hh
    | some vs=>rw[hvs] at hh;exact retG_mono hK hh
 ·exact h
theorem runFn_monoP {C:Calling} {env:Env} (hC:CallingOk P C)(hem: ∀ p∈ env,MonoPT p.2) {KP KP':PK} (hKP: ∀ v m nx,(KP v m nx).holds→(KP' v m nx).holds) {anns:Anns} {n:Nat} {fn:Func} {args m nx K} (h:(runFn P C env KP anns n fn args m nx K).holds) :
  (runFn P C env KP' anns n fn args m nx K).holds:=by
 unfold runFn at h ⊢
 split at h
 ·exact sx_mono hC.mono hC.monoP hem _ _ _ _ (fun v st h=>retK_mono hKP h) _ _ _ (fun e st' _ hh=>hh) h
 ·exact h
theorem Env.find_mem {env:Env} {k:Nat} {pt:PT} (h:env.find k=some pt):(k,pt)∈ env:=by
 induction env with
 | nil=>cases h
 | cons e r ih =>
   unfold Env.find at h
   split at h
   ·rename_i he
    injection h with h
    obtain⟨a,b⟩:=e
    simp only at he h
    subst he;subst h;simp
   ·exact List.mem_cons_of_mem _ (ih h)
theorem raise_ok {Γ:Base} {KP:PK}:COk P Γ KP .panic (raise KP):=by
 intro Δ hle args m nx K h hwf hargs E w hs
 unfold raise at h
 split at h
 ·rename_i t v
  split at h
  ·rename_i hv
   have hrun:((Cal.panic).sem E (SV.vals E [.iface t v]).toArray).run P w=.halt (.panic (.iface t (v.val E))) w:=by
    simp only[Cal.sem,SV.vals,SV.val]
    rfl
   rw[hrun]
   exact⟨E,.iface t v,m,nx,fun _ _=>rfl,Nat.le_refl _,rfl,hv,hs,h⟩
  ·exact h.elim
 ·exact h.elim
theorem callOf_ok {cfg:Cfg} (hg:Good P cfg)(n:Nat):CallingOk P (calling P cfg n):=by
  have hyo: ∀(n:Nat) (Γ:Base) env,(∀ p∈ env,∀ KP,COk P Γ KP (.yield p.1) p.2)→∀ KP k,COk P Γ KP (.yield k) (callOf P cfg n env KP (.yield k)):=by
   intro n Γ env he KP k
   have:callOf P cfg n env KP (.yield k)=(match env.find k with
    | some pt=>pt
    | none=>fun _ _ _ _=>.fail "a yield that is not known"):=by cases n<;>rfl
   rw[this]
   split
   ·rename_i pt hp;exact he _ (Env.find_mem hp) _
   ·exact fun Δ _ args m nx K h=>h.elim
  have hym: ∀(n:Nat) env,(∀ p∈ env,MonoPT p.2)→∀ KP k,MonoPT (callOf P cfg n env KP (.yield k)):=by
   intro n env he KP k
   have:callOf P cfg n env KP (.yield k)=(match env.find k with
    | some pt=>pt
    | none=>fun _ _ _ _=>.fail "a yield that is not known"):=by cases n<;>rfl
   rw[this]
   split
   ·rename_i pt hp;exact he _ (Env.find_mem hp)
   ·exact fun args m nx K K' _ h=>h.elim
  have hyp: ∀(n:Nat) env KP KP' k,callOf P cfg n env KP (.yield k)=callOf P cfg n env KP' (.yield k):=by
   intro n env KP KP' k;cases n<;>rfl
  have hpa: ∀(n:Nat) env KP,callOf P cfg n env KP .panic=raise KP:=by
   intro n env KP;cases n<;>rfl
  have hpm: ∀ KP,MonoPT (raise KP):=fun KP args m nx K K' _ h=>h
  have hpp: ∀ KP KP':PK,(∀ v m nx,(KP v m nx).holds→(KP' v m nx).holds)→∀ args m nx K,(raise KP args m nx K).holds→(raise KP' args m nx K).holds:=by
   intro KP KP' hK args m nx K h
   unfold raise at h ⊢
   split at h
   ·split at h
    ·exact hK _ _ _ h
    ·exact h
   ·exact h
  have hbd: ∀ f,cfg.bd f=true→∀(args:Array Value) (w:World),(callFunc f args).run P w=.ok (.enter f args) w:=by
   intro f hf args w
   unfold Cfg.bd at hf
   split at hf
   ·rename_i fn hfn
    obtain⟨body,hb⟩:=Option.isSome_iff_exists.1 hf
    exact callFunc_run (hg.fns f fn hfn).1 (hg.fns f fn hfn).2 hb args w
   ·cases hf
  induction n with
  | zero =>
    refine⟨fun env he KP c=> ?_,fun env he KP KP' hK c args m nx K h=> ?_,fun Γ env hem he KP c=> ?_,hbd⟩
    ·cases c with
     | yield k=>exact hym 0 env he KP k
     | fn f=>exact fun args m nx K K' _ h=>h
     | panic=>show MonoPT (callOf P cfg 0 env KP .panic);rw[hpa];exact hpm KP
    ·cases c with
     | yield k=>exact h
     | fn f=>exact h
     | panic=>exact hpp KP KP' hK args m nx K h
    ·cases c with
     | yield k=>exact hyo 0 Γ env he KP k
     | fn f=>exact fun Δ _ args m nx K h=>h.elim
     | panic=>exact raise_ok
  | succ n ih =>
    refine⟨fun env he KP c=> ?_,fun env he KP KP' hK c args m nx K h=> ?_,fun Γ env hem he KP c=> ?_,hbd⟩
    ·cases c with
     | yield k=>exact hym (n+1) env he KP k
     | panic=>show MonoPT (callOf P cfg (n+1) env KP .panic);rw[hpa];exact hpm KP
     | fn f =>
       show MonoPT (callOf P cfg (n+1) env KP (.fn f))
       simp only[callOf]
       cases hs:cfg.summ f with
       | some pt=>exact(hg.summ f pt hs).2
       | none =>
         simp only
         cases hf:cfg.fns f with
         | some fn=>exact runFn_mono ih he
         | none=>exact fun args m nx K K' _ h=>h
    ·cases c with
     | yield k=>exact h
     | panic=>exact hpp KP KP' hK args m nx K h
     | fn f =>
       have h:(callOf P cfg (n+1) env KP (.fn f) args m nx K).holds:=h
       show(callOf P cfg (n+1) env KP' (.fn f) args m nx K).holds
       simp only[callOf] at h ⊢
       cases hs:cfg.summ f with
       | some pt=>rw[hs] at h;exact h
       | none =>
         rw[hs] at h
         simp only at h ⊢
         cases hf:cfg.fns f with
         | some fn=>rw[hf] at h;exact runFn_monoP ih he hK h
         | none=>rw[hf] at h;exact h
    ·cases c with
     | yield k=>exact hyo (n+1) Γ env he KP k
     | panic=>exact raise_ok
     | fn f =>
       show COk P Γ KP (.fn f) (callOf P cfg (n+1) env KP (.fn f))
       simp only[callOf]
       cases hs:cfg.summ f with
       | some pt=>exact(hg.summ f pt hs).1.cok Γ KP
       | none =>
         simp only
         cases hf:cfg.fns f with
         | some fn =>
           exact runFn_ok hg.mix ih hem he (hg.fns f fn hf).1 (hg.fns f fn hf).2
         | none=>exact fun Δ _ args m nx K h=>h.elim
theorem calls_of_run {cfg:Cfg} (hg:Good P cfg) {f:FuncId} {fn:Func} (hf:P.funcs[f]?=some fn)(hn:(fn.name== "runtime.NumGoroutine")=false)(hb:fn.body.isSome=true) {n:Nat} {args:List SV} {m:Mem} {nx:Nat} {K:SV→Mem→Nat→VC}
  (h:(runFn P (calling P cfg n) [] noP (cfg.anns f) cfg.rounds fn args m nx K).holds) (hm:Mem.wf nx m=true) (ha:SV.wfs nx args=true) {Γ:Base} {E:Nat→Nat} {w:World} (hs:SatM Γ E m nx w) :
  Calls P f (SV.vals E args).toArray w fun e w'=>∃ v,e=.returned v∧After (lift K) Γ E nx v w':=by
 have:=runFn_ok hg.mix (callOf_ok hg n) (env:=[]) (fun p hp=>by cases hp) (Γ:=Γ) (fun p hp=>by cases hp) (KP:=noP) (anns:=cfg.anns f) (n:=cfg.rounds) hf hn Γ Γ.le_refl args m nx K h hm ha E w hs
 obtain⟨body,hb⟩:=Option.isSome_iff_exists.1 hb
 simp only[Cal.sem] at this
 rw[callFunc_run hf hn hb] at this
 refine Calls.mono this ?_
 rintro e w' (h | ⟨ch,_,_,_,_,_,_,_,_,_,_,hno⟩)
 ·exact h
 ·exact hno.elim
end
end
end Go.Proofs.YtoalfimkkibpdaaGreatDoor.Sx
namespace Go.Proofs.YtoalfimkkibpdaaGreatDoor.Sx
open Go
noncomputable section
theorem BlkOk.pure {B:SB} (hw:B.wf 0=true) {E E':Nat→Nat} {o:Obj} (h:BlkOk E B o):BlkOk E' B o:=h.congr (nx:=0) (fun k hk=>by omega) hw
theorem SV.val_pure {v:SV} (hw:v.wf 0=true)(E E':Nat→Nat):v.val E=v.val E':=SV.val_congr (nx:=0) (fun k hk=>by omega) v hw
theorem SV.vals_pure {l:List SV} (hw:SV.wfs 0 l=true)(E E':Nat→Nat):SV.vals E l=SV.vals E' l:=SV.vals_congr (nx:=0) (fun k hk=>by omega) l hw
theorem Mem.get_putNe {key:Nat} {B:SB}: ∀ {m:Mem} {k:Nat},k≠key→(Mem.put key B m).get k=m.get k
 | [],_,_=>rfl
 | e::r,k,h=>by
   by_cases he:e.1=key
   ·rw[Mem.put,if_pos he,Mem.get,Mem.get,if_neg (fun x=>h (x.symm.trans he)),if_neg (fun x=>h (x.symm.trans he))]
   ·rw[Mem.put,if_neg he,Mem.get,Mem.get,Mem.get_putNe h]
theorem Mem.get_putEq {key:Nat} {B X:SB}: ∀ {m:Mem},m.get key=some X→(Mem.put key B m).get key=some B
 | [],h=>by cases h
 | e::r,h=>by
   by_cases he:e.1=key
   ·rw[Mem.put,if_pos he,Mem.get,if_pos he]
   ·rw[Mem.get,if_neg he] at h
    rw[Mem.put,if_neg he,Mem.get,if_neg he];exact Mem.get_putEq h
def Base.at (w:World)(M:Nat→Prop)(gl:GlobOk w)(gm: ∀ p∈ globList,¬ M p.1):Base:=⟨w,M,fun _=>0,0,[],gl,gm,[],true⟩
theorem SatM.notGlob {Γ E m nx w} (h:SatM Γ E m nx w) {k:Nat} {B:SB} (hk:m.get k=some B)(hn:B.no=false)(hro:B.ro=false): ∀ p∈ globList,¬ (p.1=E k):=by
 intro p hp e
 obtain⟨_,ty,fr,hg,_⟩:=Γ.gl p hp
 rcases h.own k B hk hn hro with h1 | h1
 ·exact Γ.gm p hp (e▸ h1)
 ·have:=(Array.getElem?_eq_some_iff.1 hg).1
  omega
theorem SatM.one {Γ E m nx w} (h:SatM Γ E m nx w) {k:Nat} {B B':SB} (hk:m.get k=some B)(hB:SBle B B')(hn:B'.no=false)(hro:B'.ro=false)(hw:B'.wf 0=true) :
  SatM (Base.at w (fun b=>b=E k) h.glob (h.notGlob hk (hB hn).1 ((hB hn).2.2 hro))) (fun _=>E k) [(0,B')] 1 w:=by
 obtain⟨h1,h2,_⟩:=hB hn
 obtain⟨o,ho,hb⟩:=h.blk k B hk h1
 refine⟨fun j X hj hx=> ?_,fun j j' X X' hj _ hj' _ _ _=> ?_,fun j X hj=> ?_,fun j X hj _ _=>.inl rfl,Ext.refl _ _,⟨Nat.zero_le _,fun k hk=>absurd hk (Nat.not_lt_zero _)⟩,fun D hD=>by cases hD⟩
 ·rcases Mem.get_cons hj with ⟨rfl,rfl⟩ | ⟨_,hj⟩
  ·exact⟨o,ho,(h2 E o hb).pure hw⟩
  ·cases hj
 ·rcases Mem.get_cons hj with ⟨e,_⟩ | ⟨_,hj⟩
  ·rcases Mem.get_cons hj' with ⟨e',_⟩ | ⟨_,hj'⟩
   ·exact e.trans e'.symm
   ·cases hj'
  ·cases hj
 ·rcases Mem.get_cons hj with ⟨rfl,_⟩ | ⟨_,hj⟩
  ·omega
  ·cases hj
theorem SatM.none (w:World)(hg:GlobOk w):SatM (Base.at w (fun _=>False) hg (fun _ _ h=>h)) (fun _=>0) [] 0 w :=
 ⟨(fun _ _ h=>by cases h),(fun _ _ _ _ h=>by cases h),(fun _ _ h=>by cases h),(fun _ _ h=>by cases h),Ext.refl _ _,⟨Nat.zero_le _,fun k hk=>absurd hk (Nat.not_lt_zero _)⟩,fun D hD=>by cases hD⟩
theorem SatM.still {Γ E m nx w} (h:SatM Γ E m nx w) {w':World} (hx:Ext (fun _=>False) w w'):SatM Γ E m nx w':=by
 refine⟨fun k B hk hn=> ?_,h.inj,h.lt,h.own,h.ext.trans ⟨hx.os,hx.tape,hx.output,hx.size,fun k hk _=>hx.block k hk (fun h=>h)⟩,h.cx,fun D hD=> ?_⟩
 ·obtain⟨o,ho,hb⟩:=h.blk k B hk hn
  exact⟨o,by rw[hx.block _ (Array.getElem?_eq_some_iff.1 ho).1 (fun h=>h)];exact ho,hb⟩
 ·have:=h.kp D hD
  rw[hx.block _ (Array.getElem?_eq_some_iff.1 this).1 (fun h=>h)];exact this
theorem SatM.frame {Γ E m nx w} (h:SatM Γ E m nx w) {k:Nat} {B:SB} (hk:m.get k=some B)(hn:B.no=false)(hro:B.ro=false) {E1:Nat→Nat} {m1:Mem} {nx1:Nat} {w':World} {gl gm}
  (h1:SatM (Base.at w (fun b=>b=E k) gl gm) E1 m1 nx1 w') (hE:E1 0=E k) {B1:SB} (hB1:m1.get 0=some B1) (hn1:B1.no=false) (hr1:B1.ro=false) (hw1:B1.wf 0=true):SatM Γ E (m.put k B1) nx w':=by
 have hx:Ext (fun b=>b=E k) w w':=h1.ext
 refine⟨fun j X hj hx=> ?_,fun j j' X X' hj hnj hj' hnj' hr e=> ?_,fun j X hj=> ?_,fun j X hj hnj hr=> ?_,⟨hx.os.trans h.ext.os,hx.tape.trans h.ext.tape,hx.output.trans h.ext.output,Nat.le_trans h.ext.size hx.size,fun i hi hm=>(hx.block i (Nat.lt_of_lt_of_le hi h.ext.size) (fun e=> ?_)).trans (h.ext.block i hi hm)⟩,h.cx,fun D hD=> ?_⟩
 ·rcases Mem.get_put hj with ⟨rfl,rfl,_⟩ | ⟨hne,hj⟩
  ·obtain⟨o,ho,hb⟩:=h1.blk 0 X hB1 hn1
   exact⟨o,by rw[← hE];exact ho,hb.pure hw1⟩
  ·obtain⟨o,ho,hb⟩:=h.blk j X hj hx
   have hd: ¬ (E j=E k):=fun e=>hne (h.inj j k X B hj hx hk hn (.inr hro) e)
   exact⟨o,by rw[h1.ext.block _ (Array.getElem?_eq_some_iff.1 ho).1 hd];exact ho,hb⟩
 ·rcases Mem.get_put hj with ⟨e1,_,_⟩ | ⟨_,hj1⟩<;>rcases Mem.get_put hj' with ⟨e2,_,_⟩ | ⟨_,hj2⟩
  ·exact e1.trans e2.symm
  ·subst e1;exact h.inj _ _ _ _ hk hn hj2 hnj' (.inl hro) e
  ·subst e2;exact h.inj _ _ _ _ hj1 hnj hk hn (.inr hro) e
  ·exact h.inj _ _ _ _ hj1 hnj hj2 hnj' hr e
 ·rcases Mem.get_put hj with ⟨rfl,_,_⟩ | ⟨_,hj⟩
  ·exact h.lt _ _ hk
  ·exact h.lt _ _ hj
 ·rcases Mem.get_put hj with ⟨rfl,_,_⟩ | ⟨_,hj⟩
  ·exact h.own _ _ hk hn hro
  ·exact h.own _ _ hj hnj hr
 ·
  subst e
  rcases h.own k B hk hn hro with h' | h'
  ·exact hm h'
  ·omega
 ·have:=h.kp D hD
  rw[hx.block _ (Array.getElem?_eq_some_iff.1 this).1 (h.not_mark hk hn D hD)];exact this
theorem SatM.frame2 {Γ E m nx w} (h:SatM Γ E m nx w)(hw:Mem.wf nx m=true) {k:Nat} {B:SB} (hk:m.get k=some B)(hn:B.no=false)(hro:B.ro=false) {E1:Nat→Nat} {m1:Mem} {nx1:Nat} {w':World}
  {gl gm} (h1:SatM (Base.at w (fun b=>b=E k) gl gm) E1 m1 nx1 w') (hE:E1 0=E k) {B1:SB} (hB1:m1.get 0=some B1) (hn1:B1.no=false) (hr1:B1.ro=false) (hw1:B1.wf 0=true)
  {j:Nat} (hj:j≠0) {B2:SB} (hB2:m1.get j=some B2) (hw2:B2.wf 0=true) (hr2:B2.ro=false) :
  ∃ E',(∀ i,i<nx→E' i=E i)∧(B2.no=false→E' nx=E1 j)∧SatM Γ E' ((nx,B2)::m.put k B1) (nx+1) w':=by
 have hf:=h.frame hk hn hro h1 hE hB1 hn1 hr1 hw1
 have hlt: ∀ i X,(m.put k B1).get i=some X→X.no=false→E i<w'.heap.size:=fun i X hi hX=>by
  obtain⟨o,ho,_⟩:=hf.blk i X hi hX
  exact(Array.getElem?_eq_some_iff.1 ho).1
 have hwp:Mem.wf nx (m.put k B1)=true:=by
  have: ∀(m:Mem),Mem.wf nx m=true→Mem.wf nx (m.put k B1)=true:=by
   intro m
   induction m with
   | nil=>intro _;rfl
   | cons e r ih =>
     intro hh
     simp only[Mem.wf,Bool.and_eq_true] at hh
     by_cases he:e.1=k
     ·rw[Mem.put,if_pos he];simp only[Mem.wf,Bool.and_eq_true]
      exact⟨SB.wf_mono (Nat.zero_le _) hw1,hh.2⟩
     ·rw[Mem.put,if_neg he];simp only[Mem.wf,Bool.and_eq_true];exact⟨hh.1,ih hh.2⟩
  exact this m hw
 cases hno:B2.no with
 | true =>
   refine⟨fun i=>if i=nx then w'.heap.size else E i,fun i hi=>by simp[Nat.ne_of_lt hi],(fun h=>by cases h),?_⟩
   exact hf.push hwp (fun _ _ h=>h) (fun i X hi hX=>Nat.ne_of_lt (hlt i X hi hX)) (fun _ _ _=>rfl) hf.ext (fun hx=>by rw[hno] at hx;cases hx) (fun D hD=>Nat.ne_of_lt (Array.getElem?_eq_some_iff.1 (hf.kp D hD)).1) (fun hx=>by rw[hno] at hx;cases hx)
 | false =>
   obtain⟨o,ho,hb⟩:=h1.blk j B2 hB2 hno
   have hne:E1 j≠E k:=fun e=>hj (h1.inj j 0 B2 B1 hB2 hno hB1 hn1 (.inl hr2) (e.trans hE.symm))
   have hge:w.heap.size≤E1 j:=by
    rcases h1.own j B2 hB2 hno hr2 with e | e
    ·exact absurd e hne
    ·exact e
   refine⟨fun i=>if i=nx then E1 j else E i,fun i hi=>by simp[Nat.ne_of_lt hi],fun _=>by simp,?_⟩
   refine hf.push hwp (fun _ _ h=>h) (fun i X hi hX e=> ?_) (fun _ _ _=>rfl) hf.ext (fun _ _=>.inr (Nat.le_trans h.ext.size hge)) (fun D hD=>Nat.ne_of_lt (Nat.lt_of_lt_of_le (Array.getElem?_eq_some_iff.1 (h.kp D hD)).1 hge)) (fun _=>⟨o,ho,hb.pure hw2⟩)
   rcases Mem.get_put hi with ⟨rfl,_,_⟩ | ⟨_,hi⟩
   ·exact hne e.symm
   ·obtain⟨o',ho',_⟩:=h.blk i X hi hX
    have:=(Array.getElem?_eq_some_iff.1 ho').1
    omega
section
variable {P : Program} {cfg : Cfg}
theorem out_of_calls {f:FuncId} {fn:Func} (hf:P.funcs[f]?=some fn)(hn:(fn.name== "runtime.NumGoroutine")=false)(hb:fn.body.isSome=true) {args:Array Value} {w:World} {Q:Value→World→Prop}
  (h:Calls P f args w fun e w'=>∃ v,e=.returned v∧Q v w'):Out P Q ((callFunc f args).run P w):=by
 obtain⟨body,hb⟩:=Option.isSome_iff_exists.1 hb
 rw[callFunc_run hf hn hb]
 exact Calls.mono h fun _ _ h=>.inl h
end
structure Holds (v:VC):Prop where
 out:v.holds
theorem Holds.of_eq {v:VC} {p:Prop} (e:v.holds=p)(h:p):Holds v:=⟨e.symm▸ h⟩
theorem calls_of_holds {P:Program} {cfg:Cfg} (hg:Good P cfg) {f:FuncId} {fn:Func} (hf:P.funcs[f]?=some fn)(hn:(fn.name== "runtime.NumGoroutine")=false)(hb:fn.body.isSome=true) {n:Nat} {args:List SV} {m:Mem} {nx:Nat} {K:SV→Mem→Nat→VC}
  (h:Holds (runFn P (calling P cfg n) [] noP (cfg.anns f) cfg.rounds fn args m nx K)) (hm:Mem.wf nx m=true) (ha:SV.wfs nx args=true) {Γ:Base} {E:Nat→Nat} {w:World} (hs:SatM Γ E m nx w) :
  Calls P f (SV.vals E args).toArray w fun e w'=>∃ v,e=.returned v∧After (lift K) Γ E nx v w':=calls_of_run hg hf hn hb h.out hm ha hs
def lookPT (f:FuncId):List (FuncId×PT)→Option PT
 | []=>none
 | e::r=>if e.1=f then some e.2 else lookPT f r
def SummOk (P:Program)(s:FuncId→Option PT):Prop:=∀ f pt,s f=some pt→CallOk P f pt∧MonoPT pt
theorem SummOk.nil {P:Program}:SummOk P (fun f=>lookPT f []):=fun _ _ h=>by cases h
theorem SummOk.cons {P:Program} {f:FuncId} {pt:PT} {l:List (FuncId×PT)} (h1:CallOk P f pt)(h2:MonoPT pt)(h:SummOk P (fun f=>lookPT f l)):SummOk P (fun g=>lookPT g ((f,pt)::l)):=by
 intro g q hq
 simp only[lookPT] at hq
 split at hq
 ·rename_i e;subst e;injection hq with hq;subst hq;exact⟨h1,h2⟩
 ·exact h g q hq
end
end Go.Proofs.YtoalfimkkibpdaaGreatDoor.Sx
