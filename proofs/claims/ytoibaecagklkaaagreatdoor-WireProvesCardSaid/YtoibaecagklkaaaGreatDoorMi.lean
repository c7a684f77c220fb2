/- A part of the proof. -/
import Derived.Test.YtoibaecagklkaaaGreatDoorMh
open Array renaming getD_eq_getD_getElem?->a!,getElem?_eq_some_iff->J
open Bool renaming and_eq_true->ag,false->H,true->z
open Go.Result renaming andThen_ok->W,ok->bf
open Go.Sem renaming run_bind->Y,run_pure->Z
open Go.World renaming putObj_heap_other->an
open List renaming append_nil->bE,getElem?_append->b5,getElem?_map->az,getElem?_replicate->b6,length_map->b7,mem_append->O,mem_cons->T,mem_cons_of_mem->b9,mem_of_getElem?->b_,nodup_cons->b!,replicate->cl
open Nat renaming le_add_right->aC,le_refl->V,le_succ->aO,le_trans->aX,lt_of_lt_of_le->ct,not_lt_zero->cy,zero_le->cD
open Option renaming isSome_iff_exists->a_,none->I,some->G
namespace Go.Proofs.YtoibaecagklkaaaGreatDoor
open Go Sx
variable {a:Act}{ops:Array Oper}{fn:Func}{f:FuncId}{args:List SV}{k n nx:Nat}{E:Nat->Nat}{KP:PK}{P:Program}{p:Prop}{B:SB}{st:St}{α:Type}{v:VC}{w:World}{Γ:aT}
namespace Sx
open Go
noncomputable section
def eE:Code->Option Nat
 | .region id _ _=>G id
 | .seq a b=>match eE a with
   | some i=>G i
   | none=>eE b
 | .cond _ a b=>match eE a with
   | some i=>G i
   | none=>eE b
 | .block _ b=>eE b
 | .loop b=>eE b
 | .scope b=>eE b
 | _=>I
structure lY where
 tags:List Nat
 tag:St->Nat
 A:Nat->aY
def one (A:aY):lY:=⟨[0],λ_=>0,λ_=>A⟩
abbrev ny:=List (Nat×(St->Option lY))
def always (A:aY):St->Option lY:=λ_=>G (one A)
def ny.find (aW:ny)(i:Nat)(st:St):Option lY:=match aW with
 | []=>I
 | (j,A)::r=>if j=i then A st else ny.find r i st
def Ut (aW:ny)(body:Code)(st:St):Option lY:=match eE body with
 | some i=>aW.find i st
 | none=>I
def wg:Nat->(XK->St->VC)->XK->St->VC
 | 0,_,_,_=>.fail "loop: too many rounds"
 | n+1,f,K,st=>f (λe st'=>match e with
   | .normal=>wg n f K st'
   | e=>K e st') st
def xy (t:Nat)(k:Nat->VC):List Nat->VC
 | []=>.fail "loop: no such head"
 | a::r=>if t=a then k a else xy t k r
theorem nV {t:Nat}{k:Nat->VC}: ∀ {l:List Nat},(xy t k l).holds->t∈ l/\(k t).holds
 | [],h=>h.elim
 | a::r,h=>by
   simp only[xy] at h;split at h
   ·rename_i e;subst e;exact⟨List.mem_cons_self ..,h⟩
   ·have:=nV h;exact⟨b9 _ this.1,this.2⟩
def entry (L:lY)(body:Code)(st st1:St):VC :=xy (L.tag st1) (λt=>.ex (L.A t).α λy=>.and (.atom ((L.A t).pre st y)) (vi body (L.A t) st y st1)) L.tags
def GY (L:lY)(body:Code)(st:St)(n:Nat)(st1:St):VC :=xy (L.tag st1) (λt=>.ex (L.A t).α λy=>.and (.atom ((L.A t).pre st y/\(L.A t).kH st y<n)) (vi body (L.A t) st y st1)) L.tags
def IW (L:lY)(body:Code)(f:XK->St->VC)(K:XK)(st:St)(t:Nat):VC :=
 .all (L.A t).α λx=>.imp ((L.A t).pre st x) (match rG body (L.A t) st x with
   | true=>f (λe st1=>match e with
     | .normal=>GY L body st ((L.A t).kH st x) st1
     | e=>K e st1) (hd body (L.A t) st x)
   | false=>.fail "loop: the annotation")
def pH (g:Nat->VC):List Nat->VC
 | []=>.tt
 | [t]=>g t
 | t::r=>.and (g t) (pH g r)
theorem qI {g:Nat->VC}: ∀ {l:List Nat},(pH g l).holds->∀ t∈ l,(g t).holds
 | [],_,t,ht=>by cases ht
 | [a],h,t,ht=>by simp at ht;subst ht;exact h
 | a::b::r,h,t,ht=>by
   rw[T] at ht;rcases ht with rfl | ht
   ·exact h.1
   ·exact qI (l:=b::r) h.2 t ht
theorem om {g g':Nat->VC}(hg: ∀ t,(g t).holds->(g' t).holds): ∀ {l:List Nat},(pH g l).holds->(pH g' l).holds
 | [],h=>h
 | [a],h=>hg a h
 | a::b::r,h=>⟨hg a h.1,om hg (l:=b::r) h.2⟩
def ZH (L:lY)(body:Code)(f:XK->St->VC)(K:XK)(st:St):VC :=.and (entry L body st st) (pH (IW L body f K st) L.tags)
def ad3 (aW:ny)(a:Code)(st:St):Option lY:=match aW with
 | []=>I
 | _=>(match eE a with
   | some i=>aW.find (1000+i) st
   | none=>I)
def HS (aW:ny)(a b:Code)(st:St):Option lY:=match aW with
 | []=>I
 | _=>(match ad3 aW a st with
   | some L=>G L
   | none=>(match eE a,eE b with
     | some i,G j=>aW.find (100000+(1000*i+j)) st
     | _,_=>I))
def CD (L:lY)(a:Code)(f:St->VC)(st:St)(t:Nat):VC :=
 .all (L.A t).α λx=>.imp ((L.A t).pre st x) (match rG a (L.A t) st x with
   | true=>f (hd a (L.A t) st x)
   | false=>.fail "join: the annotation")
def EY (c:Option SV)(t f:VC):VC:=match c with
 | some (.bool z b)=>(match b with
   | true=>t
   | false=>f)
 | some (.bool H b)=>fork b (λv=>match v with
   | true=>t
   | false=>f)
 | _=>.fail "cond"
abbrev Env:=List (Nat×PT)
def Env.find (env:Env)(k:Nat):Option PT:=match env with
 | []=>I
 | e::r=>if e.1=k then G e.2 else Env.find r k
def Du (kl:Nat)(tmps:List (Option SV))(K:XK):SV->Mem->Nat->VC:=λ_ m nx =>
 match m.get kl with
 | some (.loop .ready I _)=>K .normal ⟨tmps,m.drop kl,nx⟩
 | some (.loop .done (G .ret) _)=>K .ret ⟨tmps,m.drop kl,nx⟩
 | some (.loop .done (G (.exit id)) _)=>K (.exit id) ⟨tmps,m.drop kl,nx⟩
 | _=>.fail "range: the record"
structure de where
 k6:Env->PK->nA->PT
 bd:FuncId->Bool
def sx (P:Program)(C:de)(env:Env)(aW:ny)(n:Nat):Code->Bool->XP->XK->St->VC
 | .skip,_,_,K,st=>K .normal st
 | .label _,_,_,K,st=>K .normal st
 | .region _ ops d,_,X,K,st=>(match d with
   | true=>draw P (C.k6 env λv m nx=>X v ⟨unsure ops st.tmps,m,nx⟩) ops (K .normal) st
   | false=>jn P (C.k6 env λv m nx=>X v ⟨unsure ops st.tmps,m,nx⟩) ops (List.range ops.size) (K .normal) st)
 | .seq a b,r,X,K,st=>(match HS aW a b st with
   | some L=>.and (sx P C env aW n a r X (λe st'=>match e with
     | .normal=>entry L a st st'
     | e=>K e st') st) (pH (CD L a (sx P C env aW n b r X K) st) L.tags)
   | none=>sx P C env aW n a r X (λe st'=>match e with
     | .normal=>sx P C env aW n b r X K st'
     | e=>K e st') st)
 | .cond c a b,r,X,K,st=>EY (ev st.tmps c) (sx P C env aW n a r X K st) (sx P C env aW n b r X K st)
 | .block id body,r,X,K,st=>sx P C env aW n body r X (λe st'=>match e with
   | .exit j=>if j=id then K .normal st' else K (.exit j) st'
   | e=>K e st') st
 | .loop body,r,X,K,st=>(match Ut aW body st with
   | some A=>ZH A body (sx P C env aW n body r X) K st
   | none=>wg n (sx P C env aW n body r X) K st)
 | .exit id,_,_,K,st=>K (.exit id) st
 | .ret,_,_,K,st=>K .ret st
 | .scope body,r,X,K,st=>sx P C env aW n body r X K st
 | .rangeFunc g ps assign body,H,_,K,st=>(match ev st.tmps g,Mem.wf st.nx st.m with
   | some (.func (.func f) first captured),z=>(match C.bd f with
     | true=>.all Loop λR=>C.k6 ((st.nx,qZ st.nx R ps.toList st.tmps (sx P C env aW n assign z Bt) (sx P C env aW n body z Bt))::env) wq (.fn f)
        (first++[.yield st.nx]++captured) ((st.nx,.loop .ready I R)::st.m) (st.nx+1) (Du st.nx st.tmps K)
     | false=>.fail "range: over what")
   | _,_=>.fail "range: over what")
 | _,_,_,_,_=>.fail "code"
structure dg (P:Program)(C:de):Prop where
 mono: ∀ env,(∀ p∈ env,aQ p.2)->∀ KP c,aQ (C.k6 env KP c)
 o6: ∀ env,(∀ p∈ env,aQ p.2)->∀ KP KP':PK,(∀ v m nx,(KP v m nx).holds->(KP' v m nx).holds)->∀ c args m nx K,(C.k6 env KP c args m nx K).holds->(C.k6 env KP' c args m nx K).holds
 ok: ∀(Γ:aT) env,(∀ p∈ env,aQ p.2)->(∀ p∈ env,∀ KP,mJ P Γ KP (.yield p.1) p.2)->∀ KP c,mJ P Γ KP c (C.k6 env KP c)
 bd: ∀ f,C.bd f=z->∀(args:Array Value) (w:World),(callFunc f args).run P w=.ok (.enter f args) w
structure tf (P:Program)(C:de)(S:aT->Prop):Prop where
 mono: ∀ env,(∀ p∈ env,aQ p.2)->∀ KP c,aQ (C.k6 env KP c)
 o6: ∀ env,(∀ p∈ env,aQ p.2)->∀ KP KP':PK,(∀ v m nx,(KP v m nx).holds->(KP' v m nx).holds)->∀ c args m nx K,(C.k6 env KP c args m nx K).holds->(C.k6 env KP' c args m nx K).holds
 up: ∀ {Γ Δ:aT},S Γ->Γ.le Δ->S Δ
 ok: ∀(Γ:aT),S Γ->∀ env,(∀ p∈ env,aQ p.2)->(∀ p∈ env,∀ KP,mJ P Γ KP (.yield p.1) p.2)->∀ KP c,mJ P Γ KP c (C.k6 env KP c)
 bd: ∀ f,C.bd f=z->∀(args:Array Value) (w:World),(callFunc f args).run P w=.ok (.enter f args) w
theorem dg.at {C:de}(h:dg P C):tf P C (λ_=>True):=⟨h.mono,h.o6,λ_ _=>trivial,λΓ _=>h.ok Γ,h.bd⟩
structure Kp (l:List Nat)(t t':List (Option SV)):Prop where
 len:t'.length=t.length
 get: ∀ i,i∉ l->t'[i]?=t[i]?
theorem Kp.refl (l:List Nat)(t:List (Option SV)):Kp l t t:=⟨rfl,λ_ _=>rfl⟩
theorem Kp.trans {l:List Nat}{a b c:List (Option SV)}(h:Kp l a b)(h':Kp l b c):Kp l a c:=⟨h'.len.trans h.len,λi hi=>(h'.get i hi).trans (h.get i hi)⟩
theorem Kp.mono {l l':List Nat}{a b:List (Option SV)}(h:Kp l a b)(hl: ∀ i∈ l,i∈ l'):Kp l' a b:=⟨h.len,λi hi=>h.get i λx=>hi (hl i x)⟩
theorem Kp.set {l:List Nat}{t:List (Option SV)}{dst:Option Nat}{u:Option SV}(h: ∀ d,dst=G d->d∈ l):Kp l t (b8 t dst u):=by
 cases dst with
 | none=>exact Kp.refl _ _
 | some d=>exact⟨by simp[b8],λi hi=>by simp only[b8];rw[List.getElem?_set,s_ (fun(e:d=i)=>hi (by rw[← e];exact h d rfl))]⟩
section
variable {P : Program} {call : nA -> PT} {C : de} {env : Env} {aW : ny} {n : Nat}
theorem AL (hm: ∀ f,aQ (call f)){ops:Array Oper}{l0:List Nat}(hl0: ∀(j:Nat) o d,ops[j]?=G o->o.dst=G d->d∈ l0){K K':St->VC}{t0:List (Option SV)}
  (hK: ∀ st',Kp l0 t0 st'.tmps->(K st').holds->(K' st').holds): ∀(l:List Nat) (st:St),Kp l0 t0 st.tmps->(jn P call ops l K st).holds->(jn P call ops l K' st).holds
 | [],st,hk,h=>hK st hk h
 | j::r,st,hk,h=>by
   simp only[jn] at h ⊢;cases ho:ops[j]? with
   | none=>rw[ho] at h;exact h.elim
   | some o =>rw[ho] at h;exact cE hm (λu m nx hh=>AL hm hl0 hK r _ (hk.trans (Kp.set λd hd=>hl0 j o d ho hd)) hh) h
theorem p9 (hm: ∀ f,aQ (call f)){ops:Array Oper}{masks:List Nat}{l0:List Nat}(hl0: ∀(j:Nat) o d,ops[j]?=G o->o.dst=G d->d∈ l0){K K':St->VC}{t0:List (Option SV)}
  (hK: ∀ st',Kp l0 t0 st'.tmps->(K st').holds->(K' st').holds): ∀(n:Nat) (l:List Nat) (rd:List (Nat×Nat)) (st:St),Kp l0 t0 st.tmps->(cG P call ops masks n l rd K st).holds->(cG P call ops masks n l rd K' st).holds
 | n,[],_,st,hk,h=>by rw[nI] at h ⊢;exact hK st hk h
 | 0,_::_,_,_,_,h=>h.elim
 | n+1,x::r,rd,st,hk,h=>by
   simp only[cG] at h ⊢;split at h
   ·rename_i i _;cases ho:ops[i]? with
    | none=>rw[ho] at h;exact h.elim
    | some o =>rw[ho] at h;exact cE hm (λu m nx hh=>p9 hm hl0 hK n _ _ _ (hk.trans (Kp.set λd hd=>hl0 i o d ho hd)) hh) h
   ·refine kQ (λj hj=> ?_) h;cases hoj:ops[j]? with
    | none=>rw[hoj] at hj;exact hj.elim
    | some oj =>rw[hoj] at hj;simp only at hj ⊢;refine cE hm (λu m nx hh=> ?_) hj;rw[gV,mA] at hh ⊢;exact⟨hh.1,hh.2.1,p9 hm hl0 hK n _ _ _ (hk.trans (Kp.set λd hd=>hl0 j oj d hoj hd)) hh.2.2⟩
theorem W6 {call call':nA->PT}(hc: ∀ c args m nx K,(call c args m nx K).holds->(call' c args m nx K).holds){σ:Operand->Option SV}{m:Mem}{o:Op}{K:KL}:(lop P call σ m nx o K).holds->(lop P call' σ m nx o K).holds:=by
 cases o
 case call c =>
  show(Ay P call σ c m nx K).holds->(Ay P call' σ c m nx K).holds;unfold Ay;split
  ·split
   ·exact hc _ _ _ _ _
   ·exact hc _ _ _ _ _
   ·exact id
  ·split
   ·split
    ·split
     ·exact hc _ _ _ _ _
     ·exact id
    ·exact id
   ·exact id
  all_goals exact id
 case panic x =>
  show(y7 call (σ x) m nx).holds->(y7 call' (σ x) m nx).holds;unfold y7;split
  ·exact hc _ _ _ _ _
  ·exact id
 all_goals exact id
theorem sV {call call':nA->PT}(hc: ∀ c args m nx K,(call c args m nx K).holds->(call' c args m nx K).holds){j:Nat}{o:Oper}{K:St->VC}(h:(dF P call ops j o K st).holds):(dF P call' ops j o K st).holds:=by
 unfold dF at h ⊢;split at h
 ·split at h
  ·exact h
  ·split at h
   ·exact W6 hc h
   ·exact h
 ·exact h
 ·exact h
theorem AK {call call':nA->PT}(hm: ∀ f,aQ (call f))(hc: ∀ c args m nx K,(call c args m nx K).holds->(call' c args m nx K).holds){ops:Array Oper}{K:St->VC}: ∀(l:List Nat) (st:St),(jn P call ops l K st).holds->(jn P call' ops l K st).holds
 | [],_,h=>h
 | j::r,st,h=>by
   simp only[jn] at h ⊢;cases ho:ops[j]? with
   | none=>rw[ho] at h;exact h.elim
   | some o =>rw[ho] at h;exact sV hc (cE hm (λu m nx hh=>AK hm hc r _ hh) h)
theorem p8 {call call':nA->PT}(hm: ∀ f,aQ (call f))(hc: ∀ c args m nx K,(call c args m nx K).holds->(call' c args m nx K).holds){ops:Array Oper}{masks:List Nat}{K:St->VC} :
  ∀(n:Nat) (l:List Nat) (rd:List (Nat×Nat)) (st:St),(cG P call ops masks n l rd K st).holds->(cG P call' ops masks n l rd K st).holds
 | n,[],_,st,h=>by rw[nI] at h ⊢;exact h
 | 0,_::_,_,_,h=>h.elim
 | n+1,x::r,rd,st,h=>by
   simp only[cG] at h ⊢;split at h
   ·rename_i i _;cases ho:ops[i]? with
    | none=>rw[ho] at h;exact h.elim
    | some o =>rw[ho] at h;exact sV hc (cE hm (λu m nx hh=>p8 hm hc n _ _ _ hh) h)
   ·refine kQ (λj hj=> ?_) h;cases hoj:ops[j]? with
    | none=>rw[hoj] at hj;exact hj.elim
    | some oj =>rw[hoj] at hj;simp only at hj ⊢;refine sV hc (cE hm (λu m nx hh=> ?_) hj);rw[gV,mA] at hh ⊢;exact⟨hh.1,hh.2.1,p8 hm hc n _ _ _ hh.2.2⟩
theorem PV {j:Nat}{o:Oper}{d:Nat}(ho:ops[j]?=G o)(hd:o.dst=G d):d∈ ops.toList.filterMap (·.dst) :=List.mem_filterMap.2 ⟨o,b_ (by rw[Array.getElem?_toList];exact ho),hd⟩
theorem Kp.hd {body:Code}{A:aY}{x:A.α}(h:rG body A st x=z):Kp (written body) st.tmps (Sx.hd body A st x).tmps:=by simp only[rG,ag,List.all_eq_true,List.contains_iff_mem] at h;refine⟨by simp[Sx.hd,lV,n8],λi hi=> ?_⟩;simp only[Sx.hd];rw[AF (λu hu=>hi (h.1 _ hu).1),Fo hi]
theorem MW {c:Option SV}{t t' f f':VC}(ht:t.holds->t'.holds)(hf:f.holds->f'.holds):(EY c t f).holds->(EY c t' f').holds:=by
 unfold EY;split
 ·split
  ·exact ht
  ·exact hf
 ·intro h;rw[bP] at h ⊢;split at h
  ·exact ht h
  ·exact hf h
 ·exact id
theorem x4 {l0:List Nat}{f f':XK->St->VC}(hf: ∀(K K':XK) st,(∀ e st',Kp l0 st.tmps st'.tmps->(K e st').holds->(K' e st').holds)->(f K st).holds->(f' K' st).holds): ∀(n:Nat) (K K':XK) (st:St),
  (∀ e st',Kp l0 st.tmps st'.tmps->(K e st').holds->(K' e st').holds)->(wg n f K st).holds->(wg n f' K' st).holds
 | 0,_,_,_,_,h=>h
 | n+1,K,K',st,hK,h=>by
   simp only[wg] at h ⊢;refine hf _ _ st (λe st' hk hh=> ?_) h;cases e with
   | normal=>exact x4 hf n K K' st' (λe st'' hk'=>hK e st'' (hk.trans hk')) hh
   | exit id=>exact hK _ _ hk hh
   | ret=>exact hK _ _ hk hh
theorem uj (hC: ∀ env,(∀ p∈ env,aQ p.2)->∀ KP c,aQ (C.k6 env KP c))
  (hCP: ∀ env,(∀ p∈ env,aQ p.2)->∀ KP KP':PK,(∀ v m nx,(KP v m nx).holds->(KP' v m nx).holds)->∀ c args m nx K,(C.k6 env KP c args m nx K).holds->(C.k6 env KP' c args m nx K).holds) (he: ∀ p∈ env,aQ p.2) :
  ∀(c:Code) (r:Bool) (X X':XP) (_: ∀ v st,(X v st).holds->(X' v st).holds) (K K':XK) (st:St),(∀ e st',Kp (written c) st.tmps st'.tmps->(K e st').holds->(K' e st').holds) ->
  (sx P C env aW n c r X K st).holds->(sx P C env aW n c r X' K' st).holds:=by
 have hm:=hC env he;intro c;induction c with
 | skip=>intro r X X' hX K K' st hK h;exact hK _ _ (Kp.refl _ _) h
 | label l=>intro r X X' hX K K' st hK h;exact hK _ _ (Kp.refl _ _) h
 | exit id=>intro r X X' hX K K' st hK h;exact hK _ _ (Kp.refl _ _) h
 | ret=>intro r X X' hX K K' st hK h;exact hK _ _ (Kp.refl _ _) h
 | region id ops d =>
   intro r X X' hX K K' st hK h;simp only[sx] at h ⊢;cases d with
   | true =>
     simp only at h ⊢;unfold draw at h ⊢;simp only at h ⊢;split at h
     ·refine p8 (hm _) (hCP env he _ _ λv m nx=>hX _ _) _ _ _ _ ?_;exact p9 (hm _) (l0:=ops.toList.filterMap (fun(o:Oper)=>o.dst)) (t0:=st.tmps) (λj o d ho hd=>PV ho hd) (λst' hk=>hK _ st' hk) _ _ _ st (Kp.refl _ _) h
     ·exact h.elim
   | false =>refine AK (hm _) (hCP env he _ _ λv m nx=>hX _ _) _ _ ?_;exact AL (hm _) (l0:=ops.toList.filterMap (fun(o:Oper)=>o.dst)) (t0:=st.tmps) (λj o d ho hd=>PV ho hd) (λst' hk=>hK _ st' hk) _ st (Kp.refl _ _) h
 | seq a b iha ihb =>
   intro r X X' hX K K' st hK h;simp only[sx] at h ⊢;cases hj:HS aW a b st
   ·rw[hj] at h;simp only at h ⊢;refine iha r X X' hX _ _ st (λe st' hk hh=> ?_) h;have hk1:=hk.mono (l':=written (.seq a b)) (λi hi=>by simp only[written,O];exact .inl hi);cases e with
    | normal=>exact ihb r X X' hX _ _ st' (λe st'' hk'=>hK e st'' (hk1.trans (hk'.mono λi hi=>by simp only[written,O];exact .inr hi))) hh
    | exit id=>exact hK _ _ hk1 hh
    | ret=>exact hK _ _ hk1 hh
   ·rename_i L;rw[hj] at h;simp only at h ⊢;refine⟨iha r X X' hX _ _ st (λe st' hk hh=> ?_) h.1,om (g:=CD L a (sx P C env aW n b r X K) st) (g':=CD L a (sx P C env aW n b r X' K') st) (λt h2=>λx hx=> ?_) h.2⟩
    ·have hk1:=hk.mono (l':=written (.seq a b)) (λi hi=>by simp only[written,O];exact .inl hi);cases e with
     | normal=>exact hh
     | exit id=>exact hK _ _ hk1 hh
     | ret=>exact hK _ _ hk1 hh
    ·have h2:=h2 x hx;cases hok:rG a (L.A t) st x with
     | false=>rw[hok] at h2;exact h2.elim
     | true =>rw[hok] at h2;have hk1:=(Kp.hd hok).mono (l':=written (.seq a b)) (λi hi=>by simp only[written,O];exact .inl hi);exact ihb r X X' hX _ _ _ (λe st'' hk'=>hK e st'' (hk1.trans (hk'.mono λi hi=>by simp only[written,O];exact .inr hi))) h2
 | cond c a b iha ihb =>
   intro r X X' hX K K' st hK h;simp only[sx] at h ⊢
   exact MW (iha r X X' hX _ _ st λe st' hk=>hK e st' (hk.mono λi hi=>by simp only[written,O];exact .inl hi))
    (ihb r X X' hX _ _ st λe st' hk=>hK e st' (hk.mono λi hi=>by simp only[written,O];exact .inr hi)) h
 | block id body ih =>
   intro r X X' hX K K' st hK h;simp only[sx] at h ⊢;refine ih r X X' hX _ _ st (λe st' hk hh=> ?_) h;cases e with
   | normal=>exact hK _ _ hk hh
   | ret=>exact hK _ _ hk hh
   | exit j =>
     simp only at hh ⊢;split at hh
     ·rename_i e;rw[r_ e];exact hK _ _ hk hh
     ·rename_i e;rw[s_ e];exact hK _ _ hk hh
 | loop body ih =>
   intro r X X' hX K K' st hK h;simp only[sx] at h ⊢;cases ha:Ut aW body st with
   | none=>rw[ha] at h;exact x4 (f:=sx P C env aW n body r X) (f':=sx P C env aW n body r X') (ih r X X' hX) n K K' st hK h
   | some A =>
     rw[ha] at h;simp only at h ⊢;refine⟨h.1,om (g:=IW A body (sx P C env aW n body r X) K st) (g':=IW A body (sx P C env aW n body r X') K' st) (λt h2=>λx hx=> ?_) h.2⟩;have h2:=h2 x hx;cases hok:rG body (A.A t) st x with
     | false=>rw[hok] at h2;exact h2.elim
     | true =>
       rw[hok] at h2;refine ih r X X' hX _ _ _ (λe st1 hk hh=> ?_) h2;cases e with
       | normal=>exact hh
       | exit id=>exact hK _ _ ((Kp.hd hok).trans hk) hh
       | ret=>exact hK _ _ ((Kp.hd hok).trans hk) hh
 | rangeFunc g ps a b iha ihb =>
   intro r X X' hX K K' st hK h;cases r with
   | true=>exact h
   | false =>
     simp only[sx] at h ⊢;split at h
     ·split at h
      ·intro R;refine hC _ (λp hp=> ?_) _ _ _ _ _ _ _ (λv m nx hh=> ?_) (h R)
       ·rcases T.1 hp with e | hp
        ·subst e;exact yf (λK K' st hK=>iha z Bt Bt (λ_ _ h=>h) K K' st λe st' _=>hK e st') (λK K' st hK=>ihb z Bt Bt (λ_ _ h=>h) K K' st λe st' _=>hK e st')
        ·exact he p hp
       ·unfold Du at hh ⊢;split at hh
        ·exact hK _ _ (Kp.refl _ _) hh
        ·exact hK _ _ (Kp.refl _ _) hh
        ·exact hK _ _ (Kp.refl _ _) hh
        ·exact hh
      ·exact h
     ·exact h
 | scope b ih=>intro r X X' hX K K' st hK h;simp only[sx] at h ⊢;exact ih r X X' hX K K' st hK h
 | goto l=>intro r X X' hX K K' st hK h;exact h
 | refuse w=>intro r X X' hX K K' st hK h;exact h
theorem JK (ht:cP E st.tmps a){c:Operand}{t f:VC}(h:(EY (ev st.tmps c) t f).holds): ∃ b,a.eval c=.bool b/\(if b then t else f).holds:=by
 unfold EY at h;split at h
 ·rename_i b hb;have:=ht.reads _ _ hb;refine⟨b,by rw[this];rfl,?_⟩;cases b
  ·exact h
  ·exact h
 ·rename_i b hb;have:=ht.reads _ _ hb;rw[bP] at h;refine⟨b,by rw[this];rfl,?_⟩;cases b
  ·exact h
  ·exact h
 ·exact h.elim
theorem QZ {X:XP}{K:XK}(hwt:dz st.nx st.tmps=z): ∀ e a w,cP E (unsure ops st.tmps) a->l7 (λv m nx=>X v ⟨unsure ops st.tmps,m,nx⟩) Γ E st.nx e a w->ie K X Γ E st.nx e a w:=by rintro e a w ht ⟨ch,rfl,hd,E',v,m',nx',h1,h2,rfl,h4,h5,h6⟩;exact .inr ⟨v,E',_,rfl,h4,h1,h2,⟨ht.congr (GD hwt) h1,jC h2 (GD hwt),hd,h5⟩,h6⟩
theorem x5 {body:Code}{f:XK->St->VC}{X:XP}{Γ:aT}{ro:Option Nat}
  (hf: ∀(K:XK) st E a w,(f K st).holds->Sat Γ E st a w->body.wpIn (Fr ro) 0 P (ie K X Γ E st.nx) a w): ∀(n:Nat) (K:XK) (st:St) (E:Nat->Nat) (a:Act) (w:World),
  (wg n f K st).holds->Sat Γ E st a w->∀(b:Frame) (k:List Item) (cs:List Frame),b.roundOf=(Fr ro).round->(Fr ro).fn b.fn->(Fr ro).room (cs.length+1+0)->∃ e a' w',ie K X Γ E st.nx e a' w'/\ArrivesIn (Machine.fenced P (Fr ro)) P (lone (b.atR a (.code body::.inLoop body::k)) cs w) b k cs e a' w'
 | 0,_,_,_,_,_,h,_,_,_,_,_,_,_=>h.elim
 | n+1,K,st,E,a,w,h,hs,b,k,cs,hro,hb,hr=>by
   simp only[wg] at h;obtain⟨e,a1,w1,hq,harr⟩:=hf _ st E a w h hs b (.inLoop body::k) cs hro hb hr;rcases hq with ⟨ex,rfl,E1,st1,g1,g2,g3,g4⟩ | hp
   rotate_left
   ·have hp':=hp;obtain⟨v,E1,st1,rfl,_⟩:=hp';exact⟨_,a1,w1,.inr hp,.pass (x:=.inLoop body) rfl (λ_ _=>.inl (by simp)) harr⟩
   cases ex with
   | normal =>obtain⟨e2,a2,w2,hq2,harr2⟩:=x5 hf n K st1 E1 a1 w1 g4 g3 b k cs hro hb hr;exact⟨e2,a2,w2,hq2.weaken g1 g2,.of_steps (StepsIn.trans harr (.one (fenced_calm hb hr rfl) stepR_inLoop)) harr2⟩
   | exit id=>exact⟨_,a1,w1,.inl ⟨.exit id,rfl,E1,st1,g1,g2,g3,g4⟩,.pass (x:=.inLoop body) rfl (λ_ _=>.inl (by simp[Ex.to])) harr⟩
   | ret=>exact⟨_,a1,w1,.inl ⟨.ret,rfl,E1,st1,g1,g2,g3,g4⟩,.pass (x:=.inLoop body) rfl (λ_ _=>.inl (by simp[Ex.to])) harr⟩
theorem DY {S:aT->Prop}(hmix:P.follows .mixedOrders=z)(hC:tf P C S)(hem: ∀ p∈ env,aQ p.2): ∀(c:Code) (r:Bool) (ro:Option Nat),(r=H->ro=I)->∀(Γ:aT),S Γ->(r=H->Γ.rf=z)->(∀ p∈ env,∀ KP,mJ P Γ KP (.yield p.1) p.2) ->
  ∀(X:XP) (K:XK) (st:St) (E:Nat->Nat) (a:Act) (w:World),
  (sx P C env aW n c r X K st).holds->Sat Γ E st a w->c.wpIn (Fr ro) 0 P (ie K X Γ E st.nx) a w:=by
 have hm:=hC.mono env hem;intro c;induction c with
 | skip=>intro r ro hrr Γ hS hrf hek X K st E a w h hs;exact wpIn_skip (.inl ⟨.normal,rfl,E,st,λ_ _=>rfl,V _,hs,h⟩)
 | label l=>intro r ro hrr Γ hS hrf hek X K st E a w h hs;exact wpIn_label (.inl ⟨.normal,rfl,E,st,λ_ _=>rfl,V _,hs,h⟩)
 | exit id=>intro r ro hrr Γ hS hrf hek X K st E a w h hs;exact wpIn_exit (.inl ⟨.exit id,rfl,E,st,λ_ _=>rfl,V _,hs,h⟩)
 | ret=>intro r ro hrr Γ hS hrf hek X K st E a w h hs;exact wpIn_ret (.inl ⟨.ret,rfl,E,st,λ_ _=>rfl,V _,hs,h⟩)
 | region id ops d =>
   intro r ro hrr Γ hS hrf hek X K st E a w h hs;simp only[sx] at h;cases d with
   | true=>exact M3 hmix (hm _) (hC.ok Γ hS env hem hek _) h hs (QZ hs.wt) λa w hb=>.inl ⟨.normal,rfl,hb⟩
   | false=>exact wpIn_region (xN (hC.ok Γ hS env hem hek _) hs.wt (QZ hs.wt) _ h hs hs.tm.unsure (λ_ _=>rfl) (V _) λa w hb=>.inl ⟨.normal,rfl,hb⟩)
 | seq x y ihx ihy =>
   intro r ro hrr Γ hS hrf hek X K st E a w h hs;simp only[sx] at h;cases hj:HS aW x y st
   ·rw[hj] at h;simp only at h;refine wpIn_seq (wpIn_mono (ihx r ro hrr Γ hS hrf hek X _ st E a w h hs) ?_);rintro e a1 w1 (⟨ex,rfl,E1,st1,g1,g2,g3,g4⟩ | hp)
    rotate_left
    ·have hp':=hp;obtain⟨v,E1,st1,rfl,_⟩:=hp';exact .inr hp
    cases ex with
    | normal=>exact wpIn_mono (ihy r ro hrr Γ hS hrf hek X K st1 E1 a1 w1 g4 g3) λe a2 w2 hb=>hb.weaken g1 g2
    | exit id=>exact .inl ⟨.exit id,rfl,E1,st1,g1,g2,g3,g4⟩
    | ret=>exact .inl ⟨.ret,rfl,E1,st1,g1,g2,g3,g4⟩
   ·rename_i L;rw[hj] at h;simp only at h;obtain⟨h1,h2⟩:=h
    have hx:=uj hC.mono hC.o6 hem x r X X (λ_ _ h=>h) _ (λe st1=>.and (.atom (Kp (written x) st.tmps st1.tmps)) (match e with
     | .normal=>entry L x st st1
     | e=>K e st1)) st (λe st1 hk hh=>⟨hk,by cases e<;>exact hh⟩) h1
    refine wpIn_seq (wpIn_mono (ihx r ro hrr Γ hS hrf hek X _ st E a w hx hs) ?_);rintro e a1 w1 (⟨ex,rfl,E1,st1,g1,g2,g3,hkp,g4⟩ | hp)
    rotate_left
    ·have hp':=hp;obtain⟨v,E1,st1,rfl,_⟩:=hp';exact .inr hp
    have hkp:Kp (written x) st.tmps st1.tmps:=hkp;cases ex with
    | normal =>
      have g4:(entry L x st st1).holds:=g4;unfold entry at g4;obtain⟨ht,y0,hy0,hat⟩:=nV g4;obtain⟨E',q1,q2⟩:=pU hat hs.mm.cx.1 hs.wt hkp.get hkp.len g3;have hr:=qI h2 _ ht y0 hy0;have hok:rG x (L.A (L.tag st1)) st y0=true:=by
       unfold vi at hat;split at hat
       ·rename_i h';exact h'
       ·exact hat.elim
      rw[hok] at hr;exact wpIn_mono (ihy r ro hrr Γ hS hrf hek X K _ E' a1 w1 hr q2) λe a2 w2 hb=>hb.weaken (λk hk=>(q1 k hk).trans (g1 k hk)) (aC _ _)
    | exit id=>exact .inl ⟨.exit id,rfl,E1,st1,g1,g2,g3,g4⟩
    | ret=>exact .inl ⟨.ret,rfl,E1,st1,g1,g2,g3,g4⟩
 | cond c x y ihx ihy =>
   intro r ro hrr Γ hS hrf hek X K st E a w h hs;simp only[sx] at h;obtain⟨b,hb,hk⟩:=JK hs.tm h;refine wpIn_cond hb ?_;cases b
   ·exact ihy r ro hrr Γ hS hrf hek X K st E a w hk hs
   ·exact ihx r ro hrr Γ hS hrf hek X K st E a w hk hs
 | block id body ih =>
   intro r ro hrr Γ hS hrf hek X K st E a w h hs;simp only[sx] at h;refine wpIn_block (wpIn_mono (ih r ro hrr Γ hS hrf hek X _ st E a w h hs) ?_);rintro e a1 w1 (⟨ex,rfl,E1,st1,g1,g2,g3,g4⟩ | hp)
   rotate_left
   ·have hp':=hp;obtain⟨v,E1,st1,rfl,_⟩:=hp';exact .inr hp
   cases ex with
   | normal=>exact .inl ⟨.normal,rfl,E1,st1,g1,g2,g3,g4⟩
   | ret=>exact .inl ⟨.ret,rfl,E1,st1,g1,g2,g3,g4⟩
   | exit j =>
     simp only[Ex.to,Exit.inBlock];simp only at g4;split
     ·rename_i e;rw[r_ e] at g4;exact .inl ⟨.normal,rfl,E1,st1,g1,g2,g3,g4⟩
     ·rename_i e;rw[s_ e] at g4;exact .inl ⟨.exit j,rfl,E1,st1,g1,g2,g3,g4⟩
 | loop body ih =>
   intro r ro hrr Γ hS hrf hek X K st E a w h hs;simp only[sx] at h;cases ha:Ut aW body st with
   | none =>rw[ha] at h;intro b k cs hro hb hr;obtain⟨e,a',w',hq,harr⟩:=x5 (λK st E a w h hs=>ih r ro hrr Γ hS hrf hek X K st E a w h hs) n K st E a w h hs b k cs hro hb hr;exact⟨e,a',w',hq,.of_steps (.one (fenced_calm hb hr rfl) stepR_loop) harr⟩
   | some L =>
     rw[ha] at h;simp only at h;obtain⟨hent,hrounds⟩:=h;have hent:(entry L body st st).holds:=hent;let Inv:=fun(t:Nat) (x:(L.A t).α) (a:Act) (w:World)=>t∈ L.tags/\(L.A t).pre st x/\rG body (L.A t) st x=z/\∃ E',(∀ k,k<st.nx->E' k=E k)/\Sat Γ E' (hd body (L.A t) st x) a w;have hok: ∀ {A:aY} {y:A.α} {st1},(vi body A st y st1).holds->rG body A st y=true:=by
      intro A y st1 h;unfold vi at h;split at h
      ·rename_i h';exact h'
      ·exact h.elim
     have hent2: ∃ t x,Inv t x a w:=by unfold entry at hent;obtain⟨ht,x0,hx0,hat0⟩:=nV hent;obtain⟨E',g1,g2⟩:=pU hat0 hs.mm.cx.1 hs.wt (λi _=>rfl) rfl hs;exact⟨L.tag st,x0,ht,hx0,hok hat0,E',g1,g2⟩
     obtain⟨t0,x0,hinv0⟩:=hent2;intro b k cs hro hb hr;have key: ∀(N:Nat) (t:Nat) (x:(L.A t).α) a w,(L.A t).kH st x=N->Inv t x a w->∃ e a' w',ie K X Γ E st.nx e a' w'/\ArrivesIn (Machine.fenced P (Fr ro)) P (lone (b.atR a (.code body::.inLoop body::k)) cs w) b k cs e a' w':=by
      intro N;induction N using Nat.strongRecOn with
      | _ N ihN =>
        intro t x a w hN ⟨ht,hx,hokx,E1,hE1,hs1⟩;have hrd:=qI hrounds t ht x hx;rw[hokx] at hrd
        have hr2:=uj hC.mono hC.o6 hem body r X X (λ_ _ h=>h) _ (λe st1=>.and (.atom (Kp (written body) (hd body (L.A t) st x).tmps st1.tmps)) (match e with
         | .normal=>GY L body st ((L.A t).kH st x) st1
         | e=>K e st1)) (hd body (L.A t) st x) (λe st1 hk hh=>⟨hk,by cases e<;>exact hh⟩) hrd
        obtain⟨e,a1,w1,hq,harr⟩:=ih r ro hrr Γ hS hrf hek X _ _ E1 a w hr2 hs1 b (.inLoop body::k) cs hro hb hr;rcases hq with ⟨ex,rfl,E2,st1,g1,g2,g3,g4⟩ | hp
        rotate_left
        ·have hp':=hp.weaken (nx:=st.nx) (E:=E) hE1 (aC _ _);have hp2:=hp;obtain⟨v,E2,st1,rfl,_⟩:=hp2;exact⟨_,a1,w1,.inr hp',.pass (x:=.inLoop body) rfl (λ_ _=>.inl (by simp)) harr⟩
        have hE2: ∀ k,k<st.nx->E2 k=E k:=λk hk=>(g1 k (ct hk (aC _ _))).trans (hE1 k hk);have hn2:st.nx<=st1.nx:=aX (aC _ _) g2;obtain⟨hkp,g4⟩:=g4;have hkp:Kp (written body) (hd body (L.A t) st x).tmps st1.tmps:=hkp;cases ex with
        | normal =>
          have g4:(GY L body st ((L.A t).kH st x) st1).holds:=g4;unfold GY at g4;obtain⟨ht1,y,⟨hy,hlt⟩,hat⟩:=nV g4;have hkp2:=(Kp.hd hokx).trans hkp;obtain⟨E3,q1,q2⟩:=pU hat hs.mm.cx.1 hs.wt hkp2.get hkp2.len g3;have hinv:Inv (L.tag st1) y a1 w1:=⟨ht1,hy,hok hat,E3,λk hk=>(q1 k hk).trans (hE2 k hk),q2⟩
          obtain⟨e2,a2,w2,hq2,harr2⟩:=ihN ((L.A (L.tag st1)).kH st y) (hN▸ hlt) (L.tag st1) y a1 w1 rfl hinv;exact⟨e2,a2,w2,hq2,.of_steps (StepsIn.trans harr (.one (fenced_calm hb hr rfl) stepR_inLoop)) harr2⟩
        | exit id=>exact⟨_,a1,w1,.inl ⟨.exit id,rfl,E2,st1,hE2,hn2,g3,g4⟩,.pass (x:=.inLoop body) rfl (λ_ _=>.inl (by simp[Ex.to])) harr⟩
        | ret=>exact⟨_,a1,w1,.inl ⟨.ret,rfl,E2,st1,hE2,hn2,g3,g4⟩,.pass (x:=.inLoop body) rfl (λ_ _=>.inl (by simp[Ex.to])) harr⟩
     obtain⟨e,a',w',hq,harr⟩:=key _ t0 x0 a w rfl hinv0;exact⟨e,a',w',hq,.of_steps (.one (fenced_calm hb hr rfl) stepR_loop) harr⟩
 | rangeFunc g ps assign body iha ihb =>
   intro r ro hrr Γ hS hrf hek X K st E a w h hs;cases r with
   | true=>exact h.elim
   | false =>
     have hro:=hrr rfl;subst hro;simp only[sx] at h;split at h
     ·rename_i f first captured hg hwf
      split at h
      ·rename_i hbd;refine wpIn_rangeFunc λfn _=> ?_;have hgv:a.eval g=(SV.func (.func f) first captured).val E:=hs.tm.reads _ _ hg
       have hgw:=cP.wf hs.wt _ _ hg;simp only[SV.wf,ag] at hgw;obtain⟨Ds,d1,d2,d3,d4⟩:=hs.df;obtain⟨Δ,hle,hkeep,hnx,hE0,hsm⟩:=hs.mm.enter hwf (R:={state:=.ready,pending:=I,fn,tmps:=a.tmps,params:=ps,assign,body,defers:=w.heap.size}) rfl rfl (λD hD=>(d3 D hD).1);have hEk: ∀ k,k<st.nx->Δ.E0 k=E k:=λk hk=>by rw[hE0];simp[Nat.ne_of_lt hk]
       have hEn:Δ.E0 st.nx=w.heap.size+1:=by rw[hE0];simp
       generalize hw1:(w.alloc (Obj.deferred (G []))).alloc (.loop {state:=.ready,pending:=I,fn,tmps:=a.tmps,params:=ps,assign,body,defers:=w.heap.size})=w1 at hsm
       refine⟨w.heap.size+1,[y8 w.heap.size],w1,{target:=.fn (.func f) (SV.vals Δ.E0 captured).toArray,args:=(SV.vals Δ.E0 (first++[.yield st.nx])).toArray},w1,f,
        (SV.vals Δ.E0 (first++[.yield st.nx]++captured)).toArray,w1,by rw[← hw1];exact run_enterLoop_outer _ _ _ _ _,?_,λ_ _=>trivial,?_,λh=>(by cases h),?_⟩
       ·have hc1:SV.vals Δ.E0 captured=SV.vals E captured:=SV.fY hEk captured hgw.2;have hc2:SV.vals Δ.E0 first=SV.vals E first:=SV.fY hEk first hgw.1
        simp only[resolve,hgv,SV.val,Deferred.ofValue,Z];rw[lP,hc1,hc2];simp[SV.vals,SV.val,hEn,Act.eval]
       ·simp only[invoke];have:=hC.bd f hbd (SV.vals Δ.E0 (first++[.yield st.nx]++captured)).toArray w1
        rw[show(SV.vals Δ.E0 (first++[SV.yield st.nx])).toArray++(SV.vals Δ.E0 captured).toArray=(SV.vals Δ.E0 (first++[.yield st.nx]++captured)).toArray by rw[lP Δ.E0 (first++[SV.yield st.nx]) captured];simp only[List.append_toArray]]
        exact this
       ·refine BR.2 ?_;have hek2: ∀ p∈ (st.nx,qZ st.nx {state:=.ready,pending:=I,fn,tmps:=a.tmps,params:=ps,assign,body,defers:=w.heap.size} ps.toList st.tmps (sx P C env aW n assign z Bt) (sx P C env aW n body z Bt))::env,∀ KP,mJ P Δ KP (.yield p.1) p.2:=by
         intro p hp KP;rcases T.1 hp with e | hp
         ·subst e
          exact Pu (Γ:=Δ) (R:={state:=.ready,pending:=I,fn,tmps:=a.tmps,params:=ps,assign,body,defers:=w.heap.size}) (by omega) hEn hEk ⟨hs.tm.size,hs.tm.val⟩ hs.wt
           (λΘ hΘ K st E a w h hs=>iha z _ (λh=>by cases h) Θ (hC.up hS (aT.le_trans hle hΘ)) (λh=>by cases h) (λp hp KP=>(hek p hp KP).mono (aT.le_trans hle hΘ)) Bt K st E a w h hs)
           (λΘ hΘ K st E a w h hs=>ihb z _ (λh=>by cases h) Θ (hC.up hS (aT.le_trans hle hΘ)) (λh=>by cases h) (λp hp KP=>(hek p hp KP).mono (aT.le_trans hle hΘ)) Bt K st E a w h hs) KP
         ·exact(hek p hp KP).mono hle
        have hem2: ∀ p∈ (st.nx,qZ st.nx {state:=.ready,pending:=I,fn,tmps:=a.tmps,params:=ps,assign,body,defers:=w.heap.size} ps.toList st.tmps (sx P C env aW n assign z Bt) (sx P C env aW n body z Bt))::env,aQ p.2:=by
         intro p hp;rcases T.1 hp with e | hp
         ·subst e;exact yf (λK K' st hK=>uj hC.mono hC.o6 hem assign z Bt Bt (λ_ _ h=>h) K K' st λe st' _=>hK e st') (λK K' st hK=>uj hC.mono hC.o6 hem body z Bt Bt (λ_ _ h=>h) K K' st λe st' _=>hK e st')
         ·exact hem p hp
        have hcall:=hC.ok Δ (hC.up hS hle) _ hem2 hek2 wq (.fn f) Δ Δ.le_refl _ _ _ _ (h _) (by
          simp only[Mem.wf,ag];exact⟨rfl,Mem.iq (aO _) hwf⟩) (by
          refine e8 (e8 (SV.ja (aO _) _ hgw.1) ?_) (SV.ja (aO _) _ hgw.2);simp[SV.fH,SV.wf]) _ _ hsm
        simp only[nA.sem] at hcall;rw[hC.bd f hbd] at hcall;refine Calls.mono hcall ?_;rintro e w3 (⟨v,rfl,haft⟩ | ⟨ch,_,_,_,_,_,_,_,_,_,_,hno⟩)
        rotate_left
        ·exact hno.elim
        obtain⟨E3,sv,m3,nx3,q1,q2,_,q4,q5⟩:=haft;have hEe: ∀ k,k<st.nx->E3 k=E k:=λk hk=>(q1 k (Nat.lt_succ_of_lt hk)).trans (hEk k hk);have hEl:E3 st.nx=w.heap.size+1:=(q1 st.nx (Nat.lt_succ_self _)).trans hEn;have hnn:st.nx<=nx3:=aX (aO _) q2;cases sv with
        | none=>exact q5.elim
        | some u =>
          simp only[lift] at q5
          have fin: ∀ stt pe R3,m3.get st.nx=G (.loop stt pe R3)->stt≠.busy->∃ w4,(Instr.endLoop (w.heap.size+1)).run P w3=.ok pe w4 /\
            Sat Γ E3 ⟨st.tmps,m3.drop st.nx,nx3⟩ {a with defers:=[y8 w.heap.size]++a.defers} w4:=by
           intro stt pe R3 hk hb;obtain⟨o,ho,hbk⟩:=q4.oB st.nx _ hk rfl;have hbk:o=.loop {R3 with state:=stt,pending:=pe}:=hbk;subst hbk;rw[hEl] at ho;refine⟨_,run_endLoop ho hb,?_⟩;have hl:=q4.leave (st':=.exhausted) (pe':=pe) hk;rw[hEl] at hl;refine⟨⟨hs.tm.size,λi v hv=>(hs.tm.congr hs.wt hEe).val i v hv⟩,jC hnn hs.wt,?_,hl.weaken hle⟩;refine⟨w.heap.size::Ds,by simp[d1],?_,λD hD=> ?_,λhno=>by rw[hrf rfl] at hno;cases hno⟩
           ·refine b!.2 ⟨λhm=> ?_,d2⟩;have:=(J.1 (d3 _ hm).1).1;omega
           ·refine⟨hl.kp D (hkeep D (by rcases T.1 hD with e | e;subst e;simp;simp[e])),?_⟩;rcases T.1 hD with e | e
            ·subst e;refine⟨λhm=> ?_,hs.mm.ext.size⟩;have:=(J.1 (hs.mm.kp _ hm)).1;omega
            ·exact(d3 D e).2
          unfold Du at q5;split at q5
          ·rename_i R3 hk;obtain⟨w4,hw4,hsat⟩:=fin _ _ _ hk (by simp);exact⟨_,w4,hw4,.inl ⟨.normal,rfl,E3,_,hEe,hnn,hsat,q5⟩⟩
          ·rename_i R3 hk;obtain⟨w4,hw4,hsat⟩:=fin _ _ _ hk (by simp);exact⟨_,w4,hw4,wpIn_ret (.inl ⟨.ret,rfl,E3,_,hEe,hnn,hsat,q5⟩)⟩
          ·rename_i id R3 hk;obtain⟨w4,hw4,hsat⟩:=fin _ _ _ hk (by simp);exact⟨_,w4,hw4,wpIn_exit (.inl ⟨.exit id,rfl,E3,_,hEe,hnn,hsat,q5⟩)⟩
          ·exact q5.elim
      ·exact h.elim
     ·exact h.elim
 | scope b ih =>
   intro r ro hrr Γ hS hrf hek X K st E a w h hs;simp only[sx] at h;refine uD (wpIn_mono (ih r ro hrr Γ hS hrf hek X K st E a w h hs) ?_);rintro e a1 w1 (⟨ex,rfl,hb⟩ | hp)
   rotate_left
   ·have hp':=hp;obtain⟨v,E1,st1,rfl,_⟩:=hp';exact .inr hp
   cases ex<;>exact .inl ⟨_,rfl,hb⟩
 | goto l=>intro r ro hrr Γ hS hrf hek X K st E a w h;exact h.elim
 | refuse w=>intro r ro hrr Γ hS hrf hek X K st E a w h;exact h.elim
theorem xY (hmix:P.follows .mixedOrders=z)(hC:dg P C)(hem: ∀ p∈ env,aQ p.2): ∀(c:Code) (r:Bool) (ro:Option Nat),(r=H->ro=I)->∀(Γ:aT),(r=H->Γ.rf=z)->(∀ p∈ env,∀ KP,mJ P Γ KP (.yield p.1) p.2) ->
  ∀(X:XP) (K:XK) (st:St) (E:Nat->Nat) (a:Act) (w:World),
  (sx P C env aW n c r X K st).holds->Sat Γ E st a w->c.wpIn (Fr ro) 0 P (ie K X Γ E st.nx) a w :=
 λc r ro hrr Γ hrf hek X K st E a w=>DY hmix hC.at hem c r ro hrr Γ trivial hrf hek X K st E a w
end
def OA (P:Program)(st:St):ResultVar->Option SV
 | .tmp t=>slot st.tmps t
 | .cell a t=>(match slot st.tmps a with
   | some (.ptr key z o)=>(match st.m.get key with
     | some (.cells cs _ _)=>partOf P t cs o
     | _=>I)
   | _=>I)
def fV (P:Program)(st:St):List ResultVar->Option (List SV)
 | []=>G []
 | r::rs=>match OA P st r,fV P st rs with
   | some v,G l=>G (v::l)
   | _,_=>I
def nj:List SV->SV
 | [v]=>v
 | l=>.aN l
def agE (nx:Nat)(KP:PK):XP:=λv st=>pG nx v st.m st.nx KP
def fE (P:Program)(C:de)(env:Env)(KP:PK)(aW:ny)(n:Nat)(fn:Func):PT:=λargs m nx K =>
 match fn.body with
 | some body=>sx P C env aW n body H (agE nx KP) (λe st=>match e with
    | .exit _=>.fail "a jump out of a function"
    | _=>(match fV P st fn.results.toList with
      | some vs=>X2 (Nat.ble 1000 n) nx (nj vs) st.m st.nx K
      | none=>.fail "a result that is not known"))
    ⟨args.map G++cl (fn.ntmps - args.length) I,m,nx⟩
 | none=>.fail "a function without a body"
structure fD where
 cT:FuncId->Option PT
 fns:FuncId->Option Func
 aW:FuncId->ny
 rounds:Nat
 iter:FuncId->Option (Env->PT):=λ_=>I
def fD.bd (cfg:fD)(f:FuncId):Bool:=match cfg.fns f with
 | some fn=>fn.body.isSome
 | none=>H
def raise (KP:PK):PT:=λargs m nx _=>match args with
 | [.iface t v]=>(match v.wf nx with
   | true=>KP (.iface t v) m nx
   | false=>.fail "a key out of bounds")
 | _=>.fail "a panic of what"
def gZ (P:Program)(cfg:fD):Nat->Env->PK->nA->PT
 | _,env,_,.yield k=>(match env.find k with
   | some pt=>pt
   | none=>λ_ _ _ _=>.fail "a yield that is not known")
 | _,_,KP,.panic=>raise KP
 | 0,_,_,.fn _=>λ_ _ _ _=>.fail "calls too deep"
 | n+1,env,KP,.fn f=>match cfg.cT f with
   | some pt=>pt
   | none=>(match cfg.iter f with
     | some g=>g env
     | none=>(match cfg.fns f with
       | some fn=>fE P ⟨gZ P cfg n,cfg.bd⟩ env KP (cfg.aW f) cfg.rounds fn
       | none=>λ_ _ _ _=>.fail "a function that is not known"))
def calling (P:Program)(cfg:fD)(n:Nat):de:=⟨gZ P cfg n,cfg.bd⟩
structure GP (P:Program)(f:FuncId)(g:Env->PT):Prop where
 mono: ∀ env,(∀ p∈ env,aQ p.2)->aQ (g env)
 ok: ∀(Γ:aT) env,(∀ p∈ env,aQ p.2)->(∀ p∈ env,∀ KP,mJ P Γ KP (.yield p.1) p.2)->∀ KP,mJ P Γ KP (.fn f) (g env)
structure Good (P:Program)(cfg:fD):Prop where
 mix:P.follows .mixedOrders=z
 cT: ∀ f pt,cfg.cT f=G pt->ax P f pt/\aQ pt
 fns: ∀ f fn,cfg.fns f=G fn->P.funcs[f]?=G fn/\(fn.name== "runtime.NumGoroutine")=H
 iter: ∀ f g,cfg.iter f=G g->GP P f g
theorem Good.of {cfg:fD}(mix:P.follows .mixedOrders=z)(cT: ∀ f pt,cfg.cT f=G pt->ax P f pt/\aQ pt) (fns: ∀ f fn,cfg.fns f=G fn->P.funcs[f]?=G fn/\(fn.name== "runtime.NumGoroutine")=H)
  (iter: ∀ f g,cfg.iter f=G g->GP P f g:=by intro f g h;cases h):Good P cfg:=⟨mix,cT,fns,iter⟩
section
variable {P : Program}
theorem OB (htm:cP E st.tmps a)(hmm:aJ Γ E st.m st.nx w){r:ResultVar}{v:SV}(h:OA P st r=G v) :
  (match r with
    | .tmp t=>(pure (a.tmps.getD t undef):Sem Value)
    | .cell b t=>do loadVar t (← asAddr (a.tmps.getD b undef))).run P w=.ok (v.val E) w:=by
 cases r with
 | tmp t =>have:=htm.val t v (nW h);simp[a!,this]
 | cell b t =>
   simp only[OA] at h;split at h
   ·rename_i key o hb;split at h
    ·rename_i cs tot ty hk;have hv:=htm.val b _ (nW hb);obtain⟨ob,ho,c,fr,rfl,_,h2,_⟩:=hmm.oB key _ hk rfl;simp only[a!,hv,Option.getD_some,SV.val,asAddr,Y,Z,W];unfold partOf at h;split at h
     ·cases h
     ·rename_i d hd;split at h
      ·rename_i ha;split at h
       ·rename_i n hn;split at h
        ·rename_i l hl;injection h with h;subst h;have hg:=cV hl;have hll:=run_loadCells (P:=P) ho o (l.map (SV.val E)) (λj v hj=>by
          rw[az] at hj;cases hjl:l[j]? with
          | none=>rw[hjl] at hj;cases hj
          | some u=>rw[hjl] at hj;injection hj with hj;subst hj;exact h2 _ _ (hg.2 j u hjl))
         rw[b7,hg.1] at hll;simp only[loadVar,Y,cO hd,ha,W,if_true,cj hn,hll,Z,SV.bM,SV.val]
        ·cases h
       ·cases h
      ·rename_i ha;simp only[loadVar,Y,cO hd,ha,W,Bool.false_eq_true,if_false,run_load,cell_of ho,h2 _ _ h]
    ·cases h
   ·cases h
theorem Dz {Γ:aT}{E:Nat->Nat}{st:St}{a:Act}{w:World}(htm:cP E st.tmps a)(hmm:aJ Γ E st.m st.nx w): ∀ {rs:List ResultVar} {l:List SV},fV P st rs=G l ->
  (rs.mapM (λr=>match r with
    | .tmp t=>(pure (a.tmps.getD t undef):Sem Value)
    | .cell b t=>do loadVar t (← asAddr (a.tmps.getD b undef))):Sem (List Value)).run P w=.ok (SV.vals E l) w
 | [],l,h=>by simp[fV] at h;subst h;simp[SV.vals]
 | r::rs,l,h=>by
   simp only[fV] at h;split at h
   ·rename_i v l' hv hl;injection h with h;subst h;simp only[List.mapM_cons,Y,OB htm hmm hv,W,Dz htm hmm hl,Z,SV.vals]
   ·cases h
theorem sN (htm:cP E st.tmps a)(hmm:aJ Γ E st.m st.nx w){vs:List SV}(h:fV P st fn.results.toList=G vs) :
  (results fn a.tmps).run P w=.ok ((nj vs).val E) w:=by
 have:=Dz (P:=P) htm hmm h;unfold results;rw[Array.mapM_eq_mapM_toList];simp only[Y,Sem.run_map];have key: ∀ r:Result (List Value),r=.ok (SV.vals E vs) w->((r.andThen λa w'=>bf a.toArray w').andThen λa w'=>Sem.run P (pure (if h:a.size=1 then a[0] else Value.tuple a)) w')=bf ((nj vs).val E) w:=by
  rintro r rfl;simp only[W,Z];congr 1
  match vs with
  | []=>rfl
  | [v]=>rfl
  | _::_::_=>simp[SV.vals,nj,SV.val]
 exact key _ this
theorem gH (hf:P.funcs[f]?=G fn) (hn:(fn.name== "runtime.NumGoroutine")=H) {body:Code} (hb:fn.body=G body) (args:Array Value) (w:World) :
  (callFunc f args).run P w=.ok (.enter f args) w:=by
 simp only[callFunc,Y,run_program,W,hf,hn,hb];rfl
theorem aJ.shut {m:Mem}(h:aJ Γ E m nx w){D:Nat}{ds:Option (List Deferred)}(hd:w.heap[D]?=G (.deferred ds))(hk:D∉ Γ.keep)(hD:Γ.w0.heap.size<=D)(o:Obj) :
  aJ Γ E m nx (w.putObj D o):=by
 refine⟨λk B a hm hn=> ?_,h.iw,h.lt,h.iT,⟨h.ext.os,h.ext.tape,h.ext.output,by simpa using h.ext.size,λk hk' hm=> ?_⟩,h.cx,λD' hD'=> ?_⟩
 ·obtain⟨o',ho,hb⟩:=h.hJ k B a hm hn;refine⟨o',?_,hb⟩;rw[an (λe=> ?_)]
  ·exact ho
  ·rw[e,hd] at ho;injection ho with ho;exact hb.lE _ ho.symm
 ·rw[an (by omega)];exact h.ext.block k hk' hm
 ·rw[an (λe=>hk (by rw[← e];exact hD'))];exact h.kp D' hD'
theorem oa {fn:Func}{Γ:aT}{E:Nat->Nat}{m:Mem}{nx:Nat}{tmps:Array Value}{R:Ending->World->Prop}{u:FrameMode}(hu:u≠.run)
  (fin: ∀ w,aJ Γ E m nx w->LeavesInM Fence.wide 0 P fn tmps R [] u w): ∀(Ds:List Nat) (w:World),Ds.Nodup ->
  (∀ D∈ Ds,w.heap[D]?=G (.deferred (G []))/\D∉ Γ.keep/\Γ.w0.heap.size<=D)->aJ Γ E m nx w->LeavesInM Fence.wide 0 P fn tmps R (Ds.map y8) u w
 | [],w,_,_,hm=>fin w hm
 | D::Ds,w,hnd,hD,hm=>by obtain⟨h1,h2,h3⟩:=hD D (by simp);rw[b!] at hnd;refine⟨hu,.inl ⟨D,_,rfl,run_takeDeferred h1,oa hu fin Ds _ hnd.2 (λD' hD'=> ?_) (hm.shut h1 h2 h3 _)⟩⟩;obtain⟨g1,g2⟩:=hD D' (by simp[hD']);exact⟨by rw[an (λe=>hnd.1 (by rw[← e];exact hD'))];exact g1,g2⟩
theorem LH {v:SV}{m':Mem}{nx':Nat}{E':Nat->Nat}(h:(pG nx v m' nx' KP).holds)(hv:v.wf nx'=z)(hs:aJ Γ E' m' nx' w)
  (hg:Γ.rj<=nx) (hE: ∀ k,k<nx->E' k=E k) (hn:nx<=nx'):iS KP Γ E nx [{v:=v.val E',recovered:=H}] w:=by
 unfold pG at h;split at h
 ·rename_i hw;simp only[ag] at hw;exact⟨E',v,older nx m',nx,hE,V _,rfl,hw.1,hs.sub (λk B hk=>(mF hk).1) (λk B hk=>(mF hk).2) (.inr hg),h⟩
 ·exact⟨E',v,m',nx',hE,hn,rfl,hv,hs,h⟩
theorem aJ.start {Δ:aT}{m:Mem}(hs:aJ Δ E m nx w)(ht:Δ.tail=[])(hargs:SV.fH nx args=z)(k:Nat) :
  Sat Δ E ⟨args.map G++cl (k - args.length) I,m,nx⟩ ⟨(SV.vals E args).toArray++Array.replicate (k - (SV.vals E args).toArray.size) undef,[]⟩ w:=by
 have hsize:(SV.vals E args).toArray.size=args.length:=by simp[SV.bM]
 refine⟨⟨by simp[SV.bM],λi v hv=> ?_⟩,ux λi v hv=> ?_,Marks.nil _ _ ht,hs⟩
 ·rw[b5] at hv;rw[Array.getElem?_append];split at hv
  ·rename_i hlt;rw[b7] at hlt;rw[r_ (by rw[hsize];exact hlt)];rw[az] at hv;rw[List.getElem?_toArray,SV.bM,az];cases ha:args[i]? with
   | none=>rw[ha] at hv;cases hv
   | some u=>rw[ha] at hv;injection hv with hv;injection hv with hv;subst hv;rfl
  ·rw[b6] at hv;split at hv<;>cases hv
 ·rw[b5] at hv;split at hv
  ·rw[az] at hv;cases ha:args[i]? with
   | none=>rw[ha] at hv;cases hv
   | some u=>rw[ha] at hv;injection hv with hv;injection hv with hv;subst hv;exact SV.uy hargs ha
  ·rw[b6] at hv;split at hv<;>cases hv
theorem DI {S:aT->Prop}{C:de}{env:Env}(hmix:P.follows .mixedOrders=z)(hC:tf P C S)(hem: ∀ p∈ env,aQ p.2)(hS:S Γ)(hek: ∀ p∈ env,∀ KP,mJ P Γ KP (.yield p.1) p.2){aW:ny}(hf:P.funcs[f]?=G fn)
  (hname:(fn.name== "runtime.NumGoroutine")=H):mJ P Γ KP (.fn f) (fE P C env KP aW n fn):=by
 intro Δ' hle' args m nx K h hwf hargs E w hs';refine Out.mono (R:=bx (lift K) Δ'.own E nx) (RP:=iS KP Δ'.own E nx) ?_ (λ_ _ h=>h.AU) (λ_ _ h=>h.AU);have hle:=aT.le_trans hle' Δ'.XA;have hs:=hs'.afT;have htl:Δ'.own.tail=[]:=rfl;have hrf:Δ'.own.rf=true:=rfl;generalize Δ'.own=Δ at hle hs htl hrf ⊢;unfold fE at h;split at h
 ·rename_i body hb;simp only[nA.sem];rw[gH hf hname hb];simp only[Out];refine callsIn_wide.1 (callsIn_of_wp_marks (F:=Fence.wide) (n:=0) hf hb trivial ?_);refine wpIn_mono (DY hmix hC hem body H I (λ_=>rfl) Δ (hC.up hS hle) (λ_=>hrf) (λp hp KP=>(hek p hp KP).mono hle) _ _ _ E _ w h (hs.start htl hargs _)) (λe a' w' hq=> ?_);rcases hq with ⟨ex,rfl,E',st',g1,g2,g3,g4⟩ | ⟨v,E',st',rfl,gw,g1,g2,g3,g4⟩
  ·obtain⟨Ds,d1,d2,d3,d4⟩:=g3.df;rw[htl,bE] at d1
   have fin: ∀ vs,fV P st' fn.results.toList=G vs->(X2 (Nat.ble 1000 n) nx (nj vs) st'.m st'.nx K).holds ->
     LeavesInM Fence.wide 0 P fn a'.tmps (λe w'=>(∃ v,e=.returned v/\bx (lift K) Δ E nx v w')∨∃ ch,e=.panicked ch/\iS KP Δ E nx ch w') a'.defers .returning w':=by
    intro vs hvs hk;rw[d1];refine oa (by simp) (λw hm=>by show ∃ v,_/\_;exact⟨_,sN g3.tm hm hvs,.inl ⟨_,rfl,OC hk hm hs.cx.1 g1 g2⟩⟩) Ds w' d2 d3 g3.mm
   cases ex with
   | exit id=>exact g4.elim
   | normal =>
     simp only at g4;cases hvs:fV P st' fn.results.toList with
     | none=>rw[hvs] at g4;exact g4.elim
     | some vs=>rw[hvs] at g4;exact fin vs hvs g4
   | ret =>
     simp only at g4;cases hvs:fV P st' fn.results.toList with
     | none=>rw[hvs] at g4;exact g4.elim
     | some vs=>rw[hvs] at g4;exact fin vs hvs g4
  ·obtain⟨Ds,d1,d2,d3,d4⟩:=g3.df;rw[htl,bE] at d1;show LeavesInM _ _ _ _ _ _ _ _ _;rw[d1];exact oa (by simp) (λw hm=>by show _∨_;exact .inr ⟨_,rfl,LH g4 gw hm hs.cx.1 g1 g2⟩) Ds w' d2 d3 g3.mm
 ·exact h.elim
theorem DH {C:de}{env:Env}(hmix:P.follows .mixedOrders=z)(hC:dg P C)(hem: ∀ p∈ env,aQ p.2)(hek: ∀ p∈ env,∀ KP,mJ P Γ KP (.yield p.1) p.2){aW:ny}(hf:P.funcs[f]?=G fn)
  (hname:(fn.name== "runtime.NumGoroutine")=H):mJ P Γ KP (.fn f) (fE P C env KP aW n fn) :=
 DI hmix hC.at hem trivial hek hf hname
theorem OK {C:de}{env:Env}(hC:dg P C)(hem: ∀ p∈ env,aQ p.2){aW:ny}:aQ (fE P C env KP aW n fn):=by
 intro args m nx K K' hK h;unfold fE at h ⊢;split at h
 ·refine uj hC.mono hC.o6 hem _ _ _ _ (λ_ _ h=>h) _ _ _ (λe st' _ hh=> ?_) h;cases e with
  | exit id=>exact hh
  | normal =>
    simp only at hh ⊢;cases hvs:fV P st' fn.results.toList with
    | none=>rw[hvs] at hh;exact hh
    | some vs=>rw[hvs] at hh;exact Gn hK hh
  | ret =>
    simp only at hh ⊢;cases hvs:fV P st' fn.results.toList with
    | none=>rw[hvs] at hh;exact hh
    | some vs=>rw[hvs] at hh;exact Gn hK hh
 ·exact h
theorem LN {C:de}{env:Env}(hC:dg P C)(hem: ∀ p∈ env,aQ p.2){KP':PK}(hKP: ∀ v m nx,(KP v m nx).holds->(KP' v m nx).holds){aW:ny}{args m nx K}(h:(fE P C env KP aW n fn args m nx K).holds) :
  (fE P C env KP' aW n fn args m nx K).holds:=by
 unfold fE at h ⊢;split at h
 ·exact uj hC.mono hC.o6 hem _ _ _ _ (λv st h=>ua hKP h) _ _ _ (λe st' _ hh=>hh) h
 ·exact h
theorem Env.wO {env:Env}{pt:PT}(h:env.find k=G pt):(k,pt)∈ env:=by
 induction env with
 | nil=>cases h
 | cons e r ih =>
   unfold Env.find at h;split at h
   ·rename_i he;injection h with h;obtain⟨a,b⟩:=e;simp only at he h;subst he;subst h;simp
   ·exact b9 _ (ih h)
theorem Dt :mJ P Γ KP .panic (raise KP):=by
 intro Δ hle args m nx K h hwf hargs E w hs;unfold raise at h;split at h
 ·rename_i t v;split at h
  ·rename_i hv;have hrun:((nA.panic).sem E (SV.vals E [.iface t v]).toArray).run P w=.halt (.panic (.iface t (v.val E))) w:=by simp only[nA.sem,SV.vals,SV.val];rfl
   rw[hrun];exact⟨E,.iface t v,m,nx,λ_ _=>rfl,V _,rfl,hv,hs,h⟩
  ·exact h.elim
 ·exact h.elim
theorem oH {cfg:fD}(hg:Good P cfg)(n:Nat):dg P (calling P cfg n):=by
  have hyo: ∀(n:Nat) (Γ:aT) env,(∀ p∈ env,∀ KP,mJ P Γ KP (.yield p.1) p.2)->∀ KP k,mJ P Γ KP (.yield k) (gZ P cfg n env KP (.yield k)):=by
   intro n Γ env he KP k
   have:gZ P cfg n env KP (.yield k)=(match env.find k with
    | some pt=>pt
    | none=>λ_ _ _ _=>.fail "a yield that is not known"):=by cases n<;>rfl
   rw[this];split
   ·rename_i pt hp;exact he _ (Env.wO hp) _
   ·exact λΔ _ args m nx K h=>h.elim
  have hym: ∀(n:Nat) env,(∀ p∈ env,aQ p.2)->∀ KP k,aQ (gZ P cfg n env KP (.yield k)):=by
   intro n env he KP k
   have:gZ P cfg n env KP (.yield k)=(match env.find k with
    | some pt=>pt
    | none=>λ_ _ _ _=>.fail "a yield that is not known"):=by cases n<;>rfl
   rw[this];split
   ·rename_i pt hp;exact he _ (Env.wO hp)
   ·exact λargs m nx K K' _ h=>h.elim
  have hyp: ∀(n:Nat) env KP KP' k,gZ P cfg n env KP (.yield k)=gZ P cfg n env KP' (.yield k):=by intro n env KP KP' k;cases n<;>rfl
  have hpa: ∀(n:Nat) env KP,gZ P cfg n env KP .panic=raise KP:=by intro n env KP;cases n<;>rfl
  have hpm: ∀ KP,aQ (raise KP):=λKP args m nx K K' _ h=>h;have hpp: ∀ KP KP':PK,(∀ v m nx,(KP v m nx).holds->(KP' v m nx).holds)->∀ args m nx K,(raise KP args m nx K).holds->(raise KP' args m nx K).holds:=by
   intro KP KP' hK args m nx K h;unfold raise at h ⊢;split at h
   ·split at h
    ·exact hK _ _ _ h
    ·exact h
   ·exact h
  have hbd: ∀ f,cfg.bd f=z->∀(args:Array Value) (w:World),(callFunc f args).run P w=.ok (.enter f args) w:=by
   intro f hf args w;unfold fD.bd at hf;split at hf
   ·rename_i fn hfn;obtain⟨body,hb⟩:=a_.1 hf;exact gH (hg.fns f fn hfn).1 (hg.fns f fn hfn).2 hb args w
   ·cases hf
  induction n with
  | zero =>
    refine⟨λenv he KP c=> ?_,λenv he KP KP' hK c args m nx K h=> ?_,λΓ env hem he KP c=> ?_,hbd⟩
    ·cases c with
     | yield k=>exact hym 0 env he KP k
     | fn f=>exact λargs m nx K K' _ h=>h
     | panic=>show aQ (gZ P cfg 0 env KP .panic);rw[hpa];exact hpm KP
    ·cases c with
     | yield k=>exact h
     | fn f=>exact h
     | panic=>exact hpp KP KP' hK args m nx K h
    ·cases c with
     | yield k=>exact hyo 0 Γ env he KP k
     | fn f=>exact λΔ _ args m nx K h=>h.elim
     | panic=>exact Dt
  | succ n ih =>
    refine⟨λenv he KP c=> ?_,λenv he KP KP' hK c args m nx K h=> ?_,λΓ env hem he KP c=> ?_,hbd⟩
    ·cases c with
     | yield k=>exact hym (n+1) env he KP k
     | panic=>show aQ (gZ P cfg (n+1) env KP .panic);rw[hpa];exact hpm KP
     | fn f =>
       show aQ (gZ P cfg (n+1) env KP (.fn f));simp only[gZ];cases hs:cfg.cT f with
       | some pt=>exact(hg.cT f pt hs).2
       | none =>
         simp only;cases hi:cfg.iter f with
         | some g=>exact(hg.iter f g hi).mono env he
         | none =>
           simp only;cases hf:cfg.fns f with
           | some fn=>exact OK ih he
           | none=>exact λargs m nx K K' _ h=>h
    ·cases c with
     | yield k=>exact h
     | panic=>exact hpp KP KP' hK args m nx K h
     | fn f =>
       have h:(gZ P cfg (n+1) env KP (.fn f) args m nx K).holds:=h;show(gZ P cfg (n+1) env KP' (.fn f) args m nx K).holds;simp only[gZ] at h ⊢;cases hs:cfg.cT f with
       | some pt=>rw[hs] at h;exact h
       | none =>
         rw[hs] at h;simp only at h ⊢;cases hi:cfg.iter f with
         | some g=>rw[hi] at h;exact h
         | none =>
           rw[hi] at h;simp only at h ⊢;cases hf:cfg.fns f with
           | some fn=>rw[hf] at h;exact LN ih he hK h
           | none=>rw[hf] at h;exact h
    ·cases c with
     | yield k=>exact hyo (n+1) Γ env he KP k
     | panic=>exact Dt
     | fn f =>
       show mJ P Γ KP (.fn f) (gZ P cfg (n+1) env KP (.fn f));simp only[gZ];cases hs:cfg.cT f with
       | some pt=>exact(hg.cT f pt hs).1.cok Γ KP
       | none =>
         simp only;cases hi:cfg.iter f with
         | some g=>exact(hg.iter f g hi).ok Γ env hem he KP
         | none =>
           simp only;cases hf:cfg.fns f with
           | some fn=>exact DH hg.mix ih hem he (hg.fns f fn hf).1 (hg.fns f fn hf).2
           | none=>exact λΔ _ args m nx K h=>h.elim
theorem G9 {cfg:fD}(hg:Good P cfg)(hf:P.funcs[f]?=G fn) (hn:(fn.name== "runtime.NumGoroutine")=H) (hb:fn.body.isSome=z)   {m:Mem}  {K:SV->Mem->Nat->VC}
  (h:(fE P (calling P cfg n) [] wq (cfg.aW f) cfg.rounds fn args m nx K).holds) (hm:Mem.wf nx m=z) (ha:SV.fH nx args=z)    (hs:aJ Γ E m nx w) :
  Calls P f (SV.vals E args).toArray w λe w'=>∃ v,e=.returned v/\bx (lift K) Γ E nx v w':=by
 have:=DH hg.mix (oH hg n) (env:=[]) (λp hp=>by cases hp) (Γ:=Γ) (λp hp=>by cases hp) (KP:=wq) (aW:=cfg.aW f) (n:=cfg.rounds) hf hn Γ Γ.le_refl args m nx K h hm ha E w hs;obtain⟨body,hb⟩:=a_.1 hb;simp only[nA.sem] at this;rw[gH hf hn hb] at this;refine Calls.mono this ?_;rintro e w' (h | ⟨ch,_,_,_,_,_,_,_,_,_,_,hno⟩)
 ·exact h
 ·exact hno.elim
end
theorem bK.pure (hw:B.wf 0=z){E':Nat->Nat}{o:Obj}(h:bK E B o):bK E' B o:=h.congr (nx:=0) (λk hk=>by omega) hw
theorem SV.x8 {v:SV}(hw:v.wf 0=z)(E E':Nat->Nat):v.val E=v.val E':=SV.val_congr (nx:=0) (λk hk=>by omega) v hw
theorem SV.mI {l:List SV}(hw:SV.fH 0 l=z)(E E':Nat->Nat):SV.vals E l=SV.vals E' l:=SV.fY (nx:=0) (λk hk=>by omega) l hw
theorem Mem.Fp {key:Nat}{X:SB}: ∀ {m:Mem},m.get key=G X->(Mem.put key B m).get key=G B
 | [],h=>by cases h
 | e::r,h=>by
   by_cases he:e.1=key
   ·rw[Mem.put,r_ he,Mem.get,r_ he]
   ·rw[Mem.get,s_ he] at h;rw[Mem.put,s_ he,Mem.get,s_ he];exact Mem.Fp h
def aT.at (w:World)(M:Nat->Prop)(gl:rD w)(gm: ∀ p∈ rX,¬ M p.1):aT:=⟨w,M,λ_=>0,0,[],gl,gm,[],z⟩
theorem aJ.QI {Γ E m nx w}(h:aJ Γ E m nx w){a:Nat}(hk:m.get k=G B)(hn:B.gB (E k) a)(hro:B.ro=H): ∀ p∈ rX,¬ (p.1=a):=by
 intro p hp e;obtain⟨_,ty,fr,hg,_⟩:=Γ.gl p hp;rcases h.iT k B a hk hn hro with h1 | h1
 ·exact Γ.gm p hp (e▸ h1)
 ·have:=(J.1 hg).1;omega
theorem aJ.one {Γ E m nx w}(h:aJ Γ E m nx w){B':SB}(hk:m.get k=G B)(hB:aa B B')(hn:B'.no=H)(hro:B'.ro=H)(hw:B'.wf 0=z) :
  aJ (aT.at w (λb=>b=E k) h.Cl (h.QI hk (SB.jQ (hB.old hn).1 _) ((hB.old hn).2.2 hro))) (λ_=>E k) [(0,B')] 1 w:=by
 obtain⟨h1,h2,_⟩:=hB.old hn;obtain⟨o,ho,hb⟩:=h.oB k B hk h1;have hg: ∀ {j X a},Mem.get j [(0,B')]=G X->X.gB (E k) a->j=0/\X=B'/\a=E k:=λhj ha=>by
  rcases Mem.gu hj with ⟨rfl,rfl⟩ | ⟨_,hj⟩
  ·exact⟨rfl,rfl,((SB.jP (SB.vK hn)).1 ha).2⟩
  ·cases hj
 refine⟨λj X a hj ha=> ?_,λj j' X X' a hj ha hj' ha' _=>(hg hj ha).1.trans (hg hj' ha').1.symm,λj X hj=> ?_,λj X a hj ha _=>.inl (hg hj ha).2.2,Ext.refl _ _,⟨cD _,λk hk=>absurd hk (cy _)⟩,λD hD=>by cases hD⟩
 ·obtain⟨_,rfl,rfl⟩:=hg hj ha;exact⟨o,ho,by rw[SB.qa (SB.vK hn)];exact(h2 E o hb).pure hw⟩
 ·rcases Mem.gu hj with ⟨rfl,_⟩ | ⟨_,hj⟩
  ·omega
  ·cases hj
theorem aJ.none (w:World)(hg:rD w):aJ (aT.at w (λ_=>False) hg (λ_ _ h=>h)) (λ_=>0) [] 0 w :=⟨(λ_ _ _ h=>by cases h),(λ_ _ _ _ _ h=>by cases h),(λ_ _ h=>by cases h),(λ_ _ _ h=>by cases h),Ext.refl _ _,⟨cD _,λk hk=>absurd hk (cy _)⟩,λD hD=>by cases hD⟩
theorem aJ.still {Γ E m nx w}(h:aJ Γ E m nx w){w':World}(hx:Ext (λ_=>False) w w'):aJ Γ E m nx w':=by
 refine⟨λk B a hk hn=> ?_,h.iw,h.lt,h.iT,h.ext.trans ⟨hx.os,hx.tape,hx.output,hx.size,λk hk _=>hx.block k hk (λh=>h)⟩,h.cx,λD hD=> ?_⟩
 ·obtain⟨o,ho,hb⟩:=h.hJ k B a hk hn;exact⟨o,by rw[hx.block _ (J.1 ho).1 (λh=>h)];exact ho,hb⟩
 ·have:=h.kp D hD;rw[hx.block _ (J.1 this).1 (λh=>h)];exact this
theorem aJ.frame {Γ E m nx w}(h:aJ Γ E m nx w)(hk:m.get k=G B)(hn:B.no=H)(hro:B.ro=H){E1:Nat->Nat}{m1:Mem}{nx1:Nat}{w':World}{gl gm}
  (h1:aJ (aT.at w (λb=>b=E k) gl gm) E1 m1 nx1 w') (hE:E1 0=E k) {B1:SB} (hB1:m1.get 0=G B1) (hn1:B1.no=H) (hr1:B1.ro=H) (hw1:B1.wf 0=z):aJ Γ E (m.put k B1) nx w':=by
 have hx:Ext (λb=>b=E k) w w':=h1.ext;have hg: ∀ {j X a},(m.put k B1).get j=G X->X.gB (E j) a->(j=k/\X=B1/\a=E k)∨(m.get j=G X/\X.gB (E j) a/\a≠E k):=λhj ha=>by
  rcases Mem.gJ hj with ⟨rfl,rfl,_⟩ | ⟨hne,hj⟩
  ·exact .inl ⟨rfl,rfl,((SB.jP (SB.vK hn1)).1 ha).2⟩
  ·exact .inr ⟨hj,ha,λe=>hne (h.iw _ k _ B _ hj ha hk (by rw[e];exact SB.jQ hn _) (.inr hro))⟩
 refine⟨λj X a hj ha=> ?_,λj j' X X' a hj ha hj' ha' hr=> ?_,λj X hj=> ?_,λj X a hj ha hr=> ?_,⟨hx.os.trans h.ext.os,hx.tape.trans h.ext.tape,hx.output.trans h.ext.output,aX h.ext.size hx.size,λi hi hm=>(hx.block i (ct hi h.ext.size) (λe=> ?_)).trans (h.ext.block i hi hm)⟩,h.cx,λD hD=> ?_⟩
 ·rcases hg hj ha with ⟨_,rfl,rfl⟩ | ⟨hj,ha,hne⟩
  ·obtain⟨o,ho,hb⟩:=h1.oB 0 X hB1 hn1;exact⟨o,by rw[← hE];exact ho,by rw[SB.qa (SB.vK hn1)];exact hb.pure hw1⟩
  ·obtain⟨o,ho,hb⟩:=h.hJ j X a hj ha;exact⟨o,by rw[h1.ext.block _ (J.1 ho).1 hne];exact ho,hb⟩
 ·rcases hg hj ha with ⟨e1,_,e⟩ | ⟨hj1,ha1,hne⟩<;>rcases hg hj' ha' with ⟨e2,_,e'⟩ | ⟨hj2,ha2,hne'⟩
  ·exact e1.trans e2.symm
  ·exact absurd e hne'
  ·exact absurd e' hne
  ·exact h.iw _ _ _ _ _ hj1 ha1 hj2 ha2 hr
 ·rcases Mem.gJ hj with ⟨rfl,_,_⟩ | ⟨_,hj⟩
  ·exact h.lt _ _ hk
  ·exact h.lt _ _ hj
 ·rcases hg hj ha with ⟨_,rfl,rfl⟩ | ⟨hj,ha,_⟩
  ·exact h.own _ _ hk hn hro
  ·exact h.iT _ _ _ hj ha hr
 ·
  subst e;rcases h.own k B hk hn hro with h' | h'
  ·exact hm h'
  ·omega
 ·have:=h.kp D hD;rw[hx.block _ (J.1 this).1 (h.lE hk hn D hD)];exact this
section
variable {P : Program} {cfg : fD}
theorem fN (hf:P.funcs[f]?=G fn) (hn:(fn.name== "runtime.NumGoroutine")=H) (hb:fn.body.isSome=z) {args:Array Value}  {Q:Value->World->Prop}
  (h:Calls P f args w λe w'=>∃ v,e=.returned v/\Q v w'):Out P Q ((callFunc f args).run P w):=by
 obtain⟨body,hb⟩:=a_.1 hb;rw[gH hf hn hb];exact Calls.mono h λ_ _ h=>.inl h
end
structure ay (v:VC):Prop where
 out:v.holds
theorem ay.of_eq (e:v.holds=p)(h:p):ay v:=⟨e.symm▸ h⟩
abbrev Fk (p:Prop)[Decidable p](a b:Prop):Prop:=(decide p=z->a)/\(decide p=H->b)
abbrev Bk (c:Bool)(a b:Prop):Prop:=(c=z->a)/\(c=H->b)
theorem ay.mS {q:Prop}(e:v.holds=p)(e':p=q)(h:q):ay v:=ay.of_eq e (e'▸ h)
inductive Pl where
 | t
 | k
 | n (a b:Pl)
 | s (n:Nat) (p:Pl)
 | c (g:Bool) (i:Nat) (p:Pl)
def Pl.l:Pl->Pl
 | .n a _=>a
 | .k=>.k
 | _=>.t
def Pl.r:Pl->Pl
 | .n _ b=>b
 | .s 0 p=>p
 | .s (m+1) p=>.s m p
 | p=>p
def Pl.out:Pl->Bool
 | .t=>z
 | _=>H
def Pl.way:Pl->Option (Bool×Nat×Pl)
 | .c g i p=>G (g,i,p)
 | _=>I
abbrev Cx:=List (Bool×Bool)
def Cx.at (C:Cx)(i:Nat):Bool×Bool:=C.getD i (z,z)
def YB (g b:Bool):Bool:=match g with
 | true=>!b
 | false=>b
def VC.self (pl:Pl)(C:Cx):VC->VC
 | .and a b=>.and (a.self pl.l C) (b.self pl.r C)
 | .imp p a=>.imp p (a.self pl C)
 | .all α f=>.all α λx=>(f x).self pl C
 | .ex α f=>.ex α λx=>(f x).self pl C
 | .eqv p q h=>(match pl.out with
   | true=>.eqv q q h
   | false=>.eqv p q h)
 | .fork b x y=>(match pl.way with
   | some (g,i,p)=>(match YB g (C.at i).2 with
     | true=>.fork (YB g (C.at i).1) (x.self p C) y
     | false=>.fork (YB g (C.at i).1) x (y.self p C))
   | none=>.fork b (x.self pl.l ((b,z)::C)) (y.self pl.r ((b,H)::C)))
 | .tt=>.tt
 | .fail s=>.fail s
 | .atom p=>.atom p
def VC.Cz:VC->Bool
 | .tt=>z
 | _=>H
def VC.prune (pl:Pl)(C:Cx):VC->VC
 | .and a b=>(match(a.prune pl.l C).Cz,(b.prune pl.r C).Cz with
   | true,_=>b.prune pl.r C
   | false,z=>a.prune pl.l C
   | false,H=>.and (a.prune pl.l C) (b.prune pl.r C))
 | .imp p a=>(match(a.prune pl C).Cz with
   | true=>.tt
   | false=>.imp p (a.prune pl C))
 | .all α f=>.all α λx=>(f x).prune pl C
 | .ex α f=>.ex α λx=>(f x).prune pl C
 | .eqv p q h=>(match pl.out with
   | true=>.tt
   | false=>.eqv p q h)
 | .fork b x y=>(match pl.way with
   | some (g,i,p)=>(match YB g (C.at i).2 with
     | true=>x.prune p C
     | false=>y.prune p C)
   | none=>(match(x.prune pl.l ((b,z)::C)).Cz,(y.prune pl.r ((b,H)::C)).Cz with
     | true,z=>.tt
     | true,H=>.imp (b=H) (y.prune pl.r ((b,H)::C))
     | false,z=>.imp (b=z) (x.prune pl.l ((b,z)::C))
     | false,H=>.and (.imp (b=z) (x.prune pl.l ((b,z)::C))) (.imp (b=H) (y.prune pl.r ((b,H)::C)))))
 | .tt=>.tt
 | .fail s=>.fail s
 | .atom p=>.atom p
theorem VC.jk (h:v.Cz=z):v.holds:=by cases v<;>first | trivial | cases h
theorem Cx.afs {C:Cx}(hC: ∀ e,e∈ C->e.1=e.2)(i:Nat):(C.at i).1=(C.at i).2:=by
 unfold Cx.at
 rw[List.getD_eq_getElem?_getD];cases h:C[i]? with
 | none=>rfl
 | some e=>exact hC e (b_ h)
theorem Cx.push {C:Cx}(hC: ∀ e,e∈ C->e.1=e.2){b v:Bool}(h:b=v): ∀ e,e∈ (b,v)::C->e.1=e.2:=λe he=>by
 rcases T.1 he with he | he
 ·subst he;exact h
 ·exact hC e he
theorem VC.Oj : ∀ {pl:Pl} {C:Cx},(∀ e,e∈ C->e.1=e.2)->(v.prune pl C).holds->(v.self pl C).holds:=by
 induction v with
 | tt=>exact λ_=>id
 | fail=>exact λ_=>id
 | atom=>exact λ_=>id
 | and a b iha ihb =>
   intro pl C hC h;simp only[VC.prune] at h;cases ha:(a.prune pl.l C).Cz with
   | true=>rw[ha] at h;exact⟨iha hC (VC.jk ha),ihb hC h⟩
   | false=>cases hb:(b.prune pl.r C).Cz with
     | true=>rw[ha,hb] at h;exact⟨iha hC h,ihb hC (VC.jk hb)⟩
     | false=>rw[ha,hb] at h;exact⟨iha hC h.1,ihb hC h.2⟩
 | imp p a ih =>
   intro pl C hC h hp;simp only[VC.prune] at h;cases ha:(a.prune pl C).Cz with
   | true=>exact ih hC (VC.jk ha)
   | false=>rw[ha] at h;exact ih hC (h hp)
 | all α f ih=>exact λhC h x=>ih x hC (h x)
 | ex α f ih=>exact λhC ⟨x,h⟩=>⟨x,ih x hC h⟩
 | eqv p q hq =>
   intro pl C hC h;simp only[VC.prune,VC.self] at h ⊢;cases ho:pl.out with
   | true=>exact hq
   | false=>rw[ho] at h;exact h
 | fork b x y ihx ihy =>
   intro pl C hC h;simp only[VC.prune] at h;unfold VC.self;cases hw:pl.way with
   | some q =>
     obtain⟨g,i,p⟩:=q;have hi:=Cx.afs hC i;rw[hw] at h;dsimp only at h ⊢;rw[hi];cases ht:YB g (C.at i).2 with
     | true=>rw[ht] at h;exact⟨λ_=>ihx hC h,(λe=>by cases e)⟩
     | false=>rw[ht] at h;exact⟨(λe=>by cases e),λ_=>ihy hC h⟩
   | none =>
     rw[hw] at h;dsimp only at h ⊢;cases hx:(x.prune pl.l ((b,z)::C)).Cz<;>cases hy:(y.prune pl.r ((b,H)::C)).Cz
     all_goals rw[hx,hy] at h
     ·exact⟨λe=>ihx (Cx.push hC e) (h.1 e),λe=>ihy (Cx.push hC e) (h.2 e)⟩
     ·exact⟨λe=>ihx (Cx.push hC e) (h e),λe=>ihy (Cx.push hC e) (VC.jk hy)⟩
     ·exact⟨λe=>ihx (Cx.push hC e) (VC.jk hx),λe=>ihy (Cx.push hC e) (h e)⟩
     ·exact⟨λe=>ihx (Cx.push hC e) (VC.jk hx),λe=>ihy (Cx.push hC e) (VC.jk hy)⟩
structure dB (pl:Pl)(v:VC)(p:Prop):Prop where
 self:v.holds=(v.self pl []).holds
 rest:(v.prune pl []).holds=p
abbrev I6 (x:Int):Prop:= -9223372036854775808<=x/\x<=9223372036854775807
abbrev Jo:List SV:=[.str z [],.str z [],.str z [],.str z [],.str z [],.str z [],.str z [],.str z [],.str z [],.str z [],.str z [],.str z [],.str z [],.str z [],.str z [],.str z []]
abbrev K8 (f:Nat->α)(l:List α):List α:=f 0::f 1::f 2::f 3::f 4::f 5::f 6::f 7::l
abbrev K14 (f:Nat->α)(l:List α):List α:=f 0::f 1::f 2::f 3::f 4::f 5::f 6::f 7::f 8::f 9::f 10::f 11::f 12::f 13::l
abbrev K15 (f:Nat->α)(l:List α):List α:=f 0::f 1::f 2::f 3::f 4::f 5::f 6::f 7::f 8::f 9::f 10::f 11::f 12::f 13::f 14::l
abbrev c9 (f:Nat->α)(l:List α):List α:=f 0::f 1::f 2::f 3::f 4::f 5::f 6::f 7::f 8::f 9::f 10::f 11::f 12::f 13::f 14::f 15::l
abbrev K17 (f:Nat->α)(l:List α):List α:=f 0::f 1::f 2::f 3::f 4::f 5::f 6::f 7::f 8::f 9::f 10::f 11::f 12::f 13::f 14::f 15::f 16::l
abbrev wm (f:Nat->α)(l:List α):List α:=f 0::f 1::f 2::f 3::f 4::f 5::f 6::f 7::f 8::f 9::f 10::f 11::f 12::f 13::f 14::f 15::f 16::f 17::f 18::f 19::f 20::f 21::f 22::f 23::f 24::f 25::f 26::f 27::f 28::f 29::f 30::f 31::f 32::f 33::f 34::f 35::f 36::f 37::f 38::f 39::f 40::f 41::f 42::f 43::f 44::f 45::f 46::f 47::f 48::f 49::f 50::f 51::f 52::f 53::f 54::f 55::f 56::f 57::f 58::f 59::f 60::f 61::f 62::f 63::l
def Pl.m:Nat->Pl->Pl
 | 0,p=>p
 | n+1,p=>.n .k (Pl.m n p)
theorem ay.pr {pl:Pl}(e:dB pl v p)(h:p):ay v:=⟨e.self▸ VC.Oj (λ_ h=>by cases h) (e.rest▸ h)⟩
theorem ay.A5 {pl:Pl}{q:Prop}(e:dB pl v p)(e':p=q)(h:q):ay v:=ay.pr e (e'▸ h)
theorem fy {cfg:fD}(hg:Good P cfg)(hf:P.funcs[f]?=G fn) (hn:(fn.name== "runtime.NumGoroutine")=H) (hb:fn.body.isSome=z)   {m:Mem}  {K:SV->Mem->Nat->VC}
  (h:ay (fE P (calling P cfg n) [] wq (cfg.aW f) cfg.rounds fn args m nx K)) (hm:Mem.wf nx m=z) (ha:SV.fH nx args=z)    (hs:aJ Γ E m nx w) :
  Calls P f (SV.vals E args).toArray w λe w'=>∃ v,e=.returned v/\bx (lift K) Γ E nx v w':=G9 hg hf hn hb h.out hm ha hs
def aD (f:FuncId):List (FuncId×PT)->Option PT
 | []=>I
 | e::r=>if e.1=f then G e.2 else aD f r
def bp (P:Program)(s:FuncId->Option PT):Prop:=∀ f pt,s f=G pt->ax P f pt/\aQ pt
theorem bp.nil :bp P (λf=>aD f []):=λ_ _ h=>by cases h
theorem bp.cons {pt:PT}{l:List (FuncId×PT)}(h1:ax P f pt)(h2:aQ pt)(h:bp P (λf=>aD f l)):bp P (λg=>aD g ((f,pt)::l)):=by
 intro g q hq;simp only[aD] at hq;split at hq
 ·rename_i e;subst e;injection hq with hq;subst hq;exact⟨h1,h2⟩
 ·exact h g q hq
end
end Sx
end Go.Proofs.YtoibaecagklkaaaGreatDoor
