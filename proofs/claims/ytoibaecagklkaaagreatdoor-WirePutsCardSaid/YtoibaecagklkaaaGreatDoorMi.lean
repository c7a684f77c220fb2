/-
  The framework's seventeenth part: code and functions: 'sx', and that it is sound.
-/
import Derived.Test.YtoibaecagklkaaaGreatDoorMh
open Array renaming getD_eq_getD_getElem?->bl,getElem?_eq_some_iff->J
open Bool renaming and_eq_true->O,false->H,true->z
open Go.Result renaming andThen_ok->Y,ok->bn
open Go.Sem renaming run_bind->Z,run_pure->ag
open Go.World renaming putObj_heap_other->an
open List renaming append_nil->bx,getElem?_append->b5,getElem?_map->az,getElem?_replicate->b6,length_map->b9,mem_append->T,mem_cons->V,mem_cons_of_mem->b_,mem_of_getElem?->b!,nodup_cons->cl,replicate->cB
open Nat renaming le_add_right->aA,le_refl->W,le_succ->aK,le_trans->aS,lt_of_lt_of_le->cH,ne_of_lt->cL,not_lt_zero->c4,zero_le->a_
open Option renaming isSome_iff_exists->a!,none->I,some->G
namespace Go.Proofs.YtoibaecagklkaaaGreatDoor
open Go Sx
variable {a:Act}{ops:Array Oper}{fn:Func}{f:FuncId}{args:List SV}{j k n nx:Nat}{E:Nat->Nat}{KP:PK}{P:Program}{p:Prop}{B:SB}{st:St}{α:Type}{v:VC}{w w':World}{Γ:bg}
namespace Sx
open Go
noncomputable section
def dU:Code->Option Nat
 | .region id _ _=>G id
 | .seq a b=>match dU a with
   | some i=>G i
   | none=>dU b
 | .cond _ a b=>match dU a with
   | some i=>G i
   | none=>dU b
 | .block _ b=>dU b
 | .loop b=>dU b
 | .scope b=>dU b
 | _=>I
structure ja where
 tags:List Nat
 tag:St->Nat
 A:Nat->aX
def one (A:aX):ja:=⟨[0],λ_=>0,λ_=>A⟩
abbrev nA:=List (Nat×(St->Option ja))
def always (A:aX):St->Option ja:=λ_=>G (one A)
def nA.find (bh:nA)(i:Nat)(st:St):Option ja:=match bh with
 | []=>I
 | (j,A)::r=>if j=i then A st else nA.find r i st
def RV (bh:nA)(body:Code)(st:St):Option ja:=match dU body with
 | some i=>bh.find i st
 | none=>I
def uA:Nat->(XK->St->VC)->XK->St->VC
 | 0,_,_,_=>.fail "loop: too many rounds"
 | n+1,f,K,st=>f (λe st'=>match e with
   | .normal=>uA n f K st'
   | e=>K e st') st
def vA (t:Nat)(k:Nat->VC):List Nat->VC
 | []=>.fail "loop: no such head"
 | a::r=>if t=a then k a else vA t k r
theorem mY {t:Nat}{k:Nat->VC}: ∀ {l:List Nat},(vA t k l).holds->t∈ l/\(k t).holds
 | [],h=>h.elim
 | a::r,h=>by
   simp only[vA] at h;split at h
   ·rename_i e;subst e;exact⟨List.mem_cons_self ..,h⟩
   ·have:=mY h;exact⟨b_ _ this.1,this.2⟩
def entry (L:ja)(body:Code)(st st1:St):VC :=vA (L.tag st1) (λt=>.ex (L.A t).α λy=>.and (.atom ((L.A t).pre st y)) (tg body (L.A t) st y st1)) L.tags
def Ez (L:ja)(body:Code)(st:St)(n:Nat)(st1:St):VC :=vA (L.tag st1) (λt=>.ex (L.A t).α λy=>.and (.atom ((L.A t).pre st y/\(L.A t).jx st y<n)) (tg body (L.A t) st y st1)) L.tags
def Gt (L:ja)(body:Code)(f:XK->St->VC)(K:XK)(st:St)(t:Nat):VC :=
 .all (L.A t).α λx=>.imp ((L.A t).pre st x) (match p9 body (L.A t) st x with
   | true=>f (λe st1=>match e with
     | .normal=>Ez L body st ((L.A t).jx st x) st1
     | e=>K e st1) (hd body (L.A t) st x)
   | false=>.fail "loop: the annotation")
def n8 (g:Nat->VC):List Nat->VC
 | []=>.tt
 | [t]=>g t
 | t::r=>.and (g t) (n8 g r)
theorem pn {g:Nat->VC}: ∀ {l:List Nat},(n8 g l).holds->∀ t∈ l,(g t).holds
 | [],_,t,ht=>by cases ht
 | [a],h,t,ht=>by simp at ht;subst ht;exact h
 | a::b::r,h,t,ht=>by
   rw[V] at ht;rcases ht with rfl | ht
   ·exact h.1
   ·exact pn (l:=b::r) h.2 t ht
theorem nj {g g':Nat->VC}(hg: ∀ t,(g t).holds->(g' t).holds): ∀ {l:List Nat},(n8 g l).holds->(n8 g' l).holds
 | [],h=>h
 | [a],h=>hg a h
 | a::b::r,h=>⟨hg a h.1,nj hg (l:=b::r) h.2⟩
def Xh (L:ja)(body:Code)(f:XK->St->VC)(K:XK)(st:St):VC :=.and (entry L body st st) (n8 (Gt L body f K st) L.tags)
def abg (bh:nA)(a:Code)(st:St):Option ja:=match bh with
 | []=>I
 | _=>(match dU a with
   | some i=>bh.find (1000+i) st
   | none=>I)
def FA (bh:nA)(a b:Code)(st:St):Option ja:=match bh with
 | []=>I
 | _=>(match abg bh a st with
   | some L=>G L
   | none=>(match dU a,dU b with
     | some i,G j=>bh.find (100000+(1000*i+j)) st
     | _,_=>I))
def AM (L:ja)(a:Code)(f:St->VC)(st:St)(t:Nat):VC :=
 .all (L.A t).α λx=>.imp ((L.A t).pre st x) (match p9 a (L.A t) st x with
   | true=>f (hd a (L.A t) st x)
   | false=>.fail "join: the annotation")
def CQ (c:Option SV)(t f:VC):VC:=match c with
 | some (.bool z b)=>(match b with
   | true=>t
   | false=>f)
 | some (.bool H b)=>fork b (λv=>match v with
   | true=>t
   | false=>f)
 | _=>.fail "cond"
abbrev Env:=List (Nat×PT)
def Env.find (env:Env)(k:Nat):Option PT:=match env with
 | []=>I
 | e::r=>if e.1=k then G e.2 else Env.find r k
def BC (kl:Nat)(tmps:List (Option SV))(K:XK):SV->Mem->Nat->VC:=λ_ m nx =>
 match m.get kl with
 | some (.loop .ready I _)=>K .normal ⟨tmps,m.drop kl,nx⟩
 | some (.loop .done (G .ret) _)=>K .ret ⟨tmps,m.drop kl,nx⟩
 | some (.loop .done (G (.exit id)) _)=>K (.exit id) ⟨tmps,m.drop kl,nx⟩
 | _=>.fail "range: the record"
structure dm where
 j6:Env->PK->mF->PT
 bd:FuncId->Bool
def sx (P:Program)(C:dm)(env:Env)(bh:nA)(n:Nat):Code->Bool->XP->XK->St->VC
 | .skip,_,_,K,st=>K .normal st
 | .label _,_,_,K,st=>K .normal st
 | .region _ ops d,_,X,K,st=>(match d with
   | true=>draw P (C.j6 env λv m nx=>X v ⟨unsure ops st.tmps,m,nx⟩) ops (K .normal) st
   | false=>iQ P (C.j6 env λv m nx=>X v ⟨unsure ops st.tmps,m,nx⟩) ops (List.range ops.size) (K .normal) st)
 | .seq a b,r,X,K,st=>(match FA bh a b st with
   | some L=>.and (sx P C env bh n a r X (λe st'=>match e with
     | .normal=>entry L a st st'
     | e=>K e st') st) (n8 (AM L a (sx P C env bh n b r X K) st) L.tags)
   | none=>sx P C env bh n a r X (λe st'=>match e with
     | .normal=>sx P C env bh n b r X K st'
     | e=>K e st') st)
 | .cond c a b,r,X,K,st=>CQ (ev st.tmps c) (sx P C env bh n a r X K st) (sx P C env bh n b r X K st)
 | .block id body,r,X,K,st=>sx P C env bh n body r X (λe st'=>match e with
   | .exit j=>if j=id then K .normal st' else K (.exit j) st'
   | e=>K e st') st
 | .loop body,r,X,K,st=>(match RV bh body st with
   | some A=>Xh A body (sx P C env bh n body r X) K st
   | none=>uA n (sx P C env bh n body r X) K st)
 | .exit id,_,_,K,st=>K (.exit id) st
 | .ret,_,_,K,st=>K .ret st
 | .scope body,r,X,K,st=>sx P C env bh n body r X K st
 | .rangeFunc g ps assign body,H,_,K,st=>(match ev st.tmps g,Mem.wf st.nx st.m with
   | some (.func (.func f) first captured),z=>(match C.bd f with
     | true=>.all Loop λR=>C.j6 ((st.nx,pR st.nx R ps.toList st.tmps (sx P C env bh n assign z zM) (sx P C env bh n body z zM))::env) zq (.fn f)
        (first++[.yield st.nx]++captured) ((st.nx,.loop .ready I R)::st.m) (st.nx+1) (BC st.nx st.tmps K)
     | false=>.fail "range: over what")
   | _,_=>.fail "range: over what")
 | _,_,_,_,_=>.fail "code"
structure di (P:Program)(C:dm):Prop where
 mono: ∀ env,(∀ p∈ env,bq p.2)->∀ KP c,bq (C.j6 env KP c)
 nU: ∀ env,(∀ p∈ env,bq p.2)->∀ KP KP':PK,(∀ v m nx,(KP v m nx).holds->(KP' v m nx).holds)->∀ c args m nx K,(C.j6 env KP c args m nx K).holds->(C.j6 env KP' c args m nx K).holds
 ok: ∀(Γ:bg) env,(∀ p∈ env,bq p.2)->(∀ p∈ env,∀ KP,pW P Γ KP (.yield p.1) p.2)->∀ KP c,pW P Γ KP c (C.j6 env KP c)
 bd: ∀ f,C.bd f=z->∀(args:Array Value) (w:World),(callFunc f args).run P w=.ok (.enter f args) w
structure wE (P:Program)(C:dm)(S:bg->Prop):Prop where
 mono: ∀ env,(∀ p∈ env,bq p.2)->∀ KP c,bq (C.j6 env KP c)
 nU: ∀ env,(∀ p∈ env,bq p.2)->∀ KP KP':PK,(∀ v m nx,(KP v m nx).holds->(KP' v m nx).holds)->∀ c args m nx K,(C.j6 env KP c args m nx K).holds->(C.j6 env KP' c args m nx K).holds
 up: ∀ {Γ Δ:bg},S Γ->Γ.le Δ->S Δ
 ok: ∀(Γ:bg),S Γ->∀ env,(∀ p∈ env,bq p.2)->(∀ p∈ env,∀ KP,pW P Γ KP (.yield p.1) p.2)->∀ KP c,pW P Γ KP c (C.j6 env KP c)
 bd: ∀ f,C.bd f=z->∀(args:Array Value) (w:World),(callFunc f args).run P w=.ok (.enter f args) w
theorem di.at {C:dm}(h:di P C):wE P C (λ_=>True):=⟨h.mono,h.nU,λ_ _=>trivial,λΓ _=>h.ok Γ,h.bd⟩
structure Kp (l:List Nat)(t t':List (Option SV)):Prop where
 len:t'.length=t.length
 get: ∀ i,i∉ l->t'[i]?=t[i]?
theorem Kp.refl (l:List Nat)(t:List (Option SV)):Kp l t t:=⟨rfl,λ_ _=>rfl⟩
theorem Kp.trans {l:List Nat}{a b c:List (Option SV)}(h:Kp l a b)(h':Kp l b c):Kp l a c:=⟨h'.len.trans h.len,λi hi=>(h'.get i hi).trans (h.get i hi)⟩
theorem Kp.mono {l l':List Nat}{a b:List (Option SV)}(h:Kp l a b)(hl: ∀ i∈ l,i∈ l'):Kp l' a b:=⟨h.len,λi hi=>h.get i λx=>hi (hl i x)⟩
theorem Kp.set {l:List Nat}{t:List (Option SV)}{dst:Option Nat}{u:Option SV}(h: ∀ d,dst=G d->d∈ l):Kp l t (ct t dst u):=by
 cases dst with
 | none=>exact Kp.refl _ _
 | some d=>exact⟨by simp[ct],λi hi=>by simp only[ct];rw[List.getElem?_set,if_neg (fun(e:d=i)=>hi (by rw[← e];exact h d rfl))]⟩
section
variable {P : Program} {call : mF -> PT} {C : dm} {env : Env} {bh : nA} {n : Nat}
theorem yW (hm: ∀ f,bq (call f)){ops:Array Oper}{l0:List Nat}(hl0: ∀(j:Nat) o d,ops[j]?=G o->o.dst=G d->d∈ l0){K K':St->VC}{t0:List (Option SV)}
  (hK: ∀ st',Kp l0 t0 st'.tmps->(K st').holds->(K' st').holds): ∀(l:List Nat) (st:St),Kp l0 t0 st.tmps->(iQ P call ops l K st).holds->(iQ P call ops l K' st).holds
 | [],st,hk,h=>hK st hk h
 | j::r,st,hk,h=>by
   simp only[iQ] at h ⊢;cases ho:ops[j]? with
   | none=>rw[ho] at h;exact h.elim
   | some o =>rw[ho] at h;exact cG hm (λu m nx hh=>yW hm hl0 hK r _ (hk.trans (Kp.set λd hd=>hl0 j o d ho hd)) hh) h
theorem oJ (hm: ∀ f,bq (call f)){ops:Array Oper}{masks:List Nat}{l0:List Nat}(hl0: ∀(j:Nat) o d,ops[j]?=G o->o.dst=G d->d∈ l0){K K':St->VC}{t0:List (Option SV)}
  (hK: ∀ st',Kp l0 t0 st'.tmps->(K st').holds->(K' st').holds): ∀(n:Nat) (l:List Nat) (rd:List (Nat×Nat)) (st:St),Kp l0 t0 st.tmps->(cI P call ops masks n l rd K st).holds->(cI P call ops masks n l rd K' st).holds
 | n,[],_,st,hk,h=>by rw[mL] at h ⊢;exact hK st hk h
 | 0,_::_,_,_,_,h=>h.elim
 | n+1,x::r,rd,st,hk,h=>by
   simp only[cI] at h ⊢;split at h
   ·rename_i i _;cases ho:ops[i]? with
    | none=>rw[ho] at h;exact h.elim
    | some o =>rw[ho] at h;exact cG hm (λu m nx hh=>oJ hm hl0 hK n _ _ _ (hk.trans (Kp.set λd hd=>hl0 i o d ho hd)) hh) h
   ·refine jU (λj hj=> ?_) h;cases hoj:ops[j]? with
    | none=>rw[hoj] at hj;exact hj.elim
    | some oj =>rw[hoj] at hj;simp only at hj ⊢;refine cG hm (λu m nx hh=> ?_) hj;rw[gi,lE] at hh ⊢;exact⟨hh.1,hh.2.1,oJ hm hl0 hK n _ _ _ (hk.trans (Kp.set λd hd=>hl0 j oj d hoj hd)) hh.2.2⟩
theorem UE {call call':mF->PT}(hc: ∀ c args m nx K,(call c args m nx K).holds->(call' c args m nx K).holds){σ:Operand->Option SV}{m:Mem}{o:Op}{K:KL}:(lop P call σ m nx o K).holds->(lop P call' σ m nx o K).holds:=by
 cases o
 case call c =>
  show(yM P call σ c m nx K).holds->(yM P call' σ c m nx K).holds;unfold yM;split
  ·split
   ·exact hc _ _ _ _ _
   ·exact hc _ _ _ _ _
   ·exact id
  ·split
   ·split
    ·split
     ·exact hc _ _ _ _ _
     ·exact id
    ·exact id
   ·exact id
  all_goals exact id
 case panic x =>
  show(xD call (σ x) m nx).holds->(xD call' (σ x) m nx).holds;unfold xD;split
  ·exact hc _ _ _ _ _
  ·exact id
 all_goals exact id
theorem ri {call call':mF->PT}(hc: ∀ c args m nx K,(call c args m nx K).holds->(call' c args m nx K).holds){o:Oper}{K:St->VC}(h:(dz P call ops j o K st).holds):(dz P call' ops j o K st).holds:=by
 unfold dz at h ⊢;split at h
 ·split at h
  ·exact h
  ·split at h
   ·exact UE hc h
   ·exact h
 ·exact h
 ·exact h
theorem yV {call call':mF->PT}(hm: ∀ f,bq (call f))(hc: ∀ c args m nx K,(call c args m nx K).holds->(call' c args m nx K).holds){ops:Array Oper}{K:St->VC}: ∀(l:List Nat) (st:St),(iQ P call ops l K st).holds->(iQ P call' ops l K st).holds
 | [],_,h=>h
 | j::r,st,h=>by
   simp only[iQ] at h ⊢;cases ho:ops[j]? with
   | none=>rw[ho] at h;exact h.elim
   | some o =>rw[ho] at h;exact ri hc (cG hm (λu m nx hh=>yV hm hc r _ hh) h)
theorem oI {call call':mF->PT}(hm: ∀ f,bq (call f))(hc: ∀ c args m nx K,(call c args m nx K).holds->(call' c args m nx K).holds){ops:Array Oper}{masks:List Nat}{K:St->VC} :
  ∀(n:Nat) (l:List Nat) (rd:List (Nat×Nat)) (st:St),(cI P call ops masks n l rd K st).holds->(cI P call' ops masks n l rd K st).holds
 | n,[],_,st,h=>by rw[mL] at h ⊢;exact h
 | 0,_::_,_,_,h=>h.elim
 | n+1,x::r,rd,st,h=>by
   simp only[cI] at h ⊢;split at h
   ·rename_i i _;cases ho:ops[i]? with
    | none=>rw[ho] at h;exact h.elim
    | some o =>rw[ho] at h;exact ri hc (cG hm (λu m nx hh=>oI hm hc n _ _ _ hh) h)
   ·refine jU (λj hj=> ?_) h;cases hoj:ops[j]? with
    | none=>rw[hoj] at hj;exact hj.elim
    | some oj =>rw[hoj] at hj;simp only at hj ⊢;refine ri hc (cG hm (λu m nx hh=> ?_) hj);rw[gi,lE] at hh ⊢;exact⟨hh.1,hh.2.1,oI hm hc n _ _ _ hh.2.2⟩
theorem NA {o:Oper}{d:Nat}(ho:ops[j]?=G o)(hd:o.dst=G d):d∈ ops.toList.filterMap (·.dst) :=List.mem_filterMap.2 ⟨o,b! (by rw[Array.getElem?_toList];exact ho),hd⟩
theorem Kp.hd {body:Code}{A:aX}{x:A.α}(h:p9 body A st x=z):Kp (written body) st.tmps (Sx.hd body A st x).tmps:=by simp only[p9,O,List.all_eq_true,List.contains_iff_mem] at h;refine⟨by simp[Sx.hd,kR,m9],λi hi=> ?_⟩;simp only[Sx.hd];rw[yR (λu hu=>hi (h.1 _ hu).1),C7 hi]
theorem KB {c:Option SV}{t t' f f':VC}(ht:t.holds->t'.holds)(hf:f.holds->f'.holds):(CQ c t f).holds->(CQ c t' f').holds:=by
 unfold CQ;split
 ·split
  ·exact ht
  ·exact hf
 ·intro h;rw[c9] at h ⊢;split at h
  ·exact ht h
  ·exact hf h
 ·exact id
theorem wh {l0:List Nat}{f f':XK->St->VC}(hf: ∀(K K':XK) st,(∀ e st',Kp l0 st.tmps st'.tmps->(K e st').holds->(K' e st').holds)->(f K st).holds->(f' K' st).holds): ∀(n:Nat) (K K':XK) (st:St),
  (∀ e st',Kp l0 st.tmps st'.tmps->(K e st').holds->(K' e st').holds)->(uA n f K st).holds->(uA n f' K' st).holds
 | 0,_,_,_,_,h=>h
 | n+1,K,K',st,hK,h=>by
   simp only[uA] at h ⊢;refine hf _ _ st (λe st' hk hh=> ?_) h;cases e with
   | normal=>exact wh hf n K K' st' (λe st'' hk'=>hK e st'' (hk.trans hk')) hh
   | exit id=>exact hK _ _ hk hh
   | ret=>exact hK _ _ hk hh
theorem sy (hC: ∀ env,(∀ p∈ env,bq p.2)->∀ KP c,bq (C.j6 env KP c))
  (hCP: ∀ env,(∀ p∈ env,bq p.2)->∀ KP KP':PK,(∀ v m nx,(KP v m nx).holds->(KP' v m nx).holds)->∀ c args m nx K,(C.j6 env KP c args m nx K).holds->(C.j6 env KP' c args m nx K).holds) (he: ∀ p∈ env,bq p.2) :
  ∀(c:Code) (r:Bool) (X X':XP) (_: ∀ v st,(X v st).holds->(X' v st).holds) (K K':XK) (st:St),(∀ e st',Kp (written c) st.tmps st'.tmps->(K e st').holds->(K' e st').holds) ->
  (sx P C env bh n c r X K st).holds->(sx P C env bh n c r X' K' st).holds:=by
 have hm:=hC env he;intro c;induction c with
 | skip=>intro r X X' hX K K' st hK h;exact hK _ _ (Kp.refl _ _) h
 | label l=>intro r X X' hX K K' st hK h;exact hK _ _ (Kp.refl _ _) h
 | exit id=>intro r X X' hX K K' st hK h;exact hK _ _ (Kp.refl _ _) h
 | ret=>intro r X X' hX K K' st hK h;exact hK _ _ (Kp.refl _ _) h
 | region id ops d =>
   intro r X X' hX K K' st hK h;simp only[sx] at h ⊢;cases d with
   | true =>
     simp only at h ⊢;unfold draw at h ⊢;simp only at h ⊢;split at h
     ·refine oI (hm _) (hCP env he _ _ λv m nx=>hX _ _) _ _ _ _ ?_;exact oJ (hm _) (l0:=ops.toList.filterMap (fun(o:Oper)=>o.dst)) (t0:=st.tmps) (λj o d ho hd=>NA ho hd) (λst' hk=>hK _ st' hk) _ _ _ st (Kp.refl _ _) h
     ·exact h.elim
   | false =>refine yV (hm _) (hCP env he _ _ λv m nx=>hX _ _) _ _ ?_;exact yW (hm _) (l0:=ops.toList.filterMap (fun(o:Oper)=>o.dst)) (t0:=st.tmps) (λj o d ho hd=>NA ho hd) (λst' hk=>hK _ st' hk) _ st (Kp.refl _ _) h
 | seq a b iha ihb =>
   intro r X X' hX K K' st hK h;simp only[sx] at h ⊢;cases hj:FA bh a b st
   ·rw[hj] at h;simp only at h ⊢;refine iha r X X' hX _ _ st (λe st' hk hh=> ?_) h;have hk1:=hk.mono (l':=written (.seq a b)) (λi hi=>by simp only[written,T];exact .inl hi);cases e with
    | normal=>exact ihb r X X' hX _ _ st' (λe st'' hk'=>hK e st'' (hk1.trans (hk'.mono λi hi=>by simp only[written,T];exact .inr hi))) hh
    | exit id=>exact hK _ _ hk1 hh
    | ret=>exact hK _ _ hk1 hh
   ·rename_i L;rw[hj] at h;simp only at h ⊢;refine⟨iha r X X' hX _ _ st (λe st' hk hh=> ?_) h.1,nj (g:=AM L a (sx P C env bh n b r X K) st) (g':=AM L a (sx P C env bh n b r X' K') st) (λt h2=>λx hx=> ?_) h.2⟩
    ·have hk1:=hk.mono (l':=written (.seq a b)) (λi hi=>by simp only[written,T];exact .inl hi);cases e with
     | normal=>exact hh
     | exit id=>exact hK _ _ hk1 hh
     | ret=>exact hK _ _ hk1 hh
    ·have h2:=h2 x hx;cases hok:p9 a (L.A t) st x with
     | false=>rw[hok] at h2;exact h2.elim
     | true =>rw[hok] at h2;have hk1:=(Kp.hd hok).mono (l':=written (.seq a b)) (λi hi=>by simp only[written,T];exact .inl hi);exact ihb r X X' hX _ _ _ (λe st'' hk'=>hK e st'' (hk1.trans (hk'.mono λi hi=>by simp only[written,T];exact .inr hi))) h2
 | cond c a b iha ihb =>
   intro r X X' hX K K' st hK h;simp only[sx] at h ⊢
   exact KB (iha r X X' hX _ _ st λe st' hk=>hK e st' (hk.mono λi hi=>by simp only[written,T];exact .inl hi))
    (ihb r X X' hX _ _ st λe st' hk=>hK e st' (hk.mono λi hi=>by simp only[written,T];exact .inr hi)) h
 | block id body ih =>
   intro r X X' hX K K' st hK h;simp only[sx] at h ⊢;refine ih r X X' hX _ _ st (λe st' hk hh=> ?_) h;cases e with
   | normal=>exact hK _ _ hk hh
   | ret=>exact hK _ _ hk hh
   | exit j =>
     simp only at hh ⊢;split at hh
     ·rename_i e;rw[if_pos e];exact hK _ _ hk hh
     ·rename_i e;rw[if_neg e];exact hK _ _ hk hh
 | loop body ih =>
   intro r X X' hX K K' st hK h;simp only[sx] at h ⊢;cases ha:RV bh body st with
   | none=>rw[ha] at h;exact wh (f:=sx P C env bh n body r X) (f':=sx P C env bh n body r X') (ih r X X' hX) n K K' st hK h
   | some A =>
     rw[ha] at h;simp only at h ⊢;refine⟨h.1,nj (g:=Gt A body (sx P C env bh n body r X) K st) (g':=Gt A body (sx P C env bh n body r X') K' st) (λt h2=>λx hx=> ?_) h.2⟩;have h2:=h2 x hx;cases hok:p9 body (A.A t) st x with
     | false=>rw[hok] at h2;exact h2.elim
     | true =>
       rw[hok] at h2;refine ih r X X' hX _ _ _ (λe st1 hk hh=> ?_) h2;cases e with
       | normal=>exact hh
       | exit id=>exact hK _ _ ((Kp.hd hok).trans hk) hh
       | ret=>exact hK _ _ ((Kp.hd hok).trans hk) hh
 | rangeFunc g ps a b iha ihb =>
   intro r X X' hX K K' st hK h;cases r with
   | true=>exact h
   | false =>
     simp only[sx] at h ⊢;split at h
     ·split at h
      ·intro R;refine hC _ (λp hp=> ?_) _ _ _ _ _ _ _ (λv m nx hh=> ?_) (h R)
       ·rcases V.1 hp with e | hp
        ·subst e;exact wA (λK K' st hK=>iha z zM zM (λ_ _ h=>h) K K' st λe st' _=>hK e st') (λK K' st hK=>ihb z zM zM (λ_ _ h=>h) K K' st λe st' _=>hK e st')
        ·exact he p hp
       ·unfold BC at hh ⊢;split at hh
        ·exact hK _ _ (Kp.refl _ _) hh
        ·exact hK _ _ (Kp.refl _ _) hh
        ·exact hK _ _ (Kp.refl _ _) hh
        ·exact hh
      ·exact h
     ·exact h
 | scope b ih=>intro r X X' hX K K' st hK h;simp only[sx] at h ⊢;exact ih r X X' hX K K' st hK h
 | goto l=>intro r X X' hX K K' st hK h;exact h
 | refuse w=>intro r X X' hX K K' st hK h;exact h
theorem Hi (ht:cP E st.tmps a){c:Operand}{t f:VC}(h:(CQ (ev st.tmps c) t f).holds): ∃ b,a.eval c=.bool b/\(if b then t else f).holds:=by
 unfold CQ at h;split at h
 ·rename_i b hb;have:=ht.reads _ _ hb;refine⟨b,by rw[this];rfl,?_⟩;cases b
  ·exact h
  ·exact h
 ·rename_i b hb;have:=ht.reads _ _ hb;rw[c9] at h;refine⟨b,by rw[this];rfl,?_⟩;cases b
  ·exact h
  ·exact h
 ·exact h.elim
theorem Oi {X:XP}{K:XK}(hwt:dw st.nx st.tmps=z): ∀ e a w,cP E (unsure ops st.tmps) a->kZ (λv m nx=>X v ⟨unsure ops st.tmps,m,nx⟩) Γ E st.nx e a w->gx K X Γ E st.nx e a w:=by rintro e a w ht ⟨ch,rfl,hd,E',v,m',nx',h1,h2,rfl,h4,h5,h6⟩;exact .inr ⟨v,E',_,rfl,h4,h1,h2,⟨ht.congr (Ej hwt) h1,i9 h2 (Ej hwt),hd,h5⟩,h6⟩
theorem wj {body:Code}{f:XK->St->VC}{X:XP}{Γ:bg}{ro:Option Nat}
  (hf: ∀(K:XK) st E a w,(f K st).holds->Sat Γ E st a w->body.wpIn (Fr ro) 0 P (gx K X Γ E st.nx) a w): ∀(n:Nat) (K:XK) (st:St) (E:Nat->Nat) (a:Act) (w:World),
  (uA n f K st).holds->Sat Γ E st a w->∀(b:Frame) (k:List Item) (cs:List Frame),b.roundOf=(Fr ro).round->(Fr ro).fn b.fn->(Fr ro).room (cs.length+1+0)->∃ e a' w',gx K X Γ E st.nx e a' w'/\ArrivesIn (Machine.fenced P (Fr ro)) P (lone (b.atR a (.code body::.inLoop body::k)) cs w) b k cs e a' w'
 | 0,_,_,_,_,_,h,_,_,_,_,_,_,_=>h.elim
 | n+1,K,st,E,a,w,h,hs,b,k,cs,hro,hb,hr=>by
   simp only[uA] at h;obtain⟨e,a1,w1,hq,harr⟩:=hf _ st E a w h hs b (.inLoop body::k) cs hro hb hr;rcases hq with ⟨ex,rfl,E1,st1,g1,g2,g3,g4⟩ | hp
   rotate_left
   ·have hp':=hp;obtain⟨v,E1,st1,rfl,_⟩:=hp';exact⟨_,a1,w1,.inr hp,.pass (x:=.inLoop body) rfl (λ_ _=>.inl (by simp)) harr⟩
   cases ex with
   | normal =>obtain⟨e2,a2,w2,hq2,harr2⟩:=wj hf n K st1 E1 a1 w1 g4 g3 b k cs hro hb hr;exact⟨e2,a2,w2,hq2.weaken g1 g2,.of_steps (StepsIn.trans harr (.one (fenced_calm hb hr rfl) stepR_inLoop)) harr2⟩
   | exit id=>exact⟨_,a1,w1,.inl ⟨.exit id,rfl,E1,st1,g1,g2,g3,g4⟩,.pass (x:=.inLoop body) rfl (λ_ _=>.inl (by simp[Ex.to])) harr⟩
   | ret=>exact⟨_,a1,w1,.inl ⟨.ret,rfl,E1,st1,g1,g2,g3,g4⟩,.pass (x:=.inLoop body) rfl (λ_ _=>.inl (by simp[Ex.to])) harr⟩
theorem B3 {S:bg->Prop}(hmix:P.follows .mixedOrders=z)(hC:wE P C S)(hem: ∀ p∈ env,bq p.2): ∀(c:Code) (r:Bool) (ro:Option Nat),(r=H->ro=I)->∀(Γ:bg),S Γ->(r=H->Γ.rf=z)->(∀ p∈ env,∀ KP,pW P Γ KP (.yield p.1) p.2) ->
  ∀(X:XP) (K:XK) (st:St) (E:Nat->Nat) (a:Act) (w:World),
  (sx P C env bh n c r X K st).holds->Sat Γ E st a w->c.wpIn (Fr ro) 0 P (gx K X Γ E st.nx) a w:=by
 have hm:=hC.mono env hem;intro c;induction c with
 | skip=>intro r ro hrr Γ hS hrf hek X K st E a w h hs;exact wpIn_skip (.inl ⟨.normal,rfl,E,st,λ_ _=>rfl,W _,hs,h⟩)
 | label l=>intro r ro hrr Γ hS hrf hek X K st E a w h hs;exact wpIn_label (.inl ⟨.normal,rfl,E,st,λ_ _=>rfl,W _,hs,h⟩)
 | exit id=>intro r ro hrr Γ hS hrf hek X K st E a w h hs;exact wpIn_exit (.inl ⟨.exit id,rfl,E,st,λ_ _=>rfl,W _,hs,h⟩)
 | ret=>intro r ro hrr Γ hS hrf hek X K st E a w h hs;exact wpIn_ret (.inl ⟨.ret,rfl,E,st,λ_ _=>rfl,W _,hs,h⟩)
 | region id ops d =>
   intro r ro hrr Γ hS hrf hek X K st E a w h hs;simp only[sx] at h;cases d with
   | true=>exact KE hmix (hm _) (hC.ok Γ hS env hem hek _) h hs (Oi hs.wt) λa w hb=>.inl ⟨.normal,rfl,hb⟩
   | false=>exact wpIn_region (vT (hC.ok Γ hS env hem hek _) hs.wt (Oi hs.wt) _ h hs hs.tm.unsure (λ_ _=>rfl) (W _) λa w hb=>.inl ⟨.normal,rfl,hb⟩)
 | seq x y ihx ihy =>
   intro r ro hrr Γ hS hrf hek X K st E a w h hs;simp only[sx] at h;cases hj:FA bh x y st
   ·rw[hj] at h;simp only at h;refine wpIn_seq (wpIn_mono (ihx r ro hrr Γ hS hrf hek X _ st E a w h hs) ?_);rintro e a1 w1 (⟨ex,rfl,E1,st1,g1,g2,g3,g4⟩ | hp)
    rotate_left
    ·have hp':=hp;obtain⟨v,E1,st1,rfl,_⟩:=hp';exact .inr hp
    cases ex with
    | normal=>exact wpIn_mono (ihy r ro hrr Γ hS hrf hek X K st1 E1 a1 w1 g4 g3) λe a2 w2 hb=>hb.weaken g1 g2
    | exit id=>exact .inl ⟨.exit id,rfl,E1,st1,g1,g2,g3,g4⟩
    | ret=>exact .inl ⟨.ret,rfl,E1,st1,g1,g2,g3,g4⟩
   ·rename_i L;rw[hj] at h;simp only at h;obtain⟨h1,h2⟩:=h
    have hx:=sy hC.mono hC.nU hem x r X X (λ_ _ h=>h) _ (λe st1=>.and (.atom (Kp (written x) st.tmps st1.tmps)) (match e with
     | .normal=>entry L x st st1
     | e=>K e st1)) st (λe st1 hk hh=>⟨hk,by cases e<;>exact hh⟩) h1
    refine wpIn_seq (wpIn_mono (ihx r ro hrr Γ hS hrf hek X _ st E a w hx hs) ?_);rintro e a1 w1 (⟨ex,rfl,E1,st1,g1,g2,g3,hkp,g4⟩ | hp)
    rotate_left
    ·have hp':=hp;obtain⟨v,E1,st1,rfl,_⟩:=hp';exact .inr hp
    have hkp:Kp (written x) st.tmps st1.tmps:=hkp;cases ex with
    | normal =>
      have g4:(entry L x st st1).holds:=g4;unfold entry at g4;obtain⟨ht,y0,hy0,hat⟩:=mY g4;obtain⟨E',q1,q2⟩:=oC hat hs.mm.cx.1 hs.wt hkp.get hkp.len g3;have hr:=pn h2 _ ht y0 hy0;have hok:p9 x (L.A (L.tag st1)) st y0=true:=by
       unfold tg at hat;split at hat
       ·rename_i h';exact h'
       ·exact hat.elim
      rw[hok] at hr;exact wpIn_mono (ihy r ro hrr Γ hS hrf hek X K _ E' a1 w1 hr q2) λe a2 w2 hb=>hb.weaken (λk hk=>(q1 k hk).trans (g1 k hk)) (aA _ _)
    | exit id=>exact .inl ⟨.exit id,rfl,E1,st1,g1,g2,g3,g4⟩
    | ret=>exact .inl ⟨.ret,rfl,E1,st1,g1,g2,g3,g4⟩
 | cond c x y ihx ihy =>
   intro r ro hrr Γ hS hrf hek X K st E a w h hs;simp only[sx] at h;obtain⟨b,hb,hk⟩:=Hi hs.tm h;refine wpIn_cond hb ?_;cases b
   ·exact ihy r ro hrr Γ hS hrf hek X K st E a w hk hs
   ·exact ihx r ro hrr Γ hS hrf hek X K st E a w hk hs
 | block id body ih =>
   intro r ro hrr Γ hS hrf hek X K st E a w h hs;simp only[sx] at h;refine wpIn_block (wpIn_mono (ih r ro hrr Γ hS hrf hek X _ st E a w h hs) ?_);rintro e a1 w1 (⟨ex,rfl,E1,st1,g1,g2,g3,g4⟩ | hp)
   rotate_left
   ·have hp':=hp;obtain⟨v,E1,st1,rfl,_⟩:=hp';exact .inr hp
   cases ex with
   | normal=>exact .inl ⟨.normal,rfl,E1,st1,g1,g2,g3,g4⟩
   | ret=>exact .inl ⟨.ret,rfl,E1,st1,g1,g2,g3,g4⟩
   | exit j =>
     simp only[Ex.to,Exit.inBlock];simp only at g4;split
     ·rename_i e;rw[if_pos e] at g4;exact .inl ⟨.normal,rfl,E1,st1,g1,g2,g3,g4⟩
     ·rename_i e;rw[if_neg e] at g4;exact .inl ⟨.exit j,rfl,E1,st1,g1,g2,g3,g4⟩
 | loop body ih =>
   intro r ro hrr Γ hS hrf hek X K st E a w h hs;simp only[sx] at h;cases ha:RV bh body st with
   | none =>rw[ha] at h;intro b k cs hro hb hr;obtain⟨e,a',w',hq,harr⟩:=wj (λK st E a w h hs=>ih r ro hrr Γ hS hrf hek X K st E a w h hs) n K st E a w h hs b k cs hro hb hr;exact⟨e,a',w',hq,.of_steps (.one (fenced_calm hb hr rfl) stepR_loop) harr⟩
   | some L =>
     rw[ha] at h;simp only at h;obtain⟨hent,hrounds⟩:=h;have hent:(entry L body st st).holds:=hent;let Inv:=fun(t:Nat) (x:(L.A t).α) (a:Act) (w:World)=>t∈ L.tags/\(L.A t).pre st x/\p9 body (L.A t) st x=z/\∃ E',(∀ k,k<st.nx->E' k=E k)/\Sat Γ E' (hd body (L.A t) st x) a w;have hok: ∀ {A:aX} {y:A.α} {st1},(tg body A st y st1).holds->p9 body A st y=true:=by
      intro A y st1 h;unfold tg at h;split at h
      ·rename_i h';exact h'
      ·exact h.elim
     have hent2: ∃ t x,Inv t x a w:=by unfold entry at hent;obtain⟨ht,x0,hx0,hat0⟩:=mY hent;obtain⟨E',g1,g2⟩:=oC hat0 hs.mm.cx.1 hs.wt (λi _=>rfl) rfl hs;exact⟨L.tag st,x0,ht,hx0,hok hat0,E',g1,g2⟩
     obtain⟨t0,x0,hinv0⟩:=hent2;intro b k cs hro hb hr;have key: ∀(N:Nat) (t:Nat) (x:(L.A t).α) a w,(L.A t).jx st x=N->Inv t x a w->∃ e a' w',gx K X Γ E st.nx e a' w'/\ArrivesIn (Machine.fenced P (Fr ro)) P (lone (b.atR a (.code body::.inLoop body::k)) cs w) b k cs e a' w':=by
      intro N;induction N using Nat.strongRecOn with
      | _ N ihN =>
        intro t x a w hN ⟨ht,hx,hokx,E1,hE1,hs1⟩;have hrd:=pn hrounds t ht x hx;rw[hokx] at hrd
        have hr2:=sy hC.mono hC.nU hem body r X X (λ_ _ h=>h) _ (λe st1=>.and (.atom (Kp (written body) (hd body (L.A t) st x).tmps st1.tmps)) (match e with
         | .normal=>Ez L body st ((L.A t).jx st x) st1
         | e=>K e st1)) (hd body (L.A t) st x) (λe st1 hk hh=>⟨hk,by cases e<;>exact hh⟩) hrd
        obtain⟨e,a1,w1,hq,harr⟩:=ih r ro hrr Γ hS hrf hek X _ _ E1 a w hr2 hs1 b (.inLoop body::k) cs hro hb hr;rcases hq with ⟨ex,rfl,E2,st1,g1,g2,g3,g4⟩ | hp
        rotate_left
        ·have hp':=hp.weaken (nx:=st.nx) (E:=E) hE1 (aA _ _);have hp2:=hp;obtain⟨v,E2,st1,rfl,_⟩:=hp2;exact⟨_,a1,w1,.inr hp',.pass (x:=.inLoop body) rfl (λ_ _=>.inl (by simp)) harr⟩
        have hE2: ∀ k,k<st.nx->E2 k=E k:=λk hk=>(g1 k (cH hk (aA _ _))).trans (hE1 k hk);have hn2:st.nx<=st1.nx:=aS (aA _ _) g2;obtain⟨hkp,g4⟩:=g4;have hkp:Kp (written body) (hd body (L.A t) st x).tmps st1.tmps:=hkp;cases ex with
        | normal =>
          have g4:(Ez L body st ((L.A t).jx st x) st1).holds:=g4;unfold Ez at g4;obtain⟨ht1,y,⟨hy,hlt⟩,hat⟩:=mY g4;have hkp2:=(Kp.hd hokx).trans hkp;obtain⟨E3,q1,q2⟩:=oC hat hs.mm.cx.1 hs.wt hkp2.get hkp2.len g3;have hinv:Inv (L.tag st1) y a1 w1:=⟨ht1,hy,hok hat,E3,λk hk=>(q1 k hk).trans (hE2 k hk),q2⟩
          obtain⟨e2,a2,w2,hq2,harr2⟩:=ihN ((L.A (L.tag st1)).jx st y) (hN▸ hlt) (L.tag st1) y a1 w1 rfl hinv;exact⟨e2,a2,w2,hq2,.of_steps (StepsIn.trans harr (.one (fenced_calm hb hr rfl) stepR_inLoop)) harr2⟩
        | exit id=>exact⟨_,a1,w1,.inl ⟨.exit id,rfl,E2,st1,hE2,hn2,g3,g4⟩,.pass (x:=.inLoop body) rfl (λ_ _=>.inl (by simp[Ex.to])) harr⟩
        | ret=>exact⟨_,a1,w1,.inl ⟨.ret,rfl,E2,st1,hE2,hn2,g3,g4⟩,.pass (x:=.inLoop body) rfl (λ_ _=>.inl (by simp[Ex.to])) harr⟩
     obtain⟨e,a',w',hq,harr⟩:=key _ t0 x0 a w rfl hinv0;exact⟨e,a',w',hq,.of_steps (.one (fenced_calm hb hr rfl) stepR_loop) harr⟩
 | rangeFunc g ps assign body iha ihb =>
   intro r ro hrr Γ hS hrf hek X K st E a w h hs;cases r with
   | true=>exact h.elim
   | false =>
     have hro:=hrr rfl;subst hro;simp only[sx] at h;split at h
     ·rename_i f first captured hg hwf
      split at h
      ·rename_i hbd;refine wpIn_rangeFunc λfn _=> ?_;have hgv:a.eval g=(SV.func (.func f) first captured).val E:=hs.tm.reads _ _ hg
       have hgw:=cP.wf hs.wt _ _ hg;simp only[SV.wf,O] at hgw;obtain⟨Ds,d1,d2,d3,d4⟩:=hs.df;obtain⟨Δ,hle,hkeep,hnx,hE0,hsm⟩:=hs.mm.enter hwf (R:={state:=.ready,pending:=I,fn,tmps:=a.tmps,params:=ps,assign,body,defers:=w.heap.size}) rfl rfl (λD hD=>(d3 D hD).1);have hEk: ∀ k,k<st.nx->Δ.E0 k=E k:=λk hk=>by rw[hE0];simp[cL hk]
       have hEn:Δ.E0 st.nx=w.heap.size+1:=by rw[hE0];simp
       generalize hw1:(w.alloc (Obj.deferred (G []))).alloc (.loop {state:=.ready,pending:=I,fn,tmps:=a.tmps,params:=ps,assign,body,defers:=w.heap.size})=w1 at hsm
       refine⟨w.heap.size+1,[xE w.heap.size],w1,{target:=.fn (.func f) (SV.vals Δ.E0 captured).toArray,args:=(SV.vals Δ.E0 (first++[.yield st.nx])).toArray},w1,f,
        (SV.vals Δ.E0 (first++[.yield st.nx]++captured)).toArray,w1,by rw[← hw1];exact run_enterLoop_outer _ _ _ _ _,?_,λ_ _=>trivial,?_,λh=>(by cases h),?_⟩
       ·have hc1:SV.vals Δ.E0 captured=SV.vals E captured:=SV.fA hEk captured hgw.2;have hc2:SV.vals Δ.E0 first=SV.vals E first:=SV.fA hEk first hgw.1
        simp only[resolve,hgv,SV.val,Deferred.ofValue,ag];rw[kM,hc1,hc2];simp[SV.vals,SV.val,hEn,Act.eval]
       ·simp only[invoke];have:=hC.bd f hbd (SV.vals Δ.E0 (first++[.yield st.nx]++captured)).toArray w1
        rw[show(SV.vals Δ.E0 (first++[SV.yield st.nx])).toArray++(SV.vals Δ.E0 captured).toArray=(SV.vals Δ.E0 (first++[.yield st.nx]++captured)).toArray by rw[kM Δ.E0 (first++[SV.yield st.nx]) captured];simp only[List.append_toArray]]
        exact this
       ·refine Ac.2 ?_;have hek2: ∀ p∈ (st.nx,pR st.nx {state:=.ready,pending:=I,fn,tmps:=a.tmps,params:=ps,assign,body,defers:=w.heap.size} ps.toList st.tmps (sx P C env bh n assign z zM) (sx P C env bh n body z zM))::env,∀ KP,pW P Δ KP (.yield p.1) p.2:=by
         intro p hp KP;rcases V.1 hp with e | hp
         ·subst e
          exact Ni (Γ:=Δ) (R:={state:=.ready,pending:=I,fn,tmps:=a.tmps,params:=ps,assign,body,defers:=w.heap.size}) (by omega) hEn hEk ⟨hs.tm.size,hs.tm.val⟩ hs.wt
           (λΘ hΘ K st E a w h hs=>iha z _ (λh=>by cases h) Θ (hC.up hS (bg.le_trans hle hΘ)) (λh=>by cases h) (λp hp KP=>(hek p hp KP).mono (bg.le_trans hle hΘ)) zM K st E a w h hs)
           (λΘ hΘ K st E a w h hs=>ihb z _ (λh=>by cases h) Θ (hC.up hS (bg.le_trans hle hΘ)) (λh=>by cases h) (λp hp KP=>(hek p hp KP).mono (bg.le_trans hle hΘ)) zM K st E a w h hs) KP
         ·exact(hek p hp KP).mono hle
        have hem2: ∀ p∈ (st.nx,pR st.nx {state:=.ready,pending:=I,fn,tmps:=a.tmps,params:=ps,assign,body,defers:=w.heap.size} ps.toList st.tmps (sx P C env bh n assign z zM) (sx P C env bh n body z zM))::env,bq p.2:=by
         intro p hp;rcases V.1 hp with e | hp
         ·subst e;exact wA (λK K' st hK=>sy hC.mono hC.nU hem assign z zM zM (λ_ _ h=>h) K K' st λe st' _=>hK e st') (λK K' st hK=>sy hC.mono hC.nU hem body z zM zM (λ_ _ h=>h) K K' st λe st' _=>hK e st')
         ·exact hem p hp
        have hcall:=hC.ok Δ (hC.up hS hle) _ hem2 hek2 zq (.fn f) Δ Δ.le_refl _ _ _ _ (h _) (by
          simp only[Mem.wf,O];exact⟨rfl,Mem.fE (aK _) hwf⟩) (by
          refine ew (ew (SV.iE (aK _) _ hgw.1) ?_) (SV.iE (aK _) _ hgw.2);simp[SV.e9,SV.wf]) _ _ hsm
        simp only[mF.sem] at hcall;rw[hC.bd f hbd] at hcall;refine Calls.mono hcall ?_;rintro e w3 (⟨v,rfl,haft⟩ | ⟨ch,_,_,_,_,_,_,_,_,_,_,hno⟩)
        rotate_left
        ·exact hno.elim
        obtain⟨E3,sv,m3,nx3,q1,q2,_,q4,q5⟩:=haft;have hEe: ∀ k,k<st.nx->E3 k=E k:=λk hk=>(q1 k (Nat.lt_succ_of_lt hk)).trans (hEk k hk);have hEl:E3 st.nx=w.heap.size+1:=(q1 st.nx (Nat.lt_succ_self _)).trans hEn;have hnn:st.nx<=nx3:=aS (aK _) q2;cases sv with
        | none=>exact q5.elim
        | some u =>
          simp only[lift] at q5
          have fin: ∀ stt pe R3,m3.get st.nx=G (.loop stt pe R3)->stt≠.busy->∃ w4,(Instr.endLoop (w.heap.size+1)).run P w3=.ok pe w4 /\
            Sat Γ E3 ⟨st.tmps,m3.drop st.nx,nx3⟩ {a with defers:=[xE w.heap.size]++a.defers} w4:=by
           intro stt pe R3 hk hb;obtain⟨o,ho,hbk⟩:=q4.ny st.nx _ hk rfl;have hbk:o=.loop {R3 with state:=stt,pending:=pe}:=hbk;subst hbk;rw[hEl] at ho;refine⟨_,run_endLoop ho hb,?_⟩;have hl:=q4.leave (st':=.exhausted) (pe':=pe) hk;rw[hEl] at hl;refine⟨⟨hs.tm.size,λi v hv=>(hs.tm.congr hs.wt hEe).val i v hv⟩,i9 hnn hs.wt,?_,hl.weaken hle⟩;refine⟨w.heap.size::Ds,by simp[d1],?_,λD hD=> ?_,λhno=>by rw[hrf rfl] at hno;cases hno⟩
           ·refine cl.2 ⟨λhm=> ?_,d2⟩;have:=(J.1 (d3 _ hm).1).1;omega
           ·refine⟨hl.kp D (hkeep D (by rcases V.1 hD with e | e;subst e;simp;simp[e])),?_⟩;rcases V.1 hD with e | e
            ·subst e;refine⟨λhm=> ?_,hs.mm.ext.size⟩;have:=(J.1 (hs.mm.kp _ hm)).1;omega
            ·exact(d3 D e).2
          unfold BC at q5;split at q5
          ·rename_i R3 hk;obtain⟨w4,hw4,hsat⟩:=fin _ _ _ hk (by simp);exact⟨_,w4,hw4,.inl ⟨.normal,rfl,E3,_,hEe,hnn,hsat,q5⟩⟩
          ·rename_i R3 hk;obtain⟨w4,hw4,hsat⟩:=fin _ _ _ hk (by simp);exact⟨_,w4,hw4,wpIn_ret (.inl ⟨.ret,rfl,E3,_,hEe,hnn,hsat,q5⟩)⟩
          ·rename_i id R3 hk;obtain⟨w4,hw4,hsat⟩:=fin _ _ _ hk (by simp);exact⟨_,w4,hw4,wpIn_exit (.inl ⟨.exit id,rfl,E3,_,hEe,hnn,hsat,q5⟩)⟩
          ·exact q5.elim
      ·exact h.elim
     ·exact h.elim
 | scope b ih =>
   intro r ro hrr Γ hS hrf hek X K st E a w h hs;simp only[sx] at h;refine sL (wpIn_mono (ih r ro hrr Γ hS hrf hek X K st E a w h hs) ?_);rintro e a1 w1 (⟨ex,rfl,hb⟩ | hp)
   rotate_left
   ·have hp':=hp;obtain⟨v,E1,st1,rfl,_⟩:=hp';exact .inr hp
   cases ex<;>exact .inl ⟨_,rfl,hb⟩
 | goto l=>intro r ro hrr Γ hS hrf hek X K st E a w h;exact h.elim
 | refuse w=>intro r ro hrr Γ hS hrf hek X K st E a w h;exact h.elim
theorem we (hmix:P.follows .mixedOrders=z)(hC:di P C)(hem: ∀ p∈ env,bq p.2): ∀(c:Code) (r:Bool) (ro:Option Nat),(r=H->ro=I)->∀(Γ:bg),(r=H->Γ.rf=z)->(∀ p∈ env,∀ KP,pW P Γ KP (.yield p.1) p.2) ->
  ∀(X:XP) (K:XK) (st:St) (E:Nat->Nat) (a:Act) (w:World),
  (sx P C env bh n c r X K st).holds->Sat Γ E st a w->c.wpIn (Fr ro) 0 P (gx K X Γ E st.nx) a w :=
 λc r ro hrr Γ hrf hek X K st E a w=>B3 hmix hC.at hem c r ro hrr Γ trivial hrf hek X K st E a w
end
def My (P:Program)(st:St):ResultVar->Option SV
 | .tmp t=>slot st.tmps t
 | .cell a t=>(match slot st.tmps a with
   | some (.ptr key z o)=>(match st.m.get key with
     | some (.cells cs _ _)=>partOf P t cs o
     | _=>I)
   | _=>I)
def fz (P:Program)(st:St):List ResultVar->Option (List SV)
 | []=>G []
 | r::rs=>match My P st r,fz P st rs with
   | some v,G l=>G (v::l)
   | _,_=>I
def mj:List SV->SV
 | [v]=>v
 | l=>.aD l
def adV (nx:Nat)(KP:PK):XP:=λv st=>n7 nx v st.m st.nx KP
def fL (P:Program)(C:dm)(env:Env)(KP:PK)(bh:nA)(n:Nat)(fn:Func):PT:=λargs m nx K =>
 match fn.body with
 | some body=>sx P C env bh n body H (adV nx KP) (λe st=>match e with
    | .exit _=>.fail "a jump out of a function"
    | _=>(match fz P st fn.results.toList with
      | some vs=>Vr (Nat.ble 1000 n) nx (mj vs) st.m st.nx K
      | none=>.fail "a result that is not known"))
    ⟨args.map G++cB (fn.ntmps - args.length) I,m,nx⟩
 | none=>.fail "a function without a body"
structure dK where
 cm:FuncId->Option PT
 fns:FuncId->Option Func
 bh:FuncId->nA
 rounds:Nat
 iter:FuncId->Option (Env->PT):=λ_=>I
def dK.bd (cfg:dK)(f:FuncId):Bool:=match cfg.fns f with
 | some fn=>fn.body.isSome
 | none=>H
def raise (KP:PK):PT:=λargs m nx _=>match args with
 | [.iface t v]=>(match v.wf nx with
   | true=>KP (.iface t v) m nx
   | false=>.fail "a key out of bounds")
 | _=>.fail "a panic of what"
def gp (P:Program)(cfg:dK):Nat->Env->PK->mF->PT
 | _,env,_,.yield k=>(match env.find k with
   | some pt=>pt
   | none=>λ_ _ _ _=>.fail "a yield that is not known")
 | _,_,KP,.panic=>raise KP
 | 0,_,_,.fn _=>λ_ _ _ _=>.fail "calls too deep"
 | n+1,env,KP,.fn f=>match cfg.cm f with
   | some pt=>pt
   | none=>(match cfg.iter f with
     | some g=>g env
     | none=>(match cfg.fns f with
       | some fn=>fL P ⟨gp P cfg n,cfg.bd⟩ env KP (cfg.bh f) cfg.rounds fn
       | none=>λ_ _ _ _=>.fail "a function that is not known"))
def calling (P:Program)(cfg:dK)(n:Nat):dm:=⟨gp P cfg n,cfg.bd⟩
structure RN (P:Program)(f:FuncId)(g:Env->PT):Prop where
 mono: ∀ env,(∀ p∈ env,bq p.2)->bq (g env)
 ok: ∀(Γ:bg) env,(∀ p∈ env,bq p.2)->(∀ p∈ env,∀ KP,pW P Γ KP (.yield p.1) p.2)->∀ KP,pW P Γ KP (.fn f) (g env)
structure Good (P:Program)(cfg:dK):Prop where
 mix:P.follows .mixedOrders=z
 cm: ∀ f pt,cfg.cm f=G pt->ax P f pt/\bq pt
 fns: ∀ f fn,cfg.fns f=G fn->P.funcs[f]?=G fn/\(fn.name== "runtime.NumGoroutine")=H
 iter: ∀ f g,cfg.iter f=G g->RN P f g
theorem Good.of {cfg:dK}(mix:P.follows .mixedOrders=z)(cm: ∀ f pt,cfg.cm f=G pt->ax P f pt/\bq pt) (fns: ∀ f fn,cfg.fns f=G fn->P.funcs[f]?=G fn/\(fn.name== "runtime.NumGoroutine")=H)
  (iter: ∀ f g,cfg.iter f=G g->RN P f g:=by intro f g h;cases h):Good P cfg:=⟨mix,cm,fns,iter⟩
section
variable {P : Program}
theorem Mz (htm:cP E st.tmps a)(hmm:aO Γ E st.m st.nx w){r:ResultVar}{v:SV}(h:My P st r=G v) :
  (match r with
    | .tmp t=>(pure (a.tmps.getD t undef):Sem Value)
    | .cell b t=>do loadVar t (← asAddr (a.tmps.getD b undef))).run P w=.ok (v.val E) w:=by
 cases r with
 | tmp t =>have:=htm.val t v (m5 h);simp[bl,this]
 | cell b t =>
   simp only[My] at h;split at h
   ·rename_i key o hb;split at h
    ·rename_i cs tot ty hk;have hv:=htm.val b _ (m5 hb);obtain⟨ob,ho,c,fr,rfl,_,h2,_⟩:=hmm.ny key _ hk rfl;simp only[bl,hv,Option.getD_some,SV.val,asAddr,Z,ag,Y];unfold partOf at h;split at h
     ·cases h
     ·rename_i d hd;split at h
      ·rename_i ha;split at h
       ·rename_i n hn;split at h
        ·rename_i l hl;injection h with h;subst h;have hg:=c7 hl;have hll:=run_loadCells (P:=P) ho o (l.map (SV.val E)) (λj v hj=>by
          rw[az] at hj;cases hjl:l[j]? with
          | none=>rw[hjl] at hj;cases hj
          | some u=>rw[hjl] at hj;injection hj with hj;subst hj;exact h2 _ _ (hg.2 j u hjl))
         rw[b9,hg.1] at hll;simp only[loadVar,Z,cO hd,ha,Y,if_true,cu hn,hll,ag,SV.bP,SV.val]
        ·cases h
       ·cases h
      ·rename_i ha;simp only[loadVar,Z,cO hd,ha,Y,Bool.false_eq_true,if_false,run_load,cell_of ho,h2 _ _ h]
    ·cases h
   ·cases h
theorem BK {Γ:bg}{E:Nat->Nat}{st:St}{a:Act}{w:World}(htm:cP E st.tmps a)(hmm:aO Γ E st.m st.nx w): ∀ {rs:List ResultVar} {l:List SV},fz P st rs=G l ->
  (rs.mapM (λr=>match r with
    | .tmp t=>(pure (a.tmps.getD t undef):Sem Value)
    | .cell b t=>do loadVar t (← asAddr (a.tmps.getD b undef))):Sem (List Value)).run P w=.ok (SV.vals E l) w
 | [],l,h=>by simp[fz] at h;subst h;simp[SV.vals]
 | r::rs,l,h=>by
   simp only[fz] at h;split at h
   ·rename_i v l' hv hl;injection h with h;subst h;simp only[List.mapM_cons,Z,Mz htm hmm hv,Y,BK htm hmm hl,ag,SV.vals]
   ·cases h
theorem qW (htm:cP E st.tmps a)(hmm:aO Γ E st.m st.nx w){vs:List SV}(h:fz P st fn.results.toList=G vs) :
  (results fn a.tmps).run P w=.ok ((mj vs).val E) w:=by
 have:=BK (P:=P) htm hmm h;unfold results;rw[Array.mapM_eq_mapM_toList];simp only[Z,Sem.run_map];have key: ∀ r:Result (List Value),r=.ok (SV.vals E vs) w->((r.andThen λa w'=>bn a.toArray w').andThen λa w'=>Sem.run P (pure (if h:a.size=1 then a[0] else Value.tuple a)) w')=bn ((mj vs).val E) w:=by
  rintro r rfl;simp only[Y,ag];congr 1
  match vs with
  | []=>rfl
  | [v]=>rfl
  | _::_::_=>simp[SV.vals,mj,SV.val]
 exact key _ this
theorem fT (hf:P.funcs[f]?=G fn) (hn:(fn.name== "runtime.NumGoroutine")=H) {body:Code} (hb:fn.body=G body) (args:Array Value) (w:World) :
  (callFunc f args).run P w=.ok (.enter f args) w:=by
 simp only[callFunc,Z,run_program,Y,hf,hn,hb];rfl
theorem aO.shut {m:Mem}(h:aO Γ E m nx w){D:Nat}{ds:Option (List Deferred)}(hd:w.heap[D]?=G (.deferred ds))(hk:D∉ Γ.keep)(hD:Γ.w0.heap.size<=D)(o:Obj) :
  aO Γ E m nx (w.putObj D o):=by
 refine⟨λk B a hm hn=> ?_,h.iq,h.lt,h.iM,⟨h.ext.os,h.ext.tape,h.ext.output,by simpa using h.ext.size,λk hk' hm=> ?_⟩,h.cx,λD' hD'=> ?_⟩
 ·obtain⟨o',ho,hb⟩:=h.gD k B a hm hn;refine⟨o',?_,hb⟩;rw[an (λe=> ?_)]
  ·exact ho
  ·rw[e,hd] at ho;injection ho with ho;exact hb.kA _ ho.symm
 ·rw[an (by omega)];exact h.ext.block k hk' hm
 ·rw[an (λe=>hk (by rw[← e];exact hD'))];exact h.kp D' hD'
theorem ng {fn:Func}{Γ:bg}{E:Nat->Nat}{m:Mem}{nx:Nat}{tmps:Array Value}{R:Ending->World->Prop}{u:FrameMode}(hu:u≠.run)
  (fin: ∀ w,aO Γ E m nx w->LeavesInM Fence.wide 0 P fn tmps R [] u w): ∀(Ds:List Nat) (w:World),Ds.Nodup ->
  (∀ D∈ Ds,w.heap[D]?=G (.deferred (G []))/\D∉ Γ.keep/\Γ.w0.heap.size<=D)->aO Γ E m nx w->LeavesInM Fence.wide 0 P fn tmps R (Ds.map xE) u w
 | [],w,_,_,hm=>fin w hm
 | D::Ds,w,hnd,hD,hm=>by obtain⟨h1,h2,h3⟩:=hD D (by simp);rw[cl] at hnd;refine⟨hu,.inl ⟨D,_,rfl,run_takeDeferred h1,ng hu fin Ds _ hnd.2 (λD' hD'=> ?_) (hm.shut h1 h2 h3 _)⟩⟩;obtain⟨g1,g2⟩:=hD D' (by simp[hD']);exact⟨by rw[an (λe=>hnd.1 (by rw[← e];exact hD'))];exact g1,g2⟩
theorem Jj {v:SV}{m':Mem}{nx':Nat}{E':Nat->Nat}(h:(n7 nx v m' nx' KP).holds)(hv:v.wf nx'=z)(hs:aO Γ E' m' nx' w)
  (hg:Γ.uF<=nx) (hE: ∀ k,k<nx->E' k=E k) (hn:nx<=nx'):ij KP Γ E nx [{v:=v.val E',recovered:=H}] w:=by
 unfold n7 at h;split at h
 ·rename_i hw;simp only[O] at hw;exact⟨E',v,older nx m',nx,hE,W _,rfl,hw.1,hs.sub (λk B hk=>(lJ hk).1) (λk B hk=>(lJ hk).2) (.inr hg),h⟩
 ·exact⟨E',v,m',nx',hE,hn,rfl,hv,hs,h⟩
theorem aO.start {Δ:bg}{m:Mem}(hs:aO Δ E m nx w)(ht:Δ.tail=[])(hargs:SV.e9 nx args=z)(k:Nat) :
  Sat Δ E ⟨args.map G++cB (k - args.length) I,m,nx⟩ ⟨(SV.vals E args).toArray++Array.replicate (k - (SV.vals E args).toArray.size) undef,[]⟩ w:=by
 have hsize:(SV.vals E args).toArray.size=args.length:=by simp[SV.bP]
 refine⟨⟨by simp[SV.bP],λi v hv=> ?_⟩,sD λi v hv=> ?_,Marks.nil _ _ ht,hs⟩
 ·rw[b5] at hv;rw[Array.getElem?_append];split at hv
  ·rename_i hlt;rw[b9] at hlt;rw[if_pos (by rw[hsize];exact hlt)];rw[az] at hv;rw[List.getElem?_toArray,SV.bP,az];cases ha:args[i]? with
   | none=>rw[ha] at hv;cases hv
   | some u=>rw[ha] at hv;injection hv with hv;injection hv with hv;subst hv;rfl
  ·rw[b6] at hv;split at hv<;>cases hv
 ·rw[b5] at hv;split at hv
  ·rw[az] at hv;cases ha:args[i]? with
   | none=>rw[ha] at hv;cases hv
   | some u=>rw[ha] at hv;injection hv with hv;injection hv with hv;subst hv;exact SV.sE hargs ha
  ·rw[b6] at hv;split at hv<;>cases hv
theorem MG {S:bg->Prop}{C:dm}{env:Env}(hmix:P.follows .mixedOrders=z)(hC:wE P C S)(hem: ∀ p∈ env,bq p.2)(hS:S Γ)(hek: ∀ p∈ env,∀ KP,pW P Γ KP (.yield p.1) p.2){bh:nA}(hf:P.funcs[f]?=G fn)
  (hname:(fn.name== "runtime.NumGoroutine")=H):pW P Γ KP (.fn f) (fL P C env KP bh n fn):=by
 intro Δ' hle' args m nx K h hwf hargs E w hs';refine Out.mono (R:=bF (lift K) Δ'.own E nx) (RP:=ij KP Δ'.own E nx) ?_ (λ_ _ h=>h.zc) (λ_ _ h=>h.zc);have hle:=bg.le_trans hle' Δ'.U3;have hs:=hs'.adf;have htl:Δ'.own.tail=[]:=rfl;have hrf:Δ'.own.rf=true:=rfl;generalize Δ'.own=Δ at hle hs htl hrf ⊢;unfold fL at h;split at h
 ·rename_i body hb;simp only[mF.sem];rw[fT hf hname hb];simp only[Out];refine callsIn_wide.1 (callsIn_of_wp_marks (F:=Fence.wide) (n:=0) hf hb trivial ?_);refine wpIn_mono (B3 hmix hC hem body H I (λ_=>rfl) Δ (hC.up hS hle) (λ_=>hrf) (λp hp KP=>(hek p hp KP).mono hle) _ _ _ E _ w h (hs.start htl hargs _)) (λe a' w' hq=> ?_);rcases hq with ⟨ex,rfl,E',st',g1,g2,g3,g4⟩ | ⟨v,E',st',rfl,gw,g1,g2,g3,g4⟩
  ·obtain⟨Ds,d1,d2,d3,d4⟩:=g3.df;rw[htl,bx] at d1
   have fin: ∀ vs,fz P st' fn.results.toList=G vs->(Vr (Nat.ble 1000 n) nx (mj vs) st'.m st'.nx K).holds ->
     LeavesInM Fence.wide 0 P fn a'.tmps (λe w'=>(∃ v,e=.returned v/\bF (lift K) Δ E nx v w')∨∃ ch,e=.panicked ch/\ij KP Δ E nx ch w') a'.defers .returning w':=by
    intro vs hvs hk;rw[d1];refine ng (by simp) (λw hm=>by show ∃ v,_/\_;exact⟨_,qW g3.tm hm hvs,.inl ⟨_,rfl,MA hk hm hs.cx.1 g1 g2⟩⟩) Ds w' d2 d3 g3.mm
   cases ex with
   | exit id=>exact g4.elim
   | normal =>
     simp only at g4;cases hvs:fz P st' fn.results.toList with
     | none=>rw[hvs] at g4;exact g4.elim
     | some vs=>rw[hvs] at g4;exact fin vs hvs g4
   | ret =>
     simp only at g4;cases hvs:fz P st' fn.results.toList with
     | none=>rw[hvs] at g4;exact g4.elim
     | some vs=>rw[hvs] at g4;exact fin vs hvs g4
  ·obtain⟨Ds,d1,d2,d3,d4⟩:=g3.df;rw[htl,bx] at d1;show LeavesInM _ _ _ _ _ _ _ _ _;rw[d1];exact ng (by simp) (λw hm=>by show _∨_;exact .inr ⟨_,rfl,Jj g4 gw hm hs.cx.1 g1 g2⟩) Ds w' d2 d3 g3.mm
 ·exact h.elim
theorem BP {C:dm}{env:Env}(hmix:P.follows .mixedOrders=z)(hC:di P C)(hem: ∀ p∈ env,bq p.2)(hek: ∀ p∈ env,∀ KP,pW P Γ KP (.yield p.1) p.2){bh:nA}(hf:P.funcs[f]?=G fn)
  (hname:(fn.name== "runtime.NumGoroutine")=H):pW P Γ KP (.fn f) (fL P C env KP bh n fn) :=
 MG hmix hC.at hem trivial hek hf hname
theorem MF {C:dm}{env:Env}(hC:di P C)(hem: ∀ p∈ env,bq p.2){bh:nA}:bq (fL P C env KP bh n fn):=by
 intro args m nx K K' hK h;unfold fL at h ⊢;split at h
 ·refine sy hC.mono hC.nU hem _ _ _ _ (λ_ _ h=>h) _ _ _ (λe st' _ hh=> ?_) h;cases e with
  | exit id=>exact hh
  | normal =>
    simp only at hh ⊢;cases hvs:fz P st' fn.results.toList with
    | none=>rw[hvs] at hh;exact hh
    | some vs=>rw[hvs] at hh;exact D5 hK hh
  | ret =>
    simp only at hh ⊢;cases hvs:fz P st' fn.results.toList with
    | none=>rw[hvs] at hh;exact hh
    | some vs=>rw[hvs] at hh;exact D5 hK hh
 ·exact h
theorem Jq {C:dm}{env:Env}(hC:di P C)(hem: ∀ p∈ env,bq p.2){KP':PK}(hKP: ∀ v m nx,(KP v m nx).holds->(KP' v m nx).holds){bh:nA}{args m nx K}(h:(fL P C env KP bh n fn args m nx K).holds) :
  (fL P C env KP' bh n fn args m nx K).holds:=by
 unfold fL at h ⊢;split at h
 ·exact sy hC.mono hC.nU hem _ _ _ _ (λv st h=>sq hKP h) _ _ _ (λe st' _ hh=>hh) h
 ·exact h
theorem Env.HC {env:Env}{pt:PT}(h:env.find k=G pt):(k,pt)∈ env:=by
 induction env with
 | nil=>cases h
 | cons e r ih =>
   unfold Env.find at h;split at h
   ·rename_i he;injection h with h;obtain⟨a,b⟩:=e;simp only at he h;subst he;subst h;simp
   ·exact b_ _ (ih h)
theorem I9 :pW P Γ KP .panic (raise KP):=by
 intro Δ hle args m nx K h hwf hargs E w hs;unfold raise at h;split at h
 ·rename_i t v;split at h
  ·rename_i hv;have hrun:((mF.panic).sem E (SV.vals E [.iface t v]).toArray).run P w=.halt (.panic (.iface t (v.val E))) w:=by simp only[mF.sem,SV.vals,SV.val];rfl
   rw[hrun];exact⟨E,.iface t v,m,nx,λ_ _=>rfl,W _,rfl,hv,hs,h⟩
  ·exact h.elim
 ·exact h.elim
theorem nF {cfg:dK}(hg:Good P cfg)(n:Nat):di P (calling P cfg n):=by
  have hyo: ∀(n:Nat) (Γ:bg) env,(∀ p∈ env,∀ KP,pW P Γ KP (.yield p.1) p.2)->∀ KP k,pW P Γ KP (.yield k) (gp P cfg n env KP (.yield k)):=by
   intro n Γ env he KP k
   have:gp P cfg n env KP (.yield k)=(match env.find k with
    | some pt=>pt
    | none=>λ_ _ _ _=>.fail "a yield that is not known"):=by cases n<;>rfl
   rw[this];split
   ·rename_i pt hp;exact he _ (Env.HC hp) _
   ·exact λΔ _ args m nx K h=>h.elim
  have hym: ∀(n:Nat) env,(∀ p∈ env,bq p.2)->∀ KP k,bq (gp P cfg n env KP (.yield k)):=by
   intro n env he KP k
   have:gp P cfg n env KP (.yield k)=(match env.find k with
    | some pt=>pt
    | none=>λ_ _ _ _=>.fail "a yield that is not known"):=by cases n<;>rfl
   rw[this];split
   ·rename_i pt hp;exact he _ (Env.HC hp)
   ·exact λargs m nx K K' _ h=>h.elim
  have hyp: ∀(n:Nat) env KP KP' k,gp P cfg n env KP (.yield k)=gp P cfg n env KP' (.yield k):=by intro n env KP KP' k;cases n<;>rfl
  have hpa: ∀(n:Nat) env KP,gp P cfg n env KP .panic=raise KP:=by intro n env KP;cases n<;>rfl
  have hpm: ∀ KP,bq (raise KP):=λKP args m nx K K' _ h=>h;have hpp: ∀ KP KP':PK,(∀ v m nx,(KP v m nx).holds->(KP' v m nx).holds)->∀ args m nx K,(raise KP args m nx K).holds->(raise KP' args m nx K).holds:=by
   intro KP KP' hK args m nx K h;unfold raise at h ⊢;split at h
   ·split at h
    ·exact hK _ _ _ h
    ·exact h
   ·exact h
  have hbd: ∀ f,cfg.bd f=z->∀(args:Array Value) (w:World),(callFunc f args).run P w=.ok (.enter f args) w:=by
   intro f hf args w;unfold dK.bd at hf;split at hf
   ·rename_i fn hfn;obtain⟨body,hb⟩:=a!.1 hf;exact fT (hg.fns f fn hfn).1 (hg.fns f fn hfn).2 hb args w
   ·cases hf
  induction n with
  | zero =>
    refine⟨λenv he KP c=> ?_,λenv he KP KP' hK c args m nx K h=> ?_,λΓ env hem he KP c=> ?_,hbd⟩
    ·cases c with
     | yield k=>exact hym 0 env he KP k
     | fn f=>exact λargs m nx K K' _ h=>h
     | panic=>show bq (gp P cfg 0 env KP .panic);rw[hpa];exact hpm KP
    ·cases c with
     | yield k=>exact h
     | fn f=>exact h
     | panic=>exact hpp KP KP' hK args m nx K h
    ·cases c with
     | yield k=>exact hyo 0 Γ env he KP k
     | fn f=>exact λΔ _ args m nx K h=>h.elim
     | panic=>exact I9
  | succ n ih =>
    refine⟨λenv he KP c=> ?_,λenv he KP KP' hK c args m nx K h=> ?_,λΓ env hem he KP c=> ?_,hbd⟩
    ·cases c with
     | yield k=>exact hym (n+1) env he KP k
     | panic=>show bq (gp P cfg (n+1) env KP .panic);rw[hpa];exact hpm KP
     | fn f =>
       show bq (gp P cfg (n+1) env KP (.fn f));simp only[gp];cases hs:cfg.cm f with
       | some pt=>exact(hg.cm f pt hs).2
       | none =>
         simp only;cases hi:cfg.iter f with
         | some g=>exact(hg.iter f g hi).mono env he
         | none =>
           simp only;cases hf:cfg.fns f with
           | some fn=>exact MF ih he
           | none=>exact λargs m nx K K' _ h=>h
    ·cases c with
     | yield k=>exact h
     | panic=>exact hpp KP KP' hK args m nx K h
     | fn f =>
       have h:(gp P cfg (n+1) env KP (.fn f) args m nx K).holds:=h;show(gp P cfg (n+1) env KP' (.fn f) args m nx K).holds;simp only[gp] at h ⊢;cases hs:cfg.cm f with
       | some pt=>rw[hs] at h;exact h
       | none =>
         rw[hs] at h;simp only at h ⊢;cases hi:cfg.iter f with
         | some g=>rw[hi] at h;exact h
         | none =>
           rw[hi] at h;simp only at h ⊢;cases hf:cfg.fns f with
           | some fn=>rw[hf] at h;exact Jq ih he hK h
           | none=>rw[hf] at h;exact h
    ·cases c with
     | yield k=>exact hyo (n+1) Γ env he KP k
     | panic=>exact I9
     | fn f =>
       show pW P Γ KP (.fn f) (gp P cfg (n+1) env KP (.fn f));simp only[gp];cases hs:cfg.cm f with
       | some pt=>exact(hg.cm f pt hs).1.cok Γ KP
       | none =>
         simp only;cases hi:cfg.iter f with
         | some g=>exact(hg.iter f g hi).ok Γ env hem he KP
         | none =>
           simp only;cases hf:cfg.fns f with
           | some fn=>exact BP hg.mix ih hem he (hg.fns f fn hf).1 (hg.fns f fn hf).2
           | none=>exact λΔ _ args m nx K h=>h.elim
theorem EG {cfg:dK}(hg:Good P cfg)(hf:P.funcs[f]?=G fn) (hn:(fn.name== "runtime.NumGoroutine")=H) (hb:fn.body.isSome=z)   {m:Mem}  {K:SV->Mem->Nat->VC}
  (h:(fL P (calling P cfg n) [] zq (cfg.bh f) cfg.rounds fn args m nx K).holds) (hm:Mem.wf nx m=z) (ha:SV.e9 nx args=z)    (hs:aO Γ E m nx w) :
  Calls P f (SV.vals E args).toArray w λe w'=>∃ v,e=.returned v/\bF (lift K) Γ E nx v w':=by
 have:=BP hg.mix (nF hg n) (env:=[]) (λp hp=>by cases hp) (Γ:=Γ) (λp hp=>by cases hp) (KP:=zq) (bh:=cfg.bh f) (n:=cfg.rounds) hf hn Γ Γ.le_refl args m nx K h hm ha E w hs;obtain⟨body,hb⟩:=a!.1 hb;simp only[mF.sem] at this;rw[fT hf hn hb] at this;refine Calls.mono this ?_;rintro e w' (h | ⟨ch,_,_,_,_,_,_,_,_,_,_,hno⟩)
 ·exact h
 ·exact hno.elim
end
theorem bS.pure (hw:B.wf 0=z){E':Nat->Nat}{o:Obj}(h:bS E B o):bS E' B o:=h.congr (nx:=0) (λk hk=>by omega) hw
theorem SV.wq {v:SV}(hw:v.wf 0=z)(E E':Nat->Nat):v.val E=v.val E':=SV.val_congr (nx:=0) (λk hk=>by omega) v hw
theorem SV.lN {l:List SV}(hw:SV.e9 0 l=z)(E E':Nat->Nat):SV.vals E l=SV.vals E' l:=SV.fA (nx:=0) (λk hk=>by omega) l hw
theorem Mem.rO {key:Nat}: ∀ {m:Mem} {k:Nat},k≠key->(Mem.put key B m).get k=m.get k
 | [],_,_=>rfl
 | e::r,k,h=>by
   by_cases he:e.1=key
   ·rw[Mem.put,if_pos he,Mem.get,Mem.get,if_neg (λx=>h (x.symm.trans he)),if_neg (λx=>h (x.symm.trans he))]
   ·rw[Mem.put,if_neg he,Mem.get,Mem.get,Mem.rO h]
theorem Mem.rN {key:Nat}{X:SB}: ∀ {m:Mem},m.get key=G X->(Mem.put key B m).get key=G B
 | [],h=>by cases h
 | e::r,h=>by
   by_cases he:e.1=key
   ·rw[Mem.put,if_pos he,Mem.get,if_pos he]
   ·rw[Mem.get,if_neg he] at h;rw[Mem.put,if_neg he,Mem.get,if_neg he];exact Mem.rN h
def bg.at (w:World)(M:Nat->Prop)(gl:p4 w)(gm: ∀ p∈ qq,¬ M p.1):bg:=⟨w,M,λ_=>0,0,[],gl,gm,[],z⟩
theorem aO.N6 {Γ E m nx w}(h:aO Γ E m nx w){a:Nat}(hk:m.get k=G B)(hn:B.iz (E k) a)(hro:B.ro=H): ∀ p∈ qq,¬ (p.1=a):=by
 intro p hp e;obtain⟨_,ty,fr,hg,_⟩:=Γ.gl p hp;rcases h.iM k B a hk hn hro with h1 | h1
 ·exact Γ.gm p hp (e▸ h1)
 ·have:=(J.1 hg).1;omega
theorem aO.one {Γ E m nx w}(h:aO Γ E m nx w){B':SB}(hk:m.get k=G B)(hB:ah B B')(hn:B'.no=H)(hro:B'.ro=H)(hw:B'.wf 0=z) :
  aO (bg.at w (λb=>b=E k) h.Az (h.N6 hk (SB.gM (hB.old hn).1 _) ((hB.old hn).2.2 hro))) (λ_=>E k) [(0,B')] 1 w:=by
 obtain⟨h1,h2,_⟩:=hB.old hn;obtain⟨o,ho,hb⟩:=h.ny k B hk h1;have hg: ∀ {j X a},Mem.get j [(0,B')]=G X->X.iz (E k) a->j=0/\X=B'/\a=E k:=λhj ha=>by
  rcases Mem.fH hj with ⟨rfl,rfl⟩ | ⟨_,hj⟩
  ·exact⟨rfl,rfl,((SB.iH (SB.qJ hn)).1 ha).2⟩
  ·cases hj
 refine⟨λj X a hj ha=> ?_,λj j' X X' a hj ha hj' ha' _=>(hg hj ha).1.trans (hg hj' ha').1.symm,λj X hj=> ?_,λj X a hj ha _=>.inl (hg hj ha).2.2,Ext.refl _ _,⟨a_ _,λk hk=>absurd hk (c4 _)⟩,λD hD=>by cases hD⟩
 ·obtain⟨_,rfl,rfl⟩:=hg hj ha;exact⟨o,ho,by rw[SB.oK (SB.qJ hn)];exact(h2 E o hb).pure hw⟩
 ·rcases Mem.fH hj with ⟨rfl,_⟩ | ⟨_,hj⟩
  ·omega
  ·cases hj
theorem aO.none (w:World)(hg:p4 w):aO (bg.at w (λ_=>False) hg (λ_ _ h=>h)) (λ_=>0) [] 0 w :=⟨(λ_ _ _ h=>by cases h),(λ_ _ _ _ _ h=>by cases h),(λ_ _ h=>by cases h),(λ_ _ _ h=>by cases h),Ext.refl _ _,⟨a_ _,λk hk=>absurd hk (c4 _)⟩,λD hD=>by cases hD⟩
theorem aO.still {Γ E m nx w}(h:aO Γ E m nx w)(hx:Ext (λ_=>False) w w'):aO Γ E m nx w':=by
 refine⟨λk B a hk hn=> ?_,h.iq,h.lt,h.iM,h.ext.trans ⟨hx.os,hx.tape,hx.output,hx.size,λk hk _=>hx.block k hk (λh=>h)⟩,h.cx,λD hD=> ?_⟩
 ·obtain⟨o,ho,hb⟩:=h.gD k B a hk hn;exact⟨o,by rw[hx.block _ (J.1 ho).1 (λh=>h)];exact ho,hb⟩
 ·have:=h.kp D hD;rw[hx.block _ (J.1 this).1 (λh=>h)];exact this
theorem aO.frame {Γ E m nx w}(h:aO Γ E m nx w)(hk:m.get k=G B)(hn:B.no=H)(hro:B.ro=H){E1:Nat->Nat}{m1:Mem}{nx1:Nat}{gl gm}
  (h1:aO (bg.at w (λb=>b=E k) gl gm) E1 m1 nx1 w') (hE:E1 0=E k) {B1:SB} (hB1:m1.get 0=G B1) (hn1:B1.no=H) (hr1:B1.ro=H) (hw1:B1.wf 0=z):aO Γ E (m.put k B1) nx w':=by
 have hx:Ext (λb=>b=E k) w w':=h1.ext;have hg: ∀ {j X a},(m.put k B1).get j=G X->X.iz (E j) a->(j=k/\X=B1/\a=E k)∨(m.get j=G X/\X.iz (E j) a/\a≠E k):=λhj ha=>by
  rcases Mem.gY hj with ⟨rfl,rfl,_⟩ | ⟨hne,hj⟩
  ·exact .inl ⟨rfl,rfl,((SB.iH (SB.qJ hn1)).1 ha).2⟩
  ·exact .inr ⟨hj,ha,λe=>hne (h.iq _ k _ B _ hj ha hk (by rw[e];exact SB.gM hn _) (.inr hro))⟩
 refine⟨λj X a hj ha=> ?_,λj j' X X' a hj ha hj' ha' hr=> ?_,λj X hj=> ?_,λj X a hj ha hr=> ?_,⟨hx.os.trans h.ext.os,hx.tape.trans h.ext.tape,hx.output.trans h.ext.output,aS h.ext.size hx.size,λi hi hm=>(hx.block i (cH hi h.ext.size) (λe=> ?_)).trans (h.ext.block i hi hm)⟩,h.cx,λD hD=> ?_⟩
 ·rcases hg hj ha with ⟨_,rfl,rfl⟩ | ⟨hj,ha,hne⟩
  ·obtain⟨o,ho,hb⟩:=h1.ny 0 X hB1 hn1;exact⟨o,by rw[← hE];exact ho,by rw[SB.oK (SB.qJ hn1)];exact hb.pure hw1⟩
  ·obtain⟨o,ho,hb⟩:=h.gD j X a hj ha;exact⟨o,by rw[h1.ext.block _ (J.1 ho).1 hne];exact ho,hb⟩
 ·rcases hg hj ha with ⟨e1,_,e⟩ | ⟨hj1,ha1,hne⟩<;>rcases hg hj' ha' with ⟨e2,_,e'⟩ | ⟨hj2,ha2,hne'⟩
  ·exact e1.trans e2.symm
  ·exact absurd e hne'
  ·exact absurd e' hne
  ·exact h.iq _ _ _ _ _ hj1 ha1 hj2 ha2 hr
 ·rcases Mem.gY hj with ⟨rfl,_,_⟩ | ⟨_,hj⟩
  ·exact h.lt _ _ hk
  ·exact h.lt _ _ hj
 ·rcases hg hj ha with ⟨_,rfl,rfl⟩ | ⟨hj,ha,_⟩
  ·exact h.own _ _ hk hn hro
  ·exact h.iM _ _ _ hj ha hr
 ·
  subst e;rcases h.own k B hk hn hro with h' | h'
  ·exact hm h'
  ·omega
 ·have:=h.kp D hD;rw[hx.block _ (J.1 this).1 (h.kA hk hn D hD)];exact this
theorem aO.aav {Γ E m nx w}(h:aO Γ E m nx w)(hw:Mem.wf nx m=z)(hk:m.get k=G B)(hn:B.no=H)(hro:B.ro=H){E1:Nat->Nat}{m1:Mem}{nx1:Nat}
  {gl gm} (h1:aO (bg.at w (λb=>b=E k) gl gm) E1 m1 nx1 w') (hE:E1 0=E k) {B1:SB} (hB1:m1.get 0=G B1) (hn1:B1.no=H) (hr1:B1.ro=H) (hw1:B1.wf 0=z)
   (hj:j≠0) {B2:SB} (hB2:m1.get j=G B2) (hw2:B2.wf 0=z) (hr2:B2.ro=H) :
  ∃ E',(∀ i,i<nx->E' i=E i)/\(B2.no=H->E' nx=E1 j)/\aO Γ E' ((nx,B2)::m.put k B1) (nx+1) w':=by
 have hf:=h.frame hk hn hro h1 hE hB1 hn1 hr1 hw1;have hwp:Mem.wf nx (m.put k B1)=true:=by
  have: ∀(m:Mem),Mem.wf nx m=z->Mem.wf nx (m.put k B1)=true:=by
   intro m;induction m with
   | nil=>intro _;rfl
   | cons e r ih =>
     intro hh;simp only[Mem.wf,O] at hh;by_cases he:e.1=k
     ·rw[Mem.put,if_pos he];simp only[Mem.wf,O];exact⟨SB.fE (a_ _) hw1,hh.2⟩
     ·rw[Mem.put,if_neg he];simp only[Mem.wf,O];exact⟨hh.1,ih hh.2⟩
  exact this m hw
 have hge: ∀ a,B2.iz (E1 j) a->w.heap.size<=a:=λa ha=>by
  rcases h1.iM j B2 a hB2 ha hr2 with e | e
  ·have e:a=E k:=e;exact absurd (h1.iq j 0 B2 B1 a hB2 ha hB1 (by rw[e,← hE];exact SB.gM hn1 _) (.inl hr2)) hj
  ·exact e
 refine⟨λi=>if i=nx then E1 j else E i,λi hi=>by simp[cL hi],λ_=>by simp,?_⟩
 refine hf.Va hwp (λ_ _ h=>h) (λa ha=>⟨?_,λ_=>.inr (aS h.ext.size (hge a ha)),λi X hi hX=> ?_⟩) (λ_ _ _ _ _=>rfl) hf.ext (λ_ _=>rfl)
 ·obtain⟨o,ho,hb⟩:=h1.gD j B2 a hB2 ha;exact⟨o,ho,hb.pure (SB.Hu hw2 a)⟩
 ·have h3:=hge a ha;rcases Mem.gY hi with ⟨rfl,rfl,_⟩ | ⟨_,hi⟩
  ·have:=((SB.iH (SB.qJ hn1)).1 hX).2;have:=h.W7 hk (SB.gM hn _);omega
  ·have:=h.W7 hi hX;omega
section
variable {P : Program} {cfg : dK}
theorem eF (hf:P.funcs[f]?=G fn) (hn:(fn.name== "runtime.NumGoroutine")=H) (hb:fn.body.isSome=z) {args:Array Value}  {Q:Value->World->Prop}
  (h:Calls P f args w λe w'=>∃ v,e=.returned v/\Q v w'):Out P Q ((callFunc f args).run P w):=by
 obtain⟨body,hb⟩:=a!.1 hb;rw[fT hf hn hb];exact Calls.mono h λ_ _ h=>.inl h
end
structure av (v:VC):Prop where
 out:v.holds
theorem av.of_eq (e:v.holds=p)(h:p):av v:=⟨e.symm▸ h⟩
abbrev Fk (p:Prop)[Decidable p](a b:Prop):Prop:=(decide p=z->a)/\(decide p=H->b)
abbrev Bk (c:Bool)(a b:Prop):Prop:=(c=z->a)/\(c=H->b)
theorem av.gV {q:Prop}(e:v.holds=p)(e':p=q)(h:q):av v:=av.of_eq e (e'▸ h)
inductive Pl where
 | t
 | k
 | n (a b:Pl)
 | s (n:Nat) (p:Pl)
 | c (g:Bool) (i:Nat) (p:Pl)
def Pl.l:Pl->Pl
 | .n a _=>a
 | .k=>.k
 | _=>.t
def Pl.r:Pl->Pl
 | .n _ b=>b
 | .s 0 p=>p
 | .s (m+1) p=>.s m p
 | p=>p
def Pl.out:Pl->Bool
 | .t=>z
 | _=>H
def Pl.way:Pl->Option (Bool×Nat×Pl)
 | .c g i p=>G (g,i,p)
 | _=>I
abbrev Cx:=List (Bool×Bool)
def Cx.at (C:Cx)(i:Nat):Bool×Bool:=C.getD i (z,z)
def VU (g b:Bool):Bool:=match g with
 | true=>!b
 | false=>b
def VC.self (pl:Pl)(C:Cx):VC->VC
 | .and a b=>.and (a.self pl.l C) (b.self pl.r C)
 | .imp p a=>.imp p (a.self pl C)
 | .all α f=>.all α λx=>(f x).self pl C
 | .ex α f=>.ex α λx=>(f x).self pl C
 | .eqv p q h=>(match pl.out with
   | true=>.eqv q q h
   | false=>.eqv p q h)
 | .fork b x y=>(match pl.way with
   | some (g,i,p)=>(match VU g (C.at i).2 with
     | true=>.fork (VU g (C.at i).1) (x.self p C) y
     | false=>.fork (VU g (C.at i).1) x (y.self p C))
   | none=>.fork b (x.self pl.l ((b,z)::C)) (y.self pl.r ((b,H)::C)))
 | .tt=>.tt
 | .fail s=>.fail s
 | .atom p=>.atom p
def VC.AI:VC->Bool
 | .tt=>z
 | _=>H
def VC.prune (pl:Pl)(C:Cx):VC->VC
 | .and a b=>(match(a.prune pl.l C).AI,(b.prune pl.r C).AI with
   | true,_=>b.prune pl.r C
   | false,z=>a.prune pl.l C
   | false,H=>.and (a.prune pl.l C) (b.prune pl.r C))
 | .imp p a=>(match(a.prune pl C).AI with
   | true=>.tt
   | false=>.imp p (a.prune pl C))
 | .all α f=>.all α λx=>(f x).prune pl C
 | .ex α f=>.ex α λx=>(f x).prune pl C
 | .eqv p q h=>(match pl.out with
   | true=>.tt
   | false=>.eqv p q h)
 | .fork b x y=>(match pl.way with
   | some (g,i,p)=>(match VU g (C.at i).2 with
     | true=>x.prune p C
     | false=>y.prune p C)
   | none=>(match(x.prune pl.l ((b,z)::C)).AI,(y.prune pl.r ((b,H)::C)).AI with
     | true,z=>.tt
     | true,H=>.imp (b=H) (y.prune pl.r ((b,H)::C))
     | false,z=>.imp (b=z) (x.prune pl.l ((b,z)::C))
     | false,H=>.and (.imp (b=z) (x.prune pl.l ((b,z)::C))) (.imp (b=H) (y.prune pl.r ((b,H)::C)))))
 | .tt=>.tt
 | .fail s=>.fail s
 | .atom p=>.atom p
theorem VC.iO (h:v.AI=z):v.holds:=by cases v<;>first | trivial | cases h
theorem Cx.acO {C:Cx}(hC: ∀ e,e∈ C->e.1=e.2)(i:Nat):(C.at i).1=(C.at i).2:=by
 unfold Cx.at
 rw[List.getD_eq_getElem?_getD];cases h:C[i]? with
 | none=>rfl
 | some e=>exact hC e (b! h)
theorem Cx.push {C:Cx}(hC: ∀ e,e∈ C->e.1=e.2){b v:Bool}(h:b=v): ∀ e,e∈ (b,v)::C->e.1=e.2:=λe he=>by
 rcases V.1 he with he | he
 ·subst he;exact h
 ·exact hC e he
theorem VC.Mm : ∀ {pl:Pl} {C:Cx},(∀ e,e∈ C->e.1=e.2)->(v.prune pl C).holds->(v.self pl C).holds:=by
 induction v with
 | tt=>exact λ_=>id
 | fail=>exact λ_=>id
 | atom=>exact λ_=>id
 | and a b iha ihb =>
   intro pl C hC h;simp only[VC.prune] at h;cases ha:(a.prune pl.l C).AI with
   | true=>rw[ha] at h;exact⟨iha hC (VC.iO ha),ihb hC h⟩
   | false=>cases hb:(b.prune pl.r C).AI with
     | true=>rw[ha,hb] at h;exact⟨iha hC h,ihb hC (VC.iO hb)⟩
     | false=>rw[ha,hb] at h;exact⟨iha hC h.1,ihb hC h.2⟩
 | imp p a ih =>
   intro pl C hC h hp;simp only[VC.prune] at h;cases ha:(a.prune pl C).AI with
   | true=>exact ih hC (VC.iO ha)
   | false=>rw[ha] at h;exact ih hC (h hp)
 | all α f ih=>exact λhC h x=>ih x hC (h x)
 | ex α f ih=>exact λhC ⟨x,h⟩=>⟨x,ih x hC h⟩
 | eqv p q hq =>
   intro pl C hC h;simp only[VC.prune,VC.self] at h ⊢;cases ho:pl.out with
   | true=>exact hq
   | false=>rw[ho] at h;exact h
 | fork b x y ihx ihy =>
   intro pl C hC h;simp only[VC.prune] at h;unfold VC.self;cases hw:pl.way with
   | some q =>
     obtain⟨g,i,p⟩:=q;have hi:=Cx.acO hC i;rw[hw] at h;dsimp only at h ⊢;rw[hi];cases ht:VU g (C.at i).2 with
     | true=>rw[ht] at h;exact⟨λ_=>ihx hC h,(λe=>by cases e)⟩
     | false=>rw[ht] at h;exact⟨(λe=>by cases e),λ_=>ihy hC h⟩
   | none =>
     rw[hw] at h;dsimp only at h ⊢;cases hx:(x.prune pl.l ((b,z)::C)).AI<;>cases hy:(y.prune pl.r ((b,H)::C)).AI
     all_goals rw[hx,hy] at h
     ·exact⟨λe=>ihx (Cx.push hC e) (h.1 e),λe=>ihy (Cx.push hC e) (h.2 e)⟩
     ·exact⟨λe=>ihx (Cx.push hC e) (h e),λe=>ihy (Cx.push hC e) (VC.iO hy)⟩
     ·exact⟨λe=>ihx (Cx.push hC e) (VC.iO hx),λe=>ihy (Cx.push hC e) (h e)⟩
     ·exact⟨λe=>ihx (Cx.push hC e) (VC.iO hx),λe=>ihy (Cx.push hC e) (VC.iO hy)⟩
structure fR (pl:Pl)(v:VC)(p:Prop):Prop where
 self:v.holds=(v.self pl []).holds
 rest:(v.prune pl []).holds=p
abbrev I6 (x:Int):Prop:= -9223372036854775808<=x/\x<=9223372036854775807
abbrev wD:List SV:=[.str z [],.str z [],.str z [],.str z [],.str z [],.str z [],.str z [],.str z [],.str z [],.str z [],.str z [],.str z [],.str z [],.str z [],.str z [],.str z []]
abbrev K8 (f:Nat->α)(l:List α):List α:=f 0::f 1::f 2::f 3::f 4::f 5::f 6::f 7::l
abbrev K14 (f:Nat->α)(l:List α):List α:=f 0::f 1::f 2::f 3::f 4::f 5::f 6::f 7::f 8::f 9::f 10::f 11::f 12::f 13::l
abbrev Nk (f:Nat->α)(l:List α):List α:=f 0::f 1::f 2::f 3::f 4::f 5::f 6::f 7::f 8::f 9::f 10::f 11::f 12::f 13::f 14::l
abbrev bG (f:Nat->α)(l:List α):List α:=f 0::f 1::f 2::f 3::f 4::f 5::f 6::f 7::f 8::f 9::f 10::f 11::f 12::f 13::f 14::f 15::l
abbrev Zp (f:Nat->α)(l:List α):List α:=f 0::f 1::f 2::f 3::f 4::f 5::f 6::f 7::f 8::f 9::f 10::f 11::f 12::f 13::f 14::f 15::f 16::l
abbrev uD (f:Nat->α)(l:List α):List α:=f 0::f 1::f 2::f 3::f 4::f 5::f 6::f 7::f 8::f 9::f 10::f 11::f 12::f 13::f 14::f 15::f 16::f 17::f 18::f 19::f 20::f 21::f 22::f 23::f 24::f 25::f 26::f 27::f 28::f 29::f 30::f 31::f 32::f 33::f 34::f 35::f 36::f 37::f 38::f 39::f 40::f 41::f 42::f 43::f 44::f 45::f 46::f 47::f 48::f 49::f 50::f 51::f 52::f 53::f 54::f 55::f 56::f 57::f 58::f 59::f 60::f 61::f 62::f 63::l
def Pl.m:Nat->Pl->Pl
 | 0,p=>p
 | n+1,p=>.n .k (Pl.m n p)
theorem av.pr {pl:Pl}(e:fR pl v p)(h:p):av v:=⟨e.self▸ VC.Mm (λ_ h=>by cases h) (e.rest▸ h)⟩
theorem av.Mk {pl:Pl}{q:Prop}(e:fR pl v p)(e':p=q)(h:q):av v:=av.pr e (e'▸ h)
theorem dS {cfg:dK}(hg:Good P cfg)(hf:P.funcs[f]?=G fn) (hn:(fn.name== "runtime.NumGoroutine")=H) (hb:fn.body.isSome=z)   {m:Mem}  {K:SV->Mem->Nat->VC}
  (h:av (fL P (calling P cfg n) [] zq (cfg.bh f) cfg.rounds fn args m nx K)) (hm:Mem.wf nx m=z) (ha:SV.e9 nx args=z)    (hs:aO Γ E m nx w) :
  Calls P f (SV.vals E args).toArray w λe w'=>∃ v,e=.returned v/\bF (lift K) Γ E nx v w':=EG hg hf hn hb h.out hm ha hs
def ay (f:FuncId):List (FuncId×PT)->Option PT
 | []=>I
 | e::r=>if e.1=f then G e.2 else ay f r
def aQ (P:Program)(s:FuncId->Option PT):Prop:=∀ f pt,s f=G pt->ax P f pt/\bq pt
theorem aQ.nil :aQ P (λf=>ay f []):=λ_ _ h=>by cases h
theorem aQ.cons {pt:PT}{l:List (FuncId×PT)}(h1:ax P f pt)(h2:bq pt)(h:aQ P (λf=>ay f l)):aQ P (λg=>ay g ((f,pt)::l)):=by
 intro g q hq;simp only[ay] at hq;split at hq
 ·rename_i e;subst e;injection hq with hq;subst hq;exact⟨h1,h2⟩
 ·exact h g q hq
end
end Sx
end Go.Proofs.YtoibaecagklkaaaGreatDoor
