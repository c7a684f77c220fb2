/- A part of the proof. -/
import Derived.Test.YtoibaecagklkaaaGreatDoorMg
open Array renaming getD_eq_getD_getElem?->bn,getElem?_eq_some_iff->J
open Bool renaming and_eq_true->ag,false->H,true->z
open Go.Result renaming andThen_ok->W,ok->bW
open Go.Sem renaming run_bind->Y,run_pure->Z
open Go.World renaming putObj_heap_other->an
open List renaming append_nil->bY,getElem?_append->b_,getElem?_map->ay,getElem?_replicate->b!,length_map->cj,mem_append->O,mem_cons->T,mem_cons_of_mem->cl,nodup_cons->ct,replicate->cy
open Nat renaming le_add_right->a_,le_refl->V,le_succ->a!,le_trans->bf,lt_of_lt_of_le->cB,not_lt_zero->cL,zero_le->cT
open Option renaming isSome_iff_exists->bl,none->I,some->G
namespace Go.Proofs.YtoibaecagklkaaaGreatDoor
open Go Sx
variable {a:Act}{ops:Array Oper}{fn:Func}{f:FuncId}{m:Mem}{n nx:Nat}{KP:PK}{P:Program}{p:Prop}{st:St}{w:World}{Γ:b5}
namespace Sx
open Go
noncomputable section
def jo:Code->Option Nat
 | .region id _ _=>G id
 | .seq a b=>match jo a with
   | some i=>G i
   | none=>jo b
 | .cond _ a b=>match jo a with
   | some i=>G i
   | none=>jo b
 | .block _ b=>jo b
 | .loop b=>jo b
 | .scope b=>jo b
 | _=>I
structure tP where
 tags:List Nat
 tag:St->Nat
 A:Nat->aN
def one (A:aN):tP:=⟨[0],λ_=>0,λ_=>A⟩
abbrev B6:=List (Nat×(St->Option tP))
def always (A:aN):St->Option tP:=λ_=>G (one A)
def B6.find (bU:B6)(i:Nat)(st:St):Option tP:=match bU with
 | []=>I
 | (j,A)::r=>if j=i then A st else B6.find r i st
def amq (bU:B6)(body:Code)(st:St):Option tP:=match jo body with
 | some i=>bU.find i st
 | none=>I
def GV:Nat->(XK->St->VC)->XK->St->VC
 | 0,_,_,_=>.fail "loop: too many rounds"
 | n+1,f,K,st=>f (λe st'=>match e with
   | .normal=>GV n f K st'
   | e=>K e st') st
def H6 (t:Nat)(k:Nat->VC):List Nat->VC
 | []=>.fail "loop: no such head"
 | a::r=>if t=a then k a else H6 t k r
theorem x3 {t:Nat}{k:Nat->VC}: ∀ {l:List Nat},(H6 t k l).holds->t∈ l/\(k t).holds
 | [],h=>h.elim
 | a::r,h=>by
   simp only[H6] at h;split at h
   ·rename_i e;subst e;exact⟨List.mem_cons_self ..,h⟩
   ·have:=x3 h;exact⟨cl _ this.1,this.2⟩
def entry (L:tP)(body:Code)(st st1:St):VC :=H6 (L.tag st1) (λt=>.ex (L.A t).α λy=>.and (.atom ((L.A t).pre st y)) (F5 body (L.A t) st y st1)) L.tags
def U7 (L:tP)(body:Code)(st:St)(n:Nat)(st1:St):VC :=H6 (L.tag st1) (λt=>.ex (L.A t).α λy=>.and (.atom ((L.A t).pre st y/\(L.A t).nF st y<n)) (F5 body (L.A t) st y st1)) L.tags
def W0 (L:tP)(body:Code)(f:XK->St->VC)(K:XK)(st:St)(t:Nat):VC :=
 .all (L.A t).α λx=>.imp ((L.A t).pre st x) (match Ck body (L.A t) st x with
   | true=>f (λe st1=>match e with
     | .normal=>U7 L body st ((L.A t).nF st x) st1
     | e=>K e st1) (hd body (L.A t) st x)
   | false=>.fail "loop: the annotation")
def z8 (g:Nat->VC):List Nat->VC
 | []=>.tt
 | [t]=>g t
 | t::r=>.and (g t) (z8 g r)
theorem Ba {g:Nat->VC}: ∀ {l:List Nat},(z8 g l).holds->∀ t∈ l,(g t).holds
 | [],_,t,ht=>by cases ht
 | [a],h,t,ht=>by simp at ht;subst ht;exact h
 | a::b::r,h,t,ht=>by
   rw[T] at ht;rcases ht with rfl | ht
   ·exact h.1
   ·exact Ba (l:=b::r) h.2 t ht
theorem yL {g g':Nat->VC}(hg: ∀ t,(g t).holds->(g' t).holds): ∀ {l:List Nat},(z8 g l).holds->(z8 g' l).holds
 | [],h=>h
 | [a],h=>hg a h
 | a::b::r,h=>⟨hg a h.1,yL hg (l:=b::r) h.2⟩
def at5 (L:tP)(body:Code)(f:XK->St->VC)(K:XK)(st:St):VC :=.and (entry L body st st) (z8 (W0 L body f K st) L.tags)
def azl (bU:B6)(a:Code)(st:St):Option tP:=match bU with
 | []=>I
 | _=>(match jo a with
   | some i=>bU.find (1000+i) st
   | none=>I)
def VU (bU:B6)(a b:Code)(st:St):Option tP:=match bU with
 | []=>I
 | _=>(match azl bU a st with
   | some L=>G L
   | none=>(match jo a,jo b with
     | some i,G j=>bU.find (100000+(1000*i+j)) st
     | _,_=>I))
def OI (L:tP)(a:Code)(f:St->VC)(st:St)(t:Nat):VC :=
 .all (L.A t).α λx=>.imp ((L.A t).pre st x) (match Ck a (L.A t) st x with
   | true=>f (hd a (L.A t) st x)
   | false=>.fail "join: the annotation")
def Si (c:Option SV)(t f:VC):VC:=match c with
 | some (.bool z b)=>(match b with
   | true=>t
   | false=>f)
 | some (.bool H b)=>fork b (λv=>match v with
   | true=>t
   | false=>f)
 | _=>.fail "cond"
abbrev Env:=List (Nat×PT)
def Env.find (env:Env)(k:Nat):Option PT:=match env with
 | []=>I
 | e::r=>if e.1=k then G e.2 else Env.find r k
def Qt (kl:Nat)(tmps:List (Option SV))(K:XK):SV->Mem->Nat->VC:=λ_ m nx =>
 match m.get kl with
 | some (.loop .ready I _)=>K .normal ⟨tmps,m.drop kl,nx⟩
 | some (.loop .done (G .ret) _)=>K .ret ⟨tmps,m.drop kl,nx⟩
 | some (.loop .done (G (.exit id)) _)=>K (.exit id) ⟨tmps,m.drop kl,nx⟩
 | _=>.fail "range: the record"
structure oV where
 xN:Env->PK->yW->PT
 bd:FuncId->Bool
def sx (P:Program)(C:oV)(env:Env)(bU:B6)(n:Nat):Code->Bool->XP->XK->St->VC
 | .skip,_,_,K,st=>K .normal st
 | .label _,_,_,K,st=>K .normal st
 | .region _ ops d,_,X,K,st=>(match d with
   | true=>draw P (C.xN env λv m nx=>X v ⟨unsure ops st.tmps,m,nx⟩) ops (K .normal) st
   | false=>xy P (C.xN env λv m nx=>X v ⟨unsure ops st.tmps,m,nx⟩) ops (List.range ops.size) (K .normal) st)
 | .seq a b,r,X,K,st=>(match VU bU a b st with
   | some L=>.and (sx P C env bU n a r X (λe st'=>match e with
     | .normal=>entry L a st st'
     | e=>K e st') st) (z8 (OI L a (sx P C env bU n b r X K) st) L.tags)
   | none=>sx P C env bU n a r X (λe st'=>match e with
     | .normal=>sx P C env bU n b r X K st'
     | e=>K e st') st)
 | .cond c a b,r,X,K,st=>Si (ev st.tmps c) (sx P C env bU n a r X K st) (sx P C env bU n b r X K st)
 | .block id body,r,X,K,st=>sx P C env bU n body r X (λe st'=>match e with
   | .exit j=>if j=id then K .normal st' else K (.exit j) st'
   | e=>K e st') st
 | .loop body,r,X,K,st=>(match amq bU body st with
   | some A=>at5 A body (sx P C env bU n body r X) K st
   | none=>GV n (sx P C env bU n body r X) K st)
 | .exit id,_,_,K,st=>K (.exit id) st
 | .ret,_,_,K,st=>K .ret st
 | .scope body,r,X,K,st=>sx P C env bU n body r X K st
 | .rangeFunc g ps assign body,H,_,K,st=>(match ev st.tmps g,Mem.wf st.nx st.m with
   | some (.func (.func f) first captured),z=>(match C.bd f with
     | true=>.all Loop λR=>C.xN ((st.nx,Br st.nx R ps.toList st.tmps (sx P C env bU n assign z Ws) (sx P C env bU n body z Ws))::env) Ny (.fn f)
        (first++[.yield st.nx]++captured) ((st.nx,.loop .ready I R)::st.m) (st.nx+1) (Qt st.nx st.tmps K)
     | false=>.fail "range: over what")
   | _,_=>.fail "range: over what")
 | _,_,_,_,_=>.fail "code"
structure vD (P:Program)(C:oV):Prop where
 mono: ∀ env,(∀ p∈ env,bC p.2)->∀ KP c,bC (C.xN env KP c)
 HU: ∀ env,(∀ p∈ env,bC p.2)->∀ KP KP':PK,(∀ v m nx,(KP v m nx).holds->(KP' v m nx).holds)->∀ c args m nx K,(C.xN env KP c args m nx K).holds->(C.xN env KP' c args m nx K).holds
 ok: ∀(Γ:b5) env,(∀ p∈ env,bC p.2)->(∀ p∈ env,∀ KP,Ao P Γ KP (.yield p.1) p.2)->∀ KP c,Ao P Γ KP c (C.xN env KP c)
 bd: ∀ f,C.bd f=z->∀(args:Array Value) (w:World),(callFunc f args).run P w=.ok (.enter f args) w
structure D3 (P:Program)(C:oV)(S:b5->Prop):Prop where
 mono: ∀ env,(∀ p∈ env,bC p.2)->∀ KP c,bC (C.xN env KP c)
 HU: ∀ env,(∀ p∈ env,bC p.2)->∀ KP KP':PK,(∀ v m nx,(KP v m nx).holds->(KP' v m nx).holds)->∀ c args m nx K,(C.xN env KP c args m nx K).holds->(C.xN env KP' c args m nx K).holds
 up: ∀ {Γ Δ:b5},S Γ->Γ.le Δ->S Δ
 ok: ∀(Γ:b5),S Γ->∀ env,(∀ p∈ env,bC p.2)->(∀ p∈ env,∀ KP,Ao P Γ KP (.yield p.1) p.2)->∀ KP c,Ao P Γ KP c (C.xN env KP c)
 bd: ∀ f,C.bd f=z->∀(args:Array Value) (w:World),(callFunc f args).run P w=.ok (.enter f args) w
theorem vD.at {C:oV}(h:vD P C):D3 P C (λ_=>True):=⟨h.mono,h.HU,λ_ _=>trivial,λΓ _=>h.ok Γ,h.bd⟩
structure Kp (l:List Nat)(t t':List (Option SV)):Prop where
 len:t'.length=t.length
 get: ∀ i,i∉ l->t'[i]?=t[i]?
theorem Kp.refl (l:List Nat)(t:List (Option SV)):Kp l t t:=⟨rfl,λ_ _=>rfl⟩
theorem Kp.trans {l:List Nat}{a b c:List (Option SV)}(h:Kp l a b)(h':Kp l b c):Kp l a c:=⟨h'.len.trans h.len,λi hi=>(h'.get i hi).trans (h.get i hi)⟩
theorem Kp.mono {l l':List Nat}{a b:List (Option SV)}(h:Kp l a b)(hl: ∀ i∈ l,i∈ l'):Kp l' a b:=⟨h.len,λi hi=>h.get i (by grind)⟩
theorem Kp.set {l:List Nat}{t:List (Option SV)}{dst:Option Nat}{u:Option SV}(h: ∀ d,dst=G d->d∈ l):Kp l t (eU t dst u):=by
 cases dst with
 | none=>exact Kp.refl _ _
 | some d=>exact⟨by simp[eU],(by grind [Sx.eU])⟩
section
variable {P : Program} {call : yW-> PT} {C : oV} {env : Env} {bU : B6} {n : Nat}
theorem MH (hm: ∀ f,bC (call f)){ops:Array Oper}{l0:List Nat}(hl0: ∀(j:Nat) o d,ops[j]?=G o->o.dst=G d->d∈ l0){K K':St->VC}{t0:List (Option SV)}
  (hK: ∀ st',Kp l0 t0 st'.tmps->(K st').holds->(K' st').holds): ∀(l:List Nat) (st:St),Kp l0 t0 st.tmps->(xy P call ops l K st).holds->(xy P call ops l K' st).holds
 | [],st,hk,h=>hK st hk h
 | j::r,st,hk,h=>by
   simp only[xy] at h ⊢;cases ho:ops[j]? with
   | none=>rw[ho] at h;exact h.elim
   | some o =>rw[ho] at h;exact fj hm (λu m nx hh=>MH hm hl0 hK r _ (hk.trans (Kp.set λd hd=>hl0 j o d ho hd)) hh) h
theorem AB (hm: ∀ f,bC (call f)){ops:Array Oper}{masks:List Nat}{l0:List Nat}(hl0: ∀(j:Nat) o d,ops[j]?=G o->o.dst=G d->d∈ l0){K K':St->VC}{t0:List (Option SV)}
  (hK: ∀ st',Kp l0 t0 st'.tmps->(K st').holds->(K' st').holds): ∀(n:Nat) (l:List Nat) (rd:List (Nat×Nat)) (st:St),Kp l0 t0 st.tmps->(fA P call ops masks n l rd K st).holds->(fA P call ops masks n l rd K' st).holds
 | n,[],_,st,hk,h=>by rw[xQ] at h ⊢;exact hK st hk h
 | 0,_::_,_,_,_,h=>h.elim
 | n+1,x::r,rd,st,hk,h=>by
   simp only[fA] at h ⊢;split at h
   ·rename_i i _;cases ho:ops[i]? with
    | none=>rw[ho] at h;exact h.elim
    | some o =>rw[ho] at h;exact fj hm (λu m nx hh=>AB hm hl0 hK n _ _ _ (hk.trans (Kp.set λd hd=>hl0 i o d ho hd)) hh) h
   ·refine tG (λj hj=> ?_) h;cases hoj:ops[j]? with
    | none=>rw[hoj] at hj;exact hj.elim
    | some oj =>rw[hoj] at hj;simp only at hj ⊢;refine fj hm (λu m nx hh=> ?_) hj;rw[ny,vI] at hh ⊢;exact⟨hh.1,hh.2.1,AB hm hl0 hK n _ _ _ (hk.trans (Kp.set λd hd=>hl0 j oj d hoj hd)) hh.2.2⟩
theorem apr {call call':yW->PT}(hc: ∀ c args m nx K,(call c args m nx K).holds->(call' c args m nx K).holds){σ:Operand->Option SV}{o:Op}{K:KL}:(lop P call σ m nx o K).holds->(lop P call' σ m nx o K).holds:=by
 cases o
 case call c =>
  show(LJ P call σ c m nx K).holds->(LJ P call' σ c m nx K).holds;unfold LJ;split
  ·grind
  ·grind
  all_goals exact id
 case panic x =>
  show(Ky call (σ x) m nx).holds->(Ky call' (σ x) m nx).holds;unfold Ky
  grind
 all_goals exact id
theorem DT {call call':yW->PT}(hc: ∀ c args m nx K,(call c args m nx K).holds->(call' c args m nx K).holds){j:Nat}{o:Oper}{K:St->VC}(h:(iz P call ops j o K st).holds):(iz P call' ops j o K st).holds:=by grind [apr,iz]
theorem MG {call call':yW->PT}(hm: ∀ f,bC (call f))(hc: ∀ c args m nx K,(call c args m nx K).holds->(call' c args m nx K).holds){ops:Array Oper}{K:St->VC}: ∀(l:List Nat) (st:St),(xy P call ops l K st).holds->(xy P call' ops l K st).holds
 | [],_,h=>h
 | j::r,st,h=>by
   simp only[xy] at h ⊢;cases ho:ops[j]? with
   | none=>rw[ho] at h;exact h.elim
   | some o =>rw[ho] at h;exact DT hc (fj hm (λu m nx hh=>MG hm hc r _ hh) h)
theorem AA {call call':yW->PT}(hm: ∀ f,bC (call f))(hc: ∀ c args m nx K,(call c args m nx K).holds->(call' c args m nx K).holds){ops:Array Oper}{masks:List Nat}{K:St->VC} :
  ∀(n:Nat) (l:List Nat) (rd:List (Nat×Nat)) (st:St),(fA P call ops masks n l rd K st).holds->(fA P call' ops masks n l rd K st).holds
 | n,[],_,st,h=>by rw[xQ] at h ⊢;exact h
 | 0,_::_,_,_,h=>h.elim
 | n+1,x::r,rd,st,h=>by
   simp only[fA] at h ⊢;split at h
   ·rename_i i _;cases ho:ops[i]? with
    | none=>rw[ho] at h;exact h.elim
    | some o =>rw[ho] at h;exact DT hc (fj hm (λu m nx hh=>AA hm hc n _ _ _ hh) h)
   ·refine tG (λj hj=> ?_) h;cases hoj:ops[j]? with
    | none=>rw[hoj] at hj;exact hj.elim
    | some oj =>rw[hoj] at hj;simp only at hj ⊢;refine DT hc (fj hm (λu m nx hh=> ?_) hj);rw[ny,vI] at hh ⊢;exact⟨hh.1,hh.2.1,AA hm hc n _ _ _ hh.2.2⟩
theorem agk {j:Nat}{o:Oper}{d:Nat}(ho:ops[j]?=G o)(hd:o.dst=G d):d∈ ops.toList.filterMap (·.dst) :=(by grind)
theorem Kp.hd {body:Code}{A:aN}{x:A.α}(h:Ck body A st x=z):Kp (written body) st.tmps (Sx.hd body A st x).tmps:=by
 simp only[Ck,ag,List.all_eq_true,List.contains_iff_mem] at h;refine⟨by simp[Sx.hd,uL,yw],λi hi=> ?_⟩
 grind [LO,SC,Sx.hd,hi]
theorem acX {c:Option SV}{t t' f f':VC}(ht:t.holds->t'.holds)(hf:f.holds->f'.holds):(Si c t f).holds->(Si c t' f').holds:=by
 unfold Si;split
 ·grind
 ·grind [dY]
 ·exact id
theorem Jt {l0:List Nat}{f f':XK->St->VC}(hf: ∀(K K':XK) st,(∀ e st',Kp l0 st.tmps st'.tmps->(K e st').holds->(K' e st').holds)->(f K st).holds->(f' K' st).holds): ∀(n:Nat) (K K':XK) (st:St),
  (∀ e st',Kp l0 st.tmps st'.tmps->(K e st').holds->(K' e st').holds)->(GV n f K st).holds->(GV n f' K' st).holds
 | 0,_,_,_,_,h=>h
 | n+1,K,K',st,hK,h=>by
   simp only[GV] at h ⊢;refine hf _ _ st (λe st' hk hh=> ?_) h;cases e with
   | normal=>exact Jt hf n K K' st' (λe st'' hk'=>hK e st'' (hk.trans hk')) hh
   | exit id=>grind
   | ret=>grind
theorem ER (hC: ∀ env,(∀ p∈ env,bC p.2)->∀ KP c,bC (C.xN env KP c))
  (hCP: ∀ env,(∀ p∈ env,bC p.2)->∀ KP KP':PK,(∀ v m nx,(KP v m nx).holds->(KP' v m nx).holds)->∀ c args m nx K,(C.xN env KP c args m nx K).holds->(C.xN env KP' c args m nx K).holds) (he: ∀ p∈ env,bC p.2) :
  ∀(c:Code) (r:Bool) (X X':XP) (_: ∀ v st,(X v st).holds->(X' v st).holds) (K K':XK) (st:St),(∀ e st',Kp (written c) st.tmps st'.tmps->(K e st').holds->(K' e st').holds)->
  (sx P C env bU n c r X K st).holds->(sx P C env bU n c r X' K' st).holds:=by
 have hm:=hC env he;intro c;induction c with
 | skip=>intro r X X' hX K K' st hK h;exact hK _ _ (Kp.refl _ _) h
 | label l=>intro r X X' hX K K' st hK h;exact hK _ _ (Kp.refl _ _) h
 | exit id=>intro r X X' hX K K' st hK h;exact hK _ _ (Kp.refl _ _) h
 | ret=>intro r X X' hX K K' st hK h;exact hK _ _ (Kp.refl _ _) h
 | region id ops d =>
   intro r X X' hX K K' st hK h;simp only[sx] at h ⊢;cases d with
   | true =>
     simp only at h ⊢;unfold draw at h ⊢;simp only at h ⊢;split at h
     ·refine AA (hm _) (hCP env he _ _ λv m nx=>hX _ _) _ _ _ _ ?_;exact AB (hm _) (l0:=ops.toList.filterMap (fun(o:Oper)=>o.dst)) (t0:=st.tmps) (λj o d ho hd=>agk ho hd) (λst' hk=>hK _ st' hk) _ _ _ st (Kp.refl _ _) h
     ·exact h.elim
   | false =>refine MG (hm _) (hCP env he _ _ λv m nx=>hX _ _) _ _ ?_;exact MH (hm _) (l0:=ops.toList.filterMap (fun(o:Oper)=>o.dst)) (t0:=st.tmps) (λj o d ho hd=>agk ho hd) (λst' hk=>hK _ st' hk) _ st (Kp.refl _ _) h
 | seq a b iha ihb =>
   intro r X X' hX K K' st hK h;simp only[sx] at h ⊢;cases hj:VU bU a b st
   ·rw[hj] at h;simp only at h ⊢;refine iha r X X' hX _ _ st (λe st' hk hh=> ?_) h;have hk1:=hk.mono (l':=written (.seq a b)) (λi hi=>by simp only[written,O];exact .inl hi);cases e with
    | normal=>exact ihb r X X' hX _ _ st' (λe st'' hk'=>hK e st'' (hk1.trans (hk'.mono λi hi=>by simp only[written,O];exact .inr hi))) hh
    | exit id=>exact hK _ _ hk1 hh
    | ret=>exact hK _ _ hk1 hh
   ·rename_i L;rw[hj] at h;simp only at h ⊢;refine⟨iha r X X' hX _ _ st (λe st' hk hh=> ?_) h.1,yL (g:=OI L a (sx P C env bU n b r X K) st) (g':=OI L a (sx P C env bU n b r X' K') st) (λt h2=>λx hx=> ?_) h.2⟩
    ·have hk1:=hk.mono (l':=written (.seq a b)) (λi hi=>by simp only[written,O];exact .inl hi);cases e with
     | normal=>exact hh
     | exit id=>exact hK _ _ hk1 hh
     | ret=>exact hK _ _ hk1 hh
    ·have h2:=h2 x hx;cases hok:Ck a (L.A t) st x with
     | false=>rw[hok] at h2;exact h2.elim
     | true =>rw[hok] at h2;have hk1:=(Kp.hd hok).mono (l':=written (.seq a b)) (λi hi=>by simp only[written,O];exact .inl hi);exact ihb r X X' hX _ _ _ (λe st'' hk'=>hK e st'' (hk1.trans (hk'.mono λi hi=>by simp only[written,O];exact .inr hi))) h2
 | cond c a b iha ihb =>
   intro r X X' hX K K' st hK h;simp only[sx] at h ⊢
   exact acX (iha r X X' hX _ _ st λe st' hk=>hK e st' (hk.mono λi hi=>by simp only[written,O];exact .inl hi))
    (ihb r X X' hX _ _ st λe st' hk=>hK e st' (hk.mono λi hi=>by simp only[written,O];exact .inr hi)) h
 | block id body ih =>
   intro r X X' hX K K' st hK h;simp only[sx] at h ⊢;refine ih r X X' hX _ _ st (λe st' hk hh=> ?_) h;cases e with
   | normal=>exact hK _ _ hk hh
   | ret=>exact hK _ _ hk hh
   | exit j =>
     simp only at hh ⊢;split at hh
     ·rename_i e;rw[o_ e];exact hK _ _ hk hh
     ·rename_i e;rw[p_ e];exact hK _ _ hk hh
 | loop body ih =>
   intro r X X' hX K K' st hK h;simp only[sx] at h ⊢;cases ha:amq bU body st with
   | none=>rw[ha] at h;exact Jt (f:=sx P C env bU n body r X) (f':=sx P C env bU n body r X') (ih r X X' hX) n K K' st hK h
   | some A =>
     rw[ha] at h;simp only at h ⊢;refine⟨h.1,yL (g:=W0 A body (sx P C env bU n body r X) K st) (g':=W0 A body (sx P C env bU n body r X') K' st) (λt h2=>λx hx=> ?_) h.2⟩;have h2:=h2 x hx;cases hok:Ck body (A.A t) st x with
     | false=>rw[hok] at h2;exact h2.elim
     | true =>
       rw[hok] at h2;refine ih r X X' hX _ _ _ (λe st1 hk hh=> ?_) h2;cases e with
       | normal=>exact hh
       | exit id=>exact hK _ _ ((Kp.hd hok).trans hk) hh
       | ret=>exact hK _ _ ((Kp.hd hok).trans hk) hh
 | rangeFunc g ps a b iha ihb =>
   intro r X X' hX K K' st hK h;cases r with
   | true=>exact h
   | false =>
     simp only[sx] at h ⊢;split at h
     ·split at h
      ·intro R;refine hC _ (λp hp=> ?_) _ _ _ _ _ _ _ (λv m nx hh=> ?_) (h R)
       ·rcases T.1 hp with e | hp
        ·subst e;exact JF (λK K' st hK=>iha z Ws Ws (λ_ _ h=>h) K K' st λe st' _=>hK e st') (λK K' st hK=>ihb z Ws Ws (λ_ _ h=>h) K K' st λe st' _=>hK e st')
        ·exact he p hp
       ·unfold Qt at hh ⊢;split at hh
        ·exact hK _ _ (Kp.refl _ _) hh
        ·exact hK _ _ (Kp.refl _ _) hh
        ·exact hK _ _ (Kp.refl _ _) hh
        ·exact hh
      ·exact h
     ·exact h
 | scope b ih=>intro r X X' hX K K' st hK h;simp only[sx] at h ⊢;exact ih r X X' hX K K' st hK h
 | goto l=>intro r X X' hX K K' st hK h;exact h
 | refuse w=>intro r X X' hX K K' st hK h;exact h
theorem X6 {E:Nat->Nat}(ht:gj E st.tmps a){c:Operand}{t f:VC}(h:(Si (ev st.tmps c) t f).holds): ∃ b,a.eval c=.bool b/\(if b then t else f).holds:=by
 unfold Si at h;split at h
 ·rename_i b hb;have:=ht.reads _ _ hb;refine⟨b,by rw[this];rfl,?_⟩
  grind
 ·rename_i b hb;have:=ht.reads _ _ hb;rw[dY] at h;refine⟨b,by rw[this];rfl,?_⟩
  grind
 ·exact h.elim
theorem aiT {X:XP}{K:XK}{E:Nat->Nat}(hwt:iA st.nx st.tmps=z): ∀ e a w,gj E (unsure ops st.tmps) a->xH (λv m nx=>X v ⟨unsure ops st.tmps,m,nx⟩) Γ E st.nx e a w->tF K X Γ E st.nx e a w:=by rintro e a w ht ⟨ch,rfl,hd,E',v,m',nx',h1,h2,rfl,h4,h5,h6⟩;exact .inr ⟨v,E',_,rfl,h4,h1,h2,⟨ht.congr (UR hwt) h1,qY h2 (UR hwt),hd,h5⟩,h6⟩
theorem Ju {body:Code}{f:XK->St->VC}{X:XP}{Γ:b5}{ro:Option Nat}
  (hf: ∀(K:XK) st E a w,(f K st).holds->Sat Γ E st a w->body.wpIn (Fr ro) 0 P (tF K X Γ E st.nx) a w): ∀(n:Nat) (K:XK) (st:St) (E:Nat->Nat) (a:Act) (w:World),
  (GV n f K st).holds->Sat Γ E st a w->∀(b:Frame) (k:List Item) (cs:List Frame),b.roundOf=(Fr ro).round->(Fr ro).fn b.fn->(Fr ro).room (cs.length+1+0)->∃ e a' w',tF K X Γ E st.nx e a' w'/\ArrivesIn (Machine.fenced P (Fr ro)) P (lone (b.atR a (.code body::.inLoop body::k)) cs w) b k cs e a' w'
 | 0,_,_,_,_,_,h,_,_,_,_,_,_,_=>h.elim
 | n+1,K,st,E,a,w,h,hs,b,k,cs,hro,hb,hr=>by
   simp only[GV] at h;obtain⟨e,a1,w1,hq,harr⟩:=hf _ st E a w h hs b (.inLoop body::k) cs hro hb hr;rcases hq with ⟨ex,rfl,E1,st1,g1,g2,g3,g4⟩ | hp
   rotate_left
   ·have hp':=hp;obtain⟨v,E1,st1,rfl,_⟩:=hp';exact⟨_,a1,w1,.inr hp,.pass (x:=.inLoop body) rfl (by grind) harr⟩
   cases ex with
   | normal =>obtain⟨e2,a2,w2,hq2,harr2⟩:=Ju hf n K st1 E1 a1 w1 g4 g3 b k cs hro hb hr;exact⟨e2,a2,w2,hq2.weaken g1 g2,.of_steps (StepsIn.trans harr (.one (fenced_calm hb hr rfl) stepR_inLoop)) harr2⟩
   | exit id=>exact⟨_,a1,w1,.inl (by grind [Sx.qn]),.pass (x:=.inLoop body) rfl (by grind [Ex.to]) harr⟩
   | ret=>exact⟨_,a1,w1,.inl (by grind [Sx.qn]),.pass (x:=.inLoop body) rfl (by grind [Ex.to]) harr⟩
theorem afi {S:b5->Prop}(hmix:P.follows .mixedOrders=z)(hC:D3 P C S)(hem: ∀ p∈ env,bC p.2): ∀(c:Code) (r:Bool) (ro:Option Nat),(r=H->ro=I)->∀(Γ:b5),S Γ->(r=H->Γ.rf=z)->(∀ p∈ env,∀ KP,Ao P Γ KP (.yield p.1) p.2)->
  ∀(X:XP) (K:XK) (st:St) (E:Nat->Nat) (a:Act) (w:World),
  (sx P C env bU n c r X K st).holds->Sat Γ E st a w->c.wpIn (Fr ro) 0 P (tF K X Γ E st.nx) a w:=by
 have hm:=hC.mono env hem;intro c;induction c with
 | skip=>intro r ro hrr Γ hS hrf hek X K st E a w h hs;exact wpIn_skip (.inl ⟨.normal,rfl,E,st,λ_ _=>rfl,V _,hs,h⟩)
 | label l=>intro r ro hrr Γ hS hrf hek X K st E a w h hs;exact wpIn_label (.inl ⟨.normal,rfl,E,st,λ_ _=>rfl,V _,hs,h⟩)
 | exit id=>intro r ro hrr Γ hS hrf hek X K st E a w h hs;exact wpIn_exit (.inl ⟨.exit id,rfl,E,st,λ_ _=>rfl,V _,hs,h⟩)
 | ret=>intro r ro hrr Γ hS hrf hek X K st E a w h hs;exact wpIn_ret (.inl ⟨.ret,rfl,E,st,λ_ _=>rfl,V _,hs,h⟩)
 | region id ops d =>
   intro r ro hrr Γ hS hrf hek X K st E a w h hs;simp only[sx] at h;cases d with
   | true=>exact ac3 hmix (hm _) (hC.ok Γ hS env hem hek _) h hs (aiT hs.wt) λa w hb=>.inl ⟨.normal,rfl,hb⟩
   | false=>exact wpIn_region (Jb (hC.ok Γ hS env hem hek _) hs.wt (aiT hs.wt) _ h hs hs.tm.unsure (λ_ _=>rfl) (V _) λa w hb=>.inl ⟨.normal,rfl,hb⟩)
 | seq x y ihx ihy =>
   intro r ro hrr Γ hS hrf hek X K st E a w h hs;simp only[sx] at h;cases hj:VU bU x y st
   ·rw[hj] at h;simp only at h;refine wpIn_seq (wpIn_mono (ihx r ro hrr Γ hS hrf hek X _ st E a w h hs) ?_);rintro e a1 w1 (⟨ex,rfl,E1,st1,g1,g2,g3,g4⟩ | hp)
    rotate_left
    ·have hp':=hp;obtain⟨v,E1,st1,rfl,_⟩:=hp';exact .inr hp
    cases ex with
    | normal=>exact wpIn_mono (ihy r ro hrr Γ hS hrf hek X K st1 E1 a1 w1 g4 g3) λe a2 w2 hb=>hb.weaken g1 g2
    | exit id=>exact .inl ⟨.exit id,rfl,E1,st1,g1,g2,g3,g4⟩
    | ret=>exact .inl ⟨.ret,rfl,E1,st1,g1,g2,g3,g4⟩
   ·rename_i L;rw[hj] at h;simp only at h;obtain⟨h1,h2⟩:=h
    have hx:=ER hC.mono hC.HU hem x r X X (λ_ _ h=>h) _ (λe st1=>.and (.atom (Kp (written x) st.tmps st1.tmps)) (match e with
     | .normal=>entry L x st st1
     | e=>K e st1)) st (λe st1 hk hh=>⟨hk,by cases e<;>exact hh⟩) h1
    refine wpIn_seq (wpIn_mono (ihx r ro hrr Γ hS hrf hek X _ st E a w hx hs) ?_);rintro e a1 w1 (⟨ex,rfl,E1,st1,g1,g2,g3,hkp,g4⟩ | hp)
    rotate_left
    ·have hp':=hp;obtain⟨v,E1,st1,rfl,_⟩:=hp';exact .inr hp
    have hkp:Kp (written x) st.tmps st1.tmps:=hkp;cases ex with
    | normal =>
      have g4:(entry L x st st1).holds:=g4;unfold entry at g4;obtain⟨ht,y0,hy0,hat⟩:=x3 g4;obtain⟨E',q1,q2⟩:=Ar hat hs.mm.cx.1 hs.wt hkp.get hkp.len g3;have hr:=Ba h2 _ ht y0 hy0;have hok:Ck x (L.A (L.tag st1)) st y0=true:=by
       unfold F5 at hat;split at hat
       ·rename_i h';exact h'
       ·exact hat.elim
      rw[hok] at hr;exact wpIn_mono (ihy r ro hrr Γ hS hrf hek X K _ E' a1 w1 hr q2) λe a2 w2 hb=>hb.weaken (λk hk=>(q1 k hk).trans (g1 k hk)) (a_ _ _)
    | exit id=>exact .inl ⟨.exit id,rfl,E1,st1,g1,g2,g3,g4⟩
    | ret=>exact .inl ⟨.ret,rfl,E1,st1,g1,g2,g3,g4⟩
 | cond c x y ihx ihy =>
   intro r ro hrr Γ hS hrf hek X K st E a w h hs;simp only[sx] at h;obtain⟨b,hb,hk⟩:=X6 hs.tm h;refine wpIn_cond hb ?_;cases b
   ·exact ihy r ro hrr Γ hS hrf hek X K st E a w hk hs
   ·exact ihx r ro hrr Γ hS hrf hek X K st E a w hk hs
 | block id body ih =>
   intro r ro hrr Γ hS hrf hek X K st E a w h hs;simp only[sx] at h;refine wpIn_block (wpIn_mono (ih r ro hrr Γ hS hrf hek X _ st E a w h hs) ?_);rintro e a1 w1 (⟨ex,rfl,E1,st1,g1,g2,g3,g4⟩ | hp)
   rotate_left
   ·have hp':=hp;obtain⟨v,E1,st1,rfl,_⟩:=hp';exact .inr hp
   cases ex with
   | normal=>exact .inl ⟨.normal,rfl,E1,st1,g1,g2,g3,g4⟩
   | ret=>exact .inl ⟨.ret,rfl,E1,st1,g1,g2,g3,g4⟩
   | exit j =>
     simp only[Ex.to,Exit.inBlock];simp only at g4;split
     ·rename_i e;rw[o_ e] at g4;exact .inl ⟨.normal,rfl,E1,st1,g1,g2,g3,g4⟩
     ·rename_i e;rw[p_ e] at g4;exact .inl ⟨.exit j,rfl,E1,st1,g1,g2,g3,g4⟩
 | loop body ih =>
   intro r ro hrr Γ hS hrf hek X K st E a w h hs;simp only[sx] at h;cases ha:amq bU body st with
   | none =>rw[ha] at h;intro b k cs hro hb hr;obtain⟨e,a',w',hq,harr⟩:=Ju (λK st E a w h hs=>ih r ro hrr Γ hS hrf hek X K st E a w h hs) n K st E a w h hs b k cs hro hb hr;exact⟨e,a',w',hq,.of_steps (.one (fenced_calm hb hr rfl) stepR_loop) harr⟩
   | some L =>
     rw[ha] at h;simp only at h;obtain⟨hent,hrounds⟩:=h;have hent:(entry L body st st).holds:=hent;let Inv:=fun(t:Nat) (x:(L.A t).α) (a:Act) (w:World)=>t∈ L.tags/\(L.A t).pre st x/\Ck body (L.A t) st x=z/\∃ E',(∀ k,k<st.nx->E' k=E k)/\Sat Γ E' (hd body (L.A t) st x) a w;have hok: ∀ {A:aN} {y:A.α} {st1},(F5 body A st y st1).holds->Ck body A st y=true:=by
      intro A y st1 h;unfold F5 at h;split at h
      ·rename_i h';exact h'
      ·exact h.elim
     have hent2: ∃ t x,Inv t x a w:=by unfold entry at hent;obtain⟨ht,x0,hx0,hat0⟩:=x3 hent;obtain⟨E',g1,g2⟩:=Ar hat0 hs.mm.cx.1 hs.wt (λi _=>rfl) rfl hs;exact⟨L.tag st,x0,ht,hx0,hok hat0,E',g1,g2⟩
     obtain⟨t0,x0,hinv0⟩:=hent2;intro b k cs hro hb hr;have key: ∀(N:Nat) (t:Nat) (x:(L.A t).α) a w,(L.A t).nF st x=N->Inv t x a w->∃ e a' w',tF K X Γ E st.nx e a' w'/\ArrivesIn (Machine.fenced P (Fr ro)) P (lone (b.atR a (.code body::.inLoop body::k)) cs w) b k cs e a' w':=by
      intro N;induction N using Nat.strongRecOn with
      | _ N ihN =>
        intro t x a w hN ⟨ht,hx,hokx,E1,hE1,hs1⟩;have hrd:=Ba hrounds t ht x hx;rw[hokx] at hrd
        have hr2:=ER hC.mono hC.HU hem body r X X (λ_ _ h=>h) _ (λe st1=>.and (.atom (Kp (written body) (hd body (L.A t) st x).tmps st1.tmps)) (match e with
         | .normal=>U7 L body st ((L.A t).nF st x) st1
         | e=>K e st1)) (hd body (L.A t) st x) (λe st1 hk hh=>⟨hk,by cases e<;>exact hh⟩) hrd
        obtain⟨e,a1,w1,hq,harr⟩:=ih r ro hrr Γ hS hrf hek X _ _ E1 a w hr2 hs1 b (.inLoop body::k) cs hro hb hr;rcases hq with ⟨ex,rfl,E2,st1,g1,g2,g3,g4⟩ | hp
        rotate_left
        ·have hp':=hp.weaken (nx:=st.nx) (E:=E) hE1 (a_ _ _);have hp2:=hp;obtain⟨v,E2,st1,rfl,_⟩:=hp2;exact⟨_,a1,w1,.inr hp',.pass (x:=.inLoop body) rfl (λ_ _=>.inl (by simp)) harr⟩
        have hE2: ∀ k,k<st.nx->E2 k=E k:=λk hk=>(g1 k (cB hk (a_ _ _))).trans (hE1 k hk);have hn2:st.nx<=st1.nx:=bf (a_ _ _) g2;obtain⟨hkp,g4⟩:=g4;have hkp:Kp (written body) (hd body (L.A t) st x).tmps st1.tmps:=hkp;cases ex with
        | normal =>
          have g4:(U7 L body st ((L.A t).nF st x) st1).holds:=g4;unfold U7 at g4;obtain⟨ht1,y,⟨hy,hlt⟩,hat⟩:=x3 g4;have hkp2:=(Kp.hd hokx).trans hkp;obtain⟨E3,q1,q2⟩:=Ar hat hs.mm.cx.1 hs.wt hkp2.get hkp2.len g3;have hinv:Inv (L.tag st1) y a1 w1:=⟨ht1,hy,hok hat,E3,λk hk=>(q1 k hk).trans (hE2 k hk),q2⟩
          obtain⟨e2,a2,w2,hq2,harr2⟩:=ihN ((L.A (L.tag st1)).nF st y) (hN▸ hlt) (L.tag st1) y a1 w1 rfl hinv;exact⟨e2,a2,w2,hq2,.of_steps (StepsIn.trans harr (.one (fenced_calm hb hr rfl) stepR_inLoop)) harr2⟩
        | exit id=>exact⟨_,a1,w1,.inl ⟨.exit id,rfl,E2,st1,hE2,hn2,g3,g4⟩,.pass (x:=.inLoop body) rfl (λ_ _=>.inl (by simp[Ex.to])) harr⟩
        | ret=>exact⟨_,a1,w1,.inl ⟨.ret,rfl,E2,st1,hE2,hn2,g3,g4⟩,.pass (x:=.inLoop body) rfl (λ_ _=>.inl (by simp[Ex.to])) harr⟩
     obtain⟨e,a',w',hq,harr⟩:=key _ t0 x0 a w rfl hinv0;exact⟨e,a',w',hq,.of_steps (.one (fenced_calm hb hr rfl) stepR_loop) harr⟩
 | rangeFunc g ps assign body iha ihb =>
   intro r ro hrr Γ hS hrf hek X K st E a w h hs;cases r with
   | true=>exact h.elim
   | false =>
     have hro:=hrr rfl;subst hro;simp only[sx] at h;split at h
     ·rename_i f first captured hg hwf
      split at h
      ·rename_i hbd;refine wpIn_rangeFunc λfn _=> ?_;have hgv:a.eval g=(SV.func (.func f) first captured).val E:=hs.tm.reads _ _ hg
       have hgw:=gj.wf hs.wt _ _ hg;simp only[SV.wf,ag] at hgw;obtain⟨Ds,d1,d2,d3,d4⟩:=hs.df;obtain⟨Δ,hle,hkeep,hnx,hE0,hsm⟩:=hs.mm.enter hwf (R:={state:=.ready,pending:=I,fn,tmps:=a.tmps,params:=ps,assign,body,defers:=w.heap.size}) rfl rfl (λD hD=>(d3 D hD).1);have hEk: ∀ k,k<st.nx->Δ.E0 k=E k:=λk hk=>by rw[hE0];simp[Nat.ne_of_lt hk]
       have hEn:Δ.E0 st.nx=w.heap.size+1:=by rw[hE0];simp
       generalize hw1:(w.alloc (Obj.deferred (G []))).alloc (.loop {state:=.ready,pending:=I,fn,tmps:=a.tmps,params:=ps,assign,body,defers:=w.heap.size})=w1 at hsm
       refine⟨w.heap.size+1,[O5 w.heap.size],w1,{target:=.fn (.func f) (SV.vals Δ.E0 captured).toArray,args:=(SV.vals Δ.E0 (first++[.yield st.nx])).toArray},w1,f,
        (SV.vals Δ.E0 (first++[.yield st.nx]++captured)).toArray,w1,by rw[← hw1];exact run_enterLoop_outer _ _ _ _ _,?_,λ_ _=>trivial,?_,λh=>(by cases h),?_⟩
       ·have hc1:SV.vals Δ.E0 captured=SV.vals E captured:=SV.oU hEk captured hgw.2;have hc2:SV.vals Δ.E0 first=SV.vals E first:=SV.oU hEk first hgw.1
        simp only[resolve,hgv,SV.val,Deferred.ofValue,Z];rw[ym,hc1,hc2];simp[SV.vals,SV.val,hEn,Act.eval]
       ·simp only[invoke];have:=hC.bd f hbd (SV.vals Δ.E0 (first++[.yield st.nx]++captured)).toArray w1
        rw[show(SV.vals Δ.E0 (first++[SV.yield st.nx])).toArray++(SV.vals Δ.E0 captured).toArray=(SV.vals Δ.E0 (first++[.yield st.nx]++captured)).toArray by rw[ym Δ.E0 (first++[SV.yield st.nx]) captured];simp only[List.append_toArray]]
        exact this
       ·refine NZ.2 ?_;have hek2: ∀ p∈ (st.nx,Br st.nx {state:=.ready,pending:=I,fn,tmps:=a.tmps,params:=ps,assign,body,defers:=w.heap.size} ps.toList st.tmps (sx P C env bU n assign z Ws) (sx P C env bU n body z Ws))::env,∀ KP,Ao P Δ KP (.yield p.1) p.2:=by
         intro p hp KP;rcases T.1 hp with e | hp
         ·subst e
          exact afI (Γ:=Δ) (R:={state:=.ready,pending:=I,fn,tmps:=a.tmps,params:=ps,assign,body,defers:=w.heap.size}) (by omega) hEn hEk ⟨hs.tm.size,hs.tm.val⟩ hs.wt
           (λΘ hΘ K st E a w h hs=>iha z _ (λh=>by cases h) Θ (hC.up hS (b5.le_trans hle hΘ)) (λh=>by cases h) (λp hp KP=>(hek p hp KP).mono (b5.le_trans hle hΘ)) Ws K st E a w h hs)
           (λΘ hΘ K st E a w h hs=>ihb z _ (λh=>by cases h) Θ (hC.up hS (b5.le_trans hle hΘ)) (λh=>by cases h) (λp hp KP=>(hek p hp KP).mono (b5.le_trans hle hΘ)) Ws K st E a w h hs) KP
         ·exact(hek p hp KP).mono hle
        have hem2: ∀ p∈ (st.nx,Br st.nx {state:=.ready,pending:=I,fn,tmps:=a.tmps,params:=ps,assign,body,defers:=w.heap.size} ps.toList st.tmps (sx P C env bU n assign z Ws) (sx P C env bU n body z Ws))::env,bC p.2:=by
         intro p hp;rcases T.1 hp with e | hp
         ·subst e;exact JF (λK K' st hK=>ER hC.mono hC.HU hem assign z Ws Ws (λ_ _ h=>h) K K' st λe st' _=>hK e st') (λK K' st hK=>ER hC.mono hC.HU hem body z Ws Ws (λ_ _ h=>h) K K' st λe st' _=>hK e st')
         ·exact hem p hp
        have hcall:=hC.ok Δ (hC.up hS hle) _ hem2 hek2 Ny (.fn f) Δ Δ.le_refl _ _ _ _ (h _) (by
          simp only[Mem.wf,ag];exact⟨rfl,Mem.pz (a! _) hwf⟩) (by
          refine kS (kS (SV.qj (a! _) _ hgw.1) ?_) (SV.qj (a! _) _ hgw.2);simp[SV.lY,SV.wf]) _ _ hsm
        simp only[yW.sem] at hcall;rw[hC.bd f hbd] at hcall;refine Calls.mono hcall ?_;rintro e w3 (⟨v,rfl,haft⟩ | ⟨ch,_,_,_,_,_,_,_,_,_,_,hno⟩)
        rotate_left
        ·exact hno.elim
        obtain⟨E3,sv,m3,nx3,q1,q2,_,q4,q5⟩:=haft;have hEe: ∀ k,k<st.nx->E3 k=E k:=λk hk=>(q1 k (Nat.lt_succ_of_lt hk)).trans (hEk k hk);have hEl:E3 st.nx=w.heap.size+1:=(q1 st.nx (Nat.lt_succ_self _)).trans hEn;have hnn:st.nx<=nx3:=bf (a! _) q2;cases sv with
        | none=>exact q5.elim
        | some u =>
          simp only[lift] at q5
          have fin: ∀ stt pe R3,m3.get st.nx=G (.loop stt pe R3)->stt≠.busy->∃ w4,(Instr.endLoop (w.heap.size+1)).run P w3=.ok pe w4/\
            Sat Γ E3 ⟨st.tmps,m3.drop st.nx,nx3⟩ {a with defers:=[O5 w.heap.size]++a.defers} w4:=by
           intro stt pe R3 hk hb;obtain⟨o,ho,hbk⟩:=q4.yZ st.nx _ hk rfl;have hbk:o=.loop {R3 with state:=stt,pending:=pe}:=hbk;subst hbk;rw[hEl] at ho;refine⟨_,run_endLoop ho hb,?_⟩;have hl:=q4.leave (st':=.exhausted) (pe':=pe) hk;rw[hEl] at hl;refine⟨⟨hs.tm.size,λi v hv=>(hs.tm.congr hs.wt hEe).val i v hv⟩,qY hnn hs.wt,?_,hl.weaken hle⟩;refine⟨w.heap.size::Ds,by simp[d1],?_,λD hD=> ?_,λhno=>by rw[hrf rfl] at hno;cases hno⟩
           ·refine ct.2 ⟨λhm=> ?_,d2⟩;have:=(J.1 (d3 _ hm).1).1;omega
           ·refine⟨hl.kp D (hkeep D (by rcases T.1 hD with e | e;subst e;simp;simp[e])),?_⟩;rcases T.1 hD with e | e
            ·subst e;refine⟨λhm=> ?_,hs.mm.ext.size⟩;have:=(J.1 (hs.mm.kp _ hm)).1;omega
            ·exact(d3 D e).2
          unfold Qt at q5;split at q5
          ·rename_i R3 hk;obtain⟨w4,hw4,hsat⟩:=fin _ _ _ hk (by simp);exact⟨_,w4,hw4,.inl ⟨.normal,rfl,E3,_,hEe,hnn,hsat,q5⟩⟩
          ·rename_i R3 hk;obtain⟨w4,hw4,hsat⟩:=fin _ _ _ hk (by simp);exact⟨_,w4,hw4,wpIn_ret (.inl ⟨.ret,rfl,E3,_,hEe,hnn,hsat,q5⟩)⟩
          ·rename_i id R3 hk;obtain⟨w4,hw4,hsat⟩:=fin _ _ _ hk (by simp);exact⟨_,w4,hw4,wpIn_exit (.inl ⟨.exit id,rfl,E3,_,hEe,hnn,hsat,q5⟩)⟩
          ·exact q5.elim
      ·exact h.elim
     ·exact h.elim
 | scope b ih =>
   intro r ro hrr Γ hS hrf hek X K st E a w h hs;simp only[sx] at h;refine Fc (wpIn_mono (ih r ro hrr Γ hS hrf hek X K st E a w h hs) ?_);rintro e a1 w1 (⟨ex,rfl,hb⟩ | hp)
   rotate_left
   ·have hp':=hp;obtain⟨v,E1,st1,rfl,_⟩:=hp';exact .inr hp
   cases ex<;>exact .inl ⟨_,rfl,hb⟩
 | goto l=>intro r ro hrr Γ hS hrf hek X K st E a w h;exact h.elim
 | refuse w=>intro r ro hrr Γ hS hrf hek X K st E a w h;exact h.elim
end
def ae1 (P:Program)(st:St):ResultVar->Option SV
 | .tmp t=>slot st.tmps t
 | .cell a t=>(match slot st.tmps a with
   | some (.ptr key z o)=>(match st.m.get key with
     | some (.cells cs _ _)=>partOf P t cs o
     | _=>I)
   | _=>I)
def xp (P:Program)(st:St):List ResultVar->Option (List SV)
 | []=>G []
 | r::rs=>match ae1 P st r,xp P st rs with
   | some v,G l=>G (v::l)
   | _,_=>I
def QE:List SV->SV
 | [v]=>v
 | l=>.dr l
def aCm (nx:Nat)(KP:PK):XP:=λv st=>I7 nx v st.m st.nx KP
def lZ (P:Program)(C:oV)(env:Env)(KP:PK)(bU:B6)(n:Nat)(fn:Func):PT:=λargs m nx K =>
 match fn.body with
 | some body=>sx P C env bU n body H (aCm nx KP) (λe st=>match e with
    | .exit _=>.fail "a jump out of a function"
    | _=>(match xp P st fn.results.toList with
      | some vs=>ar9 (Nat.ble 1000 n) nx (QE vs) st.m st.nx K
      | none=>.fail "a result that is not known"))
    ⟨args.map G++cy (fn.ntmps-args.length) I,m,nx⟩
 | none=>.fail "a function without a body"
structure iG where
 cO:FuncId->Option PT
 fns:FuncId->Option Func
 bU:FuncId->B6
 rounds:Nat
 iter:FuncId->Option (Env->PT):=λ_=>I
def iG.bd (cfg:iG)(f:FuncId):Bool:=match cfg.fns f with
 | some fn=>fn.body.isSome
 | none=>H
def raise (KP:PK):PT:=λargs m nx _=>match args with
 | [.iface t v]=>(match v.wf nx with
   | true=>KP (.iface t v) m nx
   | false=>.fail "a key out of bounds")
 | _=>.fail "a panic of what"
def nD (P:Program)(cfg:iG):Nat->Env->PK->yW->PT
 | _,env,_,.yield k=>(match env.find k with
   | some pt=>pt
   | none=>λ_ _ _ _=>.fail "a yield that is not known")
 | _,_,KP,.panic=>raise KP
 | 0,_,_,.fn _=>λ_ _ _ _=>.fail "calls too deep"
 | n+1,env,KP,.fn f=>match cfg.cO f with
   | some pt=>pt
   | none=>(match cfg.iter f with
     | some g=>g env
     | none=>(match cfg.fns f with
       | some fn=>lZ P ⟨nD P cfg n,cfg.bd⟩ env KP (cfg.bU f) cfg.rounds fn
       | none=>λ_ _ _ _=>.fail "a function that is not known"))
def calling (P:Program)(cfg:iG)(n:Nat):oV:=⟨nD P cfg n,cfg.bd⟩
structure UY (P:Program)(f:FuncId)(g:Env->PT):Prop where
 mono: ∀ env,(∀ p∈ env,bC p.2)->bC (g env)
 ok: ∀(Γ:b5) env,(∀ p∈ env,bC p.2)->(∀ p∈ env,∀ KP,Ao P Γ KP (.yield p.1) p.2)->∀ KP,Ao P Γ KP (.fn f) (g env)
structure Good (P:Program)(cfg:iG):Prop where
 mix:P.follows .mixedOrders=z
 cO: ∀ f pt,cfg.cO f=G pt->aq P f pt/\bC pt
 fns: ∀ f fn,cfg.fns f=G fn->P.funcs[f]?=G fn/\(fn.name== "runtime.NumGoroutine")=H
 iter: ∀ f g,cfg.iter f=G g->UY P f g
theorem Good.of {cfg:iG}(mix:P.follows .mixedOrders=z)(cO: ∀ f pt,cfg.cO f=G pt->aq P f pt/\bC pt) (fns: ∀ f fn,cfg.fns f=G fn->P.funcs[f]?=G fn/\(fn.name== "runtime.NumGoroutine")=H)
  (iter: ∀ f g,cfg.iter f=G g->UY P f g:=by intro f g h;cases h):Good P cfg:=⟨mix,cO,fns,iter⟩
section
variable {P : Program}
theorem ae2 {E:Nat->Nat}(htm:gj E st.tmps a)(hmm:bp Γ E st.m st.nx w){r:ResultVar}{v:SV}(h:ae1 P st r=G v) :
  (match r with
    | .tmp t=>(pure (a.tmps.getD t undef):Sem Value)
    | .cell b t=>do loadVar t (← asAddr (a.tmps.getD b undef))).run P w=.ok (v.val E) w:=by
 cases r with
 | tmp t =>have:=htm.val t v (yf h);simp[bn,this]
 | cell b t =>
   simp only[ae1] at h;split at h
   ·rename_i key o hb;split at h
    ·rename_i cs tot ty hk;have hv:=htm.val b _ (yf hb);obtain⟨ob,ho,c,fr,rfl,_,h2,_⟩:=hmm.yZ key _ hk rfl;simp only[bn,hv,Option.getD_some,SV.val,asAddr,Y,Z,W];unfold partOf at h;split at h
     ·cases h
     ·rename_i d hd;split at h
      ·rename_i ha;split at h
       ·rename_i n hn;split at h
        ·rename_i l hl;injection h with h;subst h;have hg:=fY hl;have hll:=run_loadCells (P:=P) ho o (l.map (SV.val E)) (λj v hj=>by
          rw[ay] at hj;cases hjl:l[j]? with
          | none=>rw[hjl] at hj;cases hj
          | some u=>rw[hjl] at hj;injection hj with hj;subst hj;exact h2 _ _ (hg.2 j u hjl))
         rw[cj,hg.1] at hll;simp only[loadVar,Y,fK hd,ha,W,if_true,dV hn,hll,Z,SV.cF,SV.val]
        ·cases h
       ·cases h
      ·rename_i ha;simp only[loadVar,Y,fK hd,ha,W,Bool.false_eq_true,if_false,run_load,cell_of ho,h2 _ _ h]
    ·cases h
   ·cases h
theorem QD {Γ:b5}{E:Nat->Nat}{st:St}{a:Act}{w:World}(htm:gj E st.tmps a)(hmm:bp Γ E st.m st.nx w): ∀ {rs:List ResultVar} {l:List SV},xp P st rs=G l->
  (rs.mapM (λr=>match r with
    | .tmp t=>(pure (a.tmps.getD t undef):Sem Value)
    | .cell b t=>do loadVar t (← asAddr (a.tmps.getD b undef))):Sem (List Value)).run P w=.ok (SV.vals E l) w
 | [],l,h=>by simp[xp] at h;subst h;simp[SV.vals]
 | r::rs,l,h=>by
   simp only[xp] at h;split at h
   ·rename_i v l' hv hl;injection h with h;subst h;simp only[List.mapM_cons,Y,ae2 htm hmm hv,W,QD htm hmm hl,Z,SV.vals]
   ·cases h
theorem abe {E:Nat->Nat}(htm:gj E st.tmps a)(hmm:bp Γ E st.m st.nx w){vs:List SV}(h:xp P st fn.results.toList=G vs) :
  (results fn a.tmps).run P w=.ok ((QE vs).val E) w:=by
 have:=QD (P:=P) htm hmm h;unfold results;rw[Array.mapM_eq_mapM_toList];simp only[Y,Sem.run_map];have key: ∀ r:Result (List Value),r=.ok (SV.vals E vs) w->((r.andThen λa w'=>bW a.toArray w').andThen λa w'=>Sem.run P (pure (if h:a.size=1 then a[0] else Value.tuple a)) w')=bW ((QE vs).val E) w:=by
  rintro r rfl;simp only[W,Z];congr 1
  match vs with
  | []=>rfl
  | [v]=>rfl
  | _::_::_=>simp[SV.vals,QE,SV.val]
 exact key _ this
theorem vo (hf:P.funcs[f]?=G fn) (hn:(fn.name== "runtime.NumGoroutine")=H) {body:Code} (hb:fn.body=G body) (args:Array Value) (w:World) :
  (callFunc f args).run P w=.ok (.enter f args) w:=by
 simp only[callFunc,Y,run_program,W,hf,hn,hb];rfl
theorem bp.shut {E:Nat->Nat}(h:bp Γ E m nx w){D:Nat}{ds:Option (List Deferred)}(hd:w.heap[D]?=G (.deferred ds))(hk:D∉ Γ.keep)(hD:Γ.w0.heap.size<=D)(o:Obj) :
  bp Γ E m nx (w.putObj D o):=by
 refine⟨λk B a hm hn=> ?_,h.qq,h.lt,h.rq,⟨h.ext.os,h.ext.tape,h.ext.output,by simpa using h.ext.size,λk hk' hm=> ?_⟩,h.cx,λD' hD'=> ?_⟩
 ·obtain⟨o',ho,hb⟩:=h.p7 k B a hm hn;refine⟨o',?_,hb⟩;rw[an (λe=> ?_)]
  ·exact ho
  ·rw[e,hd] at ho;injection ho with ho;exact hb.tZ _ ho.symm
 ·rw[an (by omega)];exact h.ext.block k hk' hm
 ·rw[an (λe=>hk (by rw[← e];exact hD'))];exact h.kp D' hD'
theorem yz {fn:Func}{Γ:b5}{E:Nat->Nat}{m:Mem}{nx:Nat}{tmps:Array Value}{R:Ending->World->Prop}{u:FrameMode}(hu:u≠.run)
  (fin: ∀ w,bp Γ E m nx w->LeavesInM Fence.wide 0 P fn tmps R [] u w): ∀(Ds:List Nat) (w:World),Ds.Nodup->
  (∀ D∈ Ds,w.heap[D]?=G (.deferred (G []))/\D∉ Γ.keep/\Γ.w0.heap.size<=D)->bp Γ E m nx w->LeavesInM Fence.wide 0 P fn tmps R (Ds.map O5) u w
 | [],w,_,_,hm=>fin w hm
 | D::Ds,w,hnd,hD,hm=>by obtain⟨h1,h2,h3⟩:=hD D (by simp);rw[ct] at hnd;refine⟨hu,.inl ⟨D,_,rfl,run_takeDeferred h1,yz hu fin Ds _ hnd.2 (λD' hD'=> ?_) (hm.shut h1 h2 h3 _)⟩⟩;obtain⟨g1,g2⟩:=hD D' (by simp[hD']);exact⟨by rw[an (λe=>hnd.1 (by rw[← e];exact hD'))];exact g1,g2⟩
theorem abf {v:SV}{m':Mem}{nx':Nat}{E E':Nat->Nat}(h:(I7 nx v m' nx' KP).holds)(hv:v.wf nx'=z)(hs:bp Γ E' m' nx' w)
  (hg:Γ.E9<=nx) (hE: ∀ k,k<nx->E' k=E k) (hn:nx<=nx'):sN KP Γ E nx [{v:=v.val E',recovered:=H}] w:=by
 unfold I7 at h;split at h
 ·rename_i hw;simp only[ag] at hw;exact⟨E',v,older nx m',nx,hE,V _,rfl,hw.1,hs.sub (λk B hk=>(vP hk).1) (λk B hk=>(vP hk).2) (.inr hg),h⟩
 ·exact⟨E',v,m',nx',hE,hn,rfl,hv,hs,h⟩
theorem bp.start {Δ:b5}{E:Nat->Nat}(hs:bp Δ E m nx w)(ht:Δ.tail=[]){args:List SV}(hargs:SV.lY nx args=z)(k:Nat) :
  Sat Δ E ⟨args.map G++cy (k-args.length) I,m,nx⟩ ⟨(SV.vals E args).toArray++Array.replicate (k-(SV.vals E args).toArray.size) undef,[]⟩ w:=by
 have hsize:(SV.vals E args).toArray.size=args.length:=by simp[SV.cF]
 refine⟨⟨by simp[SV.cF],λi v hv=> ?_⟩,EY λi v hv=> ?_,Marks.nil _ _ ht,hs⟩
 ·rw[b_] at hv;rw[Array.getElem?_append];split at hv
  ·rename_i hlt;rw[cj] at hlt;rw[o_ (by rw[hsize];exact hlt)];rw[ay] at hv;rw[List.getElem?_toArray,SV.cF,ay];cases ha:args[i]? with
   | none=>rw[ha] at hv;cases hv
   | some u=>rw[ha] at hv;injection hv with hv;injection hv with hv;subst hv;rfl
  ·rw[b!] at hv;split at hv<;>cases hv
 ·rw[b_] at hv;split at hv
  ·rw[ay] at hv;cases ha:args[i]? with
   | none=>rw[ha] at hv;cases hv
   | some u=>rw[ha] at hv;injection hv with hv;injection hv with hv;subst hv;exact SV.EZ hargs ha
  ·rw[b!] at hv;split at hv<;>cases hv
theorem QS {S:b5->Prop}{C:oV}{env:Env}(hmix:P.follows .mixedOrders=z)(hC:D3 P C S)(hem: ∀ p∈ env,bC p.2)(hS:S Γ)(hek: ∀ p∈ env,∀ KP,Ao P Γ KP (.yield p.1) p.2){bU:B6}(hf:P.funcs[f]?=G fn)
  (hname:(fn.name== "runtime.NumGoroutine")=H):Ao P Γ KP (.fn f) (lZ P C env KP bU n fn):=by
 intro Δ' hle' args m nx K h hwf hargs E w hs';refine Out.mono (R:=cn (lift K) Δ'.own E nx) (RP:=sN KP Δ'.own E nx) ?_ (λ_ _ h=>h.MP) (λ_ _ h=>h.MP);have hle:=b5.le_trans hle' Δ'.apU;have hs:=hs'.aBB;have htl:Δ'.own.tail=[]:=rfl;have hrf:Δ'.own.rf=true:=rfl;generalize Δ'.own=Δ at hle hs htl hrf ⊢;unfold lZ at h;split at h
 ·rename_i body hb;simp only[yW.sem];rw[vo hf hname hb];simp only[Out];refine callsIn_wide.1 (callsIn_of_wp_marks (F:=Fence.wide) (n:=0) hf hb trivial ?_);refine wpIn_mono (afi hmix hC hem body H I (λ_=>rfl) Δ (hC.up hS hle) (λ_=>hrf) (λp hp KP=>(hek p hp KP).mono hle) _ _ _ E _ w h (hs.start htl hargs _)) (λe a' w' hq=> ?_);rcases hq with ⟨ex,rfl,E',st',g1,g2,g3,g4⟩ | ⟨v,E',st',rfl,gw,g1,g2,g3,g4⟩
  ·obtain⟨Ds,d1,d2,d3,d4⟩:=g3.df;rw[htl,bY] at d1
   have fin: ∀ vs,xp P st' fn.results.toList=G vs->(ar9 (Nat.ble 1000 n) nx (QE vs) st'.m st'.nx K).holds->
     LeavesInM Fence.wide 0 P fn a'.tmps (λe w'=>(∃ v,e=.returned v/\cn (lift K) Δ E nx v w')∨∃ ch,e=.panicked ch/\sN KP Δ E nx ch w') a'.defers .returning w':=by
    intro vs hvs hk;rw[d1];refine yz (by simp) (λw hm=>by show ∃ v,_/\_;exact⟨_,abe g3.tm hm hvs,.inl ⟨_,rfl,ae3 hk hm hs.cx.1 g1 g2⟩⟩) Ds w' d2 d3 g3.mm
   cases ex with
   | exit id=>exact g4.elim
   | normal =>
     simp only at g4;cases hvs:xp P st' fn.results.toList with
     | none=>rw[hvs] at g4;exact g4.elim
     | some vs=>rw[hvs] at g4;exact fin vs hvs g4
   | ret =>
     simp only at g4;cases hvs:xp P st' fn.results.toList with
     | none=>rw[hvs] at g4;exact g4.elim
     | some vs=>rw[hvs] at g4;exact fin vs hvs g4
  ·obtain⟨Ds,d1,d2,d3,d4⟩:=g3.df;rw[htl,bY] at d1;show LeavesInM _ _ _ _ _ _ _ _ _;rw[d1];exact yz (by simp) (λw hm=>by show _∨_;exact .inr ⟨_,rfl,abf g4 gw hm hs.cx.1 g1 g2⟩) Ds w' d2 d3 g3.mm
 ·exact h.elim
theorem abn {C:oV}{env:Env}(hmix:P.follows .mixedOrders=z)(hC:vD P C)(hem: ∀ p∈ env,bC p.2)(hek: ∀ p∈ env,∀ KP,Ao P Γ KP (.yield p.1) p.2){bU:B6}(hf:P.funcs[f]?=G fn)
  (hname:(fn.name== "runtime.NumGoroutine")=H):Ao P Γ KP (.fn f) (lZ P C env KP bU n fn) :=
 QS hmix hC.at hem trivial hek hf hname
theorem ae9 {C:oV}{env:Env}(hC:vD P C)(hem: ∀ p∈ env,bC p.2){bU:B6}:bC (lZ P C env KP bU n fn):=by
 intro args m nx K K' hK h;unfold lZ at h ⊢;split at h
 ·refine ER hC.mono hC.HU hem _ _ _ _ (λ_ _ h=>h) _ _ _ (λe st' _ hh=> ?_) h;cases e with
  | exit id=>exact hh
  | normal =>
    simp only at hh ⊢;cases hvs:xp P st' fn.results.toList with
    | none=>rw[hvs] at hh;exact hh
    | some vs=>rw[hvs] at hh;exact Uy hK hh
  | ret =>
    simp only at hh ⊢;cases hvs:xp P st' fn.results.toList with
    | none=>rw[hvs] at hh;exact hh
    | some vs=>rw[hvs] at hh;exact Uy hK hh
 ·exact h
theorem abm {C:oV}{env:Env}(hC:vD P C)(hem: ∀ p∈ env,bC p.2){KP':PK}(hKP: ∀ v m nx,(KP v m nx).holds->(KP' v m nx).holds){bU:B6}{args m nx K}(h:(lZ P C env KP bU n fn args m nx K).holds) :
  (lZ P C env KP' bU n fn args m nx K).holds:=by
 unfold lZ at h ⊢;split at h
 ·exact ER hC.mono hC.HU hem _ _ _ _ (λv st h=>EK hKP h) _ _ _ (λe st' _ hh=>hh) h
 ·exact h
theorem Env.Hz {env:Env}{k:Nat}{pt:PT}(h:env.find k=G pt):(k,pt)∈ env:=by
 induction env with
 | nil=>cases h
 | cons e r ih =>
   unfold Env.find at h;split at h
   ·rename_i he;injection h with h;obtain⟨a,b⟩:=e;simp only at he h;subst he;subst h;simp
   ·exact cl _ (ih h)
theorem Qs :Ao P Γ KP .panic (raise KP):=by
 intro Δ hle args m nx K h hwf hargs E w hs;unfold raise at h;split at h
 ·rename_i t v;split at h
  ·rename_i hv;have hrun:((yW.panic).sem E (SV.vals E [.iface t v]).toArray).run P w=.halt (.panic (.iface t (v.val E))) w:=by simp only[yW.sem,SV.vals,SV.val];rfl
   rw[hrun];exact⟨E,.iface t v,m,nx,λ_ _=>rfl,V _,rfl,hv,hs,h⟩
  ·exact h.elim
 ·exact h.elim
theorem ajE {cfg:iG}(hg:Good P cfg)(n:Nat):vD P (calling P cfg n):=by
  have hyo: ∀(n:Nat) (Γ:b5) env,(∀ p∈ env,∀ KP,Ao P Γ KP (.yield p.1) p.2)->∀ KP k,Ao P Γ KP (.yield k) (nD P cfg n env KP (.yield k)):=by
   intro n Γ env he KP k
   have:nD P cfg n env KP (.yield k)=(match env.find k with
    | some pt=>pt
    | none=>λ_ _ _ _=>.fail "a yield that is not known"):=by cases n<;>rfl
   rw[this];split
   ·rename_i pt hp;exact he _ (Env.Hz hp) _
   ·exact λΔ _ args m nx K h=>h.elim
  have hym: ∀(n:Nat) env,(∀ p∈ env,bC p.2)->∀ KP k,bC (nD P cfg n env KP (.yield k)):=by
   intro n env he KP k
   have:nD P cfg n env KP (.yield k)=(match env.find k with
    | some pt=>pt
    | none=>λ_ _ _ _=>.fail "a yield that is not known"):=by cases n<;>rfl
   rw[this];split
   ·rename_i pt hp;exact he _ (Env.Hz hp)
   ·exact λargs m nx K K' _ h=>h.elim
  have hyp: ∀(n:Nat) env KP KP' k,nD P cfg n env KP (.yield k)=nD P cfg n env KP' (.yield k):=by intro n env KP KP' k;cases n<;>rfl
  have hpa: ∀(n:Nat) env KP,nD P cfg n env KP .panic=raise KP:=by intro n env KP;cases n<;>rfl
  have hpm: ∀ KP,bC (raise KP):=λKP args m nx K K' _ h=>h;have hpp: ∀ KP KP':PK,(∀ v m nx,(KP v m nx).holds->(KP' v m nx).holds)->∀ args m nx K,(raise KP args m nx K).holds->(raise KP' args m nx K).holds:=by
   intro KP KP' hK args m nx K h;unfold raise at h ⊢;split at h
   ·split at h
    ·exact hK _ _ _ h
    ·exact h
   ·exact h
  have hbd: ∀ f,cfg.bd f=z->∀(args:Array Value) (w:World),(callFunc f args).run P w=.ok (.enter f args) w:=by
   intro f hf args w;unfold iG.bd at hf;split at hf
   ·rename_i fn hfn;obtain⟨body,hb⟩:=bl.1 hf;exact vo (hg.fns f fn hfn).1 (hg.fns f fn hfn).2 hb args w
   ·cases hf
  induction n with
  | zero =>
    refine⟨λenv he KP c=> ?_,λenv he KP KP' hK c args m nx K h=> ?_,λΓ env hem he KP c=> ?_,hbd⟩
    ·cases c with
     | yield k=>exact hym 0 env he KP k
     | fn f=>exact λargs m nx K K' _ h=>h
     | panic=>show bC (nD P cfg 0 env KP .panic);rw[hpa];exact hpm KP
    ·cases c with
     | yield k=>exact h
     | fn f=>exact h
     | panic=>exact hpp KP KP' hK args m nx K h
    ·cases c with
     | yield k=>exact hyo 0 Γ env he KP k
     | fn f=>exact λΔ _ args m nx K h=>h.elim
     | panic=>exact Qs
  | succ n ih =>
    refine⟨λenv he KP c=> ?_,λenv he KP KP' hK c args m nx K h=> ?_,λΓ env hem he KP c=> ?_,hbd⟩
    ·cases c with
     | yield k=>exact hym (n+1) env he KP k
     | panic=>show bC (nD P cfg (n+1) env KP .panic);rw[hpa];exact hpm KP
     | fn f =>
       show bC (nD P cfg (n+1) env KP (.fn f));simp only[nD];cases hs:cfg.cO f with
       | some pt=>exact(hg.cO f pt hs).2
       | none =>
         simp only;cases hi:cfg.iter f with
         | some g=>exact(hg.iter f g hi).mono env he
         | none =>
           simp only;cases hf:cfg.fns f with
           | some fn=>exact ae9 ih he
           | none=>exact λargs m nx K K' _ h=>h
    ·cases c with
     | yield k=>exact h
     | panic=>exact hpp KP KP' hK args m nx K h
     | fn f =>
       have h:(nD P cfg (n+1) env KP (.fn f) args m nx K).holds:=h;show(nD P cfg (n+1) env KP' (.fn f) args m nx K).holds;simp only[nD] at h ⊢;cases hs:cfg.cO f with
       | some pt=>rw[hs] at h;exact h
       | none =>
         rw[hs] at h;simp only at h ⊢;cases hi:cfg.iter f with
         | some g=>rw[hi] at h;exact h
         | none =>
           rw[hi] at h;simp only at h ⊢;cases hf:cfg.fns f with
           | some fn=>rw[hf] at h;exact abm ih he hK h
           | none=>rw[hf] at h;exact h
    ·cases c with
     | yield k=>exact hyo (n+1) Γ env he KP k
     | panic=>exact Qs
     | fn f =>
       show Ao P Γ KP (.fn f) (nD P cfg (n+1) env KP (.fn f));simp only[nD];cases hs:cfg.cO f with
       | some pt=>exact(hg.cO f pt hs).1.cok Γ KP
       | none =>
         simp only;cases hi:cfg.iter f with
         | some g=>exact(hg.iter f g hi).ok Γ env hem he KP
         | none =>
           simp only;cases hf:cfg.fns f with
           | some fn=>exact abn hg.mix ih hem he (hg.fns f fn hf).1 (hg.fns f fn hf).2
           | none=>exact λΔ _ args m nx K h=>h.elim
theorem Vh {cfg:iG}(hg:Good P cfg)(hf:P.funcs[f]?=G fn) (hn:(fn.name== "runtime.NumGoroutine")=H) (hb:fn.body.isSome=z)  {args:List SV}   {K:SV->Mem->Nat->VC}
  (h:(lZ P (calling P cfg n) [] Ny (cfg.bU f) cfg.rounds fn args m nx K).holds) (hm:Mem.wf nx m=z) (ha:SV.lY nx args=z)  {E:Nat->Nat}  (hs:bp Γ E m nx w) :
  Calls P f (SV.vals E args).toArray w λe w'=>∃ v,e=.returned v/\cn (lift K) Γ E nx v w':=by
 have:=abn hg.mix (ajE hg n) (env:=[]) (λp hp=>by cases hp) (Γ:=Γ) (λp hp=>by cases hp) (KP:=Ny) (bU:=cfg.bU f) (n:=cfg.rounds) hf hn Γ Γ.le_refl args m nx K h hm ha E w hs;obtain⟨body,hb⟩:=bl.1 hb;simp only[yW.sem] at this;rw[vo hf hn hb] at this;refine Calls.mono this ?_;rintro e w' (h | ⟨ch,_,_,_,_,_,_,_,_,_,_,hno⟩)
 ·exact h
 ·exact hno.elim
end
theorem cq.pure {B:SB}(hw:B.wf 0=z){E E':Nat->Nat}{o:Obj}(h:cq E B o):cq E' B o:=h.congr (nx:=0) (λk hk=>by omega) hw
theorem SV.Jy {v:SV}(hw:v.wf 0=z)(E E':Nat->Nat):v.val E=v.val E':=SV.val_congr (nx:=0) (λk hk=>by omega) v hw
theorem SV.EW {l:List SV}(hw:SV.lY 0 l=z)(E E':Nat->Nat):SV.vals E l=SV.vals E' l:=SV.oU (nx:=0) (λk hk=>by omega) l hw
theorem Mem.SD {key:Nat}{B X:SB}: ∀ {m:Mem},m.get key=G X->(Mem.put key B m).get key=G B
 | [],h=>by cases h
 | e::r,h=>by
   by_cases he:e.1=key
   ·rw[Mem.put,o_ he,Mem.get,o_ he]
   ·rw[Mem.get,p_ he] at h;rw[Mem.put,p_ he,Mem.get,p_ he];exact Mem.SD h
def b5.at (w:World)(M:Nat->Prop)(gl:Cf w)(gm: ∀ p∈ CG,¬ M p.1):b5:=⟨w,M,λ_=>0,0,[],gl,gm,[],z⟩
theorem bp.ag0 {Γ E m nx w}(h:bp Γ E m nx w){k:Nat}{B:SB}{a:Nat}(hk:m.get k=G B)(hn:B.nc (E k) a)(hro:B.ro=H): ∀ p∈ CG,¬ (p.1=a):=by
 intro p hp e;obtain⟨_,ty,fr,hg,_⟩:=Γ.gl p hp;rcases h.rq k B a hk hn hro with h1 | h1
 ·exact Γ.gm p hp (e▸ h1)
 ·have:=(J.1 hg).1;omega
theorem bp.one {Γ E m nx w}(h:bp Γ E m nx w){k:Nat}{B B':SB}(hk:m.get k=G B)(hB:aa B B')(hn:B'.no=H)(hro:B'.ro=H)(hw:B'.wf 0=z) :
  bp (b5.at w (λb=>b=E k) h.adj (h.ag0 hk (SB.rD (hB.old hn).1 _) ((hB.old hn).2.2 hro))) (λ_=>E k) [(0,B')] 1 w:=by
 obtain⟨h1,h2,_⟩:=hB.old hn;obtain⟨o,ho,hb⟩:=h.yZ k B hk h1;have hg: ∀ {j X a},Mem.get j [(0,B')]=G X->X.nc (E k) a->j=0/\X=B'/\a=E k:=λhj ha=>by
  rcases Mem.nq hj with ⟨rfl,rfl⟩ | ⟨_,hj⟩
  ·exact⟨rfl,rfl,((SB.tL (SB.Gu hn)).1 ha).2⟩
  ·cases hj
 refine⟨λj X a hj ha=> ?_,λj j' X X' a hj ha hj' ha' _=>(hg hj ha).1.trans (hg hj' ha').1.symm,λj X hj=> ?_,λj X a hj ha _=>.inl (hg hj ha).2.2,Ext.refl _ _,⟨cT _,λk hk=>absurd hk (cL _)⟩,λD hD=>by cases hD⟩
 ·obtain⟨_,rfl,rfl⟩:=hg hj ha;exact⟨o,ho,by rw[SB.Cy (SB.Gu hn)];exact(h2 E o hb).pure hw⟩
 ·rcases Mem.nq hj with ⟨rfl,_⟩ | ⟨_,hj⟩
  ·omega
  ·cases hj
theorem bp.none (w:World)(hg:Cf w):bp (b5.at w (λ_=>False) hg (λ_ _ h=>h)) (λ_=>0) [] 0 w :=⟨(λ_ _ _ h=>by cases h),(λ_ _ _ _ _ h=>by cases h),(λ_ _ h=>by cases h),(λ_ _ _ h=>by cases h),Ext.refl _ _,⟨cT _,λk hk=>absurd hk (cL _)⟩,λD hD=>by cases hD⟩
theorem bp.still {Γ E m nx w}(h:bp Γ E m nx w){w':World}(hx:Ext (λ_=>False) w w'):bp Γ E m nx w':=by
 refine⟨λk B a hk hn=> ?_,h.qq,h.lt,h.rq,h.ext.trans ⟨hx.os,hx.tape,hx.output,hx.size,λk hk _=>hx.block k hk (λh=>h)⟩,h.cx,λD hD=> ?_⟩
 ·obtain⟨o,ho,hb⟩:=h.p7 k B a hk hn;exact⟨o,by rw[hx.block _ (J.1 ho).1 (λh=>h)];exact ho,hb⟩
 ·have:=h.kp D hD;rw[hx.block _ (J.1 this).1 (λh=>h)];exact this
theorem bp.frame {Γ E m nx w}(h:bp Γ E m nx w){k:Nat}{B:SB}(hk:m.get k=G B)(hn:B.no=H)(hro:B.ro=H){E1:Nat->Nat}{m1:Mem}{nx1:Nat}{w':World}{gl gm}
  (h1:bp (b5.at w (λb=>b=E k) gl gm) E1 m1 nx1 w') (hE:E1 0=E k) {B1:SB} (hB1:m1.get 0=G B1) (hn1:B1.no=H) (hr1:B1.ro=H) (hw1:B1.wf 0=z):bp Γ E (m.put k B1) nx w':=by
 have hx:Ext (λb=>b=E k) w w':=h1.ext;have hg: ∀ {j X a},(m.put k B1).get j=G X->X.nc (E j) a->(j=k/\X=B1/\a=E k)∨(m.get j=G X/\X.nc (E j) a/\a≠E k):=λhj ha=>by
  rcases Mem.mV hj with ⟨rfl,rfl,_⟩ | ⟨hne,hj⟩
  ·exact .inl ⟨rfl,rfl,((SB.tL (SB.Gu hn1)).1 ha).2⟩
  ·exact .inr ⟨hj,ha,λe=>hne (h.qq _ k _ B _ hj ha hk (by rw[e];exact SB.rD hn _) (.inr hro))⟩
 refine⟨λj X a hj ha=> ?_,λj j' X X' a hj ha hj' ha' hr=> ?_,λj X hj=> ?_,λj X a hj ha hr=> ?_,⟨hx.os.trans h.ext.os,hx.tape.trans h.ext.tape,hx.output.trans h.ext.output,bf h.ext.size hx.size,λi hi hm=>(hx.block i (cB hi h.ext.size) (λe=> ?_)).trans (h.ext.block i hi hm)⟩,h.cx,λD hD=> ?_⟩
 ·rcases hg hj ha with ⟨_,rfl,rfl⟩ | ⟨hj,ha,hne⟩
  ·obtain⟨o,ho,hb⟩:=h1.yZ 0 X hB1 hn1;exact⟨o,by rw[← hE];exact ho,by rw[SB.Cy (SB.Gu hn1)];exact hb.pure hw1⟩
  ·obtain⟨o,ho,hb⟩:=h.p7 j X a hj ha;exact⟨o,by rw[h1.ext.block _ (J.1 ho).1 hne];exact ho,hb⟩
 ·rcases hg hj ha with ⟨e1,_,e⟩ | ⟨hj1,ha1,hne⟩<;>rcases hg hj' ha' with ⟨e2,_,e'⟩ | ⟨hj2,ha2,hne'⟩
  ·exact e1.trans e2.symm
  ·exact absurd e hne'
  ·exact absurd e' hne
  ·exact h.qq _ _ _ _ _ hj1 ha1 hj2 ha2 hr
 ·rcases Mem.mV hj with ⟨rfl,_,_⟩ | ⟨_,hj⟩
  ·exact h.lt _ _ hk
  ·exact h.lt _ _ hj
 ·rcases hg hj ha with ⟨_,rfl,rfl⟩ | ⟨hj,ha,_⟩
  ·exact h.own _ _ hk hn hro
  ·exact h.rq _ _ _ hj ha hr
 ·
  subst e;rcases h.own k B hk hn hro with h' | h'
  ·exact hm h'
  ·omega
 ·have:=h.kp D hD;rw[hx.block _ (J.1 this).1 (h.tZ hk hn D hD)];exact this
section
variable {P : Program} {cfg : iG}
theorem mY (hf:P.funcs[f]?=G fn) (hn:(fn.name== "runtime.NumGoroutine")=H) (hb:fn.body.isSome=z) {args:Array Value}  {Q:Value->World->Prop}
  (h:Calls P f args w λe w'=>∃ v,e=.returned v/\Q v w'):Out P Q ((callFunc f args).run P w):=by
 obtain⟨body,hb⟩:=bl.1 hb;rw[vo hf hn hb];exact Calls.mono h λ_ _ h=>.inl h
end
structure au (v:VC):Prop where
 out:v.holds
theorem au.of_eq {v:VC}(e:v.holds=p)(h:p):au v:=⟨e.symm▸ h⟩
abbrev Fk (p:Prop)[Decidable p](a b:Prop):Prop:=(decide p=z->a)/\(decide p=H->b)
abbrev Bk (c:Bool)(a b:Prop):Prop:=(c=z->a)/\(c=H->b)
abbrev I6 (a:Int):Prop:= -9223372036854775808<=a/\a<=9223372036854775807
abbrev Ix (a b:Int):Prop:=0<=a/\a<b
abbrev Sr (a:SB):Prop:=aa a a
abbrev Er {α:Type}(a:α):Prop:=a=a
abbrev NI (a:Nat):Int:=a
theorem au.j7 {v:VC}{q:Prop}(e:v.holds=p)(e':p=q)(h:q):au v:=au.of_eq e (e'▸ h)
inductive Pl where
 | t
 | k
 | n (a b:Pl)
 | s (n:Nat) (p:Pl)
 | c (g:Bool) (i:Nat) (p:Pl)
def Pl.l:Pl->Pl
 | .n a _=>a
 | .k=>.k
 | _=>.t
def Pl.r:Pl->Pl
 | .n _ b=>b
 | .s 0 p=>p
 | .s (m+1) p=>.s m p
 | p=>p
def Pl.out:Pl->Bool
 | .t=>z
 | _=>H
def Pl.way:Pl->Option (Bool×Nat×Pl)
 | .c g i p=>G (g,i,p)
 | _=>I
abbrev Cx:=List (Bool×Bool)
def Cx.at (C:Cx)(i:Nat):Bool×Bool:=C.getD i (z,z)
def asO (g b:Bool):Bool:=match g with
 | true=>!b
 | false=>b
def VC.self (pl:Pl)(C:Cx):VC->VC
 | .and a b=>.and (a.self pl.l C) (b.self pl.r C)
 | .imp p a=>.imp p (a.self pl C)
 | .all α f=>.all α λx=>(f x).self pl C
 | .ex α f=>.ex α λx=>(f x).self pl C
 | .eqv p q h=>(match pl.out with
   | true=>.eqv q q h
   | false=>.eqv p q h)
 | .fork b x y=>(match pl.way with
   | some (g,i,p)=>(match asO g (C.at i).2 with
     | true=>.fork (asO g (C.at i).1) (x.self p C) y
     | false=>.fork (asO g (C.at i).1) x (y.self p C))
   | none=>.fork b (x.self pl.l ((b,z)::C)) (y.self pl.r ((b,H)::C)))
 | .tt=>.tt
 | .fail s=>.fail s
 | .atom p=>.atom p
def VC.OF:VC->Bool
 | .tt=>z
 | _=>H
def VC.prune (pl:Pl)(C:Cx):VC->VC
 | .and a b=>(match(a.prune pl.l C).OF,(b.prune pl.r C).OF with
   | true,_=>b.prune pl.r C
   | false,z=>a.prune pl.l C
   | false,H=>.and (a.prune pl.l C) (b.prune pl.r C))
 | .imp p a=>(match(a.prune pl C).OF with
   | true=>.tt
   | false=>.imp p (a.prune pl C))
 | .all α f=>.all α λx=>(f x).prune pl C
 | .ex α f=>.ex α λx=>(f x).prune pl C
 | .eqv p q h=>(match pl.out with
   | true=>.tt
   | false=>.eqv p q h)
 | .fork b x y=>(match pl.way with
   | some (g,i,p)=>(match asO g (C.at i).2 with
     | true=>x.prune p C
     | false=>y.prune p C)
   | none=>(match(x.prune pl.l ((b,z)::C)).OF,(y.prune pl.r ((b,H)::C)).OF with
     | true,z=>.tt
     | true,H=>.imp (b=H) (y.prune pl.r ((b,H)::C))
     | false,z=>.imp (b=z) (x.prune pl.l ((b,z)::C))
     | false,H=>.and (.imp (b=z) (x.prune pl.l ((b,z)::C))) (.imp (b=H) (y.prune pl.r ((b,H)::C)))))
 | .tt=>.tt
 | .fail s=>.fail s
 | .atom p=>.atom p
theorem VC.qu {v:VC}(h:v.OF=z):v.holds:=by cases v<;>first | trivial | cases h
theorem Cx.aA9 {C:Cx}(hC: ∀ e,e∈ C->e.1=e.2)(i:Nat):(C.at i).1=(C.at i).2:=by
 unfold Cx.at
 rw[List.getD_eq_getElem?_getD];cases h:C[i]? with
 | none=>rfl
 | some e=>exact hC e (List.mem_of_getElem? h)
theorem Cx.push {C:Cx}(hC: ∀ e,e∈ C->e.1=e.2){b v:Bool}(h:b=v): ∀ e,e∈ (b,v)::C->e.1=e.2:=λe he=>by
 rcases T.1 he with he | he
 ·subst he;exact h
 ·exact hC e he
theorem VC.aeD {v:VC}: ∀ {pl:Pl} {C:Cx},(∀ e,e∈ C->e.1=e.2)->(v.prune pl C).holds->(v.self pl C).holds:=by
 induction v with
 | tt=>exact λ_=>id
 | fail=>exact λ_=>id
 | atom=>exact λ_=>id
 | and a b iha ihb =>
   intro pl C hC h;simp only[VC.prune] at h;cases ha:(a.prune pl.l C).OF with
   | true=>rw[ha] at h;exact⟨iha hC (VC.qu ha),ihb hC h⟩
   | false=>cases hb:(b.prune pl.r C).OF with
     | true=>rw[ha,hb] at h;exact⟨iha hC h,ihb hC (VC.qu hb)⟩
     | false=>rw[ha,hb] at h;exact⟨iha hC h.1,ihb hC h.2⟩
 | imp p a ih =>
   intro pl C hC h hp;simp only[VC.prune] at h;cases ha:(a.prune pl C).OF with
   | true=>exact ih hC (VC.qu ha)
   | false=>rw[ha] at h;exact ih hC (h hp)
 | all α f ih=>exact λhC h x=>ih x hC (h x)
 | ex α f ih=>exact λhC ⟨x,h⟩=>⟨x,ih x hC h⟩
 | eqv p q hq =>
   intro pl C hC h;simp only[VC.prune,VC.self] at h ⊢;cases ho:pl.out with
   | true=>exact hq
   | false=>rw[ho] at h;exact h
 | fork b x y ihx ihy =>
   intro pl C hC h;simp only[VC.prune] at h;unfold VC.self;cases hw:pl.way with
   | some q =>
     obtain⟨g,i,p⟩:=q;have hi:=Cx.aA9 hC i;rw[hw] at h;dsimp only at h ⊢;rw[hi];cases ht:asO g (C.at i).2 with
     | true=>rw[ht] at h;exact⟨λ_=>ihx hC h,(λe=>by cases e)⟩
     | false=>rw[ht] at h;exact⟨(λe=>by cases e),λ_=>ihy hC h⟩
   | none =>
     rw[hw] at h;dsimp only at h ⊢;cases hx:(x.prune pl.l ((b,z)::C)).OF<;>cases hy:(y.prune pl.r ((b,H)::C)).OF
     all_goals rw[hx,hy] at h
     ·exact⟨λe=>ihx (Cx.push hC e) (h.1 e),λe=>ihy (Cx.push hC e) (h.2 e)⟩
     ·exact⟨λe=>ihx (Cx.push hC e) (h e),λe=>ihy (Cx.push hC e) (VC.qu hy)⟩
     ·exact⟨λe=>ihx (Cx.push hC e) (VC.qu hx),λe=>ihy (Cx.push hC e) (h e)⟩
     ·exact⟨λe=>ihx (Cx.push hC e) (VC.qu hx),λe=>ihy (Cx.push hC e) (VC.qu hy)⟩
structure dw (pl:Pl)(v:VC)(p:Prop):Prop where
 self:v.holds=(v.self pl []).holds
 rest:(v.prune pl []).holds=p
theorem au.pr {pl:Pl}{v:VC}(e:dw pl v p)(h:p):au v:=⟨e.self▸ VC.aeD (λ_ h=>by cases h) (e.rest▸ h)⟩
theorem au.xD {pl:Pl}{v:VC}{q:Prop}(e:dw pl v p)(e':p=q)(h:q):au v:=au.pr e (e'▸ h)
theorem kC {cfg:iG}(hg:Good P cfg)(hf:P.funcs[f]?=G fn) (hn:(fn.name== "runtime.NumGoroutine")=H) (hb:fn.body.isSome=z)  {args:List SV}   {K:SV->Mem->Nat->VC}
  (h:au (lZ P (calling P cfg n) [] Ny (cfg.bU f) cfg.rounds fn args m nx K)) (hm:Mem.wf nx m=z) (ha:SV.lY nx args=z)  {E:Nat->Nat}  (hs:bp Γ E m nx w) :
  Calls P f (SV.vals E args).toArray w λe w'=>∃ v,e=.returned v/\cn (lift K) Γ E nx v w':=Vh hg hf hn hb h.out hm ha hs
def av (f:FuncId):List (FuncId×PT)->Option PT
 | []=>I
 | e::r=>if e.1=f then G e.2 else av f r
def aR (P:Program)(s:FuncId->Option PT):Prop:=∀ f pt,s f=G pt->aq P f pt/\bC pt
theorem aR.nil :aR P (λf=>av f []):=λ_ _ h=>by cases h
theorem aR.cons {pt:PT}{l:List (FuncId×PT)}(h1:aq P f pt)(h2:bC pt)(h:aR P (λf=>av f l)):aR P (λg=>av g ((f,pt)::l)):=by
 intro g q hq;simp only[av] at hq;split at hq
 ·rename_i e;subst e;injection hq with hq;subst hq;exact⟨h1,h2⟩
 ·exact h g q hq
end
end Sx
end Go.Proofs.YtoibaecagklkaaaGreatDoor
