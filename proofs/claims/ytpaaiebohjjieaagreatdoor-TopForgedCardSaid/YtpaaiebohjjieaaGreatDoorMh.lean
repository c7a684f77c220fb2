/-
  The framework's seventeenth part: code and functions: 'sx', and that it is sound.
-/
import Derived.Test.YtpaaiebohjjieaaGreatDoorMg
namespace Go.Proofs.YtpaaiebohjjieaaGreatDoor.Sx
open Go
noncomputable section
def fF:Code->Option Nat
 | .region id _ _=>some id
 | .seq a b=>match fF a with
   | some i=>some i
   | none=>fF b
 | .cond _ a b=>match fF a with
   | some i=>some i
   | none=>fF b
 | .block _ b=>fF b
 | .loop b=>fF b
 | .scope b=>fF b
 | _=>none
structure q9 where
 tags:List Nat
 tag:St->Nat
 A:Nat->bp
def one (A:bp):q9:=⟨[0],fun _=>0,fun _=>A⟩
abbrev qy:=List (Nat×(St->Option q9))
def always (A:bp):St->Option q9:=fun _=>some (one A)
def qy.find (aR:qy)(i:Nat)(st:St):Option q9:=match aR with
 | []=>none
 | (j,A)::r=>if j=i then A st else qy.find r i st
def adz (aR:qy)(body:Code)(st:St):Option q9:=match fF body with
 | some i=>aR.find i st
 | none=>none
def BR:Nat->(XK->St->VC)->XK->St->VC
 | 0,_,_,_=>.fail "loop: too many rounds"
 | n+1,f,K,st=>f (fun e st'=>match e with
   | .normal=>BR n f K st'
   | e=>K e st') st
def CM (t:Nat)(k:Nat->VC):List Nat->VC
 | []=>.fail "loop: no such head"
 | a::r=>if t=a then k a else CM t k r
theorem sP {t:Nat}{k:Nat->VC}: ∀ {l:List Nat},(CM t k l).holds->t∈ l/\(k t).holds
 | [],h=>h.elim
 | a::r,h=>by
   simp only[CM] at h;split at h
   ·rename_i e;subst e;exact⟨List.mem_cons_self ..,h⟩
   ·have:=sP h;exact⟨List.mem_cons_of_mem _ this.1,this.2⟩
def entry (L:q9)(body:Code)(st st1:St):VC :=CM (L.tag st1) (fun t=>.ex (L.A t).α fun y=>.and (.atom ((L.A t).pre st y)) (A4 body (L.A t) st y st1)) L.tags
def OU (L:q9)(body:Code)(st:St)(n:Nat)(st1:St):VC :=CM (L.tag st1) (fun t=>.ex (L.A t).α fun y=>.and (.atom ((L.A t).pre st y/\(L.A t).sM st y<n)) (A4 body (L.A t) st y st1)) L.tags
def QW (L:q9)(body:Code)(f:XK->St->VC)(K:XK)(st:St)(t:Nat):VC :=
 .all (L.A t).α fun x=>.imp ((L.A t).pre st x) (match w9 body (L.A t) st x with
   | true=>f (fun e st1=>match e with
     | .normal=>OU L body st ((L.A t).sM st x) st1
     | e=>K e st1) (hd body (L.A t) st x)
   | false=>.fail "loop: the annotation")
def uR (g:Nat->VC):List Nat->VC
 | []=>.tt
 | [t]=>g t
 | t::r=>.and (g t) (uR g r)
theorem vV {g:Nat->VC}: ∀ {l:List Nat},(uR g l).holds->∀ t∈ l,(g t).holds
 | [],_,t,ht=>by cases ht
 | [a],h,t,ht=>by simp at ht;subst ht;exact h
 | a::b::r,h,t,ht=>by
   rw[List.mem_cons] at ht;rcases ht with rfl | ht
   ·exact h.1
   ·exact vV (l:=b::r) h.2 t ht
theorem tC {g g':Nat->VC}(hg: ∀ t,(g t).holds->(g' t).holds): ∀ {l:List Nat},(uR g l).holds->(uR g' l).holds
 | [],h=>h
 | [a],h=>hg a h
 | a::b::r,h=>⟨hg a h.1,tC hg (l:=b::r) h.2⟩
def ajO (L:q9)(body:Code)(f:XK->St->VC)(K:XK)(st:St):VC :=.and (entry L body st st) (uR (QW L body f K st) L.tags)
def aoa (aR:qy)(a:Code)(st:St):Option q9:=match aR with
 | []=>none
 | _=>(match fF a with
   | some i=>aR.find (1000+i) st
   | none=>none)
def PZ (aR:qy)(a b:Code)(st:St):Option q9:=match aR with
 | []=>none
 | _=>(match aoa aR a st with
   | some L=>some L
   | none=>(match fF a,fF b with
     | some i,some j=>aR.find (100000+(1000*i+j)) st
     | _,_=>none))
def IT (L:q9)(a:Code)(f:St->VC)(st:St)(t:Nat):VC :=
 .all (L.A t).α fun x=>.imp ((L.A t).pre st x) (match w9 a (L.A t) st x with
   | true=>f (hd a (L.A t) st x)
   | false=>.fail "join: the annotation")
def Mf (c:Option SV)(t f:VC):VC:=match c with
 | some (.bool true b)=>(match b with
   | true=>t
   | false=>f)
 | some (.bool false b)=>fork b (fun v=>match v with
   | true=>t
   | false=>f)
 | _=>.fail "cond"
abbrev Env:=List (Nat×PT)
def Env.find (env:Env)(k:Nat):Option PT:=match env with
 | []=>none
 | e::r=>if e.1=k then some e.2 else Env.find r k
def KA (kl:Nat)(tmps:List (Option SV))(K:XK):SV->Mem->Nat->VC:=fun _ m nx =>
 match m.get kl with
 | some (.loop .ready none _)=>K .normal ⟨tmps,m.drop kl,nx⟩
 | some (.loop .done (some .ret) _)=>K .ret ⟨tmps,m.drop kl,nx⟩
 | some (.loop .done (some (.exit id)) _)=>K (.exit id) ⟨tmps,m.drop kl,nx⟩
 | _=>.fail "range: the record"
structure de where
 oZ:Env->PK->sr->PT
 bd:FuncId->Bool
def sx (P:Program)(C:de)(env:Env)(aR:qy)(n:Nat):Code->Bool->XP->XK->St->VC
 | .skip,_,_,K,st=>K .normal st
 | .label _,_,_,K,st=>K .normal st
 | .region _ ops d,_,X,K,st=>(match d with
   | true=>draw P (C.oZ env fun v m nx=>X v ⟨unsure ops st.tmps,m,nx⟩) ops (K .normal) st
   | false=>mA P (C.oZ env fun v m nx=>X v ⟨unsure ops st.tmps,m,nx⟩) ops (List.range ops.size) (K .normal) st)
 | .seq a b,r,X,K,st=>(match PZ aR a b st with
   | some L=>.and (sx P C env aR n a r X (fun e st'=>match e with
     | .normal=>entry L a st st'
     | e=>K e st') st) (uR (IT L a (sx P C env aR n b r X K) st) L.tags)
   | none=>sx P C env aR n a r X (fun e st'=>match e with
     | .normal=>sx P C env aR n b r X K st'
     | e=>K e st') st)
 | .cond c a b,r,X,K,st=>Mf (ev st.tmps c) (sx P C env aR n a r X K st) (sx P C env aR n b r X K st)
 | .block id body,r,X,K,st=>sx P C env aR n body r X (fun e st'=>match e with
   | .exit j=>if j=id then K .normal st' else K (.exit j) st'
   | e=>K e st') st
 | .loop body,r,X,K,st=>(match adz aR body st with
   | some A=>ajO A body (sx P C env aR n body r X) K st
   | none=>BR n (sx P C env aR n body r X) K st)
 | .exit id,_,_,K,st=>K (.exit id) st
 | .ret,_,_,K,st=>K .ret st
 | .scope body,r,X,K,st=>sx P C env aR n body r X K st
 | .rangeFunc g ps assign body,false,_,K,st=>(match ev st.tmps g,Mem.wf st.nx st.m with
   | some (.func (.func f) first captured),true=>(match C.bd f with
     | true=>.all Loop fun R=>C.oZ ((st.nx,wq st.nx R ps.toList st.tmps (sx P C env aR n assign true FV) (sx P C env aR n body true FV))::env) Al (.fn f)
        (first++[.yield st.nx]++captured) ((st.nx,.loop .ready none R)::st.m) (st.nx+1) (KA st.nx st.tmps K)
     | false=>.fail "range: over what")
   | _,_=>.fail "range: over what")
 | _,_,_,_,_=>.fail "code"
structure cv (P:Program)(C:de):Prop where
 mono: ∀ env,(∀ p∈ env,aJ p.2)->∀ KP c,aJ (C.oZ env KP c)
 rF: ∀ env,(∀ p∈ env,aJ p.2)->∀ KP KP':PK,(∀ v m nx,(KP v m nx).holds->(KP' v m nx).holds)->∀ c args m nx K,(C.oZ env KP c args m nx K).holds->(C.oZ env KP' c args m nx K).holds
 ok: ∀(Γ:aQ) env,(∀ p∈ env,aJ p.2)->(∀ p∈ env,∀ KP,qO P Γ KP (.yield p.1) p.2)->∀ KP c,qO P Γ KP c (C.oZ env KP c)
 bd: ∀ f,C.bd f=true->∀(args:Array Value) (w:World),(callFunc f args).run P w=.ok (.enter f args) w
structure yY (P:Program)(C:de)(S:aQ->Prop):Prop where
 mono: ∀ env,(∀ p∈ env,aJ p.2)->∀ KP c,aJ (C.oZ env KP c)
 rF: ∀ env,(∀ p∈ env,aJ p.2)->∀ KP KP':PK,(∀ v m nx,(KP v m nx).holds->(KP' v m nx).holds)->∀ c args m nx K,(C.oZ env KP c args m nx K).holds->(C.oZ env KP' c args m nx K).holds
 up: ∀ {Γ Δ:aQ},S Γ->Γ.le Δ->S Δ
 ok: ∀(Γ:aQ),S Γ->∀ env,(∀ p∈ env,aJ p.2)->(∀ p∈ env,∀ KP,qO P Γ KP (.yield p.1) p.2)->∀ KP c,qO P Γ KP c (C.oZ env KP c)
 bd: ∀ f,C.bd f=true->∀(args:Array Value) (w:World),(callFunc f args).run P w=.ok (.enter f args) w
theorem cv.at {P:Program}{C:de}(h:cv P C):yY P C (fun _=>True):=⟨h.mono,h.rF,fun _ _=>trivial,fun Γ _=>h.ok Γ,h.bd⟩
structure Kp (l:List Nat)(t t':List (Option SV)):Prop where
 len:t'.length=t.length
 get: ∀ i,i∉ l->t'[i]?=t[i]?
theorem Kp.refl (l:List Nat)(t:List (Option SV)):Kp l t t:=⟨rfl,fun _ _=>rfl⟩
theorem Kp.trans {l:List Nat}{a b c:List (Option SV)}(h:Kp l a b)(h':Kp l b c):Kp l a c:=⟨h'.len.trans h.len,fun i hi=>(h'.get i hi).trans (h.get i hi)⟩
theorem Kp.mono {l l':List Nat}{a b:List (Option SV)}(h:Kp l a b)(hl: ∀ i∈ l,i∈ l'):Kp l' a b:=⟨h.len,fun i hi=>h.get i (by grind)⟩
theorem Kp.set {l:List Nat}{t:List (Option SV)}{dst:Option Nat}{u:Option SV}(h: ∀ d,dst=some d->d∈ l):Kp l t (bV t dst u):=by
 cases dst with
 | none=>exact Kp.refl _ _
 | some d=>exact⟨by simp[bV],(by grind [Sx.bV])⟩
section
variable {P : Program} {call : sr -> PT} {C : de} {env : Env} {aR : qy} {n : Nat}
theorem yI (hm: ∀ f,aJ (call f)){ops:Array Oper}{l0:List Nat}(hl0: ∀(j:Nat) o d,ops[j]?=some o->o.dst=some d->d∈ l0){K K':St->VC}{t0:List (Option SV)}
  (hK: ∀ st',Kp l0 t0 st'.tmps->(K st').holds->(K' st').holds): ∀(l:List Nat) (st:St),Kp l0 t0 st.tmps->(mA P call ops l K st).holds->(mA P call ops l K' st).holds
 | [],st,hk,h=>hK st hk h
 | j::r,st,hk,h=>by
   simp only[mA] at h ⊢;cases ho:ops[j]? with
   | none=>rw[ho] at h;exact h.elim
   | some o =>rw[ho] at h;exact ck hm (fun u m nx hh=>yI hm hl0 hK r _ (hk.trans (Kp.set fun d hd=>hl0 j o d ho hd)) hh) h
theorem vp (hm: ∀ f,aJ (call f)){ops:Array Oper}{masks:List Nat}{l0:List Nat}(hl0: ∀(j:Nat) o d,ops[j]?=some o->o.dst=some d->d∈ l0){K K':St->VC}{t0:List (Option SV)}
  (hK: ∀ st',Kp l0 t0 st'.tmps->(K st').holds->(K' st').holds): ∀(n:Nat) (l:List Nat) (rd:List (Nat×Nat)) (st:St),Kp l0 t0 st.tmps->(cD P call ops masks n l rd K st).holds->(cD P call ops masks n l rd K' st).holds
 | n,[],_,st,hk,h=>by rw[sF] at h ⊢;exact hK st hk h
 | 0,_::_,_,_,_,h=>h.elim
 | n+1,x::r,rd,st,hk,h=>by
   simp only[cD] at h ⊢;split at h
   ·rename_i i _;cases ho:ops[i]? with
    | none=>rw[ho] at h;exact h.elim
    | some o =>rw[ho] at h;exact ck hm (fun u m nx hh=>vp hm hl0 hK n _ _ _ (hk.trans (Kp.set fun d hd=>hl0 i o d ho hd)) hh) h
   ·refine oQ (fun j hj=> ?_) h;cases hoj:ops[j]? with
    | none=>rw[hoj] at hj;exact hj.elim
    | some oj =>rw[hoj] at hj;simp only at hj ⊢;refine ck hm (fun u m nx hh=> ?_) hj;rw[jF,qS] at hh ⊢;exact⟨hh.1,hh.2.1,vp hm hl0 hK n _ _ _ (hk.trans (Kp.set fun d hd=>hl0 j oj d hoj hd)) hh.2.2⟩
theorem afY {call call':sr->PT}(hc: ∀ c args m nx K,(call c args m nx K).holds->(call' c args m nx K).holds){σ:Operand->Option SV}{m:Mem}{nx:Nat}{o:Op}{K:KL}:(lop P call σ m nx o K).holds->(lop P call' σ m nx o K).holds:=by
 cases o
 case call c =>
  show(FP P call σ c m nx K).holds->(FP P call' σ c m nx K).holds;unfold FP;split
  ·grind
  ·grind
  all_goals exact id
 case panic x =>
  show(EB call (σ x) m nx).holds->(EB call' (σ x) m nx).holds;unfold EB
  grind
 all_goals exact id
theorem yK {call call':sr->PT}(hc: ∀ c args m nx K,(call c args m nx K).holds->(call' c args m nx K).holds){ops:Array Oper}{j:Nat}{o:Oper}{K:St->VC}{st:St}(h:(dF P call ops j o K st).holds):(dF P call' ops j o K st).holds:=by grind [afY,dF]
theorem GL {call call':sr->PT}(hm: ∀ f,aJ (call f))(hc: ∀ c args m nx K,(call c args m nx K).holds->(call' c args m nx K).holds){ops:Array Oper}{K:St->VC}: ∀(l:List Nat) (st:St),(mA P call ops l K st).holds->(mA P call' ops l K st).holds
 | [],_,h=>h
 | j::r,st,h=>by
   simp only[mA] at h ⊢;cases ho:ops[j]? with
   | none=>rw[ho] at h;exact h.elim
   | some o =>rw[ho] at h;exact yK hc (ck hm (fun u m nx hh=>GL hm hc r _ hh) h)
theorem vo {call call':sr->PT}(hm: ∀ f,aJ (call f))(hc: ∀ c args m nx K,(call c args m nx K).holds->(call' c args m nx K).holds){ops:Array Oper}{masks:List Nat}{K:St->VC} :
  ∀(n:Nat) (l:List Nat) (rd:List (Nat×Nat)) (st:St),(cD P call ops masks n l rd K st).holds->(cD P call' ops masks n l rd K st).holds
 | n,[],_,st,h=>by rw[sF] at h ⊢;exact h
 | 0,_::_,_,_,h=>h.elim
 | n+1,x::r,rd,st,h=>by
   simp only[cD] at h ⊢;split at h
   ·rename_i i _;cases ho:ops[i]? with
    | none=>rw[ho] at h;exact h.elim
    | some o =>rw[ho] at h;exact yK hc (ck hm (fun u m nx hh=>vo hm hc n _ _ _ hh) h)
   ·refine oQ (fun j hj=> ?_) h;cases hoj:ops[j]? with
    | none=>rw[hoj] at hj;exact hj.elim
    | some oj =>rw[hoj] at hj;simp only at hj ⊢;refine yK hc (ck hm (fun u m nx hh=> ?_) hj);rw[jF,qS] at hh ⊢;exact⟨hh.1,hh.2.1,vo hm hc n _ _ _ hh.2.2⟩
theorem Pr {ops:Array Oper}{j:Nat}{o:Oper}{d:Nat}(ho:ops[j]?=some o)(hd:o.dst=some d):d∈ ops.toList.filterMap (·.dst) :=(by grind)
theorem Kp.hd {body:Code}{A:bp}{st:St}{x:A.α}(h:w9 body A st x=true):Kp (written body) st.tmps (Sx.hd body A st x).tmps:=by
 simp only[w9,Bool.and_eq_true,List.all_eq_true,List.contains_iff_mem] at h;refine⟨by simp[Sx.hd,qd,tn],fun i hi=> ?_⟩
 grind [FX,Mx,Sx.hd,hi]
theorem VR {c:Option SV}{t t' f f':VC}(ht:t.holds->t'.holds)(hf:f.holds->f'.holds):(Mf c t f).holds->(Mf c t' f').holds:=by
 unfold Mf;split
 ·grind
 ·grind [dx]
 ·exact id
theorem DK {l0:List Nat}{f f':XK->St->VC}(hf: ∀(K K':XK) st,(∀ e st',Kp l0 st.tmps st'.tmps->(K e st').holds->(K' e st').holds)->(f K st).holds->(f' K' st).holds): ∀(n:Nat) (K K':XK) (st:St),
  (∀ e st',Kp l0 st.tmps st'.tmps->(K e st').holds->(K' e st').holds)->(BR n f K st).holds->(BR n f' K' st).holds
 | 0,_,_,_,_,h=>h
 | n+1,K,K',st,hK,h=>by
   simp only[BR] at h ⊢;refine hf _ _ st (fun e st' hk hh=> ?_) h;cases e with
   | normal=>exact DK hf n K K' st' (fun e st'' hk'=>hK e st'' (hk.trans hk')) hh
   | exit id=>grind
   | ret=>grind
theorem s9 (hC: ∀ env,(∀ p∈ env,aJ p.2)->∀ KP c,aJ (C.oZ env KP c))
  (hCP: ∀ env,(∀ p∈ env,aJ p.2)->∀ KP KP':PK,(∀ v m nx,(KP v m nx).holds->(KP' v m nx).holds)->∀ c args m nx K,(C.oZ env KP c args m nx K).holds->(C.oZ env KP' c args m nx K).holds) (he: ∀ p∈ env,aJ p.2) :
  ∀(c:Code) (r:Bool) (X X':XP) (_: ∀ v st,(X v st).holds->(X' v st).holds) (K K':XK) (st:St),(∀ e st',Kp (written c) st.tmps st'.tmps->(K e st').holds->(K' e st').holds) ->
  (sx P C env aR n c r X K st).holds->(sx P C env aR n c r X' K' st).holds:=by
 have hm:=hC env he;intro c;induction c with
 | skip=>intro r X X' hX K K' st hK h;exact hK _ _ (Kp.refl _ _) h
 | label l=>intro r X X' hX K K' st hK h;exact hK _ _ (Kp.refl _ _) h
 | exit id=>intro r X X' hX K K' st hK h;exact hK _ _ (Kp.refl _ _) h
 | ret=>intro r X X' hX K K' st hK h;exact hK _ _ (Kp.refl _ _) h
 | region id ops d =>
   intro r X X' hX K K' st hK h;simp only[sx] at h ⊢;cases d with
   | true =>
     simp only at h ⊢;unfold draw at h ⊢;simp only at h ⊢;split at h
     ·refine vo (hm _) (hCP env he _ _ fun v m nx=>hX _ _) _ _ _ _ ?_;exact vp (hm _) (l0:=ops.toList.filterMap (fun(o:Oper)=>o.dst)) (t0:=st.tmps) (fun j o d ho hd=>Pr ho hd) (fun st' hk=>hK _ st' hk) _ _ _ st (Kp.refl _ _) h
     ·exact h.elim
   | false =>refine GL (hm _) (hCP env he _ _ fun v m nx=>hX _ _) _ _ ?_;exact yI (hm _) (l0:=ops.toList.filterMap (fun(o:Oper)=>o.dst)) (t0:=st.tmps) (fun j o d ho hd=>Pr ho hd) (fun st' hk=>hK _ st' hk) _ st (Kp.refl _ _) h
 | seq a b iha ihb =>
   intro r X X' hX K K' st hK h;simp only[sx] at h ⊢;cases hj:PZ aR a b st
   ·rw[hj] at h;simp only at h ⊢;refine iha r X X' hX _ _ st (fun e st' hk hh=> ?_) h;have hk1:=hk.mono (l':=written (.seq a b)) (fun i hi=>by simp only[written,List.mem_append];exact .inl hi);cases e with
    | normal=>exact ihb r X X' hX _ _ st' (fun e st'' hk'=>hK e st'' (hk1.trans (hk'.mono fun i hi=>by simp only[written,List.mem_append];exact .inr hi))) hh
    | exit id=>exact hK _ _ hk1 hh
    | ret=>exact hK _ _ hk1 hh
   ·rename_i L;rw[hj] at h;simp only at h ⊢;refine⟨iha r X X' hX _ _ st (fun e st' hk hh=> ?_) h.1,tC (g:=IT L a (sx P C env aR n b r X K) st) (g':=IT L a (sx P C env aR n b r X' K') st) (fun t h2=>fun x hx=> ?_) h.2⟩
    ·have hk1:=hk.mono (l':=written (.seq a b)) (fun i hi=>by simp only[written,List.mem_append];exact .inl hi);cases e with
     | normal=>exact hh
     | exit id=>exact hK _ _ hk1 hh
     | ret=>exact hK _ _ hk1 hh
    ·have h2:=h2 x hx;cases hok:w9 a (L.A t) st x with
     | false=>rw[hok] at h2;exact h2.elim
     | true =>rw[hok] at h2;have hk1:=(Kp.hd hok).mono (l':=written (.seq a b)) (fun i hi=>by simp only[written,List.mem_append];exact .inl hi);exact ihb r X X' hX _ _ _ (fun e st'' hk'=>hK e st'' (hk1.trans (hk'.mono fun i hi=>by simp only[written,List.mem_append];exact .inr hi))) h2
 | cond c a b iha ihb =>
   intro r X X' hX K K' st hK h;simp only[sx] at h ⊢
   exact VR (iha r X X' hX _ _ st fun e st' hk=>hK e st' (hk.mono fun i hi=>by simp only[written,List.mem_append];exact .inl hi))
    (ihb r X X' hX _ _ st fun e st' hk=>hK e st' (hk.mono fun i hi=>by simp only[written,List.mem_append];exact .inr hi)) h
 | block id body ih =>
   intro r X X' hX K K' st hK h;simp only[sx] at h ⊢;refine ih r X X' hX _ _ st (fun e st' hk hh=> ?_) h;cases e with
   | normal=>exact hK _ _ hk hh
   | ret=>exact hK _ _ hk hh
   | exit j =>
     simp only at hh ⊢;split at hh
     ·rename_i e;rw[if_pos e];exact hK _ _ hk hh
     ·rename_i e;rw[if_neg e];exact hK _ _ hk hh
 | loop body ih =>
   intro r X X' hX K K' st hK h;simp only[sx] at h ⊢;cases ha:adz aR body st with
   | none=>rw[ha] at h;exact DK (f:=sx P C env aR n body r X) (f':=sx P C env aR n body r X') (ih r X X' hX) n K K' st hK h
   | some A =>
     rw[ha] at h;simp only at h ⊢;refine⟨h.1,tC (g:=QW A body (sx P C env aR n body r X) K st) (g':=QW A body (sx P C env aR n body r X') K' st) (fun t h2=>fun x hx=> ?_) h.2⟩;have h2:=h2 x hx;cases hok:w9 body (A.A t) st x with
     | false=>rw[hok] at h2;exact h2.elim
     | true =>
       rw[hok] at h2;refine ih r X X' hX _ _ _ (fun e st1 hk hh=> ?_) h2;cases e with
       | normal=>exact hh
       | exit id=>exact hK _ _ ((Kp.hd hok).trans hk) hh
       | ret=>exact hK _ _ ((Kp.hd hok).trans hk) hh
 | rangeFunc g ps a b iha ihb =>
   intro r X X' hX K K' st hK h;cases r with
   | true=>exact h
   | false =>
     simp only[sx] at h ⊢;split at h
     ·split at h
      ·intro R;refine hC _ (fun p hp=> ?_) _ _ _ _ _ _ _ (fun v m nx hh=> ?_) (h R)
       ·rcases List.mem_cons.1 hp with e | hp
        ·subst e;exact DS (fun K K' st hK=>iha true FV FV (fun _ _ h=>h) K K' st fun e st' _=>hK e st') (fun K K' st hK=>ihb true FV FV (fun _ _ h=>h) K K' st fun e st' _=>hK e st')
        ·exact he p hp
       ·unfold KA at hh ⊢;split at hh
        ·exact hK _ _ (Kp.refl _ _) hh
        ·exact hK _ _ (Kp.refl _ _) hh
        ·exact hK _ _ (Kp.refl _ _) hh
        ·exact hh
      ·exact h
     ·exact h
 | scope b ih=>intro r X X' hX K K' st hK h;simp only[sx] at h ⊢;exact ih r X X' hX K K' st hK h
 | goto l=>intro r X X' hX K K' st hK h;exact h
 | refuse w=>intro r X X' hX K K' st hK h;exact h
theorem RF {E:Nat->Nat}{st:St}{a:Act}(ht:cK E st.tmps a){c:Operand}{t f:VC}(h:(Mf (ev st.tmps c) t f).holds): ∃ b,a.eval c=.bool b/\(if b then t else f).holds:=by
 unfold Mf at h;split at h
 ·rename_i b hb;have:=ht.reads _ _ hb;refine⟨b,by rw[this];rfl,?_⟩
  grind
 ·rename_i b hb;have:=ht.reads _ _ hb;rw[dx] at h;refine⟨b,by rw[this];rfl,?_⟩
  grind
 ·exact h.elim
theorem aao {X:XP}{K:XK}{Γ:aQ}{E:Nat->Nat}{st:St}{ops:Array Oper}(hwt:dO st.nx st.tmps=true): ∀ e a w,cK E (unsure ops st.tmps) a->qz (fun v m nx=>X v ⟨unsure ops st.tmps,m,nx⟩) Γ E st.nx e a w->jR K X Γ E st.nx e a w:=by rintro e a w ht ⟨ch,rfl,hd,E',v,m',nx',h1,h2,rfl,h4,h5,h6⟩;exact .inr ⟨v,E',_,rfl,h4,h1,h2,⟨ht.congr (OE hwt) h1,m4 h2 (OE hwt),hd,h5⟩,h6⟩
theorem DL {body:Code}{f:XK->St->VC}{X:XP}{Γ:aQ}{ro:Option Nat}
  (hf: ∀(K:XK) st E a w,(f K st).holds->Sat Γ E st a w->body.wpIn (Fr ro) 0 P (jR K X Γ E st.nx) a w): ∀(n:Nat) (K:XK) (st:St) (E:Nat->Nat) (a:Act) (w:World),
  (BR n f K st).holds->Sat Γ E st a w->∀(b:Frame) (k:List Item) (cs:List Frame),b.roundOf=(Fr ro).round->(Fr ro).fn b.fn->(Fr ro).room (cs.length+1+0)->∃ e a' w',jR K X Γ E st.nx e a' w'/\ArrivesIn (Machine.fenced P (Fr ro)) P (lone (b.atR a (.code body::.inLoop body::k)) cs w) b k cs e a' w'
 | 0,_,_,_,_,_,h,_,_,_,_,_,_,_=>h.elim
 | n+1,K,st,E,a,w,h,hs,b,k,cs,hro,hb,hr=>by
   simp only[BR] at h;obtain⟨e,a1,w1,hq,harr⟩:=hf _ st E a w h hs b (.inLoop body::k) cs hro hb hr;rcases hq with ⟨ex,rfl,E1,st1,g1,g2,g3,g4⟩ | hp
   rotate_left
   ·have hp':=hp;obtain⟨v,E1,st1,rfl,_⟩:=hp';exact⟨_,a1,w1,.inr hp,.pass (x:=.inLoop body) rfl (by grind) harr⟩
   cases ex with
   | normal =>obtain⟨e2,a2,w2,hq2,harr2⟩:=DL hf n K st1 E1 a1 w1 g4 g3 b k cs hro hb hr;exact⟨e2,a2,w2,hq2.weaken g1 g2,.of_steps (StepsIn.trans harr (.one (fenced_calm hb hr rfl) stepR_inLoop)) harr2⟩
   | exit id=>exact⟨_,a1,w1,.inl (by grind [Sx.j8]),.pass (x:=.inLoop body) rfl (by grind [Ex.to]) harr⟩
   | ret=>exact⟨_,a1,w1,.inl (by grind [Sx.j8]),.pass (x:=.inLoop body) rfl (by grind [Ex.to]) harr⟩
theorem La {S:aQ->Prop}(hmix:P.follows .mixedOrders=true)(hC:yY P C S)(hem: ∀ p∈ env,aJ p.2): ∀(c:Code) (r:Bool) (ro:Option Nat),(r=false->ro=none)->∀(Γ:aQ),S Γ->(r=false->Γ.rf=true)->(∀ p∈ env,∀ KP,qO P Γ KP (.yield p.1) p.2) ->
  ∀(X:XP) (K:XK) (st:St) (E:Nat->Nat) (a:Act) (w:World),
  (sx P C env aR n c r X K st).holds->Sat Γ E st a w->c.wpIn (Fr ro) 0 P (jR K X Γ E st.nx) a w:=by
 have hm:=hC.mono env hem;intro c;induction c with
 | skip=>intro r ro hrr Γ hS hrf hek X K st E a w h hs;exact wpIn_skip (.inl ⟨.normal,rfl,E,st,fun _ _=>rfl,Nat.le_refl _,hs,h⟩)
 | label l=>intro r ro hrr Γ hS hrf hek X K st E a w h hs;exact wpIn_label (.inl ⟨.normal,rfl,E,st,fun _ _=>rfl,Nat.le_refl _,hs,h⟩)
 | exit id=>intro r ro hrr Γ hS hrf hek X K st E a w h hs;exact wpIn_exit (.inl ⟨.exit id,rfl,E,st,fun _ _=>rfl,Nat.le_refl _,hs,h⟩)
 | ret=>intro r ro hrr Γ hS hrf hek X K st E a w h hs;exact wpIn_ret (.inl ⟨.ret,rfl,E,st,fun _ _=>rfl,Nat.le_refl _,hs,h⟩)
 | region id ops d =>
   intro r ro hrr Γ hS hrf hek X K st E a w h hs;simp only[sx] at h;cases d with
   | true=>exact VX hmix (hm _) (hC.ok Γ hS env hem hek _) h hs (aao hs.wt) fun a w hb=>.inl ⟨.normal,rfl,hb⟩
   | false=>exact wpIn_region (Dw (hC.ok Γ hS env hem hek _) hs.wt (aao hs.wt) _ h hs hs.tm.unsure (fun _ _=>rfl) (Nat.le_refl _) fun a w hb=>.inl ⟨.normal,rfl,hb⟩)
 | seq x y ihx ihy =>
   intro r ro hrr Γ hS hrf hek X K st E a w h hs;simp only[sx] at h;cases hj:PZ aR x y st
   ·rw[hj] at h;simp only at h;refine wpIn_seq (wpIn_mono (ihx r ro hrr Γ hS hrf hek X _ st E a w h hs) ?_);rintro e a1 w1 (⟨ex,rfl,E1,st1,g1,g2,g3,g4⟩ | hp)
    rotate_left
    ·have hp':=hp;obtain⟨v,E1,st1,rfl,_⟩:=hp';exact .inr hp
    cases ex with
    | normal=>exact wpIn_mono (ihy r ro hrr Γ hS hrf hek X K st1 E1 a1 w1 g4 g3) fun e a2 w2 hb=>hb.weaken g1 g2
    | exit id=>exact .inl ⟨.exit id,rfl,E1,st1,g1,g2,g3,g4⟩
    | ret=>exact .inl ⟨.ret,rfl,E1,st1,g1,g2,g3,g4⟩
   ·rename_i L;rw[hj] at h;simp only at h;obtain⟨h1,h2⟩:=h
    have hx:=s9 hC.mono hC.rF hem x r X X (fun _ _ h=>h) _ (fun e st1=>.and (.atom (Kp (written x) st.tmps st1.tmps)) (match e with
     | .normal=>entry L x st st1
     | e=>K e st1)) st (fun e st1 hk hh=>⟨hk,by cases e<;>exact hh⟩) h1
    refine wpIn_seq (wpIn_mono (ihx r ro hrr Γ hS hrf hek X _ st E a w hx hs) ?_);rintro e a1 w1 (⟨ex,rfl,E1,st1,g1,g2,g3,hkp,g4⟩ | hp)
    rotate_left
    ·have hp':=hp;obtain⟨v,E1,st1,rfl,_⟩:=hp';exact .inr hp
    have hkp:Kp (written x) st.tmps st1.tmps:=hkp;cases ex with
    | normal =>
      have g4:(entry L x st st1).holds:=g4;unfold entry at g4;obtain⟨ht,y0,hy0,hat⟩:=sP g4;obtain⟨E',q1,q2⟩:=vg hat hs.mm.cx.1 hs.wt hkp.get hkp.len g3;have hr:=vV h2 _ ht y0 hy0;have hok:w9 x (L.A (L.tag st1)) st y0=true:=by
       unfold A4 at hat;split at hat
       ·rename_i h';exact h'
       ·exact hat.elim
      rw[hok] at hr;exact wpIn_mono (ihy r ro hrr Γ hS hrf hek X K _ E' a1 w1 hr q2) fun e a2 w2 hb=>hb.weaken (fun k hk=>(q1 k hk).trans (g1 k hk)) (Nat.le_add_right _ _)
    | exit id=>exact .inl ⟨.exit id,rfl,E1,st1,g1,g2,g3,g4⟩
    | ret=>exact .inl ⟨.ret,rfl,E1,st1,g1,g2,g3,g4⟩
 | cond c x y ihx ihy =>
   intro r ro hrr Γ hS hrf hek X K st E a w h hs;simp only[sx] at h;obtain⟨b,hb,hk⟩:=RF hs.tm h;refine wpIn_cond hb ?_;cases b
   ·exact ihy r ro hrr Γ hS hrf hek X K st E a w hk hs
   ·exact ihx r ro hrr Γ hS hrf hek X K st E a w hk hs
 | block id body ih =>
   intro r ro hrr Γ hS hrf hek X K st E a w h hs;simp only[sx] at h;refine wpIn_block (wpIn_mono (ih r ro hrr Γ hS hrf hek X _ st E a w h hs) ?_);rintro e a1 w1 (⟨ex,rfl,E1,st1,g1,g2,g3,g4⟩ | hp)
   rotate_left
   ·have hp':=hp;obtain⟨v,E1,st1,rfl,_⟩:=hp';exact .inr hp
   cases ex with
   | normal=>exact .inl ⟨.normal,rfl,E1,st1,g1,g2,g3,g4⟩
   | ret=>exact .inl ⟨.ret,rfl,E1,st1,g1,g2,g3,g4⟩
   | exit j =>
     simp only[Ex.to,Exit.inBlock];simp only at g4;split
     ·rename_i e;rw[if_pos e] at g4;exact .inl ⟨.normal,rfl,E1,st1,g1,g2,g3,g4⟩
     ·rename_i e;rw[if_neg e] at g4;exact .inl ⟨.exit j,rfl,E1,st1,g1,g2,g3,g4⟩
 | loop body ih =>
   intro r ro hrr Γ hS hrf hek X K st E a w h hs;simp only[sx] at h;cases ha:adz aR body st with
   | none =>rw[ha] at h;intro b k cs hro hb hr;obtain⟨e,a',w',hq,harr⟩:=DL (fun K st E a w h hs=>ih r ro hrr Γ hS hrf hek X K st E a w h hs) n K st E a w h hs b k cs hro hb hr;exact⟨e,a',w',hq,.of_steps (.one (fenced_calm hb hr rfl) stepR_loop) harr⟩
   | some L =>
     rw[ha] at h;simp only at h;obtain⟨hent,hrounds⟩:=h;have hent:(entry L body st st).holds:=hent;let Inv:=fun(t:Nat) (x:(L.A t).α) (a:Act) (w:World)=>t∈ L.tags/\(L.A t).pre st x/\w9 body (L.A t) st x=true/\∃ E',(∀ k,k<st.nx->E' k=E k)/\Sat Γ E' (hd body (L.A t) st x) a w;have hok: ∀ {A:bp} {y:A.α} {st1},(A4 body A st y st1).holds->w9 body A st y=true:=by
      intro A y st1 h;unfold A4 at h;split at h
      ·rename_i h';exact h'
      ·exact h.elim
     have hent2: ∃ t x,Inv t x a w:=by unfold entry at hent;obtain⟨ht,x0,hx0,hat0⟩:=sP hent;obtain⟨E',g1,g2⟩:=vg hat0 hs.mm.cx.1 hs.wt (fun i _=>rfl) rfl hs;exact⟨L.tag st,x0,ht,hx0,hok hat0,E',g1,g2⟩
     obtain⟨t0,x0,hinv0⟩:=hent2;intro b k cs hro hb hr;have key: ∀(N:Nat) (t:Nat) (x:(L.A t).α) a w,(L.A t).sM st x=N->Inv t x a w->∃ e a' w',jR K X Γ E st.nx e a' w'/\ArrivesIn (Machine.fenced P (Fr ro)) P (lone (b.atR a (.code body::.inLoop body::k)) cs w) b k cs e a' w':=by
      intro N;induction N using Nat.strongRecOn with
      | _ N ihN =>
        intro t x a w hN ⟨ht,hx,hokx,E1,hE1,hs1⟩;have hrd:=vV hrounds t ht x hx;rw[hokx] at hrd
        have hr2:=s9 hC.mono hC.rF hem body r X X (fun _ _ h=>h) _ (fun e st1=>.and (.atom (Kp (written body) (hd body (L.A t) st x).tmps st1.tmps)) (match e with
         | .normal=>OU L body st ((L.A t).sM st x) st1
         | e=>K e st1)) (hd body (L.A t) st x) (fun e st1 hk hh=>⟨hk,by cases e<;>exact hh⟩) hrd
        obtain⟨e,a1,w1,hq,harr⟩:=ih r ro hrr Γ hS hrf hek X _ _ E1 a w hr2 hs1 b (.inLoop body::k) cs hro hb hr;rcases hq with ⟨ex,rfl,E2,st1,g1,g2,g3,g4⟩ | hp
        rotate_left
        ·have hp':=hp.weaken (nx:=st.nx) (E:=E) hE1 (Nat.le_add_right _ _);have hp2:=hp;obtain⟨v,E2,st1,rfl,_⟩:=hp2;exact⟨_,a1,w1,.inr hp',.pass (x:=.inLoop body) rfl (fun _ _=>.inl (by simp)) harr⟩
        have hE2: ∀ k,k<st.nx->E2 k=E k:=fun k hk=>(g1 k (Nat.lt_of_lt_of_le hk (Nat.le_add_right _ _))).trans (hE1 k hk);have hn2:st.nx<=st1.nx:=Nat.le_trans (Nat.le_add_right _ _) g2;obtain⟨hkp,g4⟩:=g4;have hkp:Kp (written body) (hd body (L.A t) st x).tmps st1.tmps:=hkp;cases ex with
        | normal =>
          have g4:(OU L body st ((L.A t).sM st x) st1).holds:=g4;unfold OU at g4;obtain⟨ht1,y,⟨hy,hlt⟩,hat⟩:=sP g4;have hkp2:=(Kp.hd hokx).trans hkp;obtain⟨E3,q1,q2⟩:=vg hat hs.mm.cx.1 hs.wt hkp2.get hkp2.len g3;have hinv:Inv (L.tag st1) y a1 w1:=⟨ht1,hy,hok hat,E3,fun k hk=>(q1 k hk).trans (hE2 k hk),q2⟩
          obtain⟨e2,a2,w2,hq2,harr2⟩:=ihN ((L.A (L.tag st1)).sM st y) (hN▸ hlt) (L.tag st1) y a1 w1 rfl hinv;exact⟨e2,a2,w2,hq2,.of_steps (StepsIn.trans harr (.one (fenced_calm hb hr rfl) stepR_inLoop)) harr2⟩
        | exit id=>exact⟨_,a1,w1,.inl ⟨.exit id,rfl,E2,st1,hE2,hn2,g3,g4⟩,.pass (x:=.inLoop body) rfl (fun _ _=>.inl (by simp[Ex.to])) harr⟩
        | ret=>exact⟨_,a1,w1,.inl ⟨.ret,rfl,E2,st1,hE2,hn2,g3,g4⟩,.pass (x:=.inLoop body) rfl (fun _ _=>.inl (by simp[Ex.to])) harr⟩
     obtain⟨e,a',w',hq,harr⟩:=key _ t0 x0 a w rfl hinv0;exact⟨e,a',w',hq,.of_steps (.one (fenced_calm hb hr rfl) stepR_loop) harr⟩
 | rangeFunc g ps assign body iha ihb =>
   intro r ro hrr Γ hS hrf hek X K st E a w h hs;cases r with
   | true=>exact h.elim
   | false =>
     have hro:=hrr rfl;subst hro;simp only[sx] at h;split at h
     ·rename_i f first captured hg hwf
      split at h
      ·rename_i hbd;refine wpIn_rangeFunc fun fn _=> ?_;have hgv:a.eval g=(SV.func (.func f) first captured).val E:=hs.tm.reads _ _ hg
       have hgw:=cK.wf hs.wt _ _ hg;simp only[SV.wf,Bool.and_eq_true] at hgw;obtain⟨Ds,d1,d2,d3,d4⟩:=hs.df;obtain⟨Δ,hle,hkeep,hnx,hE0,hsm⟩:=hs.mm.enter hwf (R:={state:=.ready,pending:=none,fn,tmps:=a.tmps,params:=ps,assign,body,defers:=w.heap.size}) rfl rfl (fun D hD=>(d3 D hD).1);have hEk: ∀ k,k<st.nx->Δ.E0 k=E k:=fun k hk=>by rw[hE0];simp[Nat.ne_of_lt hk]
       have hEn:Δ.E0 st.nx=w.heap.size+1:=by rw[hE0];simp
       generalize hw1:(w.alloc (Obj.deferred (some []))).alloc (.loop {state:=.ready,pending:=none,fn,tmps:=a.tmps,params:=ps,assign,body,defers:=w.heap.size})=w1 at hsm
       refine⟨w.heap.size+1,[ED w.heap.size],w1,{target:=.fn (.func f) (SV.vals Δ.E0 captured).toArray,args:=(SV.vals Δ.E0 (first++[.yield st.nx])).toArray},w1,f,
        (SV.vals Δ.E0 (first++[.yield st.nx]++captured)).toArray,w1,by rw[← hw1];exact run_enterLoop_outer _ _ _ _ _,?_,fun _ _=>trivial,?_,fun h=>(by cases h),?_⟩
       ·have hc1:SV.vals Δ.E0 captured=SV.vals E captured:=SV.iC hEk captured hgw.2;have hc2:SV.vals Δ.E0 first=SV.vals E first:=SV.iC hEk first hgw.1
        simp only[resolve,hgv,SV.val,Deferred.ofValue,Sem.run_pure];rw[p8,hc1,hc2];simp[SV.vals,SV.val,hEn,Act.eval]
       ·simp only[invoke];have:=hC.bd f hbd (SV.vals Δ.E0 (first++[.yield st.nx]++captured)).toArray w1
        rw[show(SV.vals Δ.E0 (first++[SV.yield st.nx])).toArray++(SV.vals Δ.E0 captured).toArray=(SV.vals Δ.E0 (first++[.yield st.nx]++captured)).toArray by rw[p8 Δ.E0 (first++[SV.yield st.nx]) captured];simp only[List.append_toArray]]
        exact this
       ·refine HY.2 ?_;have hek2: ∀ p∈ (st.nx,wq st.nx {state:=.ready,pending:=none,fn,tmps:=a.tmps,params:=ps,assign,body,defers:=w.heap.size} ps.toList st.tmps (sx P C env aR n assign true FV) (sx P C env aR n body true FV))::env,∀ KP,qO P Δ KP (.yield p.1) p.2:=by
         intro p hp KP;rcases List.mem_cons.1 hp with e | hp
         ·subst e
          exact Yi (Γ:=Δ) (R:={state:=.ready,pending:=none,fn,tmps:=a.tmps,params:=ps,assign,body,defers:=w.heap.size}) (by omega) hEn hEk ⟨hs.tm.size,hs.tm.val⟩ hs.wt
           (fun Θ hΘ K st E a w h hs=>iha true _ (fun h=>by cases h) Θ (hC.up hS (aQ.le_trans hle hΘ)) (fun h=>by cases h) (fun p hp KP=>(hek p hp KP).mono (aQ.le_trans hle hΘ)) FV K st E a w h hs)
           (fun Θ hΘ K st E a w h hs=>ihb true _ (fun h=>by cases h) Θ (hC.up hS (aQ.le_trans hle hΘ)) (fun h=>by cases h) (fun p hp KP=>(hek p hp KP).mono (aQ.le_trans hle hΘ)) FV K st E a w h hs) KP
         ·exact(hek p hp KP).mono hle
        have hem2: ∀ p∈ (st.nx,wq st.nx {state:=.ready,pending:=none,fn,tmps:=a.tmps,params:=ps,assign,body,defers:=w.heap.size} ps.toList st.tmps (sx P C env aR n assign true FV) (sx P C env aR n body true FV))::env,aJ p.2:=by
         intro p hp;rcases List.mem_cons.1 hp with e | hp
         ·subst e;exact DS (fun K K' st hK=>s9 hC.mono hC.rF hem assign true FV FV (fun _ _ h=>h) K K' st fun e st' _=>hK e st') (fun K K' st hK=>s9 hC.mono hC.rF hem body true FV FV (fun _ _ h=>h) K K' st fun e st' _=>hK e st')
         ·exact hem p hp
        have hcall:=hC.ok Δ (hC.up hS hle) _ hem2 hek2 Al (.fn f) Δ Δ.le_refl _ _ _ _ (h _) (by
          simp only[Mem.wf,Bool.and_eq_true];exact⟨rfl,Mem.j0 (Nat.le_succ _) hwf⟩) (by
          refine ga (ga (SV.l8 (Nat.le_succ _) _ hgw.1) ?_) (SV.l8 (Nat.le_succ _) _ hgw.2);simp[SV.gM,SV.wf]) _ _ hsm
        simp only[sr.sem] at hcall;rw[hC.bd f hbd] at hcall;refine Calls.mono hcall ?_;rintro e w3 (⟨v,rfl,haft⟩ | ⟨ch,_,_,_,_,_,_,_,_,_,_,hno⟩)
        rotate_left
        ·exact hno.elim
        obtain⟨E3,sv,m3,nx3,q1,q2,_,q4,q5⟩:=haft;have hEe: ∀ k,k<st.nx->E3 k=E k:=fun k hk=>(q1 k (Nat.lt_succ_of_lt hk)).trans (hEk k hk);have hEl:E3 st.nx=w.heap.size+1:=(q1 st.nx (Nat.lt_succ_self _)).trans hEn;have hnn:st.nx<=nx3:=Nat.le_trans (Nat.le_succ _) q2;cases sv with
        | none=>exact q5.elim
        | some u =>
          simp only[lift] at q5
          have fin: ∀ stt pe R3,m3.get st.nx=some (.loop stt pe R3)->stt≠.busy->∃ w4,(Instr.endLoop (w.heap.size+1)).run P w3=.ok pe w4 /\
            Sat Γ E3 ⟨st.tmps,m3.drop st.nx,nx3⟩ {a with defers:=[ED w.heap.size]++a.defers} w4:=by
           intro stt pe R3 hk hb;obtain⟨o,ho,hbk⟩:=q4.qD st.nx _ hk rfl;have hbk:o=.loop {R3 with state:=stt,pending:=pe}:=hbk;subst hbk;rw[hEl] at ho;refine⟨_,run_endLoop ho hb,?_⟩;have hl:=q4.leave (st':=.exhausted) (pe':=pe) hk;rw[hEl] at hl;refine⟨⟨hs.tm.size,fun i v hv=>(hs.tm.congr hs.wt hEe).val i v hv⟩,m4 hnn hs.wt,?_,hl.weaken hle⟩;refine⟨w.heap.size::Ds,by simp[d1],?_,fun D hD=> ?_,fun hno=>by rw[hrf rfl] at hno;cases hno⟩
           ·refine List.nodup_cons.2 ⟨fun hm=> ?_,d2⟩;have:=(Array.getElem?_eq_some_iff.1 (d3 _ hm).1).1;omega
           ·refine⟨hl.kp D (hkeep D (by rcases List.mem_cons.1 hD with e | e;subst e;simp;simp[e])),?_⟩;rcases List.mem_cons.1 hD with e | e
            ·subst e;refine⟨fun hm=> ?_,hs.mm.ext.size⟩;have:=(Array.getElem?_eq_some_iff.1 (hs.mm.kp _ hm)).1;omega
            ·exact(d3 D e).2
          unfold KA at q5;split at q5
          ·rename_i R3 hk;obtain⟨w4,hw4,hsat⟩:=fin _ _ _ hk (by simp);exact⟨_,w4,hw4,.inl ⟨.normal,rfl,E3,_,hEe,hnn,hsat,q5⟩⟩
          ·rename_i R3 hk;obtain⟨w4,hw4,hsat⟩:=fin _ _ _ hk (by simp);exact⟨_,w4,hw4,wpIn_ret (.inl ⟨.ret,rfl,E3,_,hEe,hnn,hsat,q5⟩)⟩
          ·rename_i id R3 hk;obtain⟨w4,hw4,hsat⟩:=fin _ _ _ hk (by simp);exact⟨_,w4,hw4,wpIn_exit (.inl ⟨.exit id,rfl,E3,_,hEe,hnn,hsat,q5⟩)⟩
          ·exact q5.elim
      ·exact h.elim
     ·exact h.elim
 | scope b ih =>
   intro r ro hrr Γ hS hrf hek X K st E a w h hs;simp only[sx] at h;refine z7 (wpIn_mono (ih r ro hrr Γ hS hrf hek X K st E a w h hs) ?_);rintro e a1 w1 (⟨ex,rfl,hb⟩ | hp)
   rotate_left
   ·have hp':=hp;obtain⟨v,E1,st1,rfl,_⟩:=hp';exact .inr hp
   cases ex<;>exact .inl ⟨_,rfl,hb⟩
 | goto l=>intro r ro hrr Γ hS hrf hek X K st E a w h;exact h.elim
 | refuse w=>intro r ro hrr Γ hS hrf hek X K st E a w h;exact h.elim
theorem DG (hmix:P.follows .mixedOrders=true)(hC:cv P C)(hem: ∀ p∈ env,aJ p.2): ∀(c:Code) (r:Bool) (ro:Option Nat),(r=false->ro=none)->∀(Γ:aQ),(r=false->Γ.rf=true)->(∀ p∈ env,∀ KP,qO P Γ KP (.yield p.1) p.2) ->
  ∀(X:XP) (K:XK) (st:St) (E:Nat->Nat) (a:Act) (w:World),
  (sx P C env aR n c r X K st).holds->Sat Γ E st a w->c.wpIn (Fr ro) 0 P (jR K X Γ E st.nx) a w :=
 fun c r ro hrr Γ hrf hek X K st E a w=>La hmix hC.at hem c r ro hrr Γ trivial hrf hek X K st E a w
end
def Xz (P:Program)(st:St):ResultVar->Option SV
 | .tmp t=>slot st.tmps t
 | .cell a t=>(match slot st.tmps a with
   | some (.ptr key true o)=>(match st.m.get key with
     | some (.cells cs _ _)=>partOf P t cs o
     | _=>none)
   | _=>none)
def fc (P:Program)(st:St):List ResultVar->Option (List SV)
 | []=>some []
 | r::rs=>match Xz P st r,fc P st rs with
   | some v,some l=>some (v::l)
   | _,_=>none
def kL:List SV->SV
 | [v]=>v
 | l=>.bL l
def aq7 (nx:Nat)(KP:PK):XP:=fun v st=>p4 nx v st.m st.nx KP
def gR (P:Program)(C:de)(env:Env)(KP:PK)(aR:qy)(n:Nat)(fn:Func):PT:=fun args m nx K =>
 match fn.body with
 | some body=>sx P C env aR n body false (aq7 nx KP) (fun e st=>match e with
    | .exit _=>.fail "a jump out of a function"
    | _=>(match fc P st fn.results.toList with
      | some vs=>ah9 (Nat.ble 1000 n) nx (kL vs) st.m st.nx K
      | none=>.fail "a result that is not known"))
    ⟨args.map some++List.replicate (fn.ntmps - args.length) none,m,nx⟩
 | none=>.fail "a function without a body"
structure gF where
 cM:FuncId->Option PT
 fns:FuncId->Option Func
 aR:FuncId->qy
 rounds:Nat
 iter:FuncId->Option (Env->PT):=fun _=>none
def gF.bd (cfg:gF)(f:FuncId):Bool:=match cfg.fns f with
 | some fn=>fn.body.isSome
 | none=>false
def raise (KP:PK):PT:=fun args m nx _=>match args with
 | [.iface t v]=>(match v.wf nx with
   | true=>KP (.iface t v) m nx
   | false=>.fail "a key out of bounds")
 | _=>.fail "a panic of what"
def jJ (P:Program)(cfg:gF):Nat->Env->PK->sr->PT
 | _,env,_,.yield k=>(match env.find k with
   | some pt=>pt
   | none=>fun _ _ _ _=>.fail "a yield that is not known")
 | _,_,KP,.panic=>raise KP
 | 0,_,_,.fn _=>fun _ _ _ _=>.fail "calls too deep"
 | n+1,env,KP,.fn f=>match cfg.cM f with
   | some pt=>pt
   | none=>(match cfg.iter f with
     | some g=>g env
     | none=>(match cfg.fns f with
       | some fn=>gR P ⟨jJ P cfg n,cfg.bd⟩ env KP (cfg.aR f) cfg.rounds fn
       | none=>fun _ _ _ _=>.fail "a function that is not known"))
def calling (P:Program)(cfg:gF)(n:Nat):de:=⟨jJ P cfg n,cfg.bd⟩
structure ON (P:Program)(f:FuncId)(g:Env->PT):Prop where
 mono: ∀ env,(∀ p∈ env,aJ p.2)->aJ (g env)
 ok: ∀(Γ:aQ) env,(∀ p∈ env,aJ p.2)->(∀ p∈ env,∀ KP,qO P Γ KP (.yield p.1) p.2)->∀ KP,qO P Γ KP (.fn f) (g env)
structure Good (P:Program)(cfg:gF):Prop where
 mix:P.follows .mixedOrders=true
 cM: ∀ f pt,cfg.cM f=some pt->au P f pt/\aJ pt
 fns: ∀ f fn,cfg.fns f=some fn->P.funcs[f]?=some fn/\(fn.name== "runtime.NumGoroutine")=false
 iter: ∀ f g,cfg.iter f=some g->ON P f g
theorem Good.of {P:Program}{cfg:gF}(mix:P.follows .mixedOrders=true)(cM: ∀ f pt,cfg.cM f=some pt->au P f pt/\aJ pt) (fns: ∀ f fn,cfg.fns f=some fn->P.funcs[f]?=some fn/\(fn.name== "runtime.NumGoroutine")=false)
  (iter: ∀ f g,cfg.iter f=some g->ON P f g:=by intro f g h;cases h):Good P cfg:=⟨mix,cM,fns,iter⟩
section
variable {P : Program}
theorem XA {Γ:aQ}{E:Nat->Nat}{st:St}{a:Act}{w:World}(htm:cK E st.tmps a)(hmm:aG Γ E st.m st.nx w){r:ResultVar}{v:SV}(h:Xz P st r=some v) :
  (match r with
    | .tmp t=>(pure (a.tmps.getD t undef):Sem Value)
    | .cell b t=>do loadVar t (← asAddr (a.tmps.getD b undef))).run P w=.ok (v.val E) w:=by
 cases r with
 | tmp t =>have:=htm.val t v (s6 h);simp[Array.getD_eq_getD_getElem?,this]
 | cell b t =>
   simp only[Xz] at h;split at h
   ·rename_i key o hb;split at h
    ·rename_i cs tot ty hk;have hv:=htm.val b _ (s6 hb);obtain⟨ob,ho,c,fr,rfl,_,h2,_⟩:=hmm.qD key _ hk rfl;simp only[Array.getD_eq_getD_getElem?,hv,Option.getD_some,SV.val,asAddr,Sem.run_bind,Sem.run_pure,Result.andThen_ok];unfold partOf at h;split at h
     ·cases h
     ·rename_i d hd;split at h
      ·rename_i ha;split at h
       ·rename_i n hn;split at h
        ·rename_i l hl;injection h with h;subst h;have hg:=cW hl;have hll:=run_loadCells (P:=P) ho o (l.map (SV.val E)) (fun j v hj=>by
          rw[List.getElem?_map] at hj;cases hjl:l[j]? with
          | none=>rw[hjl] at hj;cases hj
          | some u=>rw[hjl] at hj;injection hj with hj;subst hj;exact h2 _ _ (hg.2 j u hjl))
         rw[List.length_map,hg.1] at hll;simp only[loadVar,Sem.run_bind,cJ hd,ha,Result.andThen_ok,if_true,bU hn,hll,Sem.run_pure,SV.bA,SV.val]
        ·cases h
       ·cases h
      ·rename_i ha;simp only[loadVar,Sem.run_bind,cJ hd,ha,Result.andThen_ok,Bool.false_eq_true,if_false,run_load,cell_of ho,h2 _ _ h]
    ·cases h
   ·cases h
theorem KK {Γ:aQ}{E:Nat->Nat}{st:St}{a:Act}{w:World}(htm:cK E st.tmps a)(hmm:aG Γ E st.m st.nx w): ∀ {rs:List ResultVar} {l:List SV},fc P st rs=some l ->
  (rs.mapM (fun r=>match r with
    | .tmp t=>(pure (a.tmps.getD t undef):Sem Value)
    | .cell b t=>do loadVar t (← asAddr (a.tmps.getD b undef))):Sem (List Value)).run P w=.ok (SV.vals E l) w
 | [],l,h=>by simp[fc] at h;subst h;simp[SV.vals]
 | r::rs,l,h=>by
   simp only[fc] at h;split at h
   ·rename_i v l' hv hl;injection h with h;subst h;simp only[List.mapM_cons,Sem.run_bind,XA htm hmm hv,Result.andThen_ok,KK htm hmm hl,Sem.run_pure,SV.vals]
   ·cases h
theorem yA {Γ:aQ}{E:Nat->Nat}{st:St}{a:Act}{w:World}(htm:cK E st.tmps a)(hmm:aG Γ E st.m st.nx w){fn:Func}{vs:List SV}(h:fc P st fn.results.toList=some vs) :
  (results fn a.tmps).run P w=.ok ((kL vs).val E) w:=by
 have:=KK (P:=P) htm hmm h;unfold results;rw[Array.mapM_eq_mapM_toList];simp only[Sem.run_bind,Sem.run_map];have key: ∀ r:Result (List Value),r=.ok (SV.vals E vs) w->((r.andThen fun a w'=>Result.ok a.toArray w').andThen fun a w'=>Sem.run P (pure (if h:a.size=1 then a[0] else Value.tuple a)) w')=Result.ok ((kL vs).val E) w:=by
  rintro r rfl;simp only[Result.andThen_ok,Sem.run_pure];congr 1
  match vs with
  | []=>rfl
  | [v]=>rfl
  | _::_::_=>simp[SV.vals,kL,SV.val]
 exact key _ this
theorem jk {f:FuncId}{fn:Func}(hf:P.funcs[f]?=some fn) (hn:(fn.name== "runtime.NumGoroutine")=false) {body:Code} (hb:fn.body=some body) (args:Array Value) (w:World) :
  (callFunc f args).run P w=.ok (.enter f args) w:=by
 simp only[callFunc,Sem.run_bind,run_program,Result.andThen_ok,hf,hn,hb];rfl
theorem aG.shut {Γ:aQ}{E:Nat->Nat}{m:Mem}{nx:Nat}{w:World}(h:aG Γ E m nx w){D:Nat}{ds:Option (List Deferred)}(hd:w.heap[D]?=some (.deferred ds))(hk:D∉ Γ.keep)(hD:Γ.w0.heap.size<=D)(o:Obj) :
  aG Γ E m nx (w.putObj D o):=by
 refine⟨fun k B a hm hn=> ?_,h.j9,h.lt,h.lE,⟨h.ext.os,h.ext.tape,h.ext.output,by simpa using h.ext.size,fun k hk' hm=> ?_⟩,h.cx,fun D' hD'=> ?_⟩
 ·obtain⟨o',ho,hb⟩:=h.jK k B a hm hn;refine⟨o',?_,hb⟩;rw[World.putObj_heap_other (fun e=> ?_)]
  ·exact ho
  ·rw[e,hd] at ho;injection ho with ho;exact hb.pG _ ho.symm
 ·rw[World.putObj_heap_other (by omega)];exact h.ext.block k hk' hm
 ·rw[World.putObj_heap_other (fun e=>hk (by rw[← e];exact hD'))];exact h.kp D' hD'
theorem tq {fn:Func}{Γ:aQ}{E:Nat->Nat}{m:Mem}{nx:Nat}{tmps:Array Value}{R:Ending->World->Prop}{u:FrameMode}(hu:u≠.run)
  (fin: ∀ w,aG Γ E m nx w->LeavesInM Fence.wide 0 P fn tmps R [] u w): ∀(Ds:List Nat) (w:World),Ds.Nodup ->
  (∀ D∈ Ds,w.heap[D]?=some (.deferred (some []))/\D∉ Γ.keep/\Γ.w0.heap.size<=D)->aG Γ E m nx w->LeavesInM Fence.wide 0 P fn tmps R (Ds.map ED) u w
 | [],w,_,_,hm=>fin w hm
 | D::Ds,w,hnd,hD,hm=>by obtain⟨h1,h2,h3⟩:=hD D (by simp);rw[List.nodup_cons] at hnd;refine⟨hu,.inl ⟨D,_,rfl,run_takeDeferred h1,tq hu fin Ds _ hnd.2 (fun D' hD'=> ?_) (hm.shut h1 h2 h3 _)⟩⟩;obtain⟨g1,g2⟩:=hD D' (by simp[hD']);exact⟨by rw[World.putObj_heap_other (fun e=>hnd.1 (by rw[← e];exact hD'))];exact g1,g2⟩
theorem UJ {nx:Nat}{v:SV}{m':Mem}{nx':Nat}{KP:PK}{Γ:aQ}{E E':Nat->Nat}{w:World}(h:(p4 nx v m' nx' KP).holds)(hv:v.wf nx'=true)(hs:aG Γ E' m' nx' w)
  (hg:Γ.wB<=nx) (hE: ∀ k,k<nx->E' k=E k) (hn:nx<=nx'):lB KP Γ E nx [{v:=v.val E',recovered:=false}] w:=by
 unfold p4 at h;split at h
 ·rename_i hw;simp only[Bool.and_eq_true] at hw;exact⟨E',v,older nx m',nx,hE,Nat.le_refl _,rfl,hw.1,hs.sub (fun k B hk=>(qX hk).1) (fun k B hk=>(qX hk).2) (.inr hg),h⟩
 ·exact⟨E',v,m',nx',hE,hn,rfl,hv,hs,h⟩
theorem aG.start {Δ:aQ}{E:Nat->Nat}{m:Mem}{nx:Nat}{w:World}(hs:aG Δ E m nx w)(ht:Δ.tail=[]){args:List SV}(hargs:SV.gM nx args=true)(k:Nat) :
  Sat Δ E ⟨args.map some++List.replicate (k - args.length) none,m,nx⟩ ⟨(SV.vals E args).toArray++Array.replicate (k - (SV.vals E args).toArray.size) undef,[]⟩ w:=by
 have hsize:(SV.vals E args).toArray.size=args.length:=by simp[SV.bA]
 refine⟨⟨by simp[SV.bA],fun i v hv=> ?_⟩,zR fun i v hv=> ?_,Marks.nil _ _ ht,hs⟩
 ·rw[List.getElem?_append] at hv;rw[Array.getElem?_append];split at hv
  ·rename_i hlt;rw[List.length_map] at hlt;rw[if_pos (by rw[hsize];exact hlt)];rw[List.getElem?_map] at hv;rw[List.getElem?_toArray,SV.bA,List.getElem?_map];cases ha:args[i]? with
   | none=>rw[ha] at hv;cases hv
   | some u=>rw[ha] at hv;injection hv with hv;injection hv with hv;subst hv;rfl
  ·rw[List.getElem?_replicate] at hv;split at hv<;>cases hv
 ·rw[List.getElem?_append] at hv;split at hv
  ·rw[List.getElem?_map] at hv;cases ha:args[i]? with
   | none=>rw[ha] at hv;cases hv
   | some u=>rw[ha] at hv;injection hv with hv;injection hv with hv;subst hv;exact SV.zT hargs ha
  ·rw[List.getElem?_replicate] at hv;split at hv<;>cases hv
theorem KW {S:aQ->Prop}{C:de}{env:Env}(hmix:P.follows .mixedOrders=true)(hC:yY P C S)(hem: ∀ p∈ env,aJ p.2){Γ:aQ}(hS:S Γ)(hek: ∀ p∈ env,∀ KP,qO P Γ KP (.yield p.1) p.2){KP:PK}{aR:qy}{n:Nat}{f:FuncId}{fn:Func}(hf:P.funcs[f]?=some fn)
  (hname:(fn.name== "runtime.NumGoroutine")=false):qO P Γ KP (.fn f) (gR P C env KP aR n fn):=by
 intro Δ' hle' args m nx K h hwf hargs E w hs';refine Out.mono (R:=aV (lift K) Δ'.own E nx) (RP:=lB KP Δ'.own E nx) ?_ (fun _ _ h=>h.GV) (fun _ _ h=>h.GV);have hle:=aQ.le_trans hle' Δ'.agt;have hs:=hs'.aqh;have htl:Δ'.own.tail=[]:=rfl;have hrf:Δ'.own.rf=true:=rfl;generalize Δ'.own=Δ at hle hs htl hrf ⊢;unfold gR at h;split at h
 ·rename_i body hb;simp only[sr.sem];rw[jk hf hname hb];simp only[Out];refine callsIn_wide.1 (callsIn_of_wp_marks (F:=Fence.wide) (n:=0) hf hb trivial ?_);refine wpIn_mono (La hmix hC hem body false none (fun _=>rfl) Δ (hC.up hS hle) (fun _=>hrf) (fun p hp KP=>(hek p hp KP).mono hle) _ _ _ E _ w h (hs.start htl hargs _)) (fun e a' w' hq=> ?_);rcases hq with ⟨ex,rfl,E',st',g1,g2,g3,g4⟩ | ⟨v,E',st',rfl,gw,g1,g2,g3,g4⟩
  ·obtain⟨Ds,d1,d2,d3,d4⟩:=g3.df;rw[htl,List.append_nil] at d1
   have fin: ∀ vs,fc P st' fn.results.toList=some vs->(ah9 (Nat.ble 1000 n) nx (kL vs) st'.m st'.nx K).holds ->
     LeavesInM Fence.wide 0 P fn a'.tmps (fun e w'=>(∃ v,e=.returned v/\aV (lift K) Δ E nx v w')∨∃ ch,e=.panicked ch/\lB KP Δ E nx ch w') a'.defers .returning w':=by
    intro vs hvs hk;rw[d1];refine tq (by simp) (fun w hm=>by show ∃ v,_/\_;exact⟨_,yA g3.tm hm hvs,.inl ⟨_,rfl,XB hk hm hs.cx.1 g1 g2⟩⟩) Ds w' d2 d3 g3.mm
   cases ex with
   | exit id=>exact g4.elim
   | normal =>
     simp only at g4;cases hvs:fc P st' fn.results.toList with
     | none=>rw[hvs] at g4;exact g4.elim
     | some vs=>rw[hvs] at g4;exact fin vs hvs g4
   | ret =>
     simp only at g4;cases hvs:fc P st' fn.results.toList with
     | none=>rw[hvs] at g4;exact g4.elim
     | some vs=>rw[hvs] at g4;exact fin vs hvs g4
  ·obtain⟨Ds,d1,d2,d3,d4⟩:=g3.df;rw[htl,List.append_nil] at d1;show LeavesInM _ _ _ _ _ _ _ _ _;rw[d1];exact tq (by simp) (fun w hm=>by show _∨_;exact .inr ⟨_,rfl,UJ g4 gw hm hs.cx.1 g1 g2⟩) Ds w' d2 d3 g3.mm
 ·exact h.elim
theorem Du {C:de}{env:Env}(hmix:P.follows .mixedOrders=true)(hC:cv P C)(hem: ∀ p∈ env,aJ p.2){Γ:aQ}(hek: ∀ p∈ env,∀ KP,qO P Γ KP (.yield p.1) p.2){KP:PK}{aR:qy}{n:Nat}{f:FuncId}{fn:Func}(hf:P.funcs[f]?=some fn)
  (hname:(fn.name== "runtime.NumGoroutine")=false):qO P Γ KP (.fn f) (gR P C env KP aR n fn) :=
 KW hmix hC.at hem trivial hek hf hname
theorem KV {C:de}{env:Env}(hC:cv P C)(hem: ∀ p∈ env,aJ p.2){KP:PK}{aR:qy}{n:Nat}{fn:Func}:aJ (gR P C env KP aR n fn):=by
 intro args m nx K K' hK h;unfold gR at h ⊢;split at h
 ·refine s9 hC.mono hC.rF hem _ _ _ _ (fun _ _ h=>h) _ _ _ (fun e st' _ hh=> ?_) h;cases e with
  | exit id=>exact hh
  | normal =>
    simp only at hh ⊢;cases hvs:fc P st' fn.results.toList with
    | none=>rw[hvs] at hh;exact hh
    | some vs=>rw[hvs] at hh;exact Oj hK hh
  | ret =>
    simp only at hh ⊢;cases hvs:fc P st' fn.results.toList with
    | none=>rw[hvs] at hh;exact hh
    | some vs=>rw[hvs] at hh;exact Oj hK hh
 ·exact h
theorem UR {C:de}{env:Env}(hC:cv P C)(hem: ∀ p∈ env,aJ p.2){KP KP':PK}(hKP: ∀ v m nx,(KP v m nx).holds->(KP' v m nx).holds){aR:qy}{n:Nat}{fn:Func}{args m nx K}(h:(gR P C env KP aR n fn args m nx K).holds) :
  (gR P C env KP' aR n fn args m nx K).holds:=by
 unfold gR at h ⊢;split at h
 ·exact s9 hC.mono hC.rF hem _ _ _ _ (fun v st h=>uQ hKP h) _ _ _ (fun e st' _ hh=>hh) h
 ·exact h
theorem Env.Ci {env:Env}{k:Nat}{pt:PT}(h:env.find k=some pt):(k,pt)∈ env:=by
 induction env with
 | nil=>cases h
 | cons e r ih =>
   unfold Env.find at h;split at h
   ·rename_i he;injection h with h;obtain⟨a,b⟩:=e;simp only at he h;subst he;subst h;simp
   ·exact List.mem_cons_of_mem _ (ih h)
theorem Kz {Γ:aQ}{KP:PK}:qO P Γ KP .panic (raise KP):=by
 intro Δ hle args m nx K h hwf hargs E w hs;unfold raise at h;split at h
 ·rename_i t v;split at h
  ·rename_i hv;have hrun:((sr.panic).sem E (SV.vals E [.iface t v]).toArray).run P w=.halt (.panic (.iface t (v.val E))) w:=by simp only[sr.sem,SV.vals,SV.val];rfl
   rw[hrun];exact⟨E,.iface t v,m,nx,fun _ _=>rfl,Nat.le_refl _,rfl,hv,hs,h⟩
  ·exact h.elim
 ·exact h.elim
theorem kR {cfg:gF}(hg:Good P cfg)(n:Nat):cv P (calling P cfg n):=by
  have hyo: ∀(n:Nat) (Γ:aQ) env,(∀ p∈ env,∀ KP,qO P Γ KP (.yield p.1) p.2)->∀ KP k,qO P Γ KP (.yield k) (jJ P cfg n env KP (.yield k)):=by
   intro n Γ env he KP k
   have:jJ P cfg n env KP (.yield k)=(match env.find k with
    | some pt=>pt
    | none=>fun _ _ _ _=>.fail "a yield that is not known"):=by cases n<;>rfl
   rw[this];split
   ·rename_i pt hp;exact he _ (Env.Ci hp) _
   ·exact fun Δ _ args m nx K h=>h.elim
  have hym: ∀(n:Nat) env,(∀ p∈ env,aJ p.2)->∀ KP k,aJ (jJ P cfg n env KP (.yield k)):=by
   intro n env he KP k
   have:jJ P cfg n env KP (.yield k)=(match env.find k with
    | some pt=>pt
    | none=>fun _ _ _ _=>.fail "a yield that is not known"):=by cases n<;>rfl
   rw[this];split
   ·rename_i pt hp;exact he _ (Env.Ci hp)
   ·exact fun args m nx K K' _ h=>h.elim
  have hyp: ∀(n:Nat) env KP KP' k,jJ P cfg n env KP (.yield k)=jJ P cfg n env KP' (.yield k):=by intro n env KP KP' k;cases n<;>rfl
  have hpa: ∀(n:Nat) env KP,jJ P cfg n env KP .panic=raise KP:=by intro n env KP;cases n<;>rfl
  have hpm: ∀ KP,aJ (raise KP):=fun KP args m nx K K' _ h=>h;have hpp: ∀ KP KP':PK,(∀ v m nx,(KP v m nx).holds->(KP' v m nx).holds)->∀ args m nx K,(raise KP args m nx K).holds->(raise KP' args m nx K).holds:=by
   intro KP KP' hK args m nx K h;unfold raise at h ⊢;split at h
   ·split at h
    ·exact hK _ _ _ h
    ·exact h
   ·exact h
  have hbd: ∀ f,cfg.bd f=true->∀(args:Array Value) (w:World),(callFunc f args).run P w=.ok (.enter f args) w:=by
   intro f hf args w;unfold gF.bd at hf;split at hf
   ·rename_i fn hfn;obtain⟨body,hb⟩:=Option.isSome_iff_exists.1 hf;exact jk (hg.fns f fn hfn).1 (hg.fns f fn hfn).2 hb args w
   ·cases hf
  induction n with
  | zero =>
    refine⟨fun env he KP c=> ?_,fun env he KP KP' hK c args m nx K h=> ?_,fun Γ env hem he KP c=> ?_,hbd⟩
    ·cases c with
     | yield k=>exact hym 0 env he KP k
     | fn f=>exact fun args m nx K K' _ h=>h
     | panic=>show aJ (jJ P cfg 0 env KP .panic);rw[hpa];exact hpm KP
    ·cases c with
     | yield k=>exact h
     | fn f=>exact h
     | panic=>exact hpp KP KP' hK args m nx K h
    ·cases c with
     | yield k=>exact hyo 0 Γ env he KP k
     | fn f=>exact fun Δ _ args m nx K h=>h.elim
     | panic=>exact Kz
  | succ n ih =>
    refine⟨fun env he KP c=> ?_,fun env he KP KP' hK c args m nx K h=> ?_,fun Γ env hem he KP c=> ?_,hbd⟩
    ·cases c with
     | yield k=>exact hym (n+1) env he KP k
     | panic=>show aJ (jJ P cfg (n+1) env KP .panic);rw[hpa];exact hpm KP
     | fn f =>
       show aJ (jJ P cfg (n+1) env KP (.fn f));simp only[jJ];cases hs:cfg.cM f with
       | some pt=>exact(hg.cM f pt hs).2
       | none =>
         simp only;cases hi:cfg.iter f with
         | some g=>exact(hg.iter f g hi).mono env he
         | none =>
           simp only;cases hf:cfg.fns f with
           | some fn=>exact KV ih he
           | none=>exact fun args m nx K K' _ h=>h
    ·cases c with
     | yield k=>exact h
     | panic=>exact hpp KP KP' hK args m nx K h
     | fn f =>
       have h:(jJ P cfg (n+1) env KP (.fn f) args m nx K).holds:=h;show(jJ P cfg (n+1) env KP' (.fn f) args m nx K).holds;simp only[jJ] at h ⊢;cases hs:cfg.cM f with
       | some pt=>rw[hs] at h;exact h
       | none =>
         rw[hs] at h;simp only at h ⊢;cases hi:cfg.iter f with
         | some g=>rw[hi] at h;exact h
         | none =>
           rw[hi] at h;simp only at h ⊢;cases hf:cfg.fns f with
           | some fn=>rw[hf] at h;exact UR ih he hK h
           | none=>rw[hf] at h;exact h
    ·cases c with
     | yield k=>exact hyo (n+1) Γ env he KP k
     | panic=>exact Kz
     | fn f =>
       show qO P Γ KP (.fn f) (jJ P cfg (n+1) env KP (.fn f));simp only[jJ];cases hs:cfg.cM f with
       | some pt=>exact(hg.cM f pt hs).1.cok Γ KP
       | none =>
         simp only;cases hi:cfg.iter f with
         | some g=>exact(hg.iter f g hi).ok Γ env hem he KP
         | none =>
           simp only;cases hf:cfg.fns f with
           | some fn=>exact Du hg.mix ih hem he (hg.fns f fn hf).1 (hg.fns f fn hf).2
           | none=>exact fun Δ _ args m nx K h=>h.elim
theorem O2 {cfg:gF}(hg:Good P cfg){f:FuncId}{fn:Func}(hf:P.funcs[f]?=some fn) (hn:(fn.name== "runtime.NumGoroutine")=false) (hb:fn.body.isSome=true) {n:Nat} {args:List SV} {m:Mem} {nx:Nat} {K:SV->Mem->Nat->VC}
  (h:(gR P (calling P cfg n) [] Al (cfg.aR f) cfg.rounds fn args m nx K).holds) (hm:Mem.wf nx m=true) (ha:SV.gM nx args=true) {Γ:aQ} {E:Nat->Nat} {w:World} (hs:aG Γ E m nx w) :
  Calls P f (SV.vals E args).toArray w fun e w'=>∃ v,e=.returned v/\aV (lift K) Γ E nx v w':=by
 have:=Du hg.mix (kR hg n) (env:=[]) (fun p hp=>by cases hp) (Γ:=Γ) (fun p hp=>by cases hp) (KP:=Al) (aR:=cfg.aR f) (n:=cfg.rounds) hf hn Γ Γ.le_refl args m nx K h hm ha E w hs;obtain⟨body,hb⟩:=Option.isSome_iff_exists.1 hb;simp only[sr.sem] at this;rw[jk hf hn hb] at this;refine Calls.mono this ?_;rintro e w' (h | ⟨ch,_,_,_,_,_,_,_,_,_,_,hno⟩)
 ·exact h
 ·exact hno.elim
end
theorem bw.pure {B:SB}(hw:B.wf 0=true){E E':Nat->Nat}{o:Obj}(h:bw E B o):bw E' B o:=h.congr (nx:=0) (fun k hk=>by omega) hw
theorem SV.DP {v:SV}(hw:v.wf 0=true)(E E':Nat->Nat):v.val E=v.val E':=SV.val_congr (nx:=0) (fun k hk=>by omega) v hw
theorem SV.oN {l:List SV}(hw:SV.gM 0 l=true)(E E':Nat->Nat):SV.vals E l=SV.vals E' l:=SV.iC (nx:=0) (fun k hk=>by omega) l hw
theorem Mem.Mz {key:Nat}{B X:SB}: ∀ {m:Mem},m.get key=some X->(Mem.put key B m).get key=some B
 | [],h=>by cases h
 | e::r,h=>by
   by_cases he:e.1=key
   ·rw[Mem.put,if_pos he,Mem.get,if_pos he]
   ·rw[Mem.get,if_neg he] at h;rw[Mem.put,if_neg he,Mem.get,if_neg he];exact Mem.Mz h
def aQ.at (w:World)(M:Nat->Prop)(gl:w6 w)(gm: ∀ p∈ xA,¬ M p.1):aQ:=⟨w,M,fun _=>0,0,[],gl,gm,[],true⟩
theorem aG.Za {Γ E m nx w}(h:aG Γ E m nx w){k:Nat}{B:SB}{a:Nat}(hk:m.get k=some B)(hn:B.jD (E k) a)(hro:B.ro=false): ∀ p∈ xA,¬ (p.1=a):=by
 intro p hp e;obtain⟨_,ty,fr,hg,_⟩:=Γ.gl p hp;rcases h.lE k B a hk hn hro with h1 | h1
 ·exact Γ.gm p hp (e▸ h1)
 ·have:=(Array.getElem?_eq_some_iff.1 hg).1;omega
theorem aG.one {Γ E m nx w}(h:aG Γ E m nx w){k:Nat}{B B':SB}(hk:m.get k=some B)(hB:af B B')(hn:B'.no=false)(hro:B'.ro=false)(hw:B'.wf 0=true) :
  aG (aQ.at w (fun b=>b=E k) h.G2 (h.Za hk (SB.nv (hB.old hn).1 _) ((hB.old hn).2.2 hro))) (fun _=>E k) [(0,B')] 1 w:=by
 obtain⟨h1,h2,_⟩:=hB.old hn;obtain⟨o,ho,hb⟩:=h.qD k B hk h1;have hg: ∀ {j X a},Mem.get j [(0,B')]=some X->X.jD (E k) a->j=0/\X=B'/\a=E k:=fun hj ha=>by
  rcases Mem.jt hj with ⟨rfl,rfl⟩ | ⟨_,hj⟩
  ·exact⟨rfl,rfl,((SB.oV (SB.Bu hn)).1 ha).2⟩
  ·cases hj
 refine⟨fun j X a hj ha=> ?_,fun j j' X X' a hj ha hj' ha' _=>(hg hj ha).1.trans (hg hj' ha').1.symm,fun j X hj=> ?_,fun j X a hj ha _=>.inl (hg hj ha).2.2,Ext.refl _ _,⟨Nat.zero_le _,fun k hk=>absurd hk (Nat.not_lt_zero _)⟩,fun D hD=>by cases hD⟩
 ·obtain⟨_,rfl,rfl⟩:=hg hj ha;exact⟨o,ho,by rw[SB.xq (SB.Bu hn)];exact(h2 E o hb).pure hw⟩
 ·rcases Mem.jt hj with ⟨rfl,_⟩ | ⟨_,hj⟩
  ·omega
  ·cases hj
theorem aG.none (w:World)(hg:w6 w):aG (aQ.at w (fun _=>False) hg (fun _ _ h=>h)) (fun _=>0) [] 0 w :=⟨(fun _ _ _ h=>by cases h),(fun _ _ _ _ _ h=>by cases h),(fun _ _ h=>by cases h),(fun _ _ _ h=>by cases h),Ext.refl _ _,⟨Nat.zero_le _,fun k hk=>absurd hk (Nat.not_lt_zero _)⟩,fun D hD=>by cases hD⟩
theorem aG.still {Γ E m nx w}(h:aG Γ E m nx w){w':World}(hx:Ext (fun _=>False) w w'):aG Γ E m nx w':=by
 refine⟨fun k B a hk hn=> ?_,h.j9,h.lt,h.lE,h.ext.trans ⟨hx.os,hx.tape,hx.output,hx.size,fun k hk _=>hx.block k hk (fun h=>h)⟩,h.cx,fun D hD=> ?_⟩
 ·obtain⟨o,ho,hb⟩:=h.jK k B a hk hn;exact⟨o,by rw[hx.block _ (Array.getElem?_eq_some_iff.1 ho).1 (fun h=>h)];exact ho,hb⟩
 ·have:=h.kp D hD;rw[hx.block _ (Array.getElem?_eq_some_iff.1 this).1 (fun h=>h)];exact this
theorem aG.frame {Γ E m nx w}(h:aG Γ E m nx w){k:Nat}{B:SB}(hk:m.get k=some B)(hn:B.no=false)(hro:B.ro=false){E1:Nat->Nat}{m1:Mem}{nx1:Nat}{w':World}{gl gm}
  (h1:aG (aQ.at w (fun b=>b=E k) gl gm) E1 m1 nx1 w') (hE:E1 0=E k) {B1:SB} (hB1:m1.get 0=some B1) (hn1:B1.no=false) (hr1:B1.ro=false) (hw1:B1.wf 0=true):aG Γ E (m.put k B1) nx w':=by
 have hx:Ext (fun b=>b=E k) w w':=h1.ext;have hg: ∀ {j X a},(m.put k B1).get j=some X->X.jD (E j) a->(j=k/\X=B1/\a=E k)∨(m.get j=some X/\X.jD (E j) a/\a≠E k):=fun hj ha=>by
  rcases Mem.kT hj with ⟨rfl,rfl,_⟩ | ⟨hne,hj⟩
  ·exact .inl ⟨rfl,rfl,((SB.oV (SB.Bu hn1)).1 ha).2⟩
  ·exact .inr ⟨hj,ha,fun e=>hne (h.j9 _ k _ B _ hj ha hk (by rw[e];exact SB.nv hn _) (.inr hro))⟩
 refine⟨fun j X a hj ha=> ?_,fun j j' X X' a hj ha hj' ha' hr=> ?_,fun j X hj=> ?_,fun j X a hj ha hr=> ?_,⟨hx.os.trans h.ext.os,hx.tape.trans h.ext.tape,hx.output.trans h.ext.output,Nat.le_trans h.ext.size hx.size,fun i hi hm=>(hx.block i (Nat.lt_of_lt_of_le hi h.ext.size) (fun e=> ?_)).trans (h.ext.block i hi hm)⟩,h.cx,fun D hD=> ?_⟩
 ·rcases hg hj ha with ⟨_,rfl,rfl⟩ | ⟨hj,ha,hne⟩
  ·obtain⟨o,ho,hb⟩:=h1.qD 0 X hB1 hn1;exact⟨o,by rw[← hE];exact ho,by rw[SB.xq (SB.Bu hn1)];exact hb.pure hw1⟩
  ·obtain⟨o,ho,hb⟩:=h.jK j X a hj ha;exact⟨o,by rw[h1.ext.block _ (Array.getElem?_eq_some_iff.1 ho).1 hne];exact ho,hb⟩
 ·rcases hg hj ha with ⟨e1,_,e⟩ | ⟨hj1,ha1,hne⟩<;>rcases hg hj' ha' with ⟨e2,_,e'⟩ | ⟨hj2,ha2,hne'⟩
  ·exact e1.trans e2.symm
  ·exact absurd e hne'
  ·exact absurd e' hne
  ·exact h.j9 _ _ _ _ _ hj1 ha1 hj2 ha2 hr
 ·rcases Mem.kT hj with ⟨rfl,_,_⟩ | ⟨_,hj⟩
  ·exact h.lt _ _ hk
  ·exact h.lt _ _ hj
 ·rcases hg hj ha with ⟨_,rfl,rfl⟩ | ⟨hj,ha,_⟩
  ·exact h.own _ _ hk hn hro
  ·exact h.lE _ _ _ hj ha hr
 ·
  subst e;rcases h.own k B hk hn hro with h' | h'
  ·exact hm h'
  ·omega
 ·have:=h.kp D hD;rw[hx.block _ (Array.getElem?_eq_some_iff.1 this).1 (h.pG hk hn D hD)];exact this
section
variable {P : Program} {cfg : gF}
theorem ic {f:FuncId}{fn:Func}(hf:P.funcs[f]?=some fn) (hn:(fn.name== "runtime.NumGoroutine")=false) (hb:fn.body.isSome=true) {args:Array Value} {w:World} {Q:Value->World->Prop}
  (h:Calls P f args w fun e w'=>∃ v,e=.returned v/\Q v w'):Out P Q ((callFunc f args).run P w):=by
 obtain⟨body,hb⟩:=Option.isSome_iff_exists.1 hb;rw[jk hf hn hb];exact Calls.mono h fun _ _ h=>.inl h
end
structure aq (v:VC):Prop where
 out:v.holds
theorem aq.of_eq {v:VC}{p:Prop}(e:v.holds=p)(h:p):aq v:=⟨e.symm▸ h⟩
abbrev Fk (p:Prop)[Decidable p](a b:Prop):Prop:=(decide p=true->a)/\(decide p=false->b)
abbrev Bk (c:Bool)(a b:Prop):Prop:=(c=true->a)/\(c=false->b)
abbrev I6 (a:Int):Prop:= -9223372036854775808<=a/\a<=9223372036854775807
abbrev Ix (a b:Int):Prop:=0<=a/\a<b
abbrev Sr (a:SB):Prop:=af a a
abbrev Er {α:Type}(a:α):Prop:=a=a
abbrev NI (a:Nat):Int:=a
theorem aq.j7 {v:VC}{p q:Prop}(e:v.holds=p)(e':p=q)(h:q):aq v:=aq.of_eq e (e'▸ h)
inductive Pl where
 | t
 | k
 | n (a b:Pl)
 | s (n:Nat) (p:Pl)
 | c (g:Bool) (i:Nat) (p:Pl)
def Pl.l:Pl->Pl
 | .n a _=>a
 | .k=>.k
 | _=>.t
def Pl.r:Pl->Pl
 | .n _ b=>b
 | .s 0 p=>p
 | .s (m+1) p=>.s m p
 | p=>p
def Pl.out:Pl->Bool
 | .t=>true
 | _=>false
def Pl.way:Pl->Option (Bool×Nat×Pl)
 | .c g i p=>some (g,i,p)
 | _=>none
abbrev Cx:=List (Bool×Bool)
def Cx.at (C:Cx)(i:Nat):Bool×Bool:=C.getD i (true,true)
def aiM (g b:Bool):Bool:=match g with
 | true=>!b
 | false=>b
def VC.self (pl:Pl)(C:Cx):VC->VC
 | .and a b=>.and (a.self pl.l C) (b.self pl.r C)
 | .imp p a=>.imp p (a.self pl C)
 | .all α f=>.all α fun x=>(f x).self pl C
 | .ex α f=>.ex α fun x=>(f x).self pl C
 | .eqv p q h=>(match pl.out with
   | true=>.eqv q q h
   | false=>.eqv p q h)
 | .fork b x y=>(match pl.way with
   | some (g,i,p)=>(match aiM g (C.at i).2 with
     | true=>.fork (aiM g (C.at i).1) (x.self p C) y
     | false=>.fork (aiM g (C.at i).1) x (y.self p C))
   | none=>.fork b (x.self pl.l ((b,true)::C)) (y.self pl.r ((b,false)::C)))
 | .tt=>.tt
 | .fail s=>.fail s
 | .atom p=>.atom p
def VC.IP:VC->Bool
 | .tt=>true
 | _=>false
def VC.prune (pl:Pl)(C:Cx):VC->VC
 | .and a b=>(match(a.prune pl.l C).IP,(b.prune pl.r C).IP with
   | true,_=>b.prune pl.r C
   | false,true=>a.prune pl.l C
   | false,false=>.and (a.prune pl.l C) (b.prune pl.r C))
 | .imp p a=>(match(a.prune pl C).IP with
   | true=>.tt
   | false=>.imp p (a.prune pl C))
 | .all α f=>.all α fun x=>(f x).prune pl C
 | .ex α f=>.ex α fun x=>(f x).prune pl C
 | .eqv p q h=>(match pl.out with
   | true=>.tt
   | false=>.eqv p q h)
 | .fork b x y=>(match pl.way with
   | some (g,i,p)=>(match aiM g (C.at i).2 with
     | true=>x.prune p C
     | false=>y.prune p C)
   | none=>(match(x.prune pl.l ((b,true)::C)).IP,(y.prune pl.r ((b,false)::C)).IP with
     | true,true=>.tt
     | true,false=>.imp (b=false) (y.prune pl.r ((b,false)::C))
     | false,true=>.imp (b=true) (x.prune pl.l ((b,true)::C))
     | false,false=>.and (.imp (b=true) (x.prune pl.l ((b,true)::C))) (.imp (b=false) (y.prune pl.r ((b,false)::C)))))
 | .tt=>.tt
 | .fail s=>.fail s
 | .atom p=>.atom p
theorem VC.mq {v:VC}(h:v.IP=true):v.holds:=by cases v<;>first | trivial | cases h
theorem Cx.apK {C:Cx}(hC: ∀ e,e∈ C->e.1=e.2)(i:Nat):(C.at i).1=(C.at i).2:=by
 unfold Cx.at
 rw[List.getD_eq_getElem?_getD];cases h:C[i]? with
 | none=>rfl
 | some e=>exact hC e (List.mem_of_getElem? h)
theorem Cx.push {C:Cx}(hC: ∀ e,e∈ C->e.1=e.2){b v:Bool}(h:b=v): ∀ e,e∈ (b,v)::C->e.1=e.2:=fun e he=>by
 rcases List.mem_cons.1 he with he | he
 ·subst he;exact h
 ·exact hC e he
theorem VC.Xg {v:VC}: ∀ {pl:Pl} {C:Cx},(∀ e,e∈ C->e.1=e.2)->(v.prune pl C).holds->(v.self pl C).holds:=by
 induction v with
 | tt=>exact fun _=>id
 | fail=>exact fun _=>id
 | atom=>exact fun _=>id
 | and a b iha ihb =>
   intro pl C hC h;simp only[VC.prune] at h;cases ha:(a.prune pl.l C).IP with
   | true=>rw[ha] at h;exact⟨iha hC (VC.mq ha),ihb hC h⟩
   | false=>cases hb:(b.prune pl.r C).IP with
     | true=>rw[ha,hb] at h;exact⟨iha hC h,ihb hC (VC.mq hb)⟩
     | false=>rw[ha,hb] at h;exact⟨iha hC h.1,ihb hC h.2⟩
 | imp p a ih =>
   intro pl C hC h hp;simp only[VC.prune] at h;cases ha:(a.prune pl C).IP with
   | true=>exact ih hC (VC.mq ha)
   | false=>rw[ha] at h;exact ih hC (h hp)
 | all α f ih=>exact fun hC h x=>ih x hC (h x)
 | ex α f ih=>exact fun hC ⟨x,h⟩=>⟨x,ih x hC h⟩
 | eqv p q hq =>
   intro pl C hC h;simp only[VC.prune,VC.self] at h ⊢;cases ho:pl.out with
   | true=>exact hq
   | false=>rw[ho] at h;exact h
 | fork b x y ihx ihy =>
   intro pl C hC h;simp only[VC.prune] at h;unfold VC.self;cases hw:pl.way with
   | some q =>
     obtain⟨g,i,p⟩:=q;have hi:=Cx.apK hC i;rw[hw] at h;dsimp only at h ⊢;rw[hi];cases ht:aiM g (C.at i).2 with
     | true=>rw[ht] at h;exact⟨fun _=>ihx hC h,(fun e=>by cases e)⟩
     | false=>rw[ht] at h;exact⟨(fun e=>by cases e),fun _=>ihy hC h⟩
   | none =>
     rw[hw] at h;dsimp only at h ⊢;cases hx:(x.prune pl.l ((b,true)::C)).IP<;>cases hy:(y.prune pl.r ((b,false)::C)).IP
     all_goals rw[hx,hy] at h
     ·exact⟨fun e=>ihx (Cx.push hC e) (h.1 e),fun e=>ihy (Cx.push hC e) (h.2 e)⟩
     ·exact⟨fun e=>ihx (Cx.push hC e) (h e),fun e=>ihy (Cx.push hC e) (VC.mq hy)⟩
     ·exact⟨fun e=>ihx (Cx.push hC e) (VC.mq hx),fun e=>ihy (Cx.push hC e) (h e)⟩
     ·exact⟨fun e=>ihx (Cx.push hC e) (VC.mq hx),fun e=>ihy (Cx.push hC e) (VC.mq hy)⟩
structure gS (pl:Pl)(v:VC)(p:Prop):Prop where
 self:v.holds=(v.self pl []).holds
 rest:(v.prune pl []).holds=p
theorem aq.pr {pl:Pl}{v:VC}{p:Prop}(e:gS pl v p)(h:p):aq v:=⟨e.self▸ VC.Xg (fun _ h=>by cases h) (e.rest▸ h)⟩
theorem aq.Qz {pl:Pl}{v:VC}{p q:Prop}(e:gS pl v p)(e':p=q)(h:q):aq v:=aq.pr e (e'▸ h)
theorem gG {P:Program}{cfg:gF}(hg:Good P cfg){f:FuncId}{fn:Func}(hf:P.funcs[f]?=some fn) (hn:(fn.name== "runtime.NumGoroutine")=false) (hb:fn.body.isSome=true) {n:Nat} {args:List SV} {m:Mem} {nx:Nat} {K:SV->Mem->Nat->VC}
  (h:aq (gR P (calling P cfg n) [] Al (cfg.aR f) cfg.rounds fn args m nx K)) (hm:Mem.wf nx m=true) (ha:SV.gM nx args=true) {Γ:aQ} {E:Nat->Nat} {w:World} (hs:aG Γ E m nx w) :
  Calls P f (SV.vals E args).toArray w fun e w'=>∃ v,e=.returned v/\aV (lift K) Γ E nx v w':=O2 hg hf hn hb h.out hm ha hs
def aA (f:FuncId):List (FuncId×PT)->Option PT
 | []=>none
 | e::r=>if e.1=f then some e.2 else aA f r
def aU (P:Program)(s:FuncId->Option PT):Prop:=∀ f pt,s f=some pt->au P f pt/\aJ pt
theorem aU.nil {P:Program}:aU P (fun f=>aA f []):=fun _ _ h=>by cases h
theorem aU.cons {P:Program}{f:FuncId}{pt:PT}{l:List (FuncId×PT)}(h1:au P f pt)(h2:aJ pt)(h:aU P (fun f=>aA f l)):aU P (fun g=>aA g ((f,pt)::l)):=by
 intro g q hq;simp only[aA] at hq;split at hq
 ·rename_i e;subst e;injection hq with hq;subst hq;exact⟨h1,h2⟩
 ·exact h g q hq
end
end Go.Proofs.YtpaaiebohjjieaaGreatDoor.Sx
