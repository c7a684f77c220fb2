/-
  Functions that defer one closure: it is called behind the body, and behind a panic, which it may recover from.
-/
import Derived.Test.YtoalfimkkibpdaaGreatDoorMj
import Derived.RecoverIn
import Derived.Test.YtoalfimkkibpdaaGreatDoorMk
import Derived.Test.YtoalfimkkibpdaaGreatDoorMv
namespace Go.Proofs.YtoalfimkkibpdaaGreatDoor.Sx
open Go
noncomputable section
def deferOf (E:Nat→Nat):SV→Deferred
 | .func fn a b=>{target:=.fn fn (SV.vals E b).toArray,args:=(SV.vals E a).toArray}
 | _=>{target:=.collected 0,args:=#[]}
theorem deferOf_congr {E E':Nat→Nat} {nx:Nat} (h: ∀ k,k<nx→E' k=E k) {d:SV} (hw:d.wf nx=true):deferOf E' d=deferOf E d:=by
 cases d<;>try rfl
 simp only[SV.wf,Bool.and_eq_true] at hw
 simp only[deferOf,SV.vals_congr h _ hw.1,SV.vals_congr h _ hw.2]
def deferee (σ:Operand→Option SV):Op→Option SV
 | .defer c=>(match c.callee,c.args.toList with
   | .value f,[]=>(match σ f with
     | some (.func (.func g) a b)=>some (.func (.func g) a b)
     | _=>none)
   | _,_=>none)
 | _=>none
def isDefer:Op→Bool
 | .defer _=>true
 | _=>false
theorem deferee_run {P:Program} {σ:Operand→Option SV} {E:Nat→Nat} {ρ:Operand→Value} (hr:Reads E σ ρ) {o:Oper} {d:SV} (h:deferee σ o.op=some d)(w:World) :
  (execOp ρ o).run P w=.ok (.defer (deferOf E d)) w:=by
 obtain⟨dst,op,type,pos,after,guard⟩:=o
 unfold deferee at h
 simp only at h
 split at h
 ·rename_i c
  split at h
  ·rename_i f hc hargs
   split at h
   ·rename_i g a b hf
    injection h with h;subst h
    have hf:=hr f _ hf
    have ha:c.args=#[]:=by
     cases c with | mk callee args at'=>simp only at hargs;exact Array.ext' (by simpa using hargs)
    simp only[execOp,resolve,hc,hf,SV.val,Deferred.ofValue,ha,Sem.run_bind,Sem.run_pure,Result.andThen_ok,deferOf]
    simp
   ·cases h
  ·cases h
 ·cases h
def Base.pre (Γ:Base):Base:={Γ with tail:=[],rf:=false}
def Base.dfr (Γ:Base)(d:Deferred):Base:={Γ with tail:=[d],rf:=true}
theorem Base.le_pre (Γ:Base):Γ.le Γ.pre:=⟨rfl,rfl,Nat.le_refl _,fun _ _=>rfl,fun _ h=>h⟩
theorem Base.le_dfr (Γ:Base)(d:Deferred):Γ.le (Γ.dfr d):=⟨rfl,rfl,Nat.le_refl _,fun _ _=>rfl,fun _ h=>h⟩
theorem SatM.toPre {Γ:Base} {E m nx w} (h:SatM Γ E m nx w):SatM Γ.pre E m nx w:=⟨h.blk,h.inj,h.lt,h.own,h.ext,h.cx,h.kp⟩
theorem SatM.unPre {Γ:Base} {E m nx w} (h:SatM Γ.pre E m nx w):SatM Γ E m nx w:=⟨h.blk,h.inj,h.lt,h.own,h.ext,h.cx,h.kp⟩
theorem SatM.toDfr {Γ:Base} {d:Deferred} {E m nx w} (h:SatM Γ E m nx w):SatM (Γ.dfr d) E m nx w:=⟨h.blk,h.inj,h.lt,h.own,h.ext,h.cx,h.kp⟩
theorem SatM.unDfr {Γ:Base} {d:Deferred} {E m nx w} (h:SatM (Γ.dfr d) E m nx w):SatM Γ E m nx w:=⟨h.blk,h.inj,h.lt,h.own,h.ext,h.cx,h.kp⟩
def lastDefers (ops:Array Oper):Bool:=match ops[ops.size - 1]? with
 | some o=>isDefer o.op&&o.guard.isNone&&o.dst.isNone
 | none=>false
def sxD (P:Program)(C:Calling)(env:Env)(anns:Anns)(n:Nat):Code→Option SV→(Option SV→XP)→(Option SV→XK)→St→VC
 | c,some d,X,K,st=>sx P C env anns n c false (X (some d)) (K (some d)) st
 | .seq a b,none,X,K,st=>sxD P C env anns n a none X (fun d e st'=>match e with
    | .normal=>sxD P C env anns n b d X K st'
    | e=>K d e st') st
 | .region id ops drawn,none,X,K,st=>(match drawn,lastDefers ops with
    | false,true=>seqOps P (C.callE env noP) ops (List.range (ops.size - 1)) (fun st'=>match ops[ops.size - 1]? with
       | some o=>(match deferee (ev st'.tmps) o.op with
         | some d=>(match d.wf st'.nx with
           | true=>K (some d) .normal st'
           | false=>.fail "a key out of bounds")
         | none=>.fail "what is deferred is not known")
       | none=>.fail "no operation") st
    | _,_=>sx P C env anns n (.region id ops drawn) true (X none) (K none) st)
 | c,none,X,K,st=>sx P C env anns n c true (X none) (K none) st
def BehindD (K:Option SV→XK)(X:Option SV→XP)(Γ:Base)(E:Nat→Nat)(nx:Nat)(e:Exit)(a:Act)(w:World):Prop :=
 BehindX (K none) (X none) Γ.pre E nx e a w∨∃ d E1 nx1,d.wf nx1=true∧nx≤nx1∧(∀ k,k<nx→E1 k=E k)∧BehindX (K (some d)) (X (some d)) (Γ.dfr (deferOf E1 d)) E1 nx1 e a w
theorem seqOps_app {P:Program} {Γ:Base} {ro:Option Nat} {KP:PK} {call:Cal→PT} (hcall: ∀ c,COk P Γ KP c (call c)) {ops:Array Oper} {Q:Exit→Act→World→Prop} {K:St→VC} {l':List Nat} {E0:Nat→Nat} {nx0:Nat} {T0:List (Option SV)} (hT0:wfTmps nx0 T0=true)
  (hP: ∀ e a w,TmpsOk E0 (unsure ops T0) a→BehindP KP Γ E0 nx0 e a w→Q e a w) :
  ∀(l:List Nat) {st:St} {E:Nat→Nat} {a:Act} {w:World},(seqOps P call ops l K st).holds→Sat Γ E st a w→TmpsOk E0 (unsure ops T0) a→(∀ k,k<nx0→E k=E0 k)→nx0≤st.nx →
   (∀ a w,Behind K Γ E st.nx a w→wpOpsIn (Fr ro) 0 P ops Q l' a w)→wpOpsIn (Fr ro) 0 P ops Q (l++l') a w
 | [],st,E,a,w,h,hs,_,_,_,hQ=>hQ _ _ ⟨E,st,fun _ _=>rfl,Nat.le_refl _,hs,h⟩
 | j::r,st,E,a,w,h,hs,hF,hE0,hn0,hQ=>by
   rw[List.cons_append,wpOpsIn_cons]
   unfold wpOpIn
   simp only[seqOps] at h
   cases ho:ops[j]? with
   | none=>rw[ho] at h;exact h.elim
   | some o =>
     rw[ho] at h
     simp only
     have hmem:o∈ ops.toList:=by rw[← Array.getElem?_toList] at ho;exact List.mem_of_getElem? ho
     have hstep:=stepOp_sound (ro:=ro) hcall h hs Q (fun e w hb=>hP e a w hF (hb.weaken hE0 hn0))
     have go: ∀ a' w',((∃ r,a'=a.put o.dst r)∧Behind (seqOps P call ops r K) Γ E st.nx a' w')→wpOpsIn (Fr ro) 0 P ops Q (r++l') a' w':=by
      rintro a' w' ⟨⟨rr,ha⟩,E',st',g1,g2,g3,g4⟩
      refine seqOps_app hcall hT0 hP r g4 g3 (ha▸ TmpsOk.unsure_put hF hmem rr) (fun k hk=>(g1 k (Nat.lt_of_lt_of_le hk hn0)).trans (hE0 k hk)) (Nat.le_trans hn0 g2) fun a'' w'' hb=>hQ a'' w'' ?_
      obtain⟨E'',st'',k1,k2,k3,k4⟩:=hb
      exact⟨E'',st'',fun k hk=>(k1 k (Nat.lt_of_lt_of_le hk g2)).trans (g1 k hk),Nat.le_trans g2 k2,k3,k4⟩
     split
     ·rename_i hw
      rw[if_pos hw] at hstep
      exact Oper.wpIn_mono go hstep
     ·rename_i hw
      rw[if_neg hw] at hstep
      exact⟨about_fr ro,go _ _ ⟨⟨_,rfl⟩,hstep⟩⟩
section
variable {P : Program} {C : Calling} {env : Env} {anns : Anns} {n : Nat}
theorem sxD_some (c:Code)(d:SV)(X:Option SV→XP)(K:Option SV→XK)(st:St):sxD P C env anns n c (some d) X K st=sx P C env anns n c false (X (some d)) (K (some d)) st:=by
 cases c<;>rfl
theorem range_pred {n:Nat} (h:0<n):List.range n=List.range (n - 1)++[n - 1]:=by
 obtain⟨k,rfl⟩: ∃ k,n=k+1:=⟨n - 1,by omega⟩
 simp[List.range_succ]
theorem sxD_sound (hmix:P.follows .mixedOrders=true)(hC:CallingOk P C)(hem: ∀ p∈ env,MonoPT p.2) {Γ:Base} (hek: ∀ p∈ env,∀ KP,COk P Γ KP (.yield p.1) p.2): ∀(c:Code)(X:Option SV→XP)(K:Option SV→XK)(st:St)(E:Nat→Nat)(a:Act)(w:World),
  (sxD P C env anns n c none X K st).holds→Sat Γ.pre E st a w→c.wpIn (Fr none) 0 P (BehindD K X Γ E st.nx) a w:=by
 have plain: ∀(c:Code) (X:Option SV→XP) (K:Option SV→XK) (st:St) (E:Nat→Nat) (a:Act) (w:World),
   (sx P C env anns n c true (X none) (K none) st).holds→Sat Γ.pre E st a w→c.wpIn (Fr none) 0 P (BehindD K X Γ E st.nx) a w:=fun c X K st E a w h hs =>
  wpIn_mono (sx_sound hmix hC hem c true none (fun _=>rfl) Γ.pre (fun h=>by cases h) (fun p hp KP=>(hek p hp KP).mono Γ.le_pre) _ _ st E a w h hs) fun e a w h=>.inl h
 intro c
 induction c with
 | seq x y ihx ihy =>
   intro X K st E a w h hs
   simp only[sxD] at h
   refine wpIn_seq (wpIn_mono (ihx _ _ st E a w h hs) ?_)
   rintro e a1 w1 ((⟨ex,rfl,E1,st1,g1,g2,g3,g4⟩ | hp) | ⟨d,E1,nx1,hd,hn1,hE1,(⟨ex,rfl,E2,st1,g1,g2,g3,g4⟩ | hp)⟩)
   ·cases ex with
    | normal =>
      refine wpIn_mono (ihy _ _ st1 E1 a1 w1 g4 g3) fun e a2 w2 hb=> ?_
      rcases hb with hb | ⟨d,E2,nx2,hd,hn,hE,hb⟩
      ·exact .inl (hb.weaken g1 g2)
      ·exact .inr ⟨d,E2,nx2,hd,Nat.le_trans g2 hn,fun k hk=>(hE k (Nat.lt_of_lt_of_le hk g2)).trans (g1 k hk),hb⟩
    | exit id=>exact .inl (.inl ⟨.exit id,rfl,E1,st1,g1,g2,g3,g4⟩)
    | ret=>exact .inl (.inl ⟨.ret,rfl,E1,st1,g1,g2,g3,g4⟩)
   ·have hp':=hp
    obtain⟨v,E1,st1,rfl,_⟩:=hp'
    exact .inl (.inr hp)
   ·cases ex with
    | normal =>
      simp only at g4
      rw[sxD_some] at g4
      refine wpIn_mono (sx_sound hmix hC hem y false none (fun _=>rfl) _ (fun _=>rfl) (fun p hp KP=>(hek p hp KP).mono (Γ.le_dfr _)) _ _ st1 E2 a1 w1 g4 g3) fun e a2 w2 hb=> ?_
      exact .inr ⟨d,E1,nx1,hd,hn1,hE1,hb.weaken g1 g2⟩
    | exit id=>exact .inr ⟨d,E1,nx1,hd,hn1,hE1,.inl ⟨.exit id,rfl,E2,st1,g1,g2,g3,g4⟩⟩
    | ret=>exact .inr ⟨d,E1,nx1,hd,hn1,hE1,.inl ⟨.ret,rfl,E2,st1,g1,g2,g3,g4⟩⟩
   ·have hp':=hp
    obtain⟨v,E1',st1,rfl,_⟩:=hp'
    exact .inr ⟨d,E1,nx1,hd,hn1,hE1,.inr hp⟩
 | region id ops drawn =>
   intro X K st E a w h hs
   simp only[sxD] at h
   split at h
   ·rename_i hl
    unfold lastDefers at hl
    cases hlast:ops[ops.size - 1]? with
    | none=>rw[hlast] at hl;cases hl
    | some o =>
      rw[hlast] at hl
      simp only[Bool.and_eq_true,Option.isNone_iff_eq_none] at hl
      obtain⟨⟨_,hguard⟩,hdst⟩:=hl
      have hsz:0<ops.size:=by
       have:=(Array.getElem?_eq_some_iff.1 hlast).1
       omega
      refine wpIn_region ?_
      rw[range_pred hsz]
      refine seqOps_app (KP:=noP) (hC.ok Γ.pre env hem (fun p hp KP=>(hek p hp KP).mono Γ.le_pre) noP) hs.wt (fun e a w _ hb=> ?_) _ h hs hs.tm.unsure (fun _ _=>rfl) (Nat.le_refl _) fun a1 w1 hb=> ?_
      ·obtain⟨ch,_,_,_,_,_,_,_,_,_,_,_,hno⟩:=hb
       exact hno.elim
      ·obtain⟨E1,st1,g1,g2,g3,g4⟩:=hb
       rw[hlast] at g4
       simp only at g4
       split at g4
       ·rename_i d hd
        split at g4
        ·rename_i hdw
         have hrun:=deferee_run (P:=P) (o:=o) g3.tm.reads hd w1
         rw[wpOpsIn_cons]
         unfold wpOpIn
         rw[hlast]
         simp only
         have hw:Region.wanted o (yielded ops a1.tmps)=true:=by
          unfold Region.wanted
          rw[hguard]
         rw[if_pos hw]
         refine⟨about_fr none,?_⟩
         have hs2:o.semAt (Fr none).round a1.eval=execOp a1.eval o:=rfl
         rw[hs2,hrun,Oper.uponIn_defer,hdst]
         show BehindD _ _ _ _ _ _ _ _
         refine .inr ⟨d,E1,st1.nx,hdw,g2,g1,.inl ⟨.normal,rfl,E1,st1,fun _ _=>rfl,Nat.le_refl _,⟨⟨g3.tm.size,g3.tm.val⟩,g3.wt,?_,g3.mm.unPre.toDfr⟩,g4⟩⟩
         obtain⟨Ds,d1,d2,d3,d4⟩:=g3.df
         have hnil:=d4 rfl
         subst hnil
         refine⟨[],?_,List.nodup_nil,(fun D hD=>by cases hD),fun _=>rfl⟩
         simp only[Act.put,d1,List.map_nil,List.nil_append,Base.pre,Base.dfr]
        ·exact g4.elim
       ·exact g4.elim
   ·exact plain _ _ _ st E a w h hs
 | skip=>intro X K st E a w h hs;exact plain _ _ _ st E a w h hs
 | label l=>intro X K st E a w h hs;exact plain _ _ _ st E a w h hs
 | exit id=>intro X K st E a w h hs;exact plain _ _ _ st E a w h hs
 | ret=>intro X K st E a w h hs;exact plain _ _ _ st E a w h hs
 | cond c x y=>intro X K st E a w h hs;exact plain _ _ _ st E a w h hs
 | block id b=>intro X K st E a w h hs;exact plain _ _ _ st E a w h hs
 | loop b=>intro X K st E a w h hs;exact plain _ _ _ st E a w h hs
 | rangeFunc g ps a b=>intro X K st E a w h hs;exact plain _ _ _ st E a w h hs
 | scope b=>intro X K st E a w h hs;exact plain _ _ _ st E a w h hs
 | goto l=>intro X K st E a w h hs;exact plain _ _ _ st E a w h hs
 | refuse r=>intro X K st E a w h hs;exact plain _ _ _ st E a w h hs
def isRecover:Op→Bool
 | .call c=>(match c.callee,c.args.toList with
   | .builtin .recover,[]=>true
   | _,_=>false)
 | _=>false
def quietOps (P:Program)(ops:Array Oper):List Nat→(St→VC)→St→VC
 | [],K,st=>K st
 | j::r,K,st=>(match ops[j]? with
   | some o=>(match isQuiet P o.op,o.guard,isGuard ops j with
     | true,none,false=>qop P (fun k=>st.m.get k) (ev st.tmps) o.op (fun v=>putK false o.dst v st.tmps st.m st.nx (quietOps P ops r K))
     | _,_,_=>.fail "an operation in a closure's first region")
   | none=>.fail "no operation")
def recVal:Option SV→SV
 | some v=>v
 | none=>.niliface
def recFirst (ops:Array Oper):Option (Option Nat):=match ops[0]? with
 | some o=>(match isRecover o.op,o.guard with
   | true,none=>some o.dst
   | _,_=>none)
 | none=>none
def closEnd (P:Program)(fn:Func)(K:Mem→Nat→VC):XK:=fun e st=>match e with
 | .exit _=>.fail "a jump out of a function"
 | _=>(match resAll P st fn.results.toList with
   | some _=>K st.m st.nx
   | none=>.fail "a result that is not known")
def runRec (P:Program)(C:Calling)(env:Env)(anns:Anns)(n:Nat)(fn:Func)(mode:Option SV)(K:Mem→Nat→VC)(st:St):Code→VC
 | .seq (.region id ops false) rest=>(match recFirst ops with
   | some dst=>quietOps P ops (List.range' 1 (ops.size - 1)) (fun st=>sx P C env anns n rest true noX (closEnd P fn K) st) ⟨setSlot st.tmps dst (some (recVal mode)),st.m,st.nx⟩
   | none=>(match mode with
     | none=>sx P C env anns n (.seq (.region id ops false) rest) true noX (closEnd P fn K) st
     | some _=>.fail "a panic that is not recovered from"))
 | c=>(match mode with
   | none=>sx P C env anns n c true noX (closEnd P fn K) st
   | some _=>.fail "a panic that is not recovered from")
def runClos (P:Program)(cfg:Cfg)(C:Calling)(env:Env)(n:Nat)(d:SV)(mode:Option SV)(m:Mem)(nx:Nat)(K:Mem→Nat→VC):VC:=match d with
 | .func (.func g) first captured=>(match cfg.fns g with
   | some fn=>(match fn.body with
     | some body=>runRec P C env (cfg.anns g) n fn mode K ⟨(first++captured).map some++List.replicate (fn.ntmps - (first++captured).length) none,m,nx⟩ body
     | none=>.fail "a closure without a body")
   | none=>.fail "a closure that is not known")
 | _=>.fail "a closure that is not known"
def modeOf (E:Nat→Nat):Option SV→FrameMode
 | none=>.returning
 | some v=>.panicking [{v:=v.val E,recovered:=false}]
def ClosK (K:Mem→Nat→VC)(Γ:Base)(E:Nat→Nat)(nx:Nat)(w:World):Prop:=∃ E' m' nx',(∀ k,k<nx→E' k=E k)∧nx≤nx'∧SatM Γ E' m' nx' w∧(K m' nx').holds
theorem closEnd_out {fn:Func} {K:Mem→Nat→VC} {Γ:Base} {E:Nat→Nat} {nx:Nat} {e:Exit} {a:Act} {w:World} {c₀:Frame} {cs:List Frame} {u:FrameMode} (hu:settle u=.returning)(_hc: ∃ c1:Frame,c1={c₀ with mode:=u})
  (h:BehindX (closEnd P fn K) noX Γ.pre E nx e a w) :
  bodyPostS P fn c₀ cs (fun e u' w'=>∃ v,e=.returned v∧settle u'=.returning∧ClosK K Γ E nx w') e a ({c₀ with mode:=u}::cs) w:=by
 rcases h with ⟨ex,rfl,E1,st1,g1,g2,g3,g4⟩ | hp
 rotate_left
 ·exact hp.none.elim
 have hnil:a.defers=[]:=by
  obtain⟨Ds,d1,d2,d3,d4⟩:=g3.df
  have:=d4 rfl
  subst this
  exact d1
 have main:(match resAll P st1 fn.results.toList with
   | some _=>K st1.m st1.nx
   | none=>VC.fail "a result that is not known").holds→a.defers=[]∧∃ u',({c₀ with mode:=u}::cs)={c₀ with mode:=u'}::cs∧∃ v,(results fn a.tmps).run P w=.ok v w∧∃ v',Ending.returned v=.returned v'∧settle u'=.returning∧ClosK K Γ E nx w:=by
  intro h
  cases hr:resAll P st1 fn.results.toList with
  | none=>rw[hr] at h;exact h.elim
  | some vs =>
    rw[hr] at h
    exact⟨hnil,u,rfl,_,results_run g3.tm g3.mm hr,_,rfl,hu,E1,st1.m,st1.nx,g1,g2,g3.mm.unPre,h⟩
 cases ex with
 | exit id=>exact g4.elim
 | normal=>exact main g4
 | ret=>exact main g4
theorem recover_run {o:Oper} (h:isRecover o.op=true)(ρ:Operand→Value)(w:World):(execOp ρ o).run P w=.ok .recover w:=by
 obtain⟨dst,op,type,pos,after,guard⟩:=o
 unfold isRecover at h
 simp only at h
 split at h
 ·rename_i c
  split at h
  ·rename_i hc ha
   have ha:c.args=#[]:=by
    cases c with | mk callee args at'=>simp only at ha;exact Array.ext' (by simpa using ha)
   simp only[execOp,resolve,hc,Sem.run_bind,Sem.run_pure,Result.andThen_ok,invoke]
   rfl
  ·cases h
 ·cases h
theorem quietOps_sound {Γ:Base} {ops:Array Oper} {K:St→VC} {cs:List Frame} {Q:Exit→Act→List Frame→World→Prop}: ∀(l:List Nat)(st:St)(E:Nat→Nat)(a:Act)(w:World),(quietOps P ops l K st).holds→Sat Γ E st a w →
  (∀ E' st' a',(∀ k,k<st.nx→E' k=E k)→st.nx≤st'.nx→Sat Γ E' st' a' w→(K st').holds→Q .normal a' cs w)→wpOpsSIn Fence.wide 0 P ops Q l a cs w
 | [],st,E,a,w,h,hs,hQ=>hQ E st a (fun _ _=>rfl) (Nat.le_refl _) hs h
 | j::r,st,E,a,w,h,hs,hQ=>by
   simp only[quietOps] at h
   simp only[wpOpsSIn]
   cases ho:ops[j]? with
   | none=>rw[ho] at h;exact h.elim
   | some o =>
     rw[ho] at h
     simp only at h ⊢
     split at h
     ·rename_i hq hg _
      obtain⟨obl,sv,h1,h2⟩:=qop_ok (P:=P) (look:=fun k=>st.m.get k) (σ:=ev st.tmps) o
      obtain⟨hobl,hk⟩:=(h1 _).1 h
      obtain⟨rv,hrun,hv⟩:=h2 E w a.eval ⟨hs.mm.blk,hs.mm.glob⟩ hs.tm.reads hobl
      have hw:Region.wanted o (yielded ops a.tmps)=true:=by
       unfold Region.wanted
       rw[hg]
      refine⟨fun _ _=>trivial,?_⟩
      rw[if_pos hw,hrun]
      simp only
      obtain⟨E1,st1,g1,g2,g3,g4⟩:=putK_sound hk hs.tm hs.wt hs.df hs.mm hv
      exact quietOps_sound r st1 E1 _ w g4 g3 fun E' st' a' k1 k2 k3 k4=>hQ E' st' a' (fun k hk=>(k1 k (Nat.lt_of_lt_of_le hk g2)).trans (g1 k hk)) (Nat.le_trans g2 k2) k3 k4
     ·exact h.elim
theorem range_split {n:Nat} (h:0<n):List.range n=0::List.range' 1 (n - 1):=by
 obtain⟨k,rfl⟩: ∃ k,n=k+1:=⟨n - 1,by omega⟩
 rw[List.range_eq_range',List.range'_succ]
 simp
theorem runRec_sound (hmix:P.follows .mixedOrders=true)(hC:CallingOk P C)(hem: ∀ p∈ env,MonoPT p.2) {Γ:Base} (hek: ∀ p∈ env,∀ KP,COk P Γ KP (.yield p.1) p.2) {fn:Func} {mode:Option SV} {K:Mem→Nat→VC} {st:St} {body:Code} {E:Nat→Nat} {a:Act} {w:World}
  (h:(runRec P C env anns n fn mode K st body).holds) (hs:Sat Γ.pre E st a w) (hmw: ∀ v,mode=some v→v.wf st.nx=true) {c₀:Frame} (cs:List Frame) (hu:c₀.mode=modeOf E mode) :
  body.wpSIn Fence.wide 0 P (bodyPostS P fn c₀ cs (fun e u' w'=>∃ v,e=.returned v∧settle u'=.returning∧ClosK K Γ E st.nx w')) a (c₀::cs) w:=by
 have plain: ∀(c:Code),(sx P C env anns n c true noX (closEnd P fn K) st).holds→c₀.mode=.returning→c.wpSIn Fence.wide 0 P (bodyPostS P fn c₀ cs (fun e u' w'=>∃ v,e=.returned v∧settle u'=.returning∧ClosK K Γ E st.nx w')) a (c₀::cs) w:=by
  intro c h hr
  refine wpSIn_of_wpIn rfl (wpIn_mono (sx_sound hmix hC hem c true none (fun _=>rfl) Γ.pre (fun h=>by cases h) (fun p hp KP=>(hek p hp KP).mono Γ.le_pre) _ _ st E a w h hs) fun e a w hb=> ?_)
  have:=closEnd_out (c₀:=c₀) (cs:=cs) (u:=.returning) rfl ⟨_,rfl⟩ hb
  have he:({c₀ with mode:=.returning}:Frame)=c₀:=by rw[← hr]
  rw[he] at this
  exact this
 unfold runRec at h
 split at h
 ·rename_i id ops rest
  split at h
  ·rename_i dst hf
   unfold recFirst at hf
   cases h0:ops[0]? with
   | none=>rw[h0] at hf;cases hf
   | some o =>
     rw[h0] at hf
     simp only at hf
     split at hf
     ·rename_i hrec hg
      injection hf with hf
      subst hf
      have hsz:0<ops.size:=(Array.getElem?_eq_some_iff.1 h0).1
      refine wpSIn_seq (wpSIn_region ?_)
      rw[range_split hsz]
      simp only[wpOpsSIn,h0]
      have hw:Region.wanted o (yielded ops a.tmps)=true:=by
       unfold Region.wanted
       rw[hg]
      refine⟨fun _ _=>trivial,?_⟩
      rw[if_pos hw,recover_run hrec]
      simp only
      have key: ∀(rv:Value) (cs1:List Frame) (u:FrameMode),rv=(recVal mode).val E→cs1={c₀ with mode:=u}::cs→settle u=.returning →
        wpOpsSIn Fence.wide 0 P ops (Exit.thenS (rest.wpSIn Fence.wide 0 P (bodyPostS P fn c₀ cs (fun e u' w'=>∃ v,e=.returned v∧settle u'=.returning∧ClosK K Γ E st.nx w'))) (bodyPostS P fn c₀ cs (fun e u' w'=>∃ v,e=.returned v∧settle u'=.returning∧ClosK K Γ E st.nx w')))
         (List.range' 1 (ops.size - 1)) (a.put o.dst rv) cs1 w:=by
       intro rv cs1 u hrv hcs1 hst
       subst hcs1
       have hs1:Sat Γ.pre E ⟨setSlot st.tmps o.dst (some (recVal mode)),st.m,st.nx⟩ (a.put o.dst rv) w :=
        ⟨hs.tm.put (fun v hv=>by injection hv with hv;subst hv;exact hrv),wfTmps_setSlot hs.wt (fun v hv=>by
         injection hv with hv;subst hv
         cases mode with
         | none=>rfl
         | some v=>exact hmw v rfl),by cases o.dst<;>exact hs.df,hs.mm⟩
       refine quietOps_sound _ _ E _ w h hs1 fun E' st' a' k1 k2 k3 k4=> ?_
       show rest.wpSIn _ _ _ _ _ _ _
       refine wpSIn_of_wpIn rfl (wpIn_mono (sx_sound hmix hC hem rest true none (fun _=>rfl) Γ.pre (fun h=>by cases h) (fun p hp KP=>(hek p hp KP).mono Γ.le_pre) _ _ st' E' a' w k4 k3) fun e a w hb=> ?_)
       exact closEnd_out (c₀:=c₀) (cs:=cs) (u:=u) hst ⟨_,rfl⟩ (hb.weaken k1 k2)
      cases mode with
      | none =>
        have hu:c₀.mode=.returning:=hu
        have:recoverD (c₀::cs)=none:=by simp[recoverD,hu]
        rw[this]
        exact key _ _ .returning rfl (by rw[← hu]) rfl
      | some v =>
        have hu:c₀.mode=.panicking [{v:=v.val E,recovered:=false}]:=hu
        have:recoverD (c₀::cs)=some (v.val E,{c₀ with mode:=.panicking [{v:=v.val E,recovered:=true}]}::cs):=by simp[recoverD,hu]
        rw[this]
        exact key _ _ _ rfl rfl (by simp[settle])
     ·cases hf
  ·split at h
   ·exact plain _ h hu
   ·exact h.elim
 ·split at h
  ·exact plain _ h hu
  ·exact h.elim
theorem runClos_ok {cfg:Cfg} (hg:Good P cfg)(hC:CallingOk P C)(hem: ∀ p∈ env,MonoPT p.2) {Γ:Base} (hek: ∀ p∈ env,∀ KP,COk P Γ KP (.yield p.1) p.2) {d:SV} {mode:Option SV} {m:Mem} {nx:Nat} {K:Mem→Nat→VC} {E:Nat→Nat} {w:World}
  (h:(runClos P cfg C env n d mode m nx K).holds) (hs:SatM Γ E m nx w) (hd:d.wf nx=true) (hmw: ∀ v,mode=some v→v.wf nx=true) :
  ∃ fv cap f args,(deferOf E d).target=.fn fv cap∧(invoke (deferOf E d).target (deferOf E d).args).run P w=.ok (.enter f args) w ∧
    CallsDIn Fence.wide 0 P f args (modeOf E mode) w (fun e u' w'=>∃ v,e=.returned v∧settle u'=.returning∧ClosK K Γ E nx w'):=by
 unfold runClos at h
 split at h
 ·rename_i g first captured
  split at h
  ·rename_i fn hfn
   split at h
   ·rename_i body hb
    obtain⟨hf,hname⟩:=hg.fns g fn hfn
    refine⟨.func g,_,g,(SV.vals E (first++captured)).toArray,rfl,?_,?_⟩
    ·simp only[deferOf,invoke]
     rw[show(SV.vals E first).toArray++(SV.vals E captured).toArray=(SV.vals E (first++captured)).toArray by rw[vals_append];simp only[List.append_toArray]]
     exact callFunc_run hf hname hb _ _
    ·refine callsDIn_of_wpSIn hf hb trivial fun c₀ cs hu=> ?_
     simp only[SV.wf,Bool.and_eq_true] at hd
     exact runRec_sound hg.mix hC hem hek h (SatM.start (Δ:=Γ.pre) hs.toPre rfl (wfs_append hd.1 hd.2) fn.ntmps) hmw cs hu
   ·exact h.elim
  ·exact h.elim
 ·exact h.elim
def runD (P:Program)(cfg:Cfg)(C:Calling)(env:Env)(anns:Anns)(n:Nat)(fn:Func):PT:=fun args m nx K =>
 match fn.body with
 | some body=>sxD P C env anns n body none (fun d v st=>match d with
    | some d=>(match v.wf st.nx with
      | true=>runClos P cfg C env n d (some v) st.m st.nx (fun m' nx'=>match resAll P ⟨st.tmps,m',nx'⟩ fn.results.toList with
        | some vs=>retK nx (resVal vs) m' nx' K
        | none=>.fail "a result that is not known")
      | false=>.fail "a key out of bounds")
    | none=>.fail "a panic") (fun d e st=>match e with
    | .exit _=>.fail "a jump out of a function"
    | _=>(match d with
      | some d=>runClos P cfg C env n d none st.m st.nx (fun m' nx'=>match resAll P ⟨st.tmps,m',nx'⟩ fn.results.toList with
        | some vs=>retK nx (resVal vs) m' nx' K
        | none=>.fail "a result that is not known")
      | none=>(match resAll P st fn.results.toList with
        | some vs=>retK nx (resVal vs) st.m st.nx K
        | none=>.fail "a result that is not known")))
    ⟨args.map some++List.replicate (fn.ntmps - args.length) none,m,nx⟩
 | none=>.fail "a function without a body"
theorem leaves_marksT {fn:Func} {Γ:Base} {E:Nat→Nat} {m:Mem} {nx:Nat} {tmps:Array Value} {R:Ending→World→Prop} {u:FrameMode} {tl:List Deferred} (hu:u≠.run)
  (fin: ∀ w,SatM Γ E m nx w→LeavesInM Fence.wide 0 P fn tmps R tl u w): ∀(Ds:List Nat) (w:World),Ds.Nodup →
  (∀ D∈ Ds,w.heap[D]?=some (.deferred (some []))∧D∉ Γ.keep∧Γ.w0.heap.size≤D)→SatM Γ E m nx w→LeavesInM Fence.wide 0 P fn tmps R (Ds.map markOf++tl) u w
 | [],w,_,_,hm=>fin w hm
 | D::Ds,w,hnd,hD,hm=>by
   obtain⟨h1,h2,h3⟩:=hD D (by simp)
   rw[List.nodup_cons] at hnd
   refine⟨hu,.inl ⟨D,_,rfl,run_takeDeferred h1,leaves_marksT hu fin Ds _ hnd.2 (fun D' hD'=> ?_) (hm.shut h1 h2 h3 _)⟩⟩
   obtain⟨g1,g2⟩:=hD D' (by simp[hD'])
   exact⟨by rw[World.putObj_heap_other (fun e=>hnd.1 (by rw[← e];exact hD'))];exact g1,g2⟩
theorem runD_ok {cfg:Cfg} (hg:Good P cfg)(hC:CallingOk P C)(hem: ∀ p∈ env,MonoPT p.2) {Γ:Base} (hek: ∀ p∈ env,∀ KP,COk P Γ KP (.yield p.1) p.2) {f:FuncId} {fn:Func} (hf:P.funcs[f]?=some fn)
  (hname:(fn.name== "runtime.NumGoroutine")=false):COk P Γ noP (.fn f) (runD P cfg C env anns n fn):=by
 intro Δ hle args m nx K h hwf hargs E w hs
 have hek2: ∀ p∈ env,∀ KP,COk P Δ KP (.yield p.1) p.2:=fun p hp KP=>(hek p hp KP).mono hle
 unfold runD at h
 split at h
 ·rename_i body hb
  simp only[Cal.sem]
  rw[callFunc_run hf hname hb]
  simp only[Out]
  refine callsIn_wide.1 (callsIn_of_wp_marks (F:=Fence.wide) (n:=0) hf hb trivial ?_)
  refine wpIn_mono (sxD_sound hg.mix hC hem hek2 body _ _ _ E _ w h (SatM.start (Δ:=Δ.pre) hs.toPre rfl hargs _)) (fun e a' w' hq=> ?_)
  have fin: ∀(E':Nat→Nat) (T:List (Option SV)) (m':Mem) (nx':Nat) (a:Act) (w:World),(match resAll P ⟨T,m',nx'⟩ fn.results.toList with
     | some vs=>retK nx (resVal vs) m' nx' K
     | none=>VC.fail "a result that is not known").holds→TmpsOk E' T a→(∀ k,k<nx→E' k=E k)→nx≤nx'→SatM Δ E' m' nx' w →
    LeavesInM Fence.wide 0 P fn a.tmps (fun e w'=>(∃ v,e=.returned v∧After (lift K) Δ E nx v w')∨∃ ch,e=.panicked ch∧AfterP noP Δ E nx ch w') [] .returning w:=by
   intro E' T m' nx' a w h ht hE hn hm
   cases hr:resAll P ⟨T,m',nx'⟩ fn.results.toList with
   | none=>rw[hr] at h;exact h.elim
   | some vs =>
     rw[hr] at h
     show ∃ v,_∧_
     exact⟨_,results_run (st:=⟨T,m',nx'⟩) ht hm hr,.inl ⟨_,rfl,retK_after h hm hs.cx.1 hE hn⟩⟩
  have clos: ∀(d:SV) (E1:Nat→Nat) (nx1:Nat) (E2:Nat→Nat) (st:St) (mode:Option SV) (a:Act) (w:World),d.wf nx1=true→nx≤nx1→(∀ k,k<nx→E1 k=E k)→(∀ k,k<nx1→E2 k=E1 k)→nx1≤st.nx →
    Sat (Δ.dfr (deferOf E1 d)) E2 st a w→(∀ v,mode=some v→v.wf st.nx=true) →
    (runClos P cfg C env n d mode st.m st.nx (fun m' nx'=>match resAll P ⟨st.tmps,m',nx'⟩ fn.results.toList with
      | some vs=>retK nx (resVal vs) m' nx' K
      | none=>.fail "a result that is not known")).holds →
    LeavesInM Fence.wide 0 P fn a.tmps (fun e w'=>(∃ v,e=.returned v∧After (lift K) Δ E nx v w')∨∃ ch,e=.panicked ch∧AfterP noP Δ E nx ch w') a.defers (modeOf E2 mode) w:=by
   intro d E1 nx1 E2 st mode a w hd hn1 hE1 hE2 hn2 hsat hmw hrun
   obtain⟨Ds,d1,d2,d3,d4⟩:=hsat.df
   rw[d1]
   have hum:modeOf E2 mode≠.run:=by cases mode<;>simp[modeOf]
   refine leaves_marksT (tl:=[deferOf E1 d]) hum (fun w hm=> ?_) Ds w d2 d3 hsat.mm
   rw[show deferOf E1 d=deferOf E2 d from(deferOf_congr hE2 hd).symm]
   obtain⟨fv,cap,g,args',h1,h2,h3⟩:=runClos_ok hg hC hem (Γ:=Δ) hek2 hrun hm.unDfr (SV.wf_mono hn2 _ hd) hmw
   refine⟨hum,.inr ⟨(fun h=>by cases h),fv,cap,g,args',h1,h2,fun _ _=>trivial,?_⟩⟩
   refine⟨h3.1,fun c cs hc hr=> ?_⟩
   obtain⟨e,u',w',fr,hR,hcome,hk,hfn,hgo⟩:=h3.2 c cs hc hr
   obtain⟨v,rfl,hset,E3,m3,nx3,q1,q2,q3,q4⟩:=hR
   refine⟨.returned v,u',w',fr,?_,hcome,hk,hfn,hgo⟩
   simp only
   rw[hset]
   exact fin E3 st.tmps m3 nx3 a w' q4 (hsat.tm.congr hsat.wt q1) (fun k hk=>(q1 k (Nat.lt_of_lt_of_le hk (Nat.le_trans hn1 hn2))).trans ((hE2 k (Nat.lt_of_lt_of_le hk hn1)).trans (hE1 k hk))) (Nat.le_trans hn1 (Nat.le_trans hn2 q2)) q3
  rcases hq with ((⟨ex,rfl,E1,st1,g1,g2,g3,g4⟩ | hp) | ⟨d,E1,nx1,hd,hn1,hE1,(⟨ex,rfl,E2,st1,g1,g2,g3,g4⟩ | ⟨v,E2,st1,rfl,gw,g1,g2,g3,g4⟩)⟩)
  ·have hnil:a'.defers=[]:=by
    obtain⟨Ds,d1,d2,d3,d4⟩:=g3.df
    have:=d4 rfl
    subst this
    exact d1
   have go:(match resAll P st1 fn.results.toList with
     | some vs=>retK nx (resVal vs) st1.m st1.nx K
     | none=>VC.fail "a result that is not known").holds→LeavesInM Fence.wide 0 P fn a'.tmps _ a'.defers .returning w':=fun h=>by
    rw[hnil]
    exact fin E1 st1.tmps st1.m st1.nx a' w' h g3.tm g1 g2 g3.mm.unPre
   cases ex with
   | exit id=>exact g4.elim
   | normal=>exact go g4
   | ret=>exact go g4
  ·obtain⟨v,E1,st1,rfl,_,_,_,_,hno⟩:=hp
   exact hno.elim
  ·cases ex with
   | exit id=>exact g4.elim
   | normal=>exact clos d E1 nx1 E2 st1 none a' w' hd hn1 hE1 g1 g2 g3 (fun v hv=>by cases hv) g4
   | ret=>exact clos d E1 nx1 E2 st1 none a' w' hd hn1 hE1 g1 g2 g3 (fun v hv=>by cases hv) g4
  ·simp only at g4
   rw[gw] at g4
   exact clos d E1 nx1 E2 st1 (some v) a' w' hd hn1 hE1 g1 g2 g3 (fun u hu=>by injection hu with hu;subst hu;exact gw) g4
 ·exact h.elim
end
end
end Go.Proofs.YtoalfimkkibpdaaGreatDoor.Sx
namespace Go.Proofs.YtoalfimkkibpdaaGreatDoor.Sx
open Go
theorem callsD_of_holds {P:Program} {cfg:Cfg} (hg:Good P cfg) {f:FuncId} {fn:Func} (hf:P.funcs[f]?=some fn)(hn:(fn.name== "runtime.NumGoroutine")=false)(hb:fn.body.isSome=true) {args:List SV} {m:Mem} {nx:Nat} {K:SV→Mem→Nat→VC}
  {C:Calling} (hC:CallingOk P C) (h:Holds (runD P cfg C [] (cfg.anns f) cfg.rounds fn args m nx K)) (hm:Mem.wf nx m=true) (ha:SV.wfs nx args=true) {Γ:Base} {E:Nat→Nat} {w:World} (hs:SatM Γ E m nx w) :
  Calls P f (SV.vals E args).toArray w fun e w'=>∃ v,e=.returned v∧After (lift K) Γ E nx v w':=by
 have:=runD_ok hg hC (env:=[]) (fun p hp=>by cases hp) (Γ:=Γ) (fun p hp=>by cases hp) (anns:=cfg.anns f) (n:=cfg.rounds) hf hn Γ Γ.le_refl args m nx K h.out hm ha E w hs
 obtain⟨body,hb⟩:=Option.isSome_iff_exists.1 hb
 simp only[Cal.sem] at this
 rw[callFunc_run hf hn hb] at this
 refine Calls.mono this ?_
 rintro e w' (h | ⟨ch,_,_,_,_,_,_,_,_,_,_,hno⟩)
 ·exact h
 ·exact hno.elim
theorem ansD_ok {P:Program} {f:FuncId} {fn:Func} (hf:P.funcs[f]?=some fn)(hn:(fn.name== "runtime.NumGoroutine")=false)(hb:fn.body.isSome=true) {spec:List SV→Option (Prop×Ans)}
  (h: ∀ args p a,spec args=some (p,a)→p→∃ cfg C,Good P cfg∧CallingOk P C∧SV.wfs 0 args=true∧a.Ok∧Holds (runD P cfg C [] (cfg.anns f) cfg.rounds fn args [] 0 (fun v m _=>a.fit v m))):CallOk P f (ansPT spec):=by
 intro args m nx K hk hwf hargs Γ E w hs
 unfold ansPT at hk
 split at hk
 ·rename_i p a hr
  obtain⟨hp,hk⟩:=hk
  obtain⟨cfg,C,hg,hC,h1,h2,h3⟩:=h _ _ _ hr hp
  have hc:=callsD_of_holds hg hf hn hb hC h3 rfl h1 (SatM.none w hs.glob)
  rw[SV.vals_pure h1 (fun _=>0) E,unlit_vals] at hc
  refine out_of_calls hf hn hb (hc.mono ?_)
  rintro e w' ⟨v,rfl,E',sv,m',nx',_,_,g3,g4,g5⟩
  refine⟨v,rfl,?_⟩
  cases sv with
  | none=>exact g5.elim
  | some u=>rw[g3 u rfl];exact Ans.told hs hwf g4 h2 g5 hk
 ·exact hk.elim
end Go.Proofs.YtoalfimkkibpdaaGreatDoor.Sx
namespace Go.Proofs.YtoalfimkkibpdaaGreatDoor.Sx
open Go
noncomputable section
def withP (C:Calling)(ex:List (FuncId×(PK→PT))):Calling:=⟨fun env KP c=>match c with
    | .fn f=>(match ex.find? (fun e=>Nat.beq e.1 f)with
      | some e=>e.2 KP
      | none=>C.callE env KP (.fn f))
    | c=>C.callE env KP c,C.bd⟩
structure PanOk (P:Program)(f:FuncId)(g:PK→PT):Prop where
 ok: ∀ KP Γ,COk P Γ KP (.fn f) (g KP)
 mono: ∀ KP,MonoPT (g KP)
 monoP: ∀ KP KP':PK,(∀ v m nx,(KP v m nx).holds→(KP' v m nx).holds)→∀ args m nx K,(g KP args m nx K).holds→(g KP' args m nx K).holds
theorem withP_ok {P:Program} {C:Calling} (hC:CallingOk P C) {ex:List (FuncId×(PK→PT))} (he: ∀ e∈ ex,PanOk P e.1 e.2):CallingOk P (withP C ex):=by
 refine⟨fun env hem KP c=> ?_,fun env hem KP KP' hK c args m nx K h=> ?_,fun Γ env hem hek KP c=> ?_,hC.bd⟩
 ·unfold withP
  cases c with
  | yield k=>exact hC.mono env hem KP _
  | panic=>exact hC.mono env hem KP _
  | fn f =>
    simp only
    split
    ·rename_i e hf
     exact(he e (List.mem_of_find?_eq_some hf)).mono KP
    ·exact hC.mono env hem KP _
 ·unfold withP at h ⊢
  cases c with
  | yield k=>exact hC.monoP env hem KP KP' hK _ _ _ _ _ h
  | panic=>exact hC.monoP env hem KP KP' hK _ _ _ _ _ h
  | fn f =>
    simp only at h ⊢
    cases hf:ex.find? (fun e=>Nat.beq e.1 f)with
    | some e=>rw[hf] at h;exact(he e (List.mem_of_find?_eq_some hf)).monoP KP KP' hK _ _ _ _ h
    | none=>rw[hf] at h;exact hC.monoP env hem KP KP' hK _ _ _ _ _ h
 ·unfold withP
  cases c with
  | yield k=>exact hC.ok Γ env hem hek KP _
  | panic=>exact hC.ok Γ env hem hek KP _
  | fn f =>
    simp only
    cases hf:ex.find? (fun e=>Nat.beq e.1 f)with
    | some e =>
      have h1:=List.find?_some hf
      have h2:e.1=f:=Nat.eq_of_beq_eq_true h1
      rw[← h2]
      exact(he e (List.mem_of_find?_eq_some hf)).ok KP Γ
    | none=>exact hC.ok Γ env hem hek KP _
def panicK (KP:PK):SV→Mem→Nat→VC:=fun v m nx=>match v.wf nx with
 | true=>KP v m nx
 | false=>.fail "a key out of bounds"
def panPT (spec:List SV→Option (Prop×Bool×Ans×Ans)):PK→PT:=fun KP args m nx K=>match spec (args.map unlit)with
 | some (p,b,a,q)=>.and (.atom p) (Sx.fork b fun b=>match b with
   | true=>a.vc m nx K
   | false=>q.vc m nx (panicK KP))
 | none=>.fail "arguments that nothing is said of"
theorem panicK_mono {KP KP':PK} (hK: ∀ v m nx,(KP v m nx).holds→(KP' v m nx).holds): ∀ v m nx,(panicK KP v m nx).holds→(panicK KP' v m nx).holds:=by
 intro v m nx h
 unfold panicK at h ⊢
 split at h
 ·exact hK _ _ _ h
 ·exact h
theorem After.toP {KP:PK} {Γ:Base} {E:Nat→Nat} {nx:Nat} {v:Value} {w:World} (h:After (lift (panicK KP)) Γ E nx v w):AfterP KP Γ E nx [{v:=v,recovered:=false}] w:=by
 obtain⟨E',sv,m',nx',h1,h2,h3,h4,h5⟩:=h
 cases sv with
 | none=>exact h5.elim
 | some x =>
   have h5:(panicK KP x m' nx').holds:=h5
   unfold panicK at h5
   split at h5
   ·rename_i hw
    exact⟨E',x,m',nx',h1,h2,by rw[h3 x rfl],hw,h4,h5⟩
   ·exact h5.elim
theorem pan_ok {P:Program} {f:FuncId} {fn:Func} (hf:P.funcs[f]?=some fn)(hn:(fn.name== "runtime.NumGoroutine")=false)(_hb:fn.body.isSome=true) {spec:List SV→Option (Prop×Bool×Ans×Ans)}
  (h: ∀ args p b a q,spec args=some (p,b,a,q)→p→∃ C anns n,CallingOk P C∧P.follows .mixedOrders=true∧SV.wfs 0 args=true∧a.Ok∧q.Ok ∧
    Holds (runFn P C [] (fun v m _=>.and (.atom (b=false)) (q.fit v m)) anns n fn args [] 0 (fun v m _=>.and (.atom (b=true)) (a.fit v m)))):PanOk P f (panPT spec):=by
 refine⟨fun KP Γ0=> ?_,fun KP args m nx K K' hK hh=> ?_,fun KP KP' hK args m nx K hh=> ?_⟩
 ·intro Γ _ args m nx K hk hwf hargs E w hs
  unfold panPT at hk
  split at hk
  ·rename_i p b a q hr
   obtain⟨hp,hk⟩:=hk
   obtain⟨C,anns,n,hC,hmix,h1,h2,hq,h3⟩:=h _ _ _ _ _ hr hp
   have hk:=fork_iff.1 hk
   have hc:=runFn_ok hmix hC (env:=[]) (fun p hp=>by cases hp) (Γ:=Base.at w (fun _=>False) hs.glob (fun _ _ h=>h)) (fun p hp=>by cases hp) (anns:=anns) (n:=n) hf hn _ (Base.le_refl _) _ [] 0 _ h3.out rfl h1 (fun _=>0) w (SatM.none w hs.glob)
   simp only[Cal.sem] at hc ⊢
   rw[SV.vals_pure h1 (fun _=>0) E,unlit_vals] at hc
   refine hc.mono (fun v w' hh=> ?_) (fun ch w' hh=> ?_)
   ·obtain⟨E',sv,m',nx',_,_,g3,g4,g5⟩:=hh
    cases sv with
    | none=>exact g5.elim
    | some u =>
      obtain⟨gb,g5⟩:=g5
      have gb:b=true:=gb
      subst gb
      rw[g3 u rfl];exact Ans.told hs hwf g4 h2 g5 hk
   ·obtain⟨E',u,m',nx',_,_,g3,gw,g4,gb,g5⟩:=hh
    have gb:b=false:=gb
    subst gb
    rw[g3]
    exact(Ans.told hs hwf g4 hq g5 hk).toP
  ·exact hk.elim
 ·unfold panPT at hh ⊢
  split at hh
  ·rename_i p b a q hr
   refine⟨hh.1,fork_iff.2 ?_⟩
   have:=fork_iff.1 hh.2
   cases b
   ·exact this
   ·exact Ans.vc_mono hK this
  ·exact hh
 ·unfold panPT at hh ⊢
  split at hh
  ·rename_i p b a q hr
   refine⟨hh.1,fork_iff.2 ?_⟩
   have:=fork_iff.1 hh.2
   cases b
   ·exact Ans.vc_mono (panicK_mono hK) this
   ·exact this
  ·exact hh
end
end Go.Proofs.YtoalfimkkibpdaaGreatDoor.Sx
namespace Go.Proofs.YtoalfimkkibpdaaGreatDoor
open Go Sx
set_option maxRecDepth 20000
def paperD (s:List UInt8):Pp:=⟨numI (itOf s 0),cutIn (itOf s 1),cutIn (itOf s 2),cutIn (itOf s 3),itemsN (cutIn (itOf s 4)),fun i=>cutIn (itemAt (cutIn (itOf s 4)) i)⟩
def getPB (s:List UInt8):Bool:=(paperD s).fits&&decide ((paperD s).put=s)
def noPaper:SV:=.agg [.int .i64 true 0,.str true [],.str true [],.str true [],.nilslc]
def getPA (s:List UInt8):Ans:=.fork (getPB s) fun b=>match b with
 | true=>.all Nat fun c=>.req (itemsN (cutIn (itOf s 4))≤c) (.new (fun k=>.tup [(paperD s).sv (.rslc k 1 true 0 (itemsN (cutIn (itOf s 4))) c),.int .i64 true 0]) (.rows true (itemsN (cutIn (itOf s 4))) [.str (paperD s).f] false c 9))
 | false=>.ret (.tup [noPaper,.int .i64 true 2])
def wpKeyAt (st:St)(t:Nat):Nat:=match slot st.tmps t with
 | some (.ptr k _ _)=>k
 | _=>0
def brokenA:Ans:=.all Int fun at'=>.new (fun k=>.iface 213 (.ptr k true 0)) (.cells [.int .i64 false at',.iface 27 (.int .i64 true 2)] 2 215)
theorem brokenA_ok:brokenA.Ok:=fun _=>⟨rfl,rfl,fun k=>by simp[SV.wf,Nat.blt_eq],fun E E' k k' h=>by simp only[SV.val,h rfl]⟩
noncomputable def runPan (C:Calling)(anns:Anns)(fn:Func)(args:List SV)(b:Bool)(a q:Ans):VC :=
 runFn Tryz.prog C [] (fun v m _=>.and (.atom (b=false)) (q.fit v m)) anns 100 fn args [] 0 (fun v m _=>.and (.atom (b=true)) (a.fit v m))
def insideB (t:List UInt8)(l:Bool):Bool:=cutB t&&decide (cutRest t=[])&&(cutL t==l)
noncomputable def cfgP2:Cfg:={cfg0 with summ:=fun f=>lookPT f listP2}
theorem goodP2:Sx.Good Tryz.prog cfgP2:=⟨mixes,listP2_ok,fns_ok⟩
noncomputable def callP2:Calling:=calling Tryz.prog cfgP2 20
end Go.Proofs.YtoalfimkkibpdaaGreatDoor
namespace Go.Proofs.YtoalfimkkibpdaaGreatDoor
open Go Sx
set_option maxRecDepth 20000
theorem vcPInside (n:Int)(t:List UInt8)(l:Bool):VC.holds (runPan callP2 [] Tryz.f81 [.int .i64 false n,.str false t,.bool false l] (insideB t l) (.ret (.str false (cutIn t))) brokenA)=((t.length<9223372036854775808∧(cutB t=true→(decide (cutRest t=[])=true→((!cutL t==l)=true→insideB t l=false∧∃(u2:Int),SBle (SB.cells [SV.int .i64 false n,SV.iface 27 (SV.int .i64 true 2)] 2 215) (SB.cells [SV.int .i64 false u2,SV.iface 27 (SV.int .i64 true 2)] 2 215)∧sameVal (SV.iface 213 (SV.ptr 0 true 0)) (SV.iface 213 (SV.ptr 0 true 0)))∧((!cutL t==l)=false→insideB t l=true∧sameVal (SV.str false (cutIn t)) (SV.str false (cutIn t))))∧(decide (cutRest t=[])=false→insideB t l=false∧∃(u1:Int),SBle (SB.cells [SV.int .i64 false n,SV.iface 27 (SV.int .i64 true 2)] 2 215) (SB.cells [SV.int .i64 false u1,SV.iface 27 (SV.int .i64 true 2)] 2 215)∧sameVal (SV.iface 213 (SV.ptr 0 true 0)) (SV.iface 213 (SV.ptr 0 true 0))))∧(cutB t=false→insideB t l=false∧∃(u0:Int),SBle (SB.cells [SV.int .i64 false n,SV.iface 27 (SV.int .i64 true 2)] 2 215) (SB.cells [SV.int .i64 false u0,SV.iface 27 (SV.int .i64 true 2)] 2 215)∧sameVal (SV.iface 213 (SV.ptr 0 true 0)) (SV.iface 213 (SV.ptr 0 true 0))))):=by kernel_rfl
end Go.Proofs.YtoalfimkkibpdaaGreatDoor
namespace Go.Proofs.YtoalfimkkibpdaaGreatDoor
open Go Sx
set_option maxRecDepth 20000
theorem wp_broken_fit {n:Int}: ∃(x:Int),SBle (SB.cells [SV.int IntKind.i64 false n,SV.iface 27 (SV.int IntKind.i64 true (2:Int))] (2:Nat) 215) (SB.cells [SV.int IntKind.i64 false x,SV.iface 27 (SV.int IntKind.i64 true (2:Int))] (2:Nat) 215) ∧
  sameVal (SV.iface 213 (SV.ptr (0:Nat) true (0:Nat))) (SV.iface 213 (SV.ptr (0:Nat) true (0:Nat))):=⟨n,SBle.refl _,fun _=>rfl⟩
def insideSpec:List SV→Option (Prop×Bool×Ans×Ans)
 | [.int .i64 false _,.str false t,.bool false l]=>some (t.length<9223372036854775808,insideB t l,.ret (.str false (cutIn t)),brokenA)
 | _=>none
theorem inside_ok:PanOk Tryz.prog 81 (panPT insideSpec):=by
 refine pan_ok (fn:=Tryz.f81) Tryz.func81 (by kernel_rfl) (by kernel_rfl) ?_
 intro args p b a q h hp
 unfold insideSpec at h
 split at h
 ·rename_i n t l
  injection h with h;injection h with h1 h;injection h with h2 h;injection h with h3 h4
  subst h1;subst h2;subst h3;subst h4
  refine⟨callP2,[],100,callOf_ok goodP2 20,mixes,rfl,rfl,brokenA_ok,Holds.of_eq (vcPInside n t l) ?_⟩
  refine⟨hp,fun h1=>⟨fun h2=>⟨fun h3=>⟨?_,wp_broken_fit⟩,fun h3=>⟨?_,fun _=>rfl⟩⟩,fun h2=>⟨?_,wp_broken_fit⟩⟩,fun h1=>⟨?_,wp_broken_fit⟩⟩
  all_goals (unfold insideB;simp_all)
 ·cases h
noncomputable def exP1:List (FuncId×(PK→PT)):=[(81,panPT insideSpec)]
theorem exP1_ok: ∀ e∈ exP1,PanOk Tryz.prog e.1 e.2:=fun e he=>by
 rcases List.mem_cons.1 he with rfl | he
 ·exact inside_ok
 ·cases he
noncomputable def callP3:Calling:=withP callP2 exP1
theorem callP3_ok:CallingOk Tryz.prog callP3:=withP_ok (callOf_ok goodP2 20) exP1_ok
def pitemsB (s:List UInt8):Bool:=insideB s true&&itemsB (cutIn s)
def pitemsA (s:List UInt8):Ans:=.all Nat fun c=>.req (itemsN (cutIn s)≤c) (.new (fun k=>.rslc k 1 true 0 (itemsN (cutIn s)) c) (.rows true (itemsN (cutIn s)) [.str (itemAt (cutIn s))] false c 9))
end Go.Proofs.YtoalfimkkibpdaaGreatDoor
namespace Go.Proofs.YtoalfimkkibpdaaGreatDoor
open Go Sx
set_option maxRecDepth 20000
theorem vcPItems (n:Int)(s:List UInt8):VC.holds (runPan callP3 [] Tryz.f79 [.int .i64 false n,.str false s] (pitemsB s) (pitemsA s) brokenA)=((s.length<9223372036854775808∧(insideB s true=true→(cutIn s).length<1099511627776∧(itemsB (cutIn s)=true→∀(u4:Nat),itemsN (cutIn s)≤u4→pitemsB s=true∧∃(u3:Nat),itemsN (cutIn s)≤u3∧SBle (SB.rows true (itemsN (cutIn s)) [Col.str (itemAt (cutIn s))] false u4 9) (SB.rows true (itemsN (cutIn s)) [Col.str (itemAt (cutIn s))] false u3 9)∧sameVal (SV.rslc 0 1 true 0 (itemsN (cutIn s)) u4) (SV.rslc 0 1 true 0 (itemsN (cutIn s)) u3))∧(itemsB (cutIn s)=false→pitemsB s=false∧∃(u2:Int),SBle (SB.cells [SV.int .i64 false n,SV.iface 27 (SV.int .i64 true 2)] 2 215) (SB.cells [SV.int .i64 false u2,SV.iface 27 (SV.int .i64 true 2)] 2 215)∧sameVal (SV.iface 213 (SV.ptr 0 true 0)) (SV.iface 213 (SV.ptr 0 true 0))))∧(insideB s true=false→∀(u1:Int),pitemsB s=false∧∃(u0:Int),SBle (SB.cells [SV.int .i64 false u1,SV.iface 27 (SV.int .i64 true 2)] 2 215) (SB.cells [SV.int .i64 false u0,SV.iface 27 (SV.int .i64 true 2)] 2 215)∧sameVal (SV.iface 213 (SV.ptr 0 true 0)) (SV.iface 213 (SV.ptr 0 true 0))))):=by kernel_rfl
end Go.Proofs.YtoalfimkkibpdaaGreatDoor
namespace Go.Proofs.YtoalfimkkibpdaaGreatDoor
open Go Sx
set_option maxRecDepth 20000
def pitemsSpec:List SV→Option (Prop×Bool×Ans×Ans)
 | [.int .i64 false _,.str false s]=>some (s.length<1099511627776,pitemsB s,pitemsA s,brokenA)
 | _=>none
theorem pitems_ok:PanOk Tryz.prog 79 (panPT pitemsSpec):=by
 refine pan_ok (fn:=Tryz.f79) Tryz.func79 (by kernel_rfl) (by kernel_rfl) ?_
 intro args p b a q h hp
 unfold pitemsSpec at h
 split at h
 ·rename_i n s
  injection h with h;injection h with h1 h;injection h with h2 h;injection h with h3 h4
  subst h1;subst h2;subst h3;subst h4
  have hle:=cutIn_le s
  refine⟨callP3,[],100,callP3_ok,mixes,rfl,(fun c=>⟨rfl,rfl,fun k=>by simp[SV.wf,Nat.blt_eq],fun E E' k k' h=>by simp only[SV.val,SB.no] at h ⊢;cases hz:Nat.beq (itemsN (cutIn s)) 0<;>simp_all⟩),brokenA_ok,Holds.of_eq (vcPItems n s) ?_⟩
  refine⟨by omega,fun h1=>⟨by omega,fun h2=>fun x hx=>⟨?_,x,hx,SBle.refl _,fun _=>rfl⟩,fun h2=>⟨?_,wp_broken_fit⟩⟩,fun h1 x=>⟨?_,wp_broken_fit⟩⟩
  all_goals (unfold pitemsB;simp_all)
 ·cases h
noncomputable def exP2:List (FuncId×(PK→PT)):=(79,panPT pitemsSpec)::exP1
theorem exP2_ok: ∀ e∈ exP2,PanOk Tryz.prog e.1 e.2:=fun e he=>by
 rcases List.mem_cons.1 he with rfl | he
 ·exact pitems_ok
 ·exact exP1_ok e he
noncomputable def callP4:Calling:=withP callP2 exP2
theorem callP4_ok:CallingOk Tryz.prog callP4:=withP_ok (callOf_ok goodP2 20) exP2_ok
noncomputable def joinRead (s:List UInt8):LoopAnn :=
 {α:=Unit,pre:=fun _ _=>True,mea:=fun _ _=>0,fresh:=1,slots:=fun st _=>[(6,.ptr st.nx true 0)],
  mem:=fun st _=>[(st.nx,.cells [.int .i64 false (numI (itOf s 0)),.str false (cutIn (itOf s 1)),.str false (cutIn (itOf s 2)),.str false (cutIn (itOf s 3)),.nilslc] 5 24)]}
noncomputable def annRead (s:List UInt8):LoopAnn :=
 {α:=Nat×Nat,pre:=fun _ x=>Grow (itemsN (cutIn (itOf s 4))) x,mea:=fun _ x=>itemsN (cutIn (itOf s 4)) - x.1,fresh:=1,slots:=fun _ x=>[(54,.int .i64 false x.1)],
  mem:=fun st x=>[(wpKeyAt st 6,.cells [.int .i64 false (numI (itOf s 0)),.str false (cutIn (itOf s 1)),.str false (cutIn (itOf s 2)),.str false (cutIn (itOf s 3)),.rslc st.nx 1 true 0 x.1 x.2] 5 24),(st.nx,.rows true x.1 [.str (paperD s).f] false x.2 9)]}
noncomputable def annsRead (s:List UInt8):Anns:=[(8,always (annRead s)),(1006,always (joinRead s))]
def preadA (s:List UInt8):Ans:=.all Nat fun c=>.req (itemsN (cutIn (itOf s 4))≤c) (.new (fun k=>(paperD s).sv (.rslc k 1 true 0 (itemsN (cutIn (itOf s 4))) c)) (.rows true (itemsN (cutIn (itOf s 4))) [.str (paperD s).f] false c 9))
end Go.Proofs.YtoalfimkkibpdaaGreatDoor
namespace Go.Proofs.YtoalfimkkibpdaaGreatDoor
open Go Sx
set_option maxRecDepth 20000
theorem vcPRead (s:List UInt8):VC.holds (runPan callP4 (annsRead s) Tryz.f43 [.str false s] (getPB s) (preadA s) brokenA)=((fun P0:Nat→SB=>((fun P1:SB=>((fun P2:SV=>((fun P3:(Nat×Nat)→SB=>((fun P4:SV=>((fun P5:SV=>((fun P6:SB=>((fun P7:SB=>((fun P8:List UInt8=>((fun P9:SB=>((((!decide ((s.length:Int)≤65536))=true→getPB s=false∧∃(u53:Int),SBle P9 (SB.cells [SV.int .i64 false u53,SV.iface 27 (SV.int .i64 true 2)] 2 215)∧sameVal (SV.iface 213 (SV.ptr ((0:Nat)+(1:Nat)) true 0)) (SV.iface 213 (SV.ptr ((0:Nat)+(1:Nat)) true 0)))∧((!decide ((s.length:Int)≤65536))=false→s.length<1099511627776∧(pitemsB s=true→∀(u52:Nat),itemsN (cutIn s)≤u52→((!decide ((↑(itemsN (cutIn s)):Int)=5))=true→getPB s=false∧∃(u51:Int),SBle P9 (SB.cells [SV.int .i64 false u51,SV.iface 27 (SV.int .i64 true 2)] 2 215)∧sameVal P5 P5)∧((!decide ((↑(itemsN (cutIn s)):Int)=5))=false→((0:Int)≤(0:Int)∧0<(↑(itemsN (cutIn s)):Int))∧0<itemsN (cutIn s)∧(itemAt (cutIn s) 0).length<9223372036854775808∧(getB (itemAt (cutIn s) 0)=true→((!decide (num (cutIn (itemAt (cutIn s) 0))≤1))=true→getPB s=false∧∃(u50:Int),SBle (SB.cells [SV.int .i64 true 0,SV.iface 27 (SV.int .i64 true 2)] 2 215) (SB.cells [SV.int .i64 false u50,SV.iface 27 (SV.int .i64 true 2)] 2 215)∧sameVal P5 P5)∧((!decide (num (cutIn (itemAt (cutIn s) 0))≤1))=false →(((-9223372036854775808:Int)≤num (cutIn (itemAt (cutIn s) 0))∧num (cutIn (itemAt (cutIn s) 0))≤9223372036854775807)∧((0:Int)≤(1:Int)∧1<(↑(itemsN (cutIn s)):Int))∧1<itemsN (cutIn s)∧((0:Int)≤(2:Int)∧2<(↑(itemsN (cutIn s)):Int))∧2<itemsN (cutIn s)∧((0:Int)≤(3:Int)∧3<(↑(itemsN (cutIn s)):Int))∧3<itemsN (cutIn s)∧((itemAt (cutIn s) 1).length<9223372036854775808∧(insideB (itemAt (cutIn s) 1) false=true→some (P0 u52)=some (P0 u52)∧some (P0 u52)=some (P0 u52)∧((itemAt (cutIn s) 2).length<9223372036854775808∧(insideB (itemAt (cutIn s) 2) false=true→some (P0 u52)=some (P0 u52)∧((itemAt (cutIn s) 3).length<9223372036854775808∧(insideB (itemAt (cutIn s) 3) false=true→some (P0 u52)=some (P0 u52)∧some (P0 u52)=some (P0 u52)∧some (P0 u52)=some (P0 u52)∧∃(_u49:Unit),True∧(0:Nat)=(0:Nat)∧SBle P6 P7∧SBle (P0 u52) (P0 u52)∧SBle P1 P1∧True)∧(insideB (itemAt (cutIn s) 3) false=false→∀(u48:Int),getPB s=false ∧∃(u47:Int),SBle (SB.cells [SV.int .i64 false u48,SV.iface 27 (SV.int .i64 true 2)] 2 215) (SB.cells [SV.int .i64 false u47,SV.iface 27 (SV.int .i64 true 2)] 2 215)∧sameVal P5 P5))∧some (P0 u52)=some (P0 u52)∧some (P0 u52)=some (P0 u52)∧some (P0 u52)=some (P0 u52)∧(itemAt (cutIn s) 3).length<9223372036854775808∧(insideB (itemAt (cutIn s) 3) false=true→∃(_u46:Unit),True∧(0:Nat)=(0:Nat)∧SBle P6 P7∧SBle (P0 u52) (P0 u52)∧SBle P1 P1∧True)∧(insideB (itemAt (cutIn s) 3) false=false→∀(u45:Int),getPB s=false∧∃(u44:Int),SBle (SB.cells [SV.int .i64 false u45,SV.iface 27 (SV.int .i64 true 2)] 2 215) (SB.cells [SV.int .i64 false u44,SV.iface 27 (SV.int .i64 true 2)] 2 215)∧sameVal P2 P2))∧(insideB (itemAt (cutIn s) 2) false=false→∀(u43:Int),getPB s=false∧∃(u42:Int),SBle (SB.cells [SV.int .i64 false u43,SV.iface 27 (SV.int .i64 true 2)] 2 215) (SB.cells [SV.int .i64 false u42,SV.iface 27 (SV.int .i64 true 2)] 2 215)∧sameVal P5 P5))∧some (P0 u52)=some (P0 u52)∧some (P0 u52)=some (P0 u52)∧some (P0 u52)=some (P0 u52)∧(itemAt (cutIn s) 2).length<9223372036854775808 ∧(insideB (itemAt (cutIn s) 2) false=true→some (P0 u52)=some (P0 u52)∧(itemAt (cutIn s) 3).length<9223372036854775808∧(insideB (itemAt (cutIn s) 3) false=true→∃(_u41:Unit),True∧(0:Nat)=(0:Nat)∧SBle P6 P7∧SBle (P0 u52) (P0 u52)∧SBle P1 P1∧True)∧(insideB (itemAt (cutIn s) 3) false=false→∀(u40:Int),getPB s=false∧∃(u39:Int),SBle (SB.cells [SV.int .i64 false u40,SV.iface 27 (SV.int .i64 true 2)] 2 215) (SB.cells [SV.int .i64 false u39,SV.iface 27 (SV.int .i64 true 2)] 2 215)∧sameVal P2 P2))∧(insideB (itemAt (cutIn s) 2) false=false→∀(u38:Int),getPB s=false∧∃(u37:Int),SBle (SB.cells [SV.int .i64 false u38,SV.iface 27 (SV.int .i64 true 2)] 2 215) (SB.cells [SV.int .i64 false u37,SV.iface 27 (SV.int .i64 true 2)] 2 215)∧sameVal P2 P2))∧(insideB (itemAt (cutIn s) 1) false=false→∀(u36:Int),getPB s=false∧∃(u35:Int),SBle (SB.cells [SV.int .i64 false u36,SV.iface 27 (SV.int .i64 true 2)] 2 215) (SB.cells [SV.int .i64 false u35,SV.iface 27 (SV.int .i64 true 2)] 2 215)∧sameVal P5 P5))∧some (P0 u52)=some (P0 u52)∧some (P0 u52)=some (P0 u52)∧some (P0 u52)=some (P0 u52) ∧(itemAt (cutIn s) 1).length<9223372036854775808∧(insideB (itemAt (cutIn s) 1) false=true→some (P0 u52)=some (P0 u52)∧some (P0 u52)=some (P0 u52)∧(itemAt (cutIn s) 2).length<9223372036854775808∧(insideB (itemAt (cutIn s) 2) false=true→some (P0 u52)=some (P0 u52)∧(itemAt (cutIn s) 3).length<9223372036854775808∧(insideB (itemAt (cutIn s) 3) false=true→∃(_u34:Unit),True∧(0:Nat)=(0:Nat)∧SBle P6 P7∧SBle (P0 u52) (P0 u52)∧SBle P1 P1∧True)∧(insideB (itemAt (cutIn s) 3) false=false→∀(u33:Int),getPB s=false∧∃(u32:Int),SBle (SB.cells [SV.int .i64 false u33,SV.iface 27 (SV.int .i64 true 2)] 2 215) (SB.cells [SV.int .i64 false u32,SV.iface 27 (SV.int .i64 true 2)] 2 215)∧sameVal P2 P2))∧(insideB (itemAt (cutIn s) 2) false=false→∀(u31:Int),getPB s=false∧∃(u30:Int),SBle (SB.cells [SV.int .i64 false u31,SV.iface 27 (SV.int .i64 true 2)] 2 215) (SB.cells [SV.int .i64 false u30,SV.iface 27 (SV.int .i64 true 2)] 2 215)∧sameVal P2 P2))∧(insideB (itemAt (cutIn s) 1) false=false→∀(u29:Int),getPB s=false ∧∃(u28:Int),SBle (SB.cells [SV.int .i64 false u29,SV.iface 27 (SV.int .i64 true 2)] 2 215) (SB.cells [SV.int .i64 false u28,SV.iface 27 (SV.int .i64 true 2)] 2 215)∧sameVal P2 P2))∧∀(_u27:Unit),True→((0:Int)≤(4:Int)∧4<(↑(itemsN (cutIn s)):Int))∧4<itemsN (cutIn s)∧(itemAt (cutIn s) 4).length<1099511627776∧(pitemsB (itemAt (cutIn s) 4)=true→∀(u26:Nat),itemsN P8≤u26→(∃(u25:Nat×Nat),Grow (itemsN (cutIn (itOf s 4))) u25∧0=(u25.fst:Int)∧(5:Nat)=(5:Nat)∧numI (itOf s 0)=numI (itOf s 0)∧cutIn (itOf s 1)=cutIn (itOf s 1)∧cutIn (itOf s 2)=cutIn (itOf s 2)∧cutIn (itOf s 3)=cutIn (itOf s 3)∧u25.fst=0∧(SB.rows true u25.fst [Col.str fun(u24:Nat)=>cutIn (itemAt (cutIn (itOf s 4)) u24)] false u25.snd 9).no=true∧SBle (SB.rows true (itemsN P8) [Col.str (itemAt P8)] false u26 9) (SB.rows true (itemsN P8) [Col.str (itemAt P8)] false u26 9)∧SBle (P0 u52) (P0 u52)∧SBle P1 P1∧True)∧∀(u23:Nat×Nat),Grow (itemsN (cutIn (itOf s 4))) u23→(decide ((u23.fst:Int)<(↑(itemsN P8):Int))=true→(0≤(u23.fst:Int)∧(u23.fst:Int)<(↑(itemsN P8):Int)) ∧0+(u23.fst:Int).toNat<itemsN P8∧(itemAt P8 (0+(u23.fst:Int).toNat)).length<9223372036854775808∧(insideB (itemAt P8 (0+(u23.fst:Int).toNat)) false=true→some (P3 u23)=some (P3 u23)∧some (P3 u23)=some (P3 u23)∧(0+u23.fst≤u23.fst∧True∧2*(u23.fst+1)*16≤(281474976710656:Nat)∧u23.fst+1<(9223372036854775808:Nat))∧u23.snd=u23.snd*1∧∀(u22:Nat),u23.fst+1≤u22→((-9223372036854775808:Int)≤(u23.fst:Int)+1∧(u23.fst:Int)+1≤(9223372036854775807:Int))∧∃(u21:Nat×Nat),(Grow (itemsN (cutIn (itOf s 4))) u21∧itemsN (cutIn (itOf s 4)) - u21.fst<itemsN (cutIn (itOf s 4)) - u23.fst)∧(u23.fst:Int)+1=(u21.fst:Int)∧(5:Nat)=(5:Nat)∧numI (itOf s 0)=numI (itOf s 0)∧cutIn (itOf s 1)=cutIn (itOf s 1)∧cutIn (itOf s 2)=cutIn (itOf s 2)∧cutIn (itOf s 3)=cutIn (itOf s 3)∧((0:Nat)=(0:Nat)∧u23.fst+1=u21.fst∧u22=u21.snd)∧True ∧SBle (SB.rows true (u23.fst+1) [Col.str fun(u20:Nat)=>if u20<u23.fst then cutIn (itemAt (cutIn (itOf s 4)) u20)else selS [cutIn (itemAt P8 (0+(u23.fst:Int).toNat))] (u20 - u23.fst)] false (u22*1) 9) (SB.rows true u21.fst [Col.str fun(u19:Nat)=>cutIn (itemAt (cutIn (itOf s 4)) u19)] false u21.snd 9)∧SBle (SB.rows true (itemsN P8) [Col.str (itemAt P8)] false u26 9) (SB.rows true (itemsN P8) [Col.str (itemAt P8)] false u26 9)∧SBle (P0 u52) (P0 u52)∧SBle P1 P1∧True)∧(insideB (itemAt P8 (0+(u23.fst:Int).toNat)) false=false→∀(u18:Int),getPB s=false∧∃(u17:Int),SBle (SB.cells [SV.int .i64 false u18,SV.iface 27 (SV.int .i64 true 2)] 2 215) (SB.cells [SV.int .i64 false u17,SV.iface 27 (SV.int .i64 true 2)] 2 215)∧sameVal P4 P4))∧(decide ((u23.fst:Int)<(↑(itemsN P8):Int))=false→(((True∧True∧True∧True∧(true=true∧0+u23.fst≤u23.fst)∧True)∧True)∧True)∧({k:=numI (itOf s 0),root:=cutIn (itOf s 1),key:=cutIn (itOf s 2),to:=cutIn (itOf s 3),n:=u23.fst,f:=fun(u16:Nat)=>cutIn (itemAt (cutIn (itOf s 4)) u16):Pp}.ok=true →(decide (65536<(↑{k:=numI (itOf s 0),root:=cutIn (itOf s 1),key:=cutIn (itOf s 2),to:=cutIn (itOf s 3),n:=u23.fst,f:=fun(u15:Nat)=>cutIn (itemAt (cutIn (itOf s 4)) u15):Pp}.put.length:Int))=true→getPB s=false∧∃(u14:Int),SBle P9 (SB.cells [SV.int .i64 false u14,SV.iface 27 (SV.int .i64 true 2)] 2 215)∧sameVal P4 P4)∧(decide (65536<(↑{k:=numI (itOf s 0),root:=cutIn (itOf s 1),key:=cutIn (itOf s 2),to:=cutIn (itOf s 3),n:=u23.fst,f:=fun(u13:Nat)=>cutIn (itemAt (cutIn (itOf s 4)) u13):Pp}.put.length:Int))=false→((!decide ({k:=numI (itOf s 0),root:=cutIn (itOf s 1),key:=cutIn (itOf s 2),to:=cutIn (itOf s 3),n:=u23.fst,f:=fun(u12:Nat)=>cutIn (itemAt (cutIn (itOf s 4)) u12):Pp}.put=s))=true→getPB s=false∧∃(u11:Int),SBle P9 (SB.cells [SV.int .i64 false u11,SV.iface 27 (SV.int .i64 true 2)] 2 215)∧sameVal P4 P4)∧((!decide ({k:=numI (itOf s 0),root:=cutIn (itOf s 1),key:=cutIn (itOf s 2),to:=cutIn (itOf s 3),n:=u23.fst,f:=fun(u10:Nat)=>cutIn (itemAt (cutIn (itOf s 4)) u10):Pp}.put=s))=false→getPB s=true ∧∃(u9:Nat),itemsN (cutIn (itOf s 4))≤u9∧SBle (SB.rows true u23.fst [Col.str fun(u8:Nat)=>cutIn (itemAt (cutIn (itOf s 4)) u8)] false u23.snd 9) (SB.rows true (itemsN (cutIn (itOf s 4))) [Col.str fun(u7:Nat)=>cutIn (itemAt (cutIn (itOf s 4)) u7)] false u9 9)∧sameVal (SV.agg [SV.int .i64 false (numI (itOf s 0)),SV.str false (cutIn (itOf s 1)),SV.str false (cutIn (itOf s 2)),SV.str false (cutIn (itOf s 3)),SV.rslc ((0:Nat)+(1:Nat)+(1:Nat)+(1:Nat)+(1:Nat)) 1 true 0 u23.fst u23.snd]) ((paperD s).sv (SV.rslc ((0:Nat)+(1:Nat)+(1:Nat)+(1:Nat)+(1:Nat)) 1 true 0 (itemsN (cutIn (itOf s 4))) u9)))))∧({k:=numI (itOf s 0),root:=cutIn (itOf s 1),key:=cutIn (itOf s 2),to:=cutIn (itOf s 3),n:=u23.fst,f:=fun(u6:Nat)=>cutIn (itemAt (cutIn (itOf s 4)) u6):Pp}.ok=false→getPB s=false∧∃(u5:Int),SBle P9 (SB.cells [SV.int .i64 false u5,SV.iface 27 (SV.int .i64 true 2)] 2 215)∧sameVal P4 P4)))∧(pitemsB (itemAt (cutIn s) 4)=false→∀(u4:Int),getPB s=false ∧∃(u3:Int),SBle (SB.cells [SV.int .i64 false u4,SV.iface 27 (SV.int .i64 true 2)] 2 215) (SB.cells [SV.int .i64 false u3,SV.iface 27 (SV.int .i64 true 2)] 2 215)∧sameVal P2 P2)))∧(getB (itemAt (cutIn s) 0)=false→getPB s=false∧∃(u2:Int),SBle (SB.cells [SV.int .i64 true 0,SV.iface 27 (SV.int .i64 true 2)] 2 215) (SB.cells [SV.int .i64 false u2,SV.iface 27 (SV.int .i64 true 2)] 2 215)∧sameVal P5 P5)))∧(pitemsB s=false→∀(u1:Int),getPB s=false∧∃(u0:Int),SBle (SB.cells [SV.int .i64 false u1,SV.iface 27 (SV.int .i64 true 2)] 2 215) (SB.cells [SV.int .i64 false u0,SV.iface 27 (SV.int .i64 true 2)] 2 215)∧sameVal (SV.iface 213 (SV.ptr ((0:Nat)+(1:Nat)) true 0)) (SV.iface 213 (SV.ptr ((0:Nat)+(1:Nat)) true 0))))))) (SB.cells [SV.int .i64 true (-1:Int),SV.iface 27 (SV.int .i64 true 2)] 2 215))) (cutIn (itemAt (cutIn s) 4)))) (SB.cells [SV.int .i64 false (numI (itOf s 0)),SV.str false (cutIn (itOf s 1)),SV.str false (cutIn (itOf s 2)),SV.str false (cutIn (itOf s 3)),SV.nilslc] 5 24))) (SB.cells [SV.int .i64 false (num (cutIn (itemAt (cutIn s) 0))),SV.str false (cutIn (itemAt (cutIn s) 1)),SV.str false (cutIn (itemAt (cutIn s) 2)),SV.str false (cutIn (itemAt (cutIn s) 3)),SV.nilslc] 5 24))) (SV.iface 213 (SV.ptr ((0:Nat)+(1:Nat)+(1:Nat)) true 0)))) (SV.iface 213 (SV.ptr ((0:Nat)+(1:Nat)+(1:Nat)+(1:Nat)+(1:Nat)+(1:Nat)) true 0)))) (fun(u23:Nat×Nat)=>(SB.cells [SV.int .i64 false (numI (itOf s 0)),SV.str false (cutIn (itOf s 1)),SV.str false (cutIn (itOf s 2)),SV.str false (cutIn (itOf s 3)),SV.rslc ((0:Nat)+(1:Nat)+(1:Nat)+(1:Nat)+(1:Nat)) 1 true 0 u23.fst u23.snd] 5 24)))) (SV.iface 213 (SV.ptr ((0:Nat)+(1:Nat)+(1:Nat)+(1:Nat)) true 0)))) (SB.cells (SV.agg [SV.int .i64 true 0,SV.str true [],SV.str true [],SV.str true [],SV.nilslc]).cells 5 24))) (fun(u52:Nat)=>(SB.rows true (itemsN (cutIn s)) [Col.str (itemAt (cutIn s))] false u52 9))):=by kernel_rfl
end Go.Proofs.YtoalfimkkibpdaaGreatDoor
namespace Go.Proofs.YtoalfimkkibpdaaGreatDoor
open Go Sx
set_option maxRecDepth 20000
theorem rowT_whole {x:Pp} (h:x.Small): ∀ y∈ x.rows,Whole y:=fun y hy=>by
 obtain⟨i,hi,rfl⟩:=rowL_mem hy
 have:=h.row i hi
 exact textOf_whole (by omega)
theorem Pp.rows_cut {x:Pp} (h:x.Small):ListCut (listOf x.rows) x.rows:=listOf_cut (rowT_whole h) (by have:=Pp.rows_len h;omega)
theorem Pp.put_cut {x:Pp} (h:x.Small):ListCut x.put x.items:=by
 refine listOf_cut (fun y hy=> ?_) (by have:=Pp.items_len h;omega)
 have:=h.k
 have:=h.root
 have:=h.key
 have:=h.to
 simp only[Pp.items,List.mem_cons,List.not_mem_nil,or_false] at hy
 rcases hy with rfl | rfl | rfl | rfl | rfl
 ·exact numOf_whole (by omega) (by omega)
 ·exact textOf_whole (by omega)
 ·exact textOf_whole (by omega)
 ·exact textOf_whole (by omega)
 ·exact(Pp.rows_cut h).whole
theorem inside_text {b:List UInt8} (h:b.length≤1048576):insideB (textOf b) false=true:=by
 obtain⟨h1,h2,h3,_⟩:=textOf_get h
 simp[insideB,h1,h2,h3]
theorem ListCut.inside {t:List UInt8} {l:List (List UInt8)} (h:ListCut t l):insideB t true=true∧pitemsB t=true:=by
 have:insideB t true=true:=by simp[insideB,h.b,h.li,h.r]
 exact⟨this,by simp[pitemsB,this,h.ib]⟩
structure PaperRead (s:List UInt8):Prop where
 len:(s.length:Int)≤65536
 whole:pitemsB s=true
 n5:itemsN (cutIn s)=5
 g0:getB (itemAt (cutIn s) 0)=true
 k0:0≤num (cutIn (itemAt (cutIn s) 0))∧num (cutIn (itemAt (cutIn s) 0))≤1
 i1:insideB (itemAt (cutIn s) 1) false=true
 i2:insideB (itemAt (cutIn s) 2) false=true
 i3:insideB (itemAt (cutIn s) 3) false=true
 w4:pitemsB (itemAt (cutIn s) 4)=true
 n4:itemsN (cutIn (itemAt (cutIn s) 4))≤200
 r4: ∀ i,i<itemsN (cutIn (itemAt (cutIn s) 4))→insideB (itemAt (cutIn (itemAt (cutIn s) 4)) i) false=true
theorem paper_read {x:Pp} (h:x.fits=true):PaperRead x.put:=by
 unfold Pp.fits at h
 simp only[Bool.and_eq_true,Bool.not_eq_true',decide_eq_false_iff_not] at h
 have hs:=Pp.ok_small h.1
 have hc:=Pp.put_cut hs
 have hr:=Pp.rows_cut hs
 obtain⟨h1,h2,h3,h4,h5,h6⟩:=hs
 have e0:=hc.at' 0 _ rfl
 have e1:=hc.at' 1 _ rfl
 have e2:=hc.at' 2 _ rfl
 have e3:=hc.at' 3 _ rfl
 have e4:=hc.at' 4 _ rfl
 have hn:=numOf_get (n:=x.k) (by omega) (by omega)
 have hrow:x.rows.length=x.n:=rowL_len _ _ _
 refine⟨by omega,hc.inside.2,hc.n,?_,?_,?_,?_,?_,?_,?_,fun i hi=> ?_⟩
 ·rw[e0];exact hn.1
 ·rw[e0]
  have:num (cutIn (numOf x.k))=x.k:=hn.2.2.2.2
  rw[this];omega
 ·rw[e1];exact inside_text (by omega)
 ·rw[e2];exact inside_text (by omega)
 ·rw[e3];exact inside_text (by omega)
 ·rw[e4];exact hr.inside.2
 ·rw[e4,hr.n,hrow];exact h5
 ·rw[e4] at hi ⊢
  rw[hr.n,hrow] at hi
  obtain⟨y,hy⟩: ∃ y,x.rows[i]?=some y:=⟨_,List.getElem?_eq_getElem (by omega)⟩
  rw[hr.at' i y hy]
  obtain⟨_,h8⟩:=rowL_get (f:=rowT x.f) hy
  rw[← h8,Nat.zero_add]
  have:=h6 i hi
  show insideB (textOf (x.f i)) false=true
  exact inside_text (by omega)
theorem getPB_read {s:List UInt8} (h:getPB s=true):PaperRead s∧(paperD s).ok=true∧(paperD s).put=s:=by
 unfold getPB at h
 simp only[Bool.and_eq_true,decide_eq_true_eq] at h
 have:=paper_read h.1
 rw[h.2] at this
 have ho:=h.1
 unfold Pp.fits at ho
 simp only[Bool.and_eq_true] at ho
 exact⟨this,ho.1,h.2⟩
theorem getPB_iff {s:List UInt8}:getPB s=true↔(paperD s).ok=true∧¬ (65536:Int)<((paperD s).put.length:Int)∧(paperD s).put=s:=by
 unfold getPB Pp.fits
 simp[and_assoc]
end Go.Proofs.YtoalfimkkibpdaaGreatDoor
namespace Go.Proofs.YtoalfimkkibpdaaGreatDoor
open Go Sx
set_option maxRecDepth 20000
section
variable {s : List UInt8}
theorem wp_no_read (h:PaperRead s→False):getPB s=false:=Bool.eq_false_iff.2 fun hB=>h (getPB_read hB).1
theorem wp_no_len (h:(!decide ((↑s.length:Int)≤(65536:Int)))=true):getPB s=false:=wp_no_read fun F=>by
 have:=F.len;simp only[Bool.not_eq_true',decide_eq_false_iff_not] at h;exact h this
theorem wp_no_whole (h:pitemsB s=false):getPB s=false:=wp_no_read fun F=>by have:=F.whole;rw[h] at this;cases this
theorem wp_no_five (h:(!decide ((↑(itemsN (cutIn s)):Int)=(5:Int)))=true):getPB s=false:=wp_no_read fun F=>by
 have:=F.n5;simp only[Bool.not_eq_true',decide_eq_false_iff_not] at h;omega
theorem wp_no_g0 (h:getB (itemAt (cutIn s) 0)=false):getPB s=false:=wp_no_read fun F=>by have:=F.g0;rw[h] at this;cases this
theorem wp_no_k0 (h:(!decide (num (cutIn (itemAt (cutIn s) 0))≤(1:Int)))=true):getPB s=false:=wp_no_read fun F=>by
 have:=F.k0;simp only[Bool.not_eq_true',decide_eq_false_iff_not] at h;omega
theorem wp_no_i1 (h:insideB (itemAt (cutIn s) 1) false=false):getPB s=false:=wp_no_read fun F=>by have:=F.i1;rw[h] at this;cases this
theorem wp_no_i2 (h:insideB (itemAt (cutIn s) 2) false=false):getPB s=false:=wp_no_read fun F=>by have:=F.i2;rw[h] at this;cases this
theorem wp_no_i3 (h:insideB (itemAt (cutIn s) 3) false=false):getPB s=false:=wp_no_read fun F=>by have:=F.i3;rw[h] at this;cases this
theorem wp_no_w4 (h:pitemsB (itemAt (cutIn s) 4)=false):getPB s=false:=wp_no_read fun F=>by have:=F.w4;rw[h] at this;cases this
theorem wp_no_row {i:Nat} (h:insideB (itemAt (cutIn (itemAt (cutIn s) 4)) i) false=false)(hi:decide ((i:Int)<(itemsN (cutIn (itemAt (cutIn s) 4)):Int))=true):getPB s=false:=wp_no_read fun F=>by
 simp only[decide_eq_true_eq] at hi
 have:=F.r4 i (by omega);rw[h] at this;cases this
def wp_dOf (s:List UInt8)(n:Nat):Pp:={k:=numI (itOf s 0),root:=cutIn (itOf s 1),key:=cutIn (itOf s 2),to:=cutIn (itOf s 3),n:=n,f:=fun(i:Nat)=>cutIn (itemAt (cutIn (itOf s 4)) i)}
theorem wp_dOf_eq {x:Nat×Nat} (hg:Grow (itemsN (cutIn (itOf s 4))) x)(hi:decide ((x.1:Int)<(itemsN (cutIn (itemAt (cutIn s) 4)):Int))=false):x.1=itemsN (cutIn (itOf s 4)):=by
 simp only[decide_eq_false_iff_not] at hi
 have h1:x.1≤itemsN (cutIn (itemAt (cutIn s) 4)):=hg.le
 have h2:x.1=itemsN (cutIn (itemAt (cutIn s) 4)):=by omega
 exact h2
theorem wp_dOf_paper {n:Nat} (h:n=itemsN (cutIn (itOf s 4))):wp_dOf s n=paperD s:=by rw[h,wp_dOf,paperD]
theorem wp_no_ok {n:Nat} (e:n=itemsN (cutIn (itOf s 4)))(h:(wp_dOf s n).ok=false):getPB s=false:=by
 rw[wp_dOf_paper e] at h
 exact Bool.eq_false_iff.2 fun hB=>by rw[(getPB_iff.1 hB).1] at h;cases h
theorem wp_no_large {n:Nat} (e:n=itemsN (cutIn (itOf s 4)))(h:decide ((65536:Int)<((wp_dOf s n).put.length:Int))=true):getPB s=false:=by
 rw[wp_dOf_paper e] at h
 simp only[decide_eq_true_eq] at h
 exact Bool.eq_false_iff.2 fun hB=>(getPB_iff.1 hB).2.1 h
theorem wp_no_same {n:Nat} (e:n=itemsN (cutIn (itOf s 4)))(h:(!decide ((wp_dOf s n).put=s))=true):getPB s=false:=by
 rw[wp_dOf_paper e] at h
 simp only[Bool.not_eq_true',decide_eq_false_iff_not] at h
 exact Bool.eq_false_iff.2 fun hB=>h (getPB_iff.1 hB).2.2
theorem wp_yes_paper {n:Nat} (e:n=itemsN (cutIn (itOf s 4)))(h1:(wp_dOf s n).ok=true)(h2:decide ((65536:Int)<((wp_dOf s n).put.length:Int))=false)(h3:(!decide ((wp_dOf s n).put=s))=false):getPB s=true:=by
 rw[wp_dOf_paper e] at h1 h2 h3
 simp only[Bool.not_eq_false',decide_eq_true_eq] at h3
 simp only[decide_eq_false_iff_not] at h2
 exact getPB_iff.2 ⟨h1,h2,h3⟩
theorem wp_item_fits (h:(!decide ((↑s.length:Int)≤(65536:Int)))=false)(k:Nat):(itemAt (cutIn s) k).length≤65536:=by
 simp only[Bool.not_eq_false',decide_eq_true_eq] at h
 have h1:=itemAt_le (cutIn s) k
 have h2:=cutIn_le s
 omega
theorem wp_sub_fits (h:(!decide ((↑s.length:Int)≤(65536:Int)))=false)(k i:Nat):(itemAt (cutIn (itemAt (cutIn s) k)) i).length≤65536:=by
 have h1:=wp_item_fits h k
 have h2:=itemAt_le (cutIn (itemAt (cutIn s) k)) i
 have h3:=cutIn_le (itemAt (cutIn s) k)
 omega
theorem wp_n_fits (h:(!decide ((↑s.length:Int)≤(65536:Int)))=false)(hw:pitemsB (itemAt (cutIn s) 4)=true):itemsN (cutIn (itemAt (cutIn s) 4))≤65536:=by
 have h1:=wp_item_fits h 4
 have h3:=cutIn_le (itemAt (cutIn s) 4)
 unfold pitemsB at hw
 simp only[Bool.and_eq_true] at hw
 have:=itemsN_le hw.2
 omega
theorem wp_s_fits (h:(!decide ((↑s.length:Int)≤(65536:Int)))=false):s.length≤65536:=by
 simp only[Bool.not_eq_false',decide_eq_true_eq] at h;omega
theorem wp_five_of (h:(!decide ((↑(itemsN (cutIn s)):Int)=(5:Int)))=false):itemsN (cutIn s)=5:=by
 simp only[Bool.not_eq_false',decide_eq_true_eq] at h;omega
theorem wp_k_fits (h:(!decide (num (cutIn (itemAt (cutIn s) 0))≤(1:Int)))=false):0≤num (cutIn (itemAt (cutIn s) 0))∧num (cutIn (itemAt (cutIn s) 0))≤1:=by
 simp only[Bool.not_eq_false',decide_eq_true_eq] at h
 exact⟨num_nn _,h⟩
theorem wp_join_sble:SBle (SB.cells [SV.int IntKind.i64 false (num (cutIn (itemAt (cutIn s) (0:Nat)))),SV.str false (cutIn (itemAt (cutIn s) (1:Nat))),SV.str false (cutIn (itemAt (cutIn s) (2:Nat))),SV.str false (cutIn (itemAt (cutIn s) (3:Nat))),SV.nilslc] (5:Nat) 24)
  (SB.cells [SV.int IntKind.i64 false (numI (itOf s (0:Nat))),SV.str false (cutIn (itOf s (1:Nat))),SV.str false (cutIn (itOf s (2:Nat))),SV.str false (cutIn (itOf s (3:Nat))),SV.nilslc] (5:Nat) 24):=SBle.refl _
end
theorem wp_row_lt {s:List UInt8} {x:Nat×Nat} (h:decide ((x.1:Int)<(itemsN (cutIn (itemAt (cutIn s) 4)):Int))=true):x.1<itemsN (cutIn (itemAt (cutIn s) 4)):=by
 simp only[decide_eq_true_eq] at h;omega
theorem wp_row_step {s:List UInt8} {x:Nat×Nat} {c:Nat} (_hg:Grow (itemsN (cutIn (itOf s 4))) x)(h:decide ((x.1:Int)<(itemsN (cutIn (itemAt (cutIn s) 4)):Int))=true)(hc:x.1+1≤c) :
  Grow (itemsN (cutIn (itOf s 4))) (x.1+1,c)∧itemsN (cutIn (itOf s 4)) - (x.1+1)<itemsN (cutIn (itOf s 4)) - x.1:=by
 have h1:x.1<itemsN (cutIn (itOf s 4)):=wp_row_lt h
 exact⟨⟨h1,hc⟩,by omega⟩
theorem wp_row_sble {s:List UInt8} {k c:Nat}:SBle (SB.rows true (k+1) [Col.str fun j=>if j<k then cutIn (itemAt (cutIn (itOf s 4)) j)else selS [cutIn (itemAt (cutIn (itemAt (cutIn s) 4)) k)] (j - k)] false (c*1) 9)
  (SB.rows true (k+1) [Col.str fun i=>cutIn (itemAt (cutIn (itOf s 4)) i)] false c 9):=by
 refine Sx.SBle.strRows rfl (by omega) fun i hi=> ?_
 by_cases h:i<k
 ·rw[if_pos h]
 ·have e:i=k:=by omega
  subst e
  rw[if_neg h,Nat.sub_self]
  rfl
theorem wp_broken_lit {l:Bool} {k k':Nat} {n:Int}: ∃(x:Int),SBle (SB.cells [SV.int IntKind.i64 l n,SV.iface 27 (SV.int IntKind.i64 true (2:Int))] (2:Nat) 215) (SB.cells [SV.int IntKind.i64 false x,SV.iface 27 (SV.int IntKind.i64 true (2:Int))] (2:Nat) 215) ∧
  sameVal (SV.iface 213 (SV.ptr k true k')) (SV.iface 213 (SV.ptr k true k')):=⟨n,SBle.cells (fun _E=>rfl) rfl,fun _=>rfl⟩
end Go.Proofs.YtoalfimkkibpdaaGreatDoor
