/-
  Functions that defer one closure: it is called behind the body, and behind a panic, which it may recover from.
-/
import Derived.Test.YtpaaiebohjjieaaGreatDoorMh
import Derived.RecoverIn
import Derived.Test.YtpaaiebohjjieaaGreatDoorMi
import Derived.Test.YtpaaiebohjjieaaGreatDoorMt
import Derived.Test.YtpaaiebohjjieaaGreatDoorMj
import Derived.Test.YtpaaiebohjjieaaGreatDoorMk
import Derived.Test.YtpaaiebohjjieaaGreatDoorMn
import Derived.Test.YtpaaiebohjjieaaGreatDoorMo
import Derived.Test.YtpaaiebohjjieaaGreatDoorMp
import Derived.Test.YtpaaiebohjjieaaGreatDoorMr
import Derived.Test.YtpaaiebohjjieaaGreatDoorMs
namespace Go.Proofs.YtpaaiebohjjieaaGreatDoor.Sx
open Go
noncomputable section
def jT (E:Nat->Nat):SV->Deferred
 | .func fn a b=>{target:=.fn fn (SV.vals E b).toArray,args:=(SV.vals E a).toArray}
 | _=>{target:=.collected 0,args:=#[]}
theorem Lr {E E':Nat->Nat}{nx:Nat}(h: ∀ k,k<nx->E' k=E k){d:SV}(hw:d.wf nx=true):jT E' d=jT E d:=by
 cases d<;>try rfl
 simp only[SV.wf,Bool.and_eq_true] at hw;simp only[jT,SV.iC h _ hw.1,SV.iC h _ hw.2]
def Pm (σ:Operand->Option SV):Op->Option SV
 | .defer c=>(match c.callee,c.args.toList with
   | .value f,[]=>(match σ f with
     | some (.func (.func g) a b)=>some (.func (.func g) a b)
     | _=>none)
   | _,_=>none)
 | _=>none
def akq:Op->Bool
 | .defer _=>true
 | _=>false
theorem RJ {P:Program}{σ:Operand->Option SV}{E:Nat->Nat}{ρ:Operand->Value}(hr:Reads E σ ρ){o:Oper}{d:SV}(h:Pm σ o.op=some d)(w:World) :
  (execOp ρ o).run P w=.ok (.defer (jT E d)) w:=by
 obtain⟨dst,op,type,pos,after,guard⟩:=o;unfold Pm at h;simp only at h;split at h
 ·rename_i c;split at h
  ·rename_i f hc hargs;split at h
   ·rename_i g a b hf;injection h with h;subst h;have hf:=hr f _ hf;have ha:c.args=#[]:=by cases c with | mk callee args at'=>simp only at hargs;exact Array.ext' (by simpa using hargs)
    simp only[execOp,resolve,hc,hf,SV.val,Deferred.ofValue,ha,Sem.run_bind,Sem.run_pure,Result.andThen_ok,jT];simp
   ·cases h
  ·cases h
 ·cases h
def aQ.pre (Γ:aQ):aQ:={Γ with tail:=[],rf:=false}
def aQ.dfr (Γ:aQ)(d:Deferred):aQ:={Γ with tail:=[d],rf:=true}
theorem aQ.P6 (Γ:aQ):Γ.le Γ.pre:=⟨rfl,rfl,Nat.le_refl _,fun _ _=>rfl,fun _ h=>h⟩
theorem aQ.aoe (Γ:aQ)(d:Deferred):Γ.le (Γ.dfr d):=⟨rfl,rfl,Nat.le_refl _,fun _ _=>rfl,fun _ h=>h⟩
theorem aG.amV {Γ:aQ}{E m nx w}(h:aG Γ E m nx w):aG Γ.pre E m nx w:=⟨h.jK,h.j9,h.lt,h.lE,h.ext,h.cx,h.kp⟩
theorem aG.aiO {Γ:aQ}{E m nx w}(h:aG Γ.pre E m nx w):aG Γ E m nx w:=⟨h.jK,h.j9,h.lt,h.lE,h.ext,h.cx,h.kp⟩
theorem aG.aqq {Γ:aQ}{d:Deferred}{E m nx w}(h:aG Γ E m nx w):aG (Γ.dfr d) E m nx w:=⟨h.jK,h.j9,h.lt,h.lE,h.ext,h.cx,h.kp⟩
theorem aG.aqr {Γ:aQ}{d:Deferred}{E m nx w}(h:aG (Γ.dfr d) E m nx w):aG Γ E m nx w:=⟨h.jK,h.j9,h.lt,h.lE,h.ext,h.cx,h.kp⟩
def I3 (ops:Array Oper):Bool:=match ops[ops.size - 1]? with
 | some o=>akq o.op&&o.guard.isNone&&o.dst.isNone
 | none=>false
def sxD (P:Program)(C:de)(env:Env)(aR:qy)(n:Nat):Code->Option SV->(Option SV->XP)->(Option SV->XK)->St->VC
 | c,some d,X,K,st=>sx P C env aR n c false (X (some d)) (K (some d)) st
 | .seq a b,none,X,K,st=>sxD P C env aR n a none X (fun d e st'=>match e with
    | .normal=>sxD P C env aR n b d X K st'
    | e=>K d e st') st
 | .region id ops drawn,none,X,K,st=>(match drawn,I3 ops with
    | false,true=>mA P (C.oZ env Al) ops (List.range (ops.size - 1)) (fun st'=>match ops[ops.size - 1]? with
       | some o=>(match Pm (ev st'.tmps) o.op with
         | some d=>(match d.wf st'.nx with
           | true=>K (some d) .normal st'
           | false=>.fail "a key out of bounds")
         | none=>.fail "what is deferred is not known")
       | none=>.fail "no operation") st
    | _,_=>sx P C env aR n (.region id ops drawn) true (X none) (K none) st)
 | c,none,X,K,st=>sx P C env aR n c true (X none) (K none) st
def OL (K:Option SV->XK)(X:Option SV->XP)(Γ:aQ)(E:Nat->Nat)(nx:Nat)(e:Exit)(a:Act)(w:World):Prop :=jR (K none) (X none) Γ.pre E nx e a w∨∃ d E1 nx1,d.wf nx1=true/\nx<=nx1/\(∀ k,k<nx->E1 k=E k)/\jR (K (some d)) (X (some d)) (Γ.dfr (jT E1 d)) E1 nx1 e a w
theorem KZ {P:Program}{Γ:aQ}{ro:Option Nat}{KP:PK}{call:sr->PT}(hcall: ∀ c,qO P Γ KP c (call c)){ops:Array Oper}{Q:Exit->Act->World->Prop}{K:St->VC}{l':List Nat}{E0:Nat->Nat}{wB:Nat}{T0:List (Option SV)}(hT0:dO wB T0=true)
  (hP: ∀ e a w,cK E0 (unsure ops T0) a->qz KP Γ E0 wB e a w->Q e a w) :
  ∀(l:List Nat) {st:St} {E:Nat->Nat} {a:Act} {w:World},(mA P call ops l K st).holds->Sat Γ E st a w->cK E0 (unsure ops T0) a->(∀ k,k<wB->E k=E0 k)->wB<=st.nx ->
   (∀ a w,j8 K Γ E st.nx a w->wpOpsIn (Fr ro) 0 P ops Q l' a w)->wpOpsIn (Fr ro) 0 P ops Q (l++l') a w
 | [],st,E,a,w,h,hs,_,_,_,hQ=>hQ _ _ ⟨E,st,fun _ _=>rfl,Nat.le_refl _,hs,h⟩
 | j::r,st,E,a,w,h,hs,hF,hE0,hn0,hQ=>by
   rw[List.cons_append,wpOpsIn_cons];unfold wpOpIn;simp only[mA] at h;cases ho:ops[j]? with
   | none=>rw[ho] at h;exact h.elim
   | some o =>
     rw[ho] at h;simp only;have hmem:o∈ ops.toList:=by rw[← Array.getElem?_toList] at ho;exact List.mem_of_getElem? ho
     have hstep:=vY (ro:=ro) hcall h hs Q (fun e w hb=>hP e a w hF (hb.weaken hE0 hn0));have go: ∀ a' w',((∃ r,a'=a.put o.dst r)/\j8 (mA P call ops r K) Γ E st.nx a' w')->wpOpsIn (Fr ro) 0 P ops Q (r++l') a' w':=by rintro a' w' ⟨⟨rr,ha⟩,E',st',g1,g2,g3,g4⟩;refine KZ hcall hT0 hP r g4 g3 (ha▸ cK.BS hF hmem rr) (fun k hk=>(g1 k (Nat.lt_of_lt_of_le hk hn0)).trans (hE0 k hk)) (Nat.le_trans hn0 g2) fun a'' w'' hb=>hQ a'' w'' ?_;obtain⟨E'',st'',k1,k2,k3,k4⟩:=hb;exact⟨E'',st'',fun k hk=>(k1 k (Nat.lt_of_lt_of_le hk g2)).trans (g1 k hk),Nat.le_trans g2 k2,k3,k4⟩
     split
     ·rename_i hw;rw[if_pos hw] at hstep;exact Oper.wpIn_mono go hstep
     ·rename_i hw;rw[if_neg hw] at hstep;exact⟨w8 ro,go _ _ ⟨⟨_,rfl⟩,hstep⟩⟩
section
variable {P : Program} {C : de} {env : Env} {aR : qy} {n : Nat}
theorem DF (c:Code)(d:SV)(X:Option SV->XP)(K:Option SV->XK)(st:St):sxD P C env aR n c (some d) X K st=sx P C env aR n c false (X (some d)) (K (some d)) st:=by cases c<;>rfl
theorem Xu {n:Nat}(h:0<n):List.range n=List.range (n - 1)++[n - 1]:=by
 obtain⟨k,rfl⟩: ∃ k,n=k+1:=⟨n - 1,by omega⟩
 simp[List.range_succ]
theorem acR (hmix:P.follows .mixedOrders=true)(hC:cv P C)(hem: ∀ p∈ env,aJ p.2){Γ:aQ}(hek: ∀ p∈ env,∀ KP,qO P Γ KP (.yield p.1) p.2): ∀(c:Code) (X:Option SV->XP) (K:Option SV->XK) (st:St) (E:Nat->Nat) (a:Act) (w:World),
  (sxD P C env aR n c none X K st).holds->Sat Γ.pre E st a w->c.wpIn (Fr none) 0 P (OL K X Γ E st.nx) a w:=by
 have plain: ∀(c:Code) (X:Option SV->XP) (K:Option SV->XK) (st:St) (E:Nat->Nat) (a:Act) (w:World),
   (sx P C env aR n c true (X none) (K none) st).holds->Sat Γ.pre E st a w->c.wpIn (Fr none) 0 P (OL K X Γ E st.nx) a w:=fun c X K st E a w h hs =>
  wpIn_mono (DG hmix hC hem c true none (fun _=>rfl) Γ.pre (fun h=>by cases h) (fun p hp KP=>(hek p hp KP).mono Γ.P6) _ _ st E a w h hs) fun e a w h=>.inl h
 intro c;induction c with
 | seq x y ihx ihy =>
   intro X K st E a w h hs;simp only[sxD] at h;refine wpIn_seq (wpIn_mono (ihx _ _ st E a w h hs) ?_);rintro e a1 w1 ((⟨ex,rfl,E1,st1,g1,g2,g3,g4⟩ | hp) | ⟨d,E1,nx1,hd,hn1,hE1,(⟨ex,rfl,E2,st1,g1,g2,g3,g4⟩ | hp)⟩)
   ·cases ex with
    | normal =>
      refine wpIn_mono (ihy _ _ st1 E1 a1 w1 g4 g3) fun e a2 w2 hb=> ?_;rcases hb with hb | ⟨d,E2,nx2,hd,hn,hE,hb⟩
      ·exact .inl (hb.weaken g1 g2)
      ·exact .inr ⟨d,E2,nx2,hd,Nat.le_trans g2 hn,fun k hk=>(hE k (Nat.lt_of_lt_of_le hk g2)).trans (g1 k hk),hb⟩
    | exit id=>exact .inl (.inl ⟨.exit id,rfl,E1,st1,g1,g2,g3,g4⟩)
    | ret=>exact .inl (.inl ⟨.ret,rfl,E1,st1,g1,g2,g3,g4⟩)
   ·have hp':=hp;obtain⟨v,E1,st1,rfl,_⟩:=hp';exact .inl (.inr hp)
   ·cases ex with
    | normal =>simp only at g4;rw[DF] at g4;refine wpIn_mono (DG hmix hC hem y false none (fun _=>rfl) _ (fun _=>rfl) (fun p hp KP=>(hek p hp KP).mono (Γ.aoe _)) _ _ st1 E2 a1 w1 g4 g3) fun e a2 w2 hb=> ?_;exact .inr ⟨d,E1,nx1,hd,hn1,hE1,hb.weaken g1 g2⟩
    | exit id=>exact .inr ⟨d,E1,nx1,hd,hn1,hE1,.inl ⟨.exit id,rfl,E2,st1,g1,g2,g3,g4⟩⟩
    | ret=>exact .inr ⟨d,E1,nx1,hd,hn1,hE1,.inl ⟨.ret,rfl,E2,st1,g1,g2,g3,g4⟩⟩
   ·have hp':=hp;obtain⟨v,E1',st1,rfl,_⟩:=hp';exact .inr ⟨d,E1,nx1,hd,hn1,hE1,.inr hp⟩
 | region id ops drawn =>
   intro X K st E a w h hs;simp only[sxD] at h;split at h
   ·rename_i hl;unfold I3 at hl;cases hlast:ops[ops.size - 1]? with
    | none=>rw[hlast] at hl;cases hl
    | some o =>
      rw[hlast] at hl;simp only[Bool.and_eq_true,Option.isNone_iff_eq_none] at hl;obtain⟨⟨_,hguard⟩,hdst⟩:=hl;have hsz:0<ops.size:=by have:=(Array.getElem?_eq_some_iff.1 hlast).1;omega
      refine wpIn_region ?_;rw[Xu hsz];refine KZ (KP:=Al) (hC.ok Γ.pre env hem (fun p hp KP=>(hek p hp KP).mono Γ.P6) Al) hs.wt (fun e a w _ hb=> ?_) _ h hs hs.tm.unsure (fun _ _=>rfl) (Nat.le_refl _) fun a1 w1 hb=> ?_
      ·obtain⟨ch,_,_,_,_,_,_,_,_,_,_,_,hno⟩:=hb;exact hno.elim
      ·obtain⟨E1,st1,g1,g2,g3,g4⟩:=hb;rw[hlast] at g4;simp only at g4;split at g4
       ·rename_i d hd;split at g4
        ·rename_i hdw;have hrun:=RJ (P:=P) (o:=o) g3.tm.reads hd w1;rw[wpOpsIn_cons];unfold wpOpIn;rw[hlast];simp only;have hw:Region.wanted o (yielded ops a1.tmps)=true:=by unfold Region.wanted;rw[hguard]
         rw[if_pos hw];refine⟨w8 none,?_⟩;have hs2:o.semAt (Fr none).round a1.eval=execOp a1.eval o:=rfl;rw[hs2,hrun,Oper.uponIn_defer,hdst];show OL _ _ _ _ _ _ _ _;refine .inr ⟨d,E1,st1.nx,hdw,g2,g1,.inl ⟨.normal,rfl,E1,st1,fun _ _=>rfl,Nat.le_refl _,⟨⟨g3.tm.size,g3.tm.val⟩,g3.wt,?_,g3.mm.aiO.aqq⟩,g4⟩⟩;obtain⟨Ds,d1,d2,d3,d4⟩:=g3.df;have hnil:=d4 rfl;subst hnil;refine⟨[],?_,List.nodup_nil,(fun D hD=>by cases hD),fun _=>rfl⟩;simp only[Act.put,d1,List.map_nil,List.nil_append,aQ.pre,aQ.dfr]
        ·exact g4.elim
       ·exact g4.elim
   ·exact plain _ _ _ st E a w h hs
 | skip=>intro X K st E a w h hs;exact plain _ _ _ st E a w h hs
 | label l=>intro X K st E a w h hs;exact plain _ _ _ st E a w h hs
 | exit id=>intro X K st E a w h hs;exact plain _ _ _ st E a w h hs
 | ret=>intro X K st E a w h hs;exact plain _ _ _ st E a w h hs
 | cond c x y=>intro X K st E a w h hs;exact plain _ _ _ st E a w h hs
 | block id b=>intro X K st E a w h hs;exact plain _ _ _ st E a w h hs
 | loop b=>intro X K st E a w h hs;exact plain _ _ _ st E a w h hs
 | rangeFunc g ps a b=>intro X K st E a w h hs;exact plain _ _ _ st E a w h hs
 | scope b=>intro X K st E a w h hs;exact plain _ _ _ st E a w h hs
 | goto l=>intro X K st E a w h hs;exact plain _ _ _ st E a w h hs
 | refuse r=>intro X K st E a w h hs;exact plain _ _ _ st E a w h hs
def Ej:Op->Bool
 | .call c=>(match c.callee,c.args.toList with
   | .builtin .recover,[]=>true
   | _,_=>false)
 | _=>false
def rL (P:Program)(ops:Array Oper):List Nat->(St->VC)->St->VC
 | [],K,st=>K st
 | j::r,K,st=>(match ops[j]? with
   | some o=>(match ff P o.op,o.guard,sJ ops j with
     | true,none,false=>qop P (fun k=>st.m.get k) (ev st.tmps) o.op (fun v=>Xh false o.dst v st.tmps st.m st.nx (rL P ops r K))
     | _,_,_=>.fail "an operation in a closure's first region")
   | none=>.fail "no operation")
def recVal:Option SV->SV
 | some v=>v
 | none=>.aZ
def UB (ops:Array Oper):Option (Option Nat):=match ops[0]? with
 | some o=>(match Ej o.op,o.guard with
   | true,none=>some o.dst
   | _,_=>none)
 | none=>none
def oR (P:Program)(fn:Func)(K:Mem->Nat->VC):XK:=fun e st=>match e with
 | .exit _=>.fail "a jump out of a function"
 | _=>(match fc P st fn.results.toList with
   | some _=>K st.m st.nx
   | none=>.fail "a result that is not known")
def Fb (P:Program)(C:de)(env:Env)(aR:qy)(n:Nat)(fn:Func)(mode:Option SV)(K:Mem->Nat->VC)(st:St):Code->VC
 | .seq (.region id ops false) rest=>(match UB ops with
   | some dst=>rL P ops (List.range' 1 (ops.size - 1)) (fun st=>sx P C env aR n rest true FV (oR P fn K) st) ⟨bV st.tmps dst (some (recVal mode)),st.m,st.nx⟩
   | none=>(match mode with
     | none=>sx P C env aR n (.seq (.region id ops false) rest) true FV (oR P fn K) st
     | some _=>.fail "a panic that is not recovered from"))
 | c=>(match mode with
   | none=>sx P C env aR n c true FV (oR P fn K) st
   | some _=>.fail "a panic that is not recovered from")
def oX (P:Program)(cfg:gF)(C:de)(env:Env)(n:Nat)(d:SV)(mode:Option SV)(m:Mem)(nx:Nat)(K:Mem->Nat->VC):VC:=match d with
 | .func (.func g) first captured=>(match cfg.fns g with
   | some fn=>(match fn.body with
     | some body=>Fb P C env (cfg.aR g) n fn mode K ⟨(first++captured).map some++List.replicate (fn.ntmps - (first++captured).length) none,m,nx⟩ body
     | none=>.fail "a closure without a body")
   | none=>.fail "a closure that is not known")
 | _=>.fail "a closure that is not known"
def Jr (E:Nat->Nat):Option SV->FrameMode
 | none=>.returning
 | some v=>.panicking [{v:=v.val E,recovered:=false}]
def HM (K:Mem->Nat->VC)(Γ:aQ)(E:Nat->Nat)(nx:Nat)(w:World):Prop:=∃ E' m' nx',(∀ k,k<nx->E' k=E k)/\nx<=nx'/\aG Γ E' m' nx' w/\(K m' nx').holds
theorem FI {fn:Func}{K:Mem->Nat->VC}{Γ:aQ}{E:Nat->Nat}{nx:Nat}{e:Exit}{a:Act}{w:World}{c₀:Frame}{cs:List Frame}{u:FrameMode}(hu:settle u=.returning)(_hc: ∃ c1:Frame,c1={c₀ with mode:=u})
  (h:jR (oR P fn K) FV Γ.pre E nx e a w) :
  bodyPostS P fn c₀ cs (fun e u' w'=>∃ v,e=.returned v/\settle u'=.returning/\HM K Γ E nx w') e a ({c₀ with mode:=u}::cs) w:=by
 rcases h with ⟨ex,rfl,E1,st1,g1,g2,g3,g4⟩ | hp
 rotate_left
 ·exact hp.none.elim
 have hnil:a.defers=[]:=by obtain⟨Ds,d1,d2,d3,d4⟩:=g3.df;have:=d4 rfl;subst this;exact d1
 have main:(match fc P st1 fn.results.toList with
   | some _=>K st1.m st1.nx
   | none=>VC.fail "a result that is not known").holds->a.defers=[]/\∃ u',({c₀ with mode:=u}::cs)={c₀ with mode:=u'}::cs/\∃ v,(results fn a.tmps).run P w=.ok v w/\∃ v',Ending.returned v=.returned v'/\settle u'=.returning/\HM K Γ E nx w:=by
  intro h;cases hr:fc P st1 fn.results.toList with
  | none=>rw[hr] at h;exact h.elim
  | some vs =>rw[hr] at h;exact⟨hnil,u,rfl,_,yA g3.tm g3.mm hr,_,rfl,hu,E1,st1.m,st1.nx,g1,g2,g3.mm.aiO,h⟩
 cases ex with
 | exit id=>exact g4.elim
 | normal=>exact main g4
 | ret=>exact main g4
theorem UC {o:Oper}(h:Ej o.op=true)(ρ:Operand->Value)(w:World):(execOp ρ o).run P w=.ok .recover w:=by
 obtain⟨dst,op,type,pos,after,guard⟩:=o;unfold Ej at h;simp only at h;split at h
 ·rename_i c;split at h
  ·rename_i hc ha;have ha:c.args=#[]:=by cases c with | mk callee args at'=>simp only at ha;exact Array.ext' (by simpa using ha)
   simp only[execOp,resolve,hc,Sem.run_bind,Sem.run_pure,Result.andThen_ok,invoke];rfl
  ·cases h
 ·cases h
theorem xZ {Γ:aQ}{ops:Array Oper}{K:St->VC}{cs:List Frame}{Q:Exit->Act->List Frame->World->Prop}: ∀(l:List Nat) (st:St) (E:Nat->Nat) (a:Act) (w:World),(rL P ops l K st).holds->Sat Γ E st a w ->
  (∀ E' st' a',(∀ k,k<st.nx->E' k=E k)->st.nx<=st'.nx->Sat Γ E' st' a' w->(K st').holds->Q .normal a' cs w)->wpOpsSIn Fence.wide 0 P ops Q l a cs w
 | [],st,E,a,w,h,hs,hQ=>hQ E st a (fun _ _=>rfl) (Nat.le_refl _) hs h
 | j::r,st,E,a,w,h,hs,hQ=>by
   simp only[rL] at h;simp only[wpOpsSIn];cases ho:ops[j]? with
   | none=>rw[ho] at h;exact h.elim
   | some o =>
     rw[ho] at h;simp only at h ⊢;split at h
     ·rename_i hq hg _;obtain⟨obl,sv,h1,h2⟩:=QG (P:=P) (look:=fun k=>st.m.get k) (σ:=ev st.tmps) o;obtain⟨hobl,hk⟩:=(h1 _).1 h;obtain⟨rv,hrun,hv⟩:=h2 E w a.eval ⟨hs.mm.qD,hs.mm.G2,hs.mm.jK⟩ hs.tm.reads hobl;have hw:Region.wanted o (yielded ops a.tmps)=true:=by unfold Region.wanted;rw[hg]
      refine⟨fun _ _=>trivial,?_⟩;rw[if_pos hw,hrun];simp only;obtain⟨E1,st1,g1,g2,g3,g4⟩:=BC hk hs.tm hs.wt hs.df hs.mm hv;exact xZ r st1 E1 _ w g4 g3 fun E' st' a' k1 k2 k3 k4=>hQ E' st' a' (fun k hk=>(k1 k (Nat.lt_of_lt_of_le hk g2)).trans (g1 k hk)) (Nat.le_trans g2 k2) k3 k4
     ·exact h.elim
theorem UA {n:Nat}(h:0<n):List.range n=0::List.range' 1 (n - 1):=by
 obtain⟨k,rfl⟩: ∃ k,n=k+1:=⟨n - 1,by omega⟩
 rw[List.range_eq_range',List.range'_succ];simp
theorem Q0 (hmix:P.follows .mixedOrders=true)(hC:cv P C)(hem: ∀ p∈ env,aJ p.2){Γ:aQ}(hek: ∀ p∈ env,∀ KP,qO P Γ KP (.yield p.1) p.2){fn:Func}{mode:Option SV}{K:Mem->Nat->VC}{st:St}{body:Code}{E:Nat->Nat}{a:Act}{w:World}
  (h:(Fb P C env aR n fn mode K st body).holds) (hs:Sat Γ.pre E st a w) (hmw: ∀ v,mode=some v->v.wf st.nx=true) {c₀:Frame} (cs:List Frame) (hu:c₀.mode=Jr E mode) :
  body.wpSIn Fence.wide 0 P (bodyPostS P fn c₀ cs (fun e u' w'=>∃ v,e=.returned v/\settle u'=.returning/\HM K Γ E st.nx w')) a (c₀::cs) w:=by
 have plain: ∀(c:Code),(sx P C env aR n c true FV (oR P fn K) st).holds->c₀.mode=.returning->c.wpSIn Fence.wide 0 P (bodyPostS P fn c₀ cs (fun e u' w'=>∃ v,e=.returned v/\settle u'=.returning/\HM K Γ E st.nx w')) a (c₀::cs) w:=by
  intro c h hr;refine wpSIn_of_wpIn rfl (wpIn_mono (DG hmix hC hem c true none (fun _=>rfl) Γ.pre (fun h=>by cases h) (fun p hp KP=>(hek p hp KP).mono Γ.P6) _ _ st E a w h hs) fun e a w hb=> ?_);have:=FI (c₀:=c₀) (cs:=cs) (u:=.returning) rfl ⟨_,rfl⟩ hb;have he:({c₀ with mode:=.returning}:Frame)=c₀:=by rw[← hr]
  rw[he] at this;exact this
 unfold Fb at h;split at h
 ·rename_i id ops rest;split at h
  ·rename_i dst hf;unfold UB at hf;cases h0:ops[0]? with
   | none=>rw[h0] at hf;cases hf
   | some o =>
     rw[h0] at hf;simp only at hf;split at hf
     ·rename_i hrec hg;injection hf with hf;subst hf;have hsz:0<ops.size:=(Array.getElem?_eq_some_iff.1 h0).1;refine wpSIn_seq (wpSIn_region ?_);rw[UA hsz];simp only[wpOpsSIn,h0];have hw:Region.wanted o (yielded ops a.tmps)=true:=by unfold Region.wanted;rw[hg]
      refine⟨fun _ _=>trivial,?_⟩;rw[if_pos hw,UC hrec];simp only
      have key: ∀(rv:Value) (cs1:List Frame) (u:FrameMode),rv=(recVal mode).val E->cs1={c₀ with mode:=u}::cs->settle u=.returning ->
        wpOpsSIn Fence.wide 0 P ops (Exit.thenS (rest.wpSIn Fence.wide 0 P (bodyPostS P fn c₀ cs (fun e u' w'=>∃ v,e=.returned v/\settle u'=.returning/\HM K Γ E st.nx w'))) (bodyPostS P fn c₀ cs (fun e u' w'=>∃ v,e=.returned v/\settle u'=.returning/\HM K Γ E st.nx w')))
         (List.range' 1 (ops.size - 1)) (a.put o.dst rv) cs1 w:=by
       intro rv cs1 u hrv hcs1 hst;subst hcs1
       have hs1:Sat Γ.pre E ⟨bV st.tmps o.dst (some (recVal mode)),st.m,st.nx⟩ (a.put o.dst rv) w :=
        ⟨hs.tm.put (fun v hv=>by injection hv with hv;subst hv;exact hrv),nZ hs.wt (fun v hv=>by
         injection hv with hv;subst hv;cases mode with
         | none=>rfl
         | some v=>exact hmw v rfl),by cases o.dst<;>exact hs.df,hs.mm⟩
       refine xZ _ _ E _ w h hs1 fun E' st' a' k1 k2 k3 k4=> ?_;show rest.wpSIn _ _ _ _ _ _ _;refine wpSIn_of_wpIn rfl (wpIn_mono (DG hmix hC hem rest true none (fun _=>rfl) Γ.pre (fun h=>by cases h) (fun p hp KP=>(hek p hp KP).mono Γ.P6) _ _ st' E' a' w k4 k3) fun e a w hb=> ?_);exact FI (c₀:=c₀) (cs:=cs) (u:=u) hst ⟨_,rfl⟩ (hb.weaken k1 k2)
      cases mode with
      | none =>
        have hu:c₀.mode=.returning:=hu;have:recoverD (c₀::cs)=none:=by simp[recoverD,hu]
        rw[this];exact key _ _ .returning rfl (by rw[← hu]) rfl
      | some v =>
        have hu:c₀.mode=.panicking [{v:=v.val E,recovered:=false}]:=hu;have:recoverD (c₀::cs)=some (v.val E,{c₀ with mode:=.panicking [{v:=v.val E,recovered:=true}]}::cs):=by simp[recoverD,hu]
        rw[this];exact key _ _ _ rfl rfl (by simp[settle])
     ·cases hf
  ·split at h
   ·exact plain _ h hu
   ·exact h.elim
 ·split at h
  ·exact plain _ h hu
  ·exact h.elim
theorem XH {cfg:gF}(hg:Good P cfg)(hC:cv P C)(hem: ∀ p∈ env,aJ p.2){Γ:aQ}(hek: ∀ p∈ env,∀ KP,qO P Γ KP (.yield p.1) p.2){d:SV}{mode:Option SV}{m:Mem}{nx:Nat}{K:Mem->Nat->VC}{E:Nat->Nat}{w:World}
  (h:(oX P cfg C env n d mode m nx K).holds) (hs:aG Γ E m nx w) (hd:d.wf nx=true) (hmw: ∀ v,mode=some v->v.wf nx=true) :
  ∃ fv cap f args,(jT E d).target=.fn fv cap/\(invoke (jT E d).target (jT E d).args).run P w=.ok (.enter f args) w /\
    CallsDIn Fence.wide 0 P f args (Jr E mode) w (fun e u' w'=>∃ v,e=.returned v/\settle u'=.returning/\HM K Γ E nx w'):=by
 unfold oX at h;split at h
 ·rename_i g first captured
  split at h
  ·rename_i fn hfn;split at h
   ·rename_i body hb;obtain⟨hf,hname⟩:=hg.fns g fn hfn;refine⟨.func g,_,g,(SV.vals E (first++captured)).toArray,rfl,?_,?_⟩
    ·simp only[jT,invoke];rw[show(SV.vals E first).toArray++(SV.vals E captured).toArray=(SV.vals E (first++captured)).toArray by rw[p8];simp only[List.append_toArray]]
     exact jk hf hname hb _ _
    ·refine callsDIn_of_wpSIn hf hb trivial fun c₀ cs hu=> ?_;simp only[SV.wf,Bool.and_eq_true] at hd;exact Q0 hg.mix hC hem hek h (aG.start (Δ:=Γ.pre) hs.amV rfl (ga hd.1 hd.2) fn.ntmps) hmw cs hu
   ·exact h.elim
  ·exact h.elim
 ·exact h.elim
def UQ (P:Program)(cfg:gF)(C:de)(env:Env)(aR:qy)(n:Nat)(fn:Func):PT:=fun args m nx K =>
 match fn.body with
 | some body=>sxD P C env aR n body none (fun d v st=>match d with
    | some d=>(match v.wf st.nx with
      | true=>oX P cfg C env n d (some v) st.m st.nx (fun m' nx'=>match fc P ⟨st.tmps,m',nx'⟩ fn.results.toList with
        | some vs=>p4 nx (kL vs) m' nx' K
        | none=>.fail "a result that is not known")
      | false=>.fail "a key out of bounds")
    | none=>.fail "a panic") (fun d e st=>match e with
    | .exit _=>.fail "a jump out of a function"
    | _=>(match d with
      | some d=>oX P cfg C env n d none st.m st.nx (fun m' nx'=>match fc P ⟨st.tmps,m',nx'⟩ fn.results.toList with
        | some vs=>p4 nx (kL vs) m' nx' K
        | none=>.fail "a result that is not known")
      | none=>(match fc P st fn.results.toList with
        | some vs=>p4 nx (kL vs) st.m st.nx K
        | none=>.fail "a result that is not known")))
    ⟨args.map some++List.replicate (fn.ntmps - args.length) none,m,nx⟩
 | none=>.fail "a function without a body"
theorem Ai {fn:Func}{Γ:aQ}{E:Nat->Nat}{m:Mem}{nx:Nat}{tmps:Array Value}{R:Ending->World->Prop}{u:FrameMode}{tl:List Deferred}(hu:u≠.run)
  (fin: ∀ w,aG Γ E m nx w->LeavesInM Fence.wide 0 P fn tmps R tl u w): ∀(Ds:List Nat) (w:World),Ds.Nodup ->
  (∀ D∈ Ds,w.heap[D]?=some (.deferred (some []))/\D∉ Γ.keep/\Γ.w0.heap.size<=D)->aG Γ E m nx w->LeavesInM Fence.wide 0 P fn tmps R (Ds.map ED++tl) u w
 | [],w,_,_,hm=>fin w hm
 | D::Ds,w,hnd,hD,hm=>by obtain⟨h1,h2,h3⟩:=hD D (by simp);rw[List.nodup_cons] at hnd;refine⟨hu,.inl ⟨D,_,rfl,run_takeDeferred h1,Ai hu fin Ds _ hnd.2 (fun D' hD'=> ?_) (hm.shut h1 h2 h3 _)⟩⟩;obtain⟨g1,g2⟩:=hD D' (by simp[hD']);exact⟨by rw[World.putObj_heap_other (fun e=>hnd.1 (by rw[← e];exact hD'))];exact g1,g2⟩
theorem aaw {cfg:gF}(hg:Good P cfg)(hC:cv P C)(hem: ∀ p∈ env,aJ p.2){Γ:aQ}(hek: ∀ p∈ env,∀ KP,qO P Γ KP (.yield p.1) p.2){f:FuncId}{fn:Func}(hf:P.funcs[f]?=some fn)
  (hname:(fn.name== "runtime.NumGoroutine")=false):qO P Γ Al (.fn f) (UQ P cfg C env aR n fn):=by
 intro Δ hle args m nx K h hwf hargs E w hs;have hek2: ∀ p∈ env,∀ KP,qO P Δ KP (.yield p.1) p.2:=fun p hp KP=>(hek p hp KP).mono hle;unfold UQ at h;split at h
 ·rename_i body hb;simp only[sr.sem];rw[jk hf hname hb];simp only[Out];refine callsIn_wide.1 (callsIn_of_wp_marks (F:=Fence.wide) (n:=0) hf hb trivial ?_);refine wpIn_mono (acR hg.mix hC hem hek2 body _ _ _ E _ w h (aG.start (Δ:=Δ.pre) hs.amV rfl hargs _)) (fun e a' w' hq=> ?_)
  have fin: ∀(E':Nat->Nat) (T:List (Option SV)) (m':Mem) (nx':Nat) (a:Act) (w:World),(match fc P ⟨T,m',nx'⟩ fn.results.toList with
     | some vs=>p4 nx (kL vs) m' nx' K
     | none=>VC.fail "a result that is not known").holds->cK E' T a->(∀ k,k<nx->E' k=E k)->nx<=nx'->aG Δ E' m' nx' w ->
    LeavesInM Fence.wide 0 P fn a.tmps (fun e w'=>(∃ v,e=.returned v/\aV (lift K) Δ E nx v w')∨∃ ch,e=.panicked ch/\lB Al Δ E nx ch w') [] .returning w:=by
   intro E' T m' nx' a w h ht hE hn hm;cases hr:fc P ⟨T,m',nx'⟩ fn.results.toList with
   | none=>rw[hr] at h;exact h.elim
   | some vs =>rw[hr] at h;show ∃ v,_/\_;exact⟨_,yA (st:=⟨T,m',nx'⟩) ht hm hr,.inl ⟨_,rfl,vU h hm hs.cx.1 hE hn⟩⟩
  have clos: ∀(d:SV) (E1:Nat->Nat) (nx1:Nat) (E2:Nat->Nat) (st:St) (mode:Option SV) (a:Act) (w:World),d.wf nx1=true->nx<=nx1->(∀ k,k<nx->E1 k=E k)->(∀ k,k<nx1->E2 k=E1 k)->nx1<=st.nx ->
    Sat (Δ.dfr (jT E1 d)) E2 st a w->(∀ v,mode=some v->v.wf st.nx=true) ->
    (oX P cfg C env n d mode st.m st.nx (fun m' nx'=>match fc P ⟨st.tmps,m',nx'⟩ fn.results.toList with
      | some vs=>p4 nx (kL vs) m' nx' K
      | none=>.fail "a result that is not known")).holds ->
    LeavesInM Fence.wide 0 P fn a.tmps (fun e w'=>(∃ v,e=.returned v/\aV (lift K) Δ E nx v w')∨∃ ch,e=.panicked ch/\lB Al Δ E nx ch w') a.defers (Jr E2 mode) w:=by
   intro d E1 nx1 E2 st mode a w hd hn1 hE1 hE2 hn2 hsat hmw hrun;obtain⟨Ds,d1,d2,d3,d4⟩:=hsat.df;rw[d1];have hum:Jr E2 mode≠.run:=by cases mode<;>simp[Jr]
   refine Ai (tl:=[jT E1 d]) hum (fun w hm=> ?_) Ds w d2 d3 hsat.mm;rw[show jT E1 d=jT E2 d from(Lr hE2 hd).symm]
   obtain⟨fv,cap,g,args',h1,h2,h3⟩:=XH hg hC hem (Γ:=Δ) hek2 hrun hm.aqr (SV.j0 hn2 _ hd) hmw;refine⟨hum,.inr ⟨(fun h=>by cases h),fv,cap,g,args',h1,h2,fun _ _=>trivial,?_⟩⟩;refine⟨h3.1,fun c cs hc hr=> ?_⟩;obtain⟨e,u',w',fr,hR,hcome,hk,hfn,hgo⟩:=h3.2 c cs hc hr;obtain⟨v,rfl,hset,E3,m3,nx3,q1,q2,q3,q4⟩:=hR;refine⟨.returned v,u',w',fr,?_,hcome,hk,hfn,hgo⟩;simp only;rw[hset];exact fin E3 st.tmps m3 nx3 a w' q4 (hsat.tm.congr hsat.wt q1) (fun k hk=>(q1 k (Nat.lt_of_lt_of_le hk (Nat.le_trans hn1 hn2))).trans ((hE2 k (Nat.lt_of_lt_of_le hk hn1)).trans (hE1 k hk))) (Nat.le_trans hn1 (Nat.le_trans hn2 q2)) q3
  rcases hq with ((⟨ex,rfl,E1,st1,g1,g2,g3,g4⟩ | hp) | ⟨d,E1,nx1,hd,hn1,hE1,(⟨ex,rfl,E2,st1,g1,g2,g3,g4⟩ | ⟨v,E2,st1,rfl,gw,g1,g2,g3,g4⟩)⟩)
  ·have hnil:a'.defers=[]:=by obtain⟨Ds,d1,d2,d3,d4⟩:=g3.df;have:=d4 rfl;subst this;exact d1
   have go:(match fc P st1 fn.results.toList with
     | some vs=>p4 nx (kL vs) st1.m st1.nx K
     | none=>VC.fail "a result that is not known").holds->LeavesInM Fence.wide 0 P fn a'.tmps _ a'.defers .returning w':=fun h=>by
    rw[hnil];exact fin E1 st1.tmps st1.m st1.nx a' w' h g3.tm g1 g2 g3.mm.aiO
   cases ex with
   | exit id=>exact g4.elim
   | normal=>exact go g4
   | ret=>exact go g4
  ·obtain⟨v,E1,st1,rfl,_,_,_,_,hno⟩:=hp;exact hno.elim
  ·cases ex with
   | exit id=>exact g4.elim
   | normal=>exact clos d E1 nx1 E2 st1 none a' w' hd hn1 hE1 g1 g2 g3 (fun v hv=>by cases hv) g4
   | ret=>exact clos d E1 nx1 E2 st1 none a' w' hd hn1 hE1 g1 g2 g3 (fun v hv=>by cases hv) g4
  ·simp only at g4;rw[gw] at g4;exact clos d E1 nx1 E2 st1 (some v) a' w' hd hn1 hE1 g1 g2 g3 (fun u hu=>by injection hu with hu;subst hu;exact gw) g4
 ·exact h.elim
end
end
end Go.Proofs.YtpaaiebohjjieaaGreatDoor.Sx
namespace Go.Proofs.YtpaaiebohjjieaaGreatDoor.Sx
open Go
theorem G1 {P:Program}{cfg:gF}(hg:Good P cfg){f:FuncId}{fn:Func}(hf:P.funcs[f]?=some fn) (hn:(fn.name== "runtime.NumGoroutine")=false) (hb:fn.body.isSome=true) {args:List SV} {m:Mem} {nx:Nat} {K:SV->Mem->Nat->VC}
  {C:de} (hC:cv P C) (h:aq (UQ P cfg C [] (cfg.aR f) cfg.rounds fn args m nx K)) (hm:Mem.wf nx m=true) (ha:SV.gM nx args=true) {Γ:aQ} {E:Nat->Nat} {w:World} (hs:aG Γ E m nx w) :
  Calls P f (SV.vals E args).toArray w fun e w'=>∃ v,e=.returned v/\aV (lift K) Γ E nx v w':=by
 have:=aaw hg hC (env:=[]) (fun p hp=>by cases hp) (Γ:=Γ) (fun p hp=>by cases hp) (aR:=cfg.aR f) (n:=cfg.rounds) hf hn Γ Γ.le_refl args m nx K h.out hm ha E w hs;obtain⟨body,hb⟩:=Option.isSome_iff_exists.1 hb;simp only[sr.sem] at this;rw[jk hf hn hb] at this;refine Calls.mono this ?_;rintro e w' (h | ⟨ch,_,_,_,_,_,_,_,_,_,_,hno⟩)
 ·exact h
 ·exact hno.elim
theorem ajU {P:Program}{f:FuncId}{fn:Func}(hf:P.funcs[f]?=some fn) (hn:(fn.name== "runtime.NumGoroutine")=false) (hb:fn.body.isSome=true) {spec:List SV->Option (Prop×b7)}
  (h: ∀ args p a,spec args=some (p,a)->p->∃ cfg C,Good P cfg/\cv P C/\SV.gM 0 args=true/\a.Ok/\aq (UQ P cfg C [] (cfg.aR f) cfg.rounds fn args [] 0 (fun v m _=>a.fit v m))):au P f (bW spec):=by
 intro args m nx K hk hwf hargs Γ E w hs;unfold bW at hk;split at hk
 ·rename_i p a hr;obtain⟨hp,hk⟩:=hk;obtain⟨cfg,C,hg,hC,h1,h2,h3⟩:=h _ _ _ hr hp;have hc:=G1 hg hf hn hb hC h3 rfl h1 (aG.none w hs.G2);rw[SV.oN h1 (fun _=>0) E,oM] at hc;refine ic hf hn hb (hc.mono ?_);rintro e w' ⟨v,rfl,E',sv,m',nx',_,_,g3,g4,g5⟩;refine⟨v,rfl,?_⟩;cases sv with
  | none=>exact g5.elim
  | some u=>rw[g3 u rfl];exact b7.told hs hwf g4 h2 g5 hk
 ·exact hk.elim
end Go.Proofs.YtpaaiebohjjieaaGreatDoor.Sx
namespace Go.Proofs.YtpaaiebohjjieaaGreatDoor.Sx
open Go
noncomputable section
def Lh (C:de)(ex:List (FuncId×(PK->PT))):de:=⟨fun env KP c=>match c with
    | .fn f=>(match ex.find? (fun e=>Nat.beq e.1 f)with
      | some e=>e.2 KP
      | none=>C.oZ env KP (.fn f))
    | c=>C.oZ env KP c,C.bd⟩
structure Fv (P:Program)(f:FuncId)(g:PK->PT):Prop where
 ok: ∀ KP Γ,qO P Γ KP (.fn f) (g KP)
 mono: ∀ KP,aJ (g KP)
 rF: ∀ KP KP':PK,(∀ v m nx,(KP v m nx).holds->(KP' v m nx).holds)->∀ args m nx K,(g KP args m nx K).holds->(g KP' args m nx K).holds
theorem Li {P:Program}{C:de}(hC:cv P C){ex:List (FuncId×(PK->PT))}(he: ∀ e∈ ex,Fv P e.1 e.2):cv P (Lh C ex):=by
 refine⟨fun env hem KP c=> ?_,fun env hem KP KP' hK c args m nx K h=> ?_,fun Γ env hem hek KP c=> ?_,hC.bd⟩
 ·unfold Lh;cases c with
  | yield k=>exact hC.mono env hem KP _
  | panic=>exact hC.mono env hem KP _
  | fn f =>
    simp only;split
    ·rename_i e hf;exact(he e (List.mem_of_find?_eq_some hf)).mono KP
    ·exact hC.mono env hem KP _
 ·unfold Lh at h ⊢;cases c with
  | yield k=>exact hC.rF env hem KP KP' hK _ _ _ _ _ h
  | panic=>exact hC.rF env hem KP KP' hK _ _ _ _ _ h
  | fn f =>
    simp only at h ⊢;cases hf:ex.find? (fun e=>Nat.beq e.1 f)with
    | some e=>rw[hf] at h;exact(he e (List.mem_of_find?_eq_some hf)).rF KP KP' hK _ _ _ _ h
    | none=>rw[hf] at h;exact hC.rF env hem KP KP' hK _ _ _ _ _ h
 ·unfold Lh;cases c with
  | yield k=>exact hC.ok Γ env hem hek KP _
  | panic=>exact hC.ok Γ env hem hek KP _
  | fn f =>
    simp only;cases hf:ex.find? (fun e=>Nat.beq e.1 f)with
    | some e =>have h1:=List.find?_some hf;have h2:e.1=f:=Nat.eq_of_beq_eq_true h1;rw[← h2];exact(he e (List.mem_of_find?_eq_some hf)).ok KP Γ
    | none=>exact hC.ok Γ env hem hek KP _
def Bz (KP:PK):SV->Mem->Nat->VC:=fun v m nx=>match v.wf nx with
 | true=>KP v m nx
 | false=>.fail "a key out of bounds"
def Am (spec:List SV->Option (Prop×Bool×b7×b7)):PK->PT:=fun KP args m nx K=>match spec (args.map yS)with
 | some (p,b,a,q)=>.and (.atom p) (Sx.fork b fun b=>match b with
   | true=>a.vc m nx K
   | false=>q.vc m nx (Bz KP))
 | none=>.fail "arguments that nothing is said of"
theorem Tt {KP KP':PK}(hK: ∀ v m nx,(KP v m nx).holds->(KP' v m nx).holds): ∀ v m nx,(Bz KP v m nx).holds->(Bz KP' v m nx).holds:=by
 intro v m nx h;unfold Bz at h ⊢;split at h
 ·exact hK _ _ _ h
 ·exact h
theorem aV.toP {KP:PK}{Γ:aQ}{E:Nat->Nat}{nx:Nat}{v:Value}{w:World}(h:aV (lift (Bz KP)) Γ E nx v w):lB KP Γ E nx [{v:=v,recovered:=false}] w:=by
 obtain⟨E',sv,m',nx',h1,h2,h3,h4,h5⟩:=h;cases sv with
 | none=>exact h5.elim
 | some x =>
   have h5:(Bz KP x m' nx').holds:=h5;unfold Bz at h5;split at h5
   ·rename_i hw;exact⟨E',x,m',nx',h1,h2,by rw[h3 x rfl],hw,h4,h5⟩
   ·exact h5.elim
theorem W8 {P:Program}{f:FuncId}{fn:Func}(hf:P.funcs[f]?=some fn) (hn:(fn.name== "runtime.NumGoroutine")=false) (_hb:fn.body.isSome=true) {spec:List SV->Option (Prop×Bool×b7×b7)}
  (h: ∀ args p b a q,spec args=some (p,b,a,q)->p->∃ C aR n,cv P C/\P.follows .mixedOrders=true/\SV.gM 0 args=true/\a.Ok/\q.Ok /\
    aq (gR P C [] (fun v m _=>.and (.atom (b=false)) (q.fit v m)) aR n fn args [] 0 (fun v m _=>.and (.atom (b=true)) (a.fit v m)))):Fv P f (Am spec):=by
 refine⟨fun KP Γ0=> ?_,fun KP args m nx K K' hK hh=> ?_,fun KP KP' hK args m nx K hh=> ?_⟩
 ·intro Γ _ args m nx K hk hwf hargs E w hs;unfold Am at hk;split at hk
  ·rename_i p b a q hr;obtain⟨hp,hk⟩:=hk;obtain⟨C,aR,n,hC,hmix,h1,h2,hq,h3⟩:=h _ _ _ _ _ hr hp;have hk:=dx.1 hk;have hc:=Du hmix hC (env:=[]) (fun p hp=>by cases hp) (Γ:=aQ.at w (fun _=>False) hs.G2 (fun _ _ h=>h)) (fun p hp=>by cases hp) (aR:=aR) (n:=n) hf hn _ (aQ.le_refl _) _ [] 0 _ h3.out rfl h1 (fun _=>0) w (aG.none w hs.G2);simp only[sr.sem] at hc ⊢;rw[SV.oN h1 (fun _=>0) E,oM] at hc;refine hc.mono (fun v w' hh=> ?_) (fun ch w' hh=> ?_)
   ·obtain⟨E',sv,m',nx',_,_,g3,g4,g5⟩:=hh;cases sv with
    | none=>exact g5.elim
    | some u =>obtain⟨gb,g5⟩:=g5;have gb:b=true:=gb;subst gb;rw[g3 u rfl];exact b7.told hs hwf g4 h2 g5 hk
   ·obtain⟨E',u,m',nx',_,_,g3,gw,g4,gb,g5⟩:=hh;have gb:b=false:=gb;subst gb;rw[g3];exact(b7.told hs hwf g4 hq g5 hk).toP
  ·exact hk.elim
 ·unfold Am at hh ⊢;split at hh
  ·rename_i p b a q hr;refine⟨hh.1,dx.2 ?_⟩;have:=dx.1 hh.2;cases b
   ·exact this
   ·exact b7.td hK this
  ·exact hh
 ·unfold Am at hh ⊢;split at hh
  ·rename_i p b a q hr;refine⟨hh.1,dx.2 ?_⟩;have:=dx.1 hh.2;cases b
   ·exact b7.td (Tt hK) this
   ·exact this
  ·exact hh
end
end Go.Proofs.YtpaaiebohjjieaaGreatDoor.Sx
namespace Go.Proofs.YtpaaiebohjjieaaGreatDoor
open Go Sx
set_option maxRecDepth 20000
def gJ (s:List UInt8):Pp:=⟨wZ (dr s 0),aa (dr s 1),aa (dr s 2),aa (dr s 3),aH (aa (dr s 4)),fun i=>aa (aj (aa (dr s 4)) i)⟩
def fG (s:List UInt8):Bool:=(gJ s).fits&&decide ((gJ s).put=s)
def Qs:SV:=.agg [.int .i64 true 0,.str true [],.str true [],.str true [],.aO]
def My (s:List UInt8):b7:=.fork (fG s) fun b=>match b with
 | true=>.all Nat fun c=>.req (aH (aa (dr s 4))<=c) (.new (fun k=>.bL [(gJ s).sv (.bI k 1 true 0 (aH (aa (dr s 4))) c),.int .i64 true 0]) (.rows true (aH (aa (dr s 4))) [.str (gJ s).f] false c 9))
 | false=>.ret (.bL [Qs,.int .i64 true 2])
def amc (st:St)(t:Nat):Nat:=match slot st.tmps t with
 | some (.ptr k _ _)=>k
 | _=>0
def sB:b7:=.all Int fun at'=>.new (fun k=>.iface 274 (.ptr k true 0)) (.cells [.int .i64 false at',.iface 25 (.int .i64 true 2)] 2 276)
theorem A6:sB.Ok:=fun _=>⟨rfl,rfl,fun k=>by simp[SV.wf,Nat.blt_eq],fun E E' k k' h=>by simp only[SV.val,h rfl]⟩
noncomputable def QZ (C:de)(aR:qy)(fn:Func)(args:List SV)(b:Bool)(a q:b7):VC :=gR Tryz.prog C [] (fun v m _=>.and (.atom (b=false)) (q.fit v m)) aR 100 fn args [] 0 (fun v m _=>.and (.atom (b=true)) (a.fit v m))
def cE (t:List UInt8)(l:Bool):Bool:=cA t&&decide (aC t=[])&&(dD t==l)
noncomputable def RA:gF:={cF with cM:=fun f=>aA f WK}
theorem II:Sx.Good Tryz.prog RA:=.of bO MX bt
noncomputable def HX:de:=calling Tryz.prog RA 20
section
variable (a b : Int)
abbrev NO:=bH 2 (jX (JX b) 276) (JX a) 276
abbrev Kv:=∃(b:Int),NO a b/\ah (sW 0 0 274) (sW 0 0 274)
end
theorem ac8 (n:Int)(t:List UInt8)(l:Bool):VC.holds (QZ HX [] Tryz.f69 [.int .i64 false n,.str false t,.bool false l] (cE t l) (.ret (.str false (aa t))) sB)=(aS (dj t) (Fk (aC t=[]) (bn (cE t l=false/\Kv n) (dZ (cE t l)/\ah (ax (aa t)) (ax (aa t))) (BEq.beq (dD t) l)) (cE t l=false/\Kv n)) (cE t l=false/\Kv n) (cA t)):=by kernel_rfl
theorem l9 {n:Int}: ∃(x:Int),af (SB.cells [SV.int IntKind.i64 false n,SV.iface 25 (SV.int IntKind.i64 true (2:Int))] (2:Nat) 276) (SB.cells [SV.int IntKind.i64 false x,SV.iface 25 (SV.int IntKind.i64 true (2:Int))] (2:Nat) 276) /\
  ah (SV.iface 274 (SV.ptr (0:Nat) true (0:Nat))) (SV.iface 274 (SV.ptr (0:Nat) true (0:Nat))):=⟨n,af.refl _,fun _=>rfl⟩
def Bh:List SV->Option (Prop×Bool×b7×b7)
 | [.int .i64 false _,.str false t,.bool false l]=>some (t.length<9223372036854775808,cE t l,.ret (.str false (aa t)),sB)
 | _=>none
theorem abr:Fv Tryz.prog 69 (Am Bh):=by
 refine W8 (fn:=Tryz.f69) Tryz.func69 (by kernel_rfl) (by kernel_rfl) ?_;intro args p b a q h hp;unfold Bh at h;split at h
 ·rename_i n t l;injection h with h;injection h with h1 h;injection h with h2 h;injection h with h3 h4;subst h1;subst h2;subst h3;subst h4;refine⟨HX,[],100,kR II 20,bO,rfl,rfl,A6,aq.j7 (ac8 n t l) (by delta Fk Bk aF bC bx JX sW jX bH ax cr aS dj bn dZ NO Kv;exact rfl) ?_⟩;refine⟨hp,fun h1=>⟨fun h2=>⟨fun h3=>⟨?_,l9⟩,fun h3=>⟨?_,fun _=>rfl⟩⟩,fun h2=>⟨?_,l9⟩⟩,fun h1=>⟨?_,l9⟩⟩
  all_goals (unfold cE;simp_all)
 ·cases h
noncomputable def ano:List (FuncId×(PK->PT)):=[(69,Am Bh)]
theorem YI: ∀ e∈ ano,Fv Tryz.prog e.1 e.2:=fun e he=>by
 rcases List.mem_cons.1 he with rfl | he
 ·exact abr
 ·cases he
noncomputable def VK:de:=Lh HX ano
theorem aaY:cv Tryz.prog VK:=Li (kR II 20) YI
def ie (s:List UInt8):Bool:=cE s true&&dU (aa s)
def Zd (s:List UInt8):b7:=.all Nat fun c=>.req (aH (aa s)<=c) (.new (fun k=>.bI k 1 true 0 (aH (aa s)) c) (.rows true (aH (aa s)) [.str (aj (aa s))] false c 9))
theorem ai2 (n:Int)(s:List UInt8):VC.holds (QZ VK [] Tryz.f67 [.int .i64 false n,.str false s] (ie s) (Zd s) sB)=(aS (dj s) (aS (yq s<1099511627776) (∀(a:Nat),aX (lN s) a (dZ (ie s)/\(∃(b:Nat),gK (lN s) b (af (Kj a s) (Kj b s)) (ah (fX 0 1 (lN s) a) (fX 0 1 (lN s) b))))) (ie s=false/\Kv n) (dU (aa s))) (∀(a:Int),ie s=false/\Kv a) (cE s true)):=by kernel_rfl
def BB:List SV->Option (Prop×Bool×b7×b7)
 | [.int .i64 false _,.str false s]=>some (s.length<1099511627776,ie s,Zd s,sB)
 | _=>none
theorem acf:Fv Tryz.prog 67 (Am BB):=by
 refine W8 (fn:=Tryz.f67) Tryz.func67 (by kernel_rfl) (by kernel_rfl) ?_;intro args p b a q h hp;unfold BB at h;split at h
 ·rename_i n s;injection h with h;injection h with h1 h;injection h with h2 h;injection h with h3 h4;subst h1;subst h2;subst h3;subst h4;have hle:=tR s;refine⟨VK,[],100,aaY,bO,rfl,(fun c=>⟨rfl,rfl,fun k=>by simp[SV.wf,Nat.blt_eq],fun E E' k k' h=>by simp only[SV.val,SB.no] at h ⊢;cases hz:Nat.beq (aH (aa s)) 0<;>simp_all⟩),A6,aq.j7 (ai2 n s) (by delta Bk aX aF bC bx JX sW ak jX bH cr aS dj yq eC cU bD fX dZ gK lN Kj NO Kv;exact rfl) ?_⟩
  refine⟨by omega,fun h1=>⟨by omega,fun h2=>fun x hx=>⟨?_,x,hx,af.refl _,fun _=>rfl⟩,fun h2=>⟨?_,l9⟩⟩,fun h1 x=>⟨?_,l9⟩⟩
  all_goals (unfold ie;simp_all)
 ·cases h
noncomputable def anp:List (FuncId×(PK->PT)):=(67,Am BB)::ano
theorem YJ: ∀ e∈ anp,Fv Tryz.prog e.1 e.2:=fun e he=>by
 rcases List.mem_cons.1 he with rfl | he
 ·exact acf
 ·exact YI e he
noncomputable def O0:de:=Lh HX anp
theorem aaZ:cv Tryz.prog O0:=Li (kR II 20) YJ
noncomputable def afm (s:List UInt8):bp :=
 {α:=Unit,pre:=fun _ _=>True,sM:=fun _ _=>0,fresh:=1,slots:=fun st _=>[(6,.ptr st.nx true 0)],
  mem:=fun st _=>[(st.nx,.cells [.int .i64 false (wZ (dr s 0)),.str false (aa (dr s 1)),.str false (aa (dr s 2)),.str false (aa (dr s 3)),.aO] 5 30)]}
noncomputable def adD (s:List UInt8):bp :=
 {α:=Nat×Nat,pre:=fun _ x=>AW (aH (aa (dr s 4))) x,sM:=fun _ x=>aH (aa (dr s 4)) - x.1,fresh:=1,slots:=fun _ x=>[(54,.int .i64 false x.1)],
  mem:=fun st x=>[(amc st 6,.cells [.int .i64 false (wZ (dr s 0)),.str false (aa (dr s 1)),.str false (aa (dr s 2)),.str false (aa (dr s 3)),.bI st.nx 1 true 0 x.1 x.2] 5 30),(st.nx,.rows true x.1 [.str (gJ s).f] false x.2 9)]}
noncomputable def HO (s:List UInt8):qy:=[(8,always (adD s)),(1006,always (afm s))]
def Xf (s:List UInt8):b7:=.all Nat fun c=>.req (aH (aa (dr s 4))<=c) (.new (fun k=>(gJ s).sv (.bI k 1 true 0 (aH (aa (dr s 4))) c)) (.rows true (aH (aa (dr s 4))) [.str (gJ s).f] false c 9))
section
variable (n : Nat) (s : List UInt8) (a : Int) (v : SV) (B D E : SB) (x : Nat × Nat) (y : Nat -> SB)
abbrev CW:Nat->List UInt8:=fun a=>aa (dA a (dr s 4))
abbrev agU:=ah (sW 5 0 274) (sW 5 0 274)
abbrev CZ:=fG s=false
abbrev Zt:=∃(_:Unit),True/\iY aW (af B D) True (y n) E
abbrev TU:=sW 1 0 274
abbrev C5:=∀(a:Int),CZ s/\(∃(b:Int),bH 2 (jX (JX b) 276) (JX a) 276/\fj v)
abbrev T3:=jX (JX a) 276
abbrev jf:=aa (dr s n)
abbrev ZT:=Pp.mk (wZ (dr s 0)) (jf 1 s) (jf 2 s) (jf 3 s) x.1 (CW s)
abbrev Uo:=SV.agg (aF (bx 0) cn (aF cn cn C2))
abbrev ahB:List SV:=bC (wZ (dr s 0))::aF (ax (jf 1 s)) (ax (jf 2 s)) (aF (ax (jf 3 s)) (fX 4 1 x.1 x.2) List.nil)
abbrev ahO:=aL (dV n y) (dV n y) (dj (dA 2 s)) (Bk (cE (dA 2 s) false) (ak (dV n y) (dj (dA 3 s)) (Bk (cE (dA 3 s) false) (Zt n B D E y) (C5 s v))) (C5 s v))
abbrev aah:=CZ s/\(∃(a:Int),pW agU B (T3 a))
abbrev ahU:=∃(a:Int),bH 2 (T3 a) (bx 0::QJ) 276/\fj v
abbrev rS:=aH (jf 4 s)
end
theorem alR (s:List UInt8):VC.holds (QZ O0 (HO s) Tryz.f24 [.str false s] (fG s) (Xf s) sB)=((fun(a:Nat->SB)=>(fun(b:SB)=>(fun(c:SB)=>(fun(d:Nat×Nat->SB)=>(fun(e:SB)=>(fun(f:List UInt8)=>(fun(g:SV)=>(fun(h:SB)=>(fun(i:SV)=>bn (CZ s/\(∃(a:Int),pW (ah TU TU) h (T3 a))) (aS (dS s) (∀(j:Nat),aX (lN s) j (bn (CZ s/\(∃(a:Int),pW (fj i) h (T3 a))) (aL (Ix 0 (rQ s)) (0<lN s) (dj (dA 0 s)) (Bk (qF (dA 0 s)) (bn (CZ s/\ahU i) (aI (I6 (num (uA s))) (Ix 1 (rQ s)) (1<lN s) (Ix 2 (rQ s)) (bl (2<lN s) (Ix 3 (rQ s)) (3<lN s) (aS (dj (dA 1 s)) (aI (dV j a) (dV j a) (aS (dj (dA 2 s)) (ak (dV j a) (aS (dj (dA 3 s)) (aL (dV j a) (dV j a) (dV j a) (Zt j c e b a)) (C5 s i) (cE (dA 3 s) false)) (aI (dV j a) (dV j a) (dV j a) (dj (dA 3 s)) (Bk (cE (dA 3 s) false) (Zt j c e b a) (C5 s g)))) (C5 s i) (cE (dA 2 s) false)) (dV j a) (ahO j s g c e b a)) (C5 s i) (cE (dA 1 s) false)) (dV j a) (dV j a) (dV j a) (dj (dA 1 s)) (Bk (cE (dA 1 s) false) (ahO j s g c e b a) (C5 s g)))/\(∀(_:Unit),True->aL (Ix 4 (rQ s)) (4<lN s) (dS (dA 4 s)) (Bk (ie (dA 4 s)) (∀(c:Nat),aX (aH f) c ((∃(d:Nat×Nat),aL (AW (rS s) d) (0=fJ d) (Er 5) (kJ (Er (wZ (dr s 0))) (Er (jf 1 s)) (Er (jf 2 s)) (Er (jf 3 s)) (d.1=0) (oh (eC d.1 d.2 9 (bD (CW s)))) (Sr (eC (aH f) c 9 (bD (aj f)))) (wH b) (a j)))/\(∀(e:Nat×Nat),AW (rS s) e->fA (aH f) (aL (fo (aH f) (fJ e)) (fk e<aH f) (dj (aj f (fk e))) (Bk (cE (aj f (fk e)) false) (aI (dW (d e)) (dW (d e)) (Zy e) (C4 e) (∀(d:Nat),aX (pM e) d (dG (∃(g:Nat×Nat),aI (cg (rS s) g.1 (rS s) e.1 (AW (rS s) g)) (mP e g) (Er 5) (Er (wZ (dr s 0))) (kJ (Er (jf 1 s)) (Er (jf 2 s)) (Er (jf 3 s)) (aW/\Gc d e g) True (af (cq (pM e) d 1 9 (bD (fun a=>iT a e.1 (aa (aj (jf 4 s) a)) (iW (a - e.1) (aa (aj f (fk e))))))) (eC g.1 g.2 9 (bD (CW s)))) (Sr (eC (aH f) c 9 (bD (aj f)))) (wH b) (a j))) (mQ e)))) (∀(a:Int),CZ s/\(∃(b:Int),NO a b/\agU)))) (aS (c6 (c6 (gp True True True True (jw/\cI e.1 e.1) True))) (bf (aah s h) (bn (aah s h) (dZ (fG s)/\(∃(a:Nat),gK (rS s) a (af (eC e.1 e.2 9 (bD (CW s))) (eC (rS s) a 9 (bD (CW s)))) (ah (SV.agg (ahB s e)) (gj (bC (wZ (dr s 0))) (aF (ax (jf 1 s)) (ax (jf 2 s)) (aF (ax (jf 3 s)) (fX 4 1 (rS s) a) List.nil)))))) (eV (Pp.put (ZT s e)) s)) 65536 (bh (Pp.put (ZT s e)))) (aah s h) (Pp.ok (ZT s e))) (fJ e)))) (C5 s g)))) (decide (num (uA s)<=1))) (CZ s/\ahU i))) (eX (rQ s) 5))) (∀(a:Int),CZ s/\(∃(b:Int),NO a b/\ah TU TU)) (ie s)) (decide (bP s<=65536))) (sW 2 0 274)) (cR 2 (bx (-1)) QJ 276)) (sW 3 0 274)) (aa (dA 4 s))) (SB.cells (aF (bC (wZ (dr s 0))) (ax (jf 1 s)) (aF (ax (jf 2 s)) (ax (jf 3 s)) C2)) 5 30)) (fun a=>SB.cells (ahB s a) 5 30)) (SB.cells (aF (bC (num (uA s))) (ax (aa (dA 1 s))) (aF (ax (aa (dA 2 s))) (ax (aa (dA 3 s))) C2)) 5 30)) (c8 5 Uo 30)) (fun a=>Kj a s)):=by kernel_rfl
theorem XF {x:Pp}(h:x.Small): ∀ y∈ x.rows,Whole y:=fun y hy=>by obtain⟨i,hi,rfl⟩:=UK hy;have:=h.row i hi;exact qM (by omega)
theorem Pp.UN {x:Pp}(h:x.Small):vf (ee x.rows) x.rows:=Jd (XF h) (by have:=Pp.KT h;omega)
theorem Pp.akT {x:Pp}(h:x.Small):vf x.put x.items:=by
 refine Jd (fun y hy=> ?_) (by have:=Pp.MH h;omega);have:=h.k;have:=h.root;have:=h.key;have:=h.to;simp only[Pp.items,List.mem_cons,List.not_mem_nil,or_false] at hy;rcases hy with rfl | rfl | rfl | rfl | rfl
 ·exact Tl (by omega) (by omega)
 ·exact qM (by omega)
 ·exact qM (by omega)
 ·exact qM (by omega)
 ·exact(Pp.UN h).whole
theorem sI {b:List UInt8}(h:b.length<=1048576):cE (aB b) false=true:=by obtain⟨h1,h2,h3,_⟩:=BP h;simp[cE,h1,h2,h3]
theorem vf.inside {t:List UInt8}{l:List (List UInt8)}(h:vf t l):cE t true=true/\ie t=true:=by
 have:cE t true=true:=by simp[cE,h.b,h.li,h.r]
 exact⟨this,by simp[ie,this,h.ib]⟩
structure DV (s:List UInt8):Prop where
 len:(s.length:Int)<=65536
 whole:ie s=true
 n5:aH (aa s)=5
 g0:qF (aj (aa s) 0)=true
 k0:0<=num (aa (aj (aa s) 0))/\num (aa (aj (aa s) 0))<=1
 i1:cE (aj (aa s) 1) false=true
 i2:cE (aj (aa s) 2) false=true
 i3:cE (aj (aa s) 3) false=true
 w4:ie (aj (aa s) 4)=true
 n4:aH (aa (aj (aa s) 4))<=200
 r4: ∀ i,i<aH (aa (aj (aa s) 4))->cE (aj (aa (aj (aa s) 4)) i) false=true
theorem W9 {x:Pp}(h:x.fits=true):DV x.put:=by
 unfold Pp.fits at h;simp only[Bool.and_eq_true,Bool.not_eq_true',decide_eq_false_iff_not] at h;have hs:=Pp.ur h.1;have hc:=Pp.akT hs;have hr:=Pp.UN hs;obtain⟨h1,h2,h3,h4,h5,h6⟩:=hs;have e0:=hc.at' 0 _ rfl;have e1:=hc.at' 1 _ rfl;have e2:=hc.at' 2 _ rfl;have e3:=hc.at' 3 _ rfl;have e4:=hc.at' 4 _ rfl;have hn:=EP (n:=x.k) (by omega) (by omega);have hrow:x.rows.length=x.n:=nP _ _ _;refine⟨by omega,hc.inside.2,hc.n,?_,?_,?_,?_,?_,?_,?_,fun i hi=> ?_⟩
 ·rw[e0];exact hn.1
 ·rw[e0];have:num (aa (numOf x.k))=x.k:=hn.2.2.2.2;rw[this];omega
 ·rw[e1];exact sI (by omega)
 ·rw[e2];exact sI (by omega)
 ·rw[e3];exact sI (by omega)
 ·rw[e4];exact hr.inside.2
 ·rw[e4,hr.n,hrow];exact h5
 ·rw[e4] at hi ⊢;rw[hr.n,hrow] at hi;obtain⟨y,hy⟩: ∃ y,x.rows[i]?=some y:=⟨_,List.getElem?_eq_getElem (by omega)⟩
  rw[hr.at' i y hy];obtain⟨_,h8⟩:=Dr (f:=E9 x.f) hy;rw[← h8,Nat.zero_add];have:=h6 i hi;show cE (aB (x.f i)) false=true;exact sI (by omega)
theorem Wa {s:List UInt8}(h:fG s=true):DV s/\(gJ s).ok=true/\(gJ s).put=s:=by unfold fG at h;simp only[Bool.and_eq_true,decide_eq_true_eq] at h;have:=W9 h.1;rw[h.2] at this;have ho:=h.1;unfold Pp.fits at ho;simp only[Bool.and_eq_true] at ho;exact⟨this,ho.1,h.2⟩
theorem tW {s:List UInt8}:fG s=true↔(gJ s).ok=true/\¬ (65536:Int)<((gJ s).put.length:Int)/\(gJ s).put=s:=by unfold fG Pp.fits;simp[and_assoc]
section
variable {s : List UInt8}
theorem iD (h:DV s->False):fG s=false:=Bool.eq_false_iff.2 fun hB=>h (Wa hB).1
theorem ado (h:(!decide ((↑s.length:Int)<=(65536:Int)))=true):fG s=false:=iD fun F=>by have:=F.len;simp only[Bool.not_eq_true',decide_eq_false_iff_not] at h;exact h this
theorem Vs (h:ie s=false):fG s=false:=iD fun F=>by have:=F.whole;rw[h] at this;cases this
theorem Yg (h:(!decide ((↑(aH (aa s)):Int)=(5:Int)))=true):fG s=false:=iD fun F=>by have:=F.n5;simp only[Bool.not_eq_true',decide_eq_false_iff_not] at h;omega
theorem ajp (h:qF (aj (aa s) 0)=false):fG s=false:=iD fun F=>by have:=F.g0;rw[h] at this;cases this
theorem ajt (h:(!decide (num (aa (aj (aa s) 0))<=(1:Int)))=true):fG s=false:=iD fun F=>by have:=F.k0;simp only[Bool.not_eq_true',decide_eq_false_iff_not] at h;omega
theorem ajq (h:cE (aj (aa s) 1) false=false):fG s=false:=iD fun F=>by have:=F.i1;rw[h] at this;cases this
theorem ajr (h:cE (aj (aa s) 2) false=false):fG s=false:=iD fun F=>by have:=F.i2;rw[h] at this;cases this
theorem ajs (h:cE (aj (aa s) 3) false=false):fG s=false:=iD fun F=>by have:=F.i3;rw[h] at this;cases this
theorem ajv (h:ie (aj (aa s) 4)=false):fG s=false:=iD fun F=>by have:=F.w4;rw[h] at this;cases this
theorem adp {i:Nat}(h:cE (aj (aa (aj (aa s) 4)) i) false=false)(hi:decide ((i:Int)<(aH (aa (aj (aa s) 4)):Int))=true):fG s=false:=iD fun F=>by simp only[decide_eq_true_eq] at hi;have:=F.r4 i (by omega);rw[h] at this;cases this
def yX (s:List UInt8)(n:Nat):Pp:={k:=wZ (dr s 0),root:=aa (dr s 1),key:=aa (dr s 2),to:=aa (dr s 3),n:=n,f:=fun(i:Nat)=>aa (aj (aa (dr s 4)) i)}
theorem u9 {x:Nat×Nat}(hg:AW (aH (aa (dr s 4))) x)(hi:decide ((x.1:Int)<(aH (aa (aj (aa s) 4)):Int))=false):x.1=aH (aa (dr s 4)):=by
 simp only[decide_eq_false_iff_not] at hi;have h1:x.1<=aH (aa (aj (aa s) 4)):=hg.le;have h2:x.1=aH (aa (aj (aa s) 4)):=by omega
 exact h2
theorem qN {n:Nat}(h:n=aH (aa (dr s 4))):yX s n=gJ s:=by rw[h,yX,gJ]
theorem aju {n:Nat}(e:n=aH (aa (dr s 4)))(h:(yX s n).ok=false):fG s=false:=by rw[qN e] at h;exact Bool.eq_false_iff.2 fun hB=>by rw[(tW.1 hB).1] at h;cases h
theorem Vr {n:Nat}(e:n=aH (aa (dr s 4)))(h:decide ((65536:Int)<((yX s n).put.length:Int))=true):fG s=false:=by rw[qN e] at h;simp only[decide_eq_true_eq] at h;exact Bool.eq_false_iff.2 fun hB=>(tW.1 hB).2.1 h
theorem Yh {n:Nat}(e:n=aH (aa (dr s 4)))(h:(!decide ((yX s n).put=s))=true):fG s=false:=by rw[qN e] at h;simp only[Bool.not_eq_true',decide_eq_false_iff_not] at h;exact Bool.eq_false_iff.2 fun hB=>h (tW.1 hB).2.2
theorem Rl {n:Nat}(e:n=aH (aa (dr s 4)))(h1:(yX s n).ok=true)(h2:decide ((65536:Int)<((yX s n).put.length:Int))=false)(h3:(!decide ((yX s n).put=s))=false):fG s=true:=by rw[qN e] at h1 h2 h3;simp only[Bool.not_eq_false',decide_eq_true_eq] at h3;simp only[decide_eq_false_iff_not] at h2;exact tW.2 ⟨h1,h2,h3⟩
theorem wo (h:(!decide ((↑s.length:Int)<=(65536:Int)))=false)(k:Nat):(aj (aa s) k).length<=65536:=by simp only[Bool.not_eq_false',decide_eq_true_eq] at h;have h1:=zg (aa s) k;have h2:=tR s;omega
theorem Vv (h:(!decide ((↑s.length:Int)<=(65536:Int)))=false)(k i:Nat):(aj (aa (aj (aa s) k)) i).length<=65536:=by have h1:=wo h k;have h2:=zg (aa (aj (aa s) k)) i;have h3:=tR (aj (aa s) k);omega
theorem adn (h:(!decide ((↑s.length:Int)<=(65536:Int)))=false)(hw:ie (aj (aa s) 4)=true):aH (aa (aj (aa s) 4))<=65536:=by have h1:=wo h 4;have h3:=tR (aj (aa s) 4);unfold ie at hw;simp only[Bool.and_eq_true] at hw;have:=abt hw.2;omega
theorem adq (h:(!decide ((↑s.length:Int)<=(65536:Int)))=false):s.length<=65536:=by simp only[Bool.not_eq_false',decide_eq_true_eq] at h;omega
theorem Yf (h:(!decide ((↑(aH (aa s)):Int)=(5:Int)))=false):aH (aa s)=5:=by simp only[Bool.not_eq_false',decide_eq_true_eq] at h;omega
theorem OI (h:(!decide (num (aa (aj (aa s) 0))<=(1:Int)))=false):0<=num (aa (aj (aa s) 0))/\num (aa (aj (aa s) 0))<=1:=by simp only[Bool.not_eq_false',decide_eq_true_eq] at h;exact⟨agk _,h⟩
theorem Rk:af (SB.cells [SV.int IntKind.i64 false (num (aa (aj (aa s) (0:Nat)))),SV.str false (aa (aj (aa s) (1:Nat))),SV.str false (aa (aj (aa s) (2:Nat))),SV.str false (aa (aj (aa s) (3:Nat))),SV.aO] (5:Nat) 30)
  (SB.cells [SV.int IntKind.i64 false (wZ (dr s (0:Nat))),SV.str false (aa (dr s (1:Nat))),SV.str false (aa (dr s (2:Nat))),SV.str false (aa (dr s (3:Nat))),SV.aO] (5:Nat) 30):=af.refl _
end
theorem OJ {s:List UInt8}{x:Nat×Nat}(h:decide ((x.1:Int)<(aH (aa (aj (aa s) 4)):Int))=true):x.1<aH (aa (aj (aa s) 4)):=by simp only[decide_eq_true_eq] at h;omega
theorem Vu {s:List UInt8}{x:Nat×Nat}{c:Nat}(_hg:AW (aH (aa (dr s 4))) x)(h:decide ((x.1:Int)<(aH (aa (aj (aa s) 4)):Int))=true)(hc:x.1+1<=c) :
  AW (aH (aa (dr s 4))) (x.1+1,c)/\aH (aa (dr s 4)) - (x.1+1)<aH (aa (dr s 4)) - x.1:=by
 have h1:x.1<aH (aa (dr s 4)):=OJ h;exact⟨⟨h1,hc⟩,by omega⟩
theorem Vt {s:List UInt8}{k c:Nat}:af (SB.rows true (k+1) [aK.str fun j=>if j<k then aa (aj (aa (dr s 4)) j)else lZ [aa (aj (aa (aj (aa s) 4)) k)] (j - k)] false (c*1) 9)
  (SB.rows true (k+1) [aK.str fun i=>aa (aj (aa (dr s 4)) i)] false c 9):=by
 refine Sx.af.vZ rfl (by omega) fun i hi=> ?_;by_cases h:i<k
 ·rw[if_pos h]
 ·have e:i=k:=by omega
  subst e;rw[if_neg h,Nat.sub_self];rfl
theorem LY {l:Bool}{k k':Nat}{n:Int}: ∃(x:Int),af (SB.cells [SV.int IntKind.i64 l n,SV.iface 25 (SV.int IntKind.i64 true (2:Int))] (2:Nat) 276) (SB.cells [SV.int IntKind.i64 false x,SV.iface 25 (SV.int IntKind.i64 true (2:Int))] (2:Nat) 276) /\
  ah (SV.iface 274 (SV.ptr k true k')) (SV.iface 274 (SV.ptr k true k')):=⟨n,af.cells (fun _E=>rfl) rfl,fun _=>rfl⟩
attribute [local irreducible] aj aH dU aa cA aC dD ie cE qF num wZ fG Pp.put Pp.ok dr
theorem Vq {s:List UInt8}{x:Nat×Nat}{k:Nat}(hg:AW (aH (aa (dr s 4))) x)(hi:decide ((x.1:Int)<(aH (aa (aj (aa s) 4)):Int))=false) :
  ∃ c,aH (aa (dr s 4))<=c/\af (SB.rows true x.1 [aK.str fun i=>aa (aj (aa (dr s 4)) i)] false x.2 9) (SB.rows true (aH (aa (dr s 4))) [aK.str fun i=>aa (aj (aa (dr s 4)) i)] false c 9) /\
    ah (SV.agg [SV.int IntKind.i64 false (wZ (dr s (0:Nat))),SV.str false (aa (dr s (1:Nat))),SV.str false (aa (dr s (2:Nat))),SV.str false (aa (dr s (3:Nat))),SV.bI k (1:Nat) true (0:Nat) x.1 x.2]) ((gJ s).sv (SV.bI k (1:Nat) true (0:Nat) (aH (aa (dr s 4))) c)):=by
 have e:=u9 hg hi;have hc:=hg.cap;rw[e] at hc ⊢;exact⟨x.2,hc,af.refl _,by simp only[gJ,Pp.sv];exact fun _=>rfl⟩
set_option maxHeartbeats 4000000 in
theorem TB (s:List UInt8):aq (QZ O0 (HO s) Tryz.f24 [.str false s] (fG s) (Xf s) sB):=by
 refine aq.j7 (alR s) (by delta Fk Bk I6 Ix Sr Er NI cn bf aX aF bC bx JX QJ bh bP sW ak jX cR aI aL bH dG pW ax eX fj cr aS dj fo bn aP c8 eC cU bD fX aW jd iT dZ cq oh fW cI iW gK fJ C4 mP mQ cg gp bl fA dS gj dW dV lN c6 wH dA uA rQ Kj eV iY nC kJ C2 jw pM Gc fk Zy NO CW agU CZ Zt TU C5 T3 jf ZT Uo ahB ahO aah ahU rS;exact rfl) ?_;simp only[Int.toNat_natCast,Nat.zero_add]
 repeat' first
  | exact trivial
  | exact af.refl _
  | exact LY
  | exact ado (by assumption)
  | exact Vs (by assumption)
  | exact Yg (by assumption)
  | exact ajp (by assumption)
  | exact ajt (by assumption)
  | exact ajq (by assumption)
  | exact ajr (by assumption)
  | exact ajs (by assumption)
  | exact ajv (by assumption)
  | refine And.intro ?_ ?_
  | (have:=OJ (x:=y) (by assumption);have:=adn (by assumption) (by assumption);omega)
  | intro (c:Nat) (hc:y.1+1<=c)
  | refine⟨(y.1+1,c),Vu hy (by assumption) hc,by simp,trivial,trivial,trivial,trivial,trivial,⟨trivial,rfl,rfl⟩,trivial,Vt,af.refl _,af.refl _,af.refl _,trivial⟩
  | exact Vq hy (by assumption)
  | intro (_:_=true)
  | intro (_:_=false)
  | intro (_:Int)
  | intro (_:Nat)
  | intro (_:_<=_)
  | (have:=adq (by assumption);omega)
  | exact Nat.lt_of_le_of_lt (wo (by assumption) _) (by omega)
  | (have:=Yf (by assumption);omega)
  | exact Int.le_trans (by omega) (OI (by assumption)).1
  | exact Int.le_trans (OI (by assumption)).2 (by omega)
  | refine⟨(),trivial,trivial,Rk,af.refl _,af.refl _,trivial⟩
  | intro (_:Unit)
  | intro (_:True)
  | refine⟨(0,0),⟨Nat.zero_le _,Nat.zero_le _⟩,rfl,trivial,trivial,trivial,trivial,trivial,rfl,rfl,af.refl _,af.refl _,af.refl _,trivial⟩
  | exact adp (by assumption) (by assumption)
  | exact aju (u9 hy (by assumption)) (by assumption)
  | exact Vr (u9 hy (by assumption)) (by assumption)
  | exact Yh (u9 hy (by assumption)) (by assumption)
  | exact Rl (u9 hy (by assumption)) (by assumption) (by assumption) (by assumption)
  | exact Nat.lt_of_le_of_lt (Vv (by assumption) _ _) (by omega)
  | intro (y:Nat×Nat) (hy:AW _ _)
  | fail
def EU:List SV->Option (Prop×Bool×b7×b7)
 | [.str false s]=>some (True,fG s,Xf s,sB)
 | _=>none
theorem agz:Fv Tryz.prog 24 (Am EU):=by
 refine W8 (fn:=Tryz.f24) Tryz.func24 (by kernel_rfl) (by kernel_rfl) ?_;intro args p b a q h hp;unfold EU at h;split at h
 ·rename_i s;injection h with h;injection h with h1 h;injection h with h2 h;injection h with h3 h4;subst h1;subst h2;subst h3;subst h4;refine⟨O0,HO s,100,aaZ,bO,rfl,(fun c=>⟨rfl,rfl,fun k=>by simp[Pp.sv,SV.wf,SV.gM,Nat.blt_eq],fun E E' k k' h=> ?_⟩),A6,TB s⟩;simp only[Pp.sv,SV.val,SV.vals,SB.no] at h ⊢;cases hz:Nat.beq (aH (aa (dr s 4))) 0 with
  | true=>simp
  | false=>rw[hz] at h;rw[h rfl]
 ·cases h
noncomputable def apS:List (FuncId×(PK->PT)):=(24,Am EU)::anp
theorem aj8: ∀ e∈ apS,Fv Tryz.prog e.1 e.2:=fun e he=>by
 rcases List.mem_cons.1 he with rfl | he
 ·exact agz
 ·exact YJ e he
noncomputable def O1:de:=Lh HX apS
theorem aa0:cv Tryz.prog O1:=Li (kR II 20) aj8
noncomputable def amN (cfg:gF)(C:de)(f:Nat)(fn:Func)(args:List SV)(a:b7):VC:=UQ Tryz.prog cfg C [] (cfg.aR f) cfg.rounds fn args [] 0 (fun v m _=>a.fit v m)
end Go.Proofs.YtpaaiebohjjieaaGreatDoor
namespace Go.Proofs.YtpaaiebohjjieaaGreatDoor
open Go Sx
set_option maxRecDepth 20000
section
variable (n : Nat) (s : List UInt8)
abbrev Zn:=gj (bC (wZ (dr s 0))) (aF (ax (jf 1 s)) (ax (jf 2 s)) (aF (ax (jf 3 s)) (fX 2 1 (aH (jf 4 s)) n) List.nil))
end
theorem ape (s:List UInt8):VC.holds (amN RA O1 7 Tryz.f7 [.str false s] (My s))=(aS True (∀(a:Nat),aX (rS s) a (Bk (fG s) (∃(b:Nat),gK (rS s) b (af (eC (rS s) a 9 (bD (CW s))) (eC (rS s) b 9 (bD (CW s)))) (jg (Zn a s) (fV (Zn b s)))) (jg (Zn a s) (cQ Uo vT List.nil)))) (∀(_:Int),dY (∃(a:Nat),bT (rS s) a False) (cQ Uo vT List.nil) (cQ Qs vT List.nil) (fG s)) (fG s)):=by kernel_rfl
theorem ae2 (s:List UInt8):(My s).Ok:=fun b=>by
 cases b with
 | false=>exact rfl
 | true =>
   refine fun c=>⟨rfl,rfl,fun k=>by simp[Pp.sv,SV.wf,SV.gM,Nat.blt_eq],fun E E' k k' h=> ?_⟩
   simp only[Pp.sv,SV.val,SV.vals,SB.no] at h ⊢;cases hz:Nat.beq (aH (aa (dr s 4))) 0 with
   | true=>simp
   | false=>rw[hz] at h;rw[h rfl]
attribute [local irreducible] aj aH dU aa cA aC dD wZ fG dr
theorem Xb (s:List UInt8):aq (amN RA O1 7 Tryz.f7 [.str false s] (My s)):=by
 refine aq.j7 (ape s) (by delta Bk cn aX aF bC bx ak k6 cY gi ax vT aS dY jg cQ fV eC cU bD fX bT gK gj dA C2 CW jf Uo rS Zn;exact rfl) ?_;cases h:fG s with
 | true=>exact⟨trivial,fun _ x hx=>⟨fun _=>⟨x,hx,by first | exact af.refl _ | (simp only[gJ];exact af.refl _),by first | exact fun _=>rfl | (simp only[gJ,Pp.sv];exact fun _=>rfl)⟩,(fun h=>by cases h)⟩,(fun h=>by cases h)⟩
 | false=>exact⟨trivial,(fun h=>by cases h),fun _ _=>⟨(fun h=>by cases h),fun _ _=>rfl⟩⟩
def xW:List SV->Option (Prop×b7)
 | [.str false s]=>some (True,My s)
 | _=>none
theorem Qy:au Tryz.prog 7 (bW xW):=by
 refine ajU (fn:=Tryz.f7) Tryz.func7 (by kernel_rfl) (by kernel_rfl) ?_;intro args p a h hp;unfold xW at h;split at h
 ·rename_i s;injection h with h;injection h with h1 h2;subst h1;subst h2;exact⟨RA,O1,II,aa0,rfl,ae2 s,Xb s⟩
 ·cases h
noncomputable def afL:List (FuncId×PT):=(7,bW xW)::WK
theorem abK:aU Tryz.prog (fun f=>aA f afL):=.cons Qy (bX _) MX
end Go.Proofs.YtpaaiebohjjieaaGreatDoor
namespace Go.Proofs.YtpaaiebohjjieaaGreatDoor
open Go Sx
set_option maxRecDepth 20000
def node7 (f:Nat->List UInt8)(i:Nat):Bool:=!decide ((700:Int)<((f i).length:Int))
def aqY (n:Nat)(f:Nat->List UInt8):Bool:=decide ((n:Int)<=45)&&(List.range n).all (node7 f)
structure aqP (n:Nat)(t:Nat->Bool)(i:Nat):Prop where
 up:zW n t i
 le:i<=46
def Pp.few (x:Pp):Bool:=aqY x.n x.f&&decide ((x.root.length:Int)<=50)&&decide ((x.key.length:Int)<=50)&&decide ((x.to.length:Int)<=50)
noncomputable def afQ:List (FuncId×PT):=afL
theorem abP:aU Tryz.prog (fun f=>aA f afQ):=abK
def Pp.wy (x:Pp)(z:Bool)(o c:Nat):Wy:=⟨x.root,x.n,x.f,z,o,c,0⟩
def Pp.sp (x:Pp)(z:Bool)(o c:Nat):Sp:=⟨x.key,x.to,x.n,x.f,z,o,c,fun _=>false,fun _=>0⟩
def Pp.Wq (x:Pp)(w:Sp)(y:Wy):Int:=bif x.ok then(bif(bif decide (x.k=1)then(eE x.root w).isSome else(eB y (ay x.key)).isSome)then 0 else 10)else 1
def Pp.PY (x:Pp)(w:Sp)(y:Wy):Bool:=x.ok&&(bif decide (x.k=1)then(eE x.root w).isSome else((eB y (ay x.key)).isSome&&pvB (eB y (ay x.key))))
def Pp.jl (x:Pp)(w:Sp)(y:Wy):List (List UInt8×List UInt8):=bif decide (x.k=1)then DU x.root w else [(x.key,pvV (eB y (ay x.key)))]
def xK (x:Pp)(w:Sp)(y:Wy):b7:=.fork (x.PY w y) fun b=>match b with
 | true=>.all Nat fun c=>.req ((x.jl w y).length<=c) (.new (fun k=>.bL [.bI k 2 true 0 (x.jl w y).length c,.int .i64 true 0]) (.rows true (x.jl w y).length [gN (x.jl w y),gO (x.jl w y)] false (c*2) 38))
 | false=>.ret (.bL [.aO,.int .i64 false (x.Wq w y)])
theorem af.entry {a b:List UInt8}{ty:TypeId}{tot:Nat}(ht:tot=2):af (.cells [.str false a,.str false b] 2 ty) (.rows true [(a,b)].length [gN [(a,b)],gO [(a,b)]] false tot ty):=by
 subst ht;refine af.of rfl rfl fun _=>⟨rfl,fun E o ⟨c,fr,h1,h2,h3,h4⟩=>⟨c,fr,h1,fun _=>h2,by rw[h4];exact Nat.le_refl _,h4,fun i k col hi hk=> ?_⟩,id⟩
 have hi:i<1:=hi;obtain rfl:i=0:=by omega
 match k,hk with
 | 0,hk=>injection hk with hk;subst hk;exact h3 0 _ rfl
 | 1,hk=>injection hk with hk;subst hk;exact h3 1 _ rfl
noncomputable def afH:List (FuncId×PT):=(25,bE shP vR)::(26,bE alq zM)::(27,bE shW CQ)::afQ
theorem abG:aU Tryz.prog (fun f=>aA f afH):=.cons Nx (bJ _ _) (.cons U3 (bJ _ _) (.cons Zi (bJ _ _) abP))
noncomputable def ad1:gF:={cF with cM:=fun f=>aA f afH}
theorem anI:Sx.Good Tryz.prog ad1:=.of bO abG bt
section
variable (n m : Nat) (x : Bool) (y : Pp)
abbrev NC:=Sp.mk y.key y.to y.n (fun a=>y.f a) x (n+0) m (fun _=>false) (fun _=>0)
abbrev JR:=qw (bC (Pp.Wq y (Pp.sp y x n m) (Pp.wy y x n m)))
abbrev wC:=Pp.jl y (Pp.sp y x n m) (Pp.wy y x n m)
abbrev J0:=Pp.PY y (Pp.sp y x n m) (Pp.wy y x n m)
abbrev ZW:=eB (Wy.mk y.root y.n (x5 y) x (n+0) m 0) (ay y.key)
abbrev Um:=∃(a:Nat),bT (List.length (wC n m x y)) a False
abbrev Ur:=List.length (DU y.root (NC n m x y))
end
theorem alN (x:Pp)(z:Bool)(o c:Nat)(key:Option Nat):VC.holds (i7 ad1 8 Tryz.f8 [x.sv (.cC 0 1 z o 0 x.n c)] [yG z o c x key] (xK x (x.sp z o c) (x.wy z o c)))=(cH (c6 (c6 (ak True True (Up o z x)))) (dY (Um o c z x) (qw (bx 1)) (JR o c z x) (J0 o c z x)) (cS (aS (kG True Aw (ak (Er z) (Er o) (cI x.n x.n))/\Sp.th (NC o c z x)) (∀(a:Nat),aX (Ur o c z x) a (Bk (J0 o c z x) (∃(b:Nat),gK (List.length (wC o c z x)) b (af (cq (Ur o c z x) a 2 38 (gN (DU x.root (NC o c z x))::cB (gO (DU x.root (NC o c z x))))) (cq (List.length (wC o c z x)) b 2 38 (gN (wC o c z x)::cB (gO (wC o c z x))))) (jg (fX 2 2 (Ur o c z x) a) (fV (fX 2 2 (List.length (wC o c z x)) b)))) (jg (fX 2 2 (Ur o c z x) a) (JR o c z x)))) (dY (Um o c z x) (qw (bx 10)) (JR o c z x) (J0 o c z x)) (Option.isSome (eE x.root (NC o c z x)))) (aS (ak (Up o z x) (Wy.th (Wy.mk x.root x.n (x5 x) z (o+0) c 0)) (C3 x<1099511627776)) (bn (Bk (J0 o c z x) (Um o c z x) (jg SV.aO (JR o c z x))) (Bk (J0 o c z x) (∃(a:Nat),gK (List.length (wC o c z x)) a (bH 2 (cq (List.length (wC o c z x)) a 2 38 (gN (wC o c z x)::cB (gO (wC o c z x)))) (aF (ax x.key) (ax (pvV (ZW o c z x))) List.nil) 38) (jg (SV.slc 3 0 1 true 1) (fV (fX 3 2 (List.length (wC o c z x)) a)))) (jg (SV.slc 3 0 1 true 1) (JR o c z x))) (pvB (ZW o c z x))) (dY (Um o c z x) (qw (bx 10)) (JR o c z x) (J0 o c z x)) (Option.isSome (ZW o c z x))) x.k 1) (Pp.ok (Gg x))):=by kernel_rfl
end Go.Proofs.YtpaaiebohjjieaaGreatDoor
