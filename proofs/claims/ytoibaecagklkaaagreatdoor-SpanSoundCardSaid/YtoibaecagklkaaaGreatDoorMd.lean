/-
  The framework's eighth part: operations that make or change memory, and calls.
-/
import Derived.Test.YtoibaecagklkaaaGreatDoorMc
namespace Go.Proofs.YtoibaecagklkaaaGreatDoor.Sx
open Go
noncomputable section
def Fr (ro:Option Nat):Fence:={Fence.wide with round:=ro}
theorem zA {ro:Option Nat}{n:Nat}{P:Program}{f:FuncId}{args:Array Value}{w:World}{R:Ending->World->Prop}:CallsIn (Fr ro) n P f args w R↔Calls P f args w R:=by
 rw[← callsIn_wide (n:=n)]
 cases ro with
 | none=>exact Iff.rfl
 | some l=>exact⟨CallsIn.outOfRound,CallsIn.inRound l⟩
def Out (P:Program)(R:Value->World->Prop)(x:Result Next)(RP:List PanicEntry->World->Prop:=fun _ _=>False):Prop:=match x with
 | .ok (.value v) w=>R v w
 | .ok .skip w=>R undef w
 | .ok (.enter f args) w=>Calls P f args w fun e w'=>(∃ v,e=.returned v/\R v w')∨∃ ch,e=.panicked ch/\RP ch w'
 | .ok (.round l f tmps assign body) w=>RoundIn Fence.wide 0 P l f tmps assign body w fun e w'=>∃ v,e=.returned v/\R v w'
 | .halt (.panic v) w=>RP [{v,recovered:=false}] w
 | _=>False
theorem yA (ro:Option Nat){P:Program}{o:Oper}{a:Act}{w:World}: ∀ f,o.about P w a.eval=some f->(Fr ro).fn f:=fun _ _=>trivial
def nD (o:Oper):Bool:=match o.op with
 | .defer _=>false
 | _=>true
theorem Rc {ro:Option Nat}{o:Oper}(h:nD o=true)(ρ:Operand->Value):o.semAt ro ρ=execOp ρ o:=by
 cases ro with
 | none=>rfl
 | some l =>
   unfold nD at h
   unfold Oper.semAt
   cases ho:o.op<;>rw[ho] at h<;>first | rfl | cases h
theorem Out.wp {P:Program}{ro:Option Nat}{o:Oper}(hd:nD o=true){a:Act}{w:World}{R:Value->World->Prop}{RP:List PanicEntry->World->Prop}{Q:Exit->Act->World->Prop}{K:Act->World->Prop}
  (h:Out P R ((execOp a.eval o).run P w) RP) (hk: ∀ r w',R r w'->K (a.put o.dst r) w') (hp: ∀ ch w',RP ch w'->Q (.panic ch) a w'):o.wpIn (Fr ro) 0 P a w K Q:=by
 unfold Oper.wpIn
 refine⟨yA ro,?_⟩
 have hs:o.semAt (Fr ro).round a.eval=execOp a.eval o:=Rc (ro:=ro) hd _
 rw[hs]
 generalize (execOp a.eval o).run P w=x at h
 cases x with
 | ok n w' =>
   cases n<;>simp only[Out] at h<;>simp only[Oper.uponIn]
   case value v=>exact hk _ _ h
   case skip=>exact hk _ _ h
   case enter f args =>
    refine⟨fun h=>(by cases ro<;>cases h),zA.2 (Calls.mono h fun e w'' he=> ?_)⟩
    rcases he with ⟨v,rfl,hr⟩ | ⟨ch,rfl,hr⟩
    ·exact hk _ _ hr
    ·exact hp _ _ hr
   case round l f tmps assign body =>
    refine⟨fun h=>(by cases ro<;>cases h),?_⟩
    have h2:RoundIn (Fr ro) 0 P l f tmps assign body w' fun e w''=>∃ v,e=.returned v/\R v w'':=by cases ro<;>exact h
    refine h2.mono fun e w'' he=> ?_
    obtain⟨v,rfl,hr⟩:=he
    exact hk _ _ hr
 | halt x w' =>
   cases x<;>simp only[Out] at h
   simp only[Oper.uponIn]
   exact hp _ _ h
theorem Out.mono {P:Program}{R R':Value->World->Prop}{RP RP':List PanicEntry->World->Prop}{x:Result Next}(h:Out P R x RP)(hr: ∀ v w,R v w->R' v w)(hp: ∀ c w,RP c w->RP' c w):Out P R' x RP':=by
 unfold Out at *
 split at h<;>first
  | exact hr _ _ h
  | exact Calls.mono h fun e w' he=>he.imp (fun⟨v,he,hv⟩=>⟨v,he,hr _ _ hv⟩) (fun⟨c,he,hv⟩=>⟨c,he,hp _ _ hv⟩)
  | exact RoundIn.mono h fun e w' ⟨v,he,hv⟩=>⟨v,he,hr _ _ hv⟩
  | exact hp _ _ h
  | exact h.elim
theorem Out.qD {P:Program}{R:Value->World->Prop}{RP:List PanicEntry->World->Prop}{x:Result Next}(h:Out P R x):Out P R x RP:=h.mono (fun _ _ h=>h) (fun _ _ h=>h.elim)
abbrev KL:=Option SV->Mem->Nat->VC
def bg (K:KL)(Γ:aY)(E:Nat->Nat)(nx:Nat)(r:Value)(w':World):Prop :=
 ∃ E' sv m' nx',(∀ k,k<nx->E' k=E k)/\nx<=nx'/\(∀ v,sv=some v->r=v.val E')/\aJ Γ E' m' nx' w'/\(K sv m' nx').holds
abbrev PK:=SV->Mem->Nat->VC
def iT (KP:PK)(Γ:aY)(E:Nat->Nat)(nx:Nat)(ch:List PanicEntry)(w':World):Prop :=
 ∃ E' v m' nx',(∀ k,k<nx->E' k=E k)/\nx<=nx'/\ch=[{v:=v.val E',recovered:=false}]/\v.wf nx'=true/\aJ Γ E' m' nx' w'/\(KP v m' nx').holds
theorem iT.weaken {KP:PK}{Γ:aY}{E E':Nat->Nat}{nx nx':Nat}{ch:List PanicEntry}{w:World}(h:iT KP Γ E' nx' ch w)(hE: ∀ k,k<nx->E' k=E k)(hn:nx<=nx'):iT KP Γ E nx ch w:=by
 obtain⟨E'',v,m,n,h1,h2,h3,h4,h5,h6⟩:=h
 exact⟨E'',v,m,n,fun k hk=>(h1 k (Nat.lt_of_lt_of_le hk hn)).trans (hE k hk),Nat.le_trans hn h2,h3,h4,h5,h6⟩
theorem bg.we {K:KL}{Γ:aY}{E:Nat->Nat}{nx:Nat}{r:Value}{w:World}(h:bg K Γ.own E nx r w):bg K Γ E nx r w:=by
 obtain⟨E',sv,m',nx',h1,h2,h3,h4,h5⟩:=h
 exact⟨E',sv,m',nx',h1,h2,h3,h4.we,h5⟩
theorem iT.we {KP:PK}{Γ:aY}{E:Nat->Nat}{nx:Nat}{c:List PanicEntry}{w:World}(h:iT KP Γ.own E nx c w):iT KP Γ E nx c w:=by
 obtain⟨E',v,m',nx',h1,h2,h3,h4,h5,h6⟩:=h
 exact⟨E',v,m',nx',h1,h2,h3,h4,h5.we,h6⟩
def WA (nx:Nat)(σ:Operand->Option SV):Prop:=∀ x v,σ x=some v->v.wf nx=true
def nW (P:Program)(Γ:aY)(σ:Operand->Option SV)(m:Mem)(nx:Nat)(o:Oper)(t:KL->VC):Prop :=
 ∀ K E w ρ,(t K).holds->aJ Γ E m nx w->Mem.wf nx m=true->WA nx σ->Reads E σ ρ->Out P (bg K Γ E nx) ((execOp ρ o).run P w)
section
variable {P : Program} {Γ : aY} {σ : Operand -> Option SV} {m : Mem} {nx : Nat} {o : Oper}
theorem nW.fail (why:String):nW P Γ σ m nx o (fun _=>.fail why):=fun _ _ _ _ h=>h.elim
theorem nW.need {x:Operand}{t:SV->KL->VC}(h: ∀ v,σ x=some v->nW P Γ σ m nx o (t v)):nW P Γ σ m nx o (fun K=>need (σ x) (fun v=>t v K)):=by
 unfold Sx.need
 cases hx:σ x with
 | none=>exact nW.fail _
 | some v=>exact h v hx
theorem bg.alloc {K:KL}{Γ:aY}{E:Nat->Nat}{w:World}(hs:aJ Γ E m nx w)(hw:Mem.wf nx m=true){cs:List SV}{tot:Nat}{ty:TypeId}
  {sv:SV} {c:Array Value} (hcs:SV.ep nx cs=true) (hc: ∀(i:Nat) (v:SV),cs[i]?=some v->c[i]?=some (v.val E)) (hm:c.size=tot)
  (hk:(K (some sv) ((nx,.cells cs tot ty)::m) (nx+1)).holds) {r:Value} (hr:r=sv.val (fun k=>if k=nx then w.heap.size else E k)) :
  bg K Γ E nx r {w with heap:=w.heap.push (.cells c ty)}:=by
 have hE: ∀ k,k<nx->(fun k=>if k=nx then w.heap.size else E k) k=E k:=fun k hk=>by simp[Nat.ne_of_lt hk]
 refine⟨_,some sv,_,_,hE,Nat.le_succ _,fun v hv=>by injection hv with hv;subst hv;exact hr,hs.alloc hw (B:=.cells cs tot ty) ?_,hk⟩
 refine⟨c,(0,0),rfl,fun i=>.inr (by simp),fun i v hv=> ?_,hm⟩
 rw[SV.val_congr hE v (SV.qh hcs hv)];exact hc i v hv
theorem zh {nx:Nat}: ∀ {l:List Value} {xs:List SV},SV.kR l=some xs->SV.ep nx xs=true
 | [],xs,h=>by simp[SV.kR] at h;subst h;rfl
 | v::r,xs,h=>by
   simp only[SV.kR] at h
   split at h
   ·rename_i x l' hx hl
    injection h with h;subst h
    simp only[SV.ep,zh hl,Bool.and_true]
    unfold SV.rF at hx
    split at hx<;>first | (injection hx with hx;subst hx;rfl) | cases hx
   ·cases h
theorem yK {nx:Nat}{v:Value}{x:SV}(h:SV.ofConst v=some x):x.wf nx=true:=by
 unfold SV.ofConst at h
 split at h
 ·split at h
  ·rename_i l hl;injection h with h;subst h;exact zh hl
  ·cases h
 ·unfold SV.rF at h
  split at h<;>first | (injection h with h;subst h;rfl) | cases h
theorem vA {nx:Nat}{t:TypeId}{v:SV}(h:fA P t=some v):v.wf nx=true:=by
 unfold fA at h
 split at h
 ·split at h
  ·exact yK h
  ·cases h
 ·cases h
theorem mC {nx:Nat}{v:SV}(h:v.wf nx=true):SV.ep nx v.cells=true:=by
 cases v<;>simp_all [SV.cells,SV.wf,SV.ep]
theorem tX {E:Nat->Nat}{l:List SV}{c:Array Value}(hc:c.toList=l.map (SV.val E)): ∀(i:Nat) (v:SV),l[i]?=some v->c[i]?=some (v.val E):=by
 intro i v hv
 rw[← Array.getElem?_toList,hc,List.getElem?_map,hv];rfl
theorem oa {E:Nat->Nat}{l:List SV}{c:Array Value}(hc:c.toList=l.map (SV.val E)):c.size=l.length:=by
 rw[← Array.length_toList,hc,List.length_map]
def CO (ty:TypeId)(v:SV)(m:Mem)(nx:Nat)(K:KL):VC :=
 match v.plain with
 | true=>K (some (.ptr nx true 0)) ((nx,.cells v.cells v.cells.length ty)::m) (nx+1)
 | false=>.fail "new: a value that is not known"
def NL (elem:TypeId)(cs:List SV)(n:Nat)(m:Mem)(nx:Nat)(K:KL):VC :=
 K (some (.slc nx 0 n true n)) ((nx,.cells cs cs.length elem)::m) (nx+1)
theorem rJ {w:World}{t:TypeId}{v:Value}:(newVar t v).run P w=.ok ⟨w.heap.size,0,none⟩ {w with heap:=w.heap.push (.cells v.cells t)}:=by
 simp[newVar,newRow]
theorem Lv {dst:Option Tmp}{t type:TypeId}{pos:String}{after:Array Edge}{guard:Option (Nat×Bool)} :
  nW P Γ σ m nx ⟨dst,.alloc t,type,pos,after,guard⟩ (fun K=>match fA P t with | some z=>CO t z m nx K | none=>.fail "alloc"):=by
 intro K E w ρ h hs hw hσ hr
 split at h
 ·rename_i z hz
  unfold CO at h
  split at h
  ·rename_i hp
   simp only[execOp,Instr.alloc,Sem.run_bind,cX (E:=E) hz,Result.andThen_ok,rJ,Sem.run_pure,Out]
   exact bg.alloc hs hw (mC (vA hz)) (tX (by rw[SV.dV hp])) (oa (E:=E) (by rw[SV.dV hp])) h (by simp[SV.val])
  ·exact h.elim
 ·exact h.elim
theorem Sw {dst:Option Tmp}{t type:TypeId}{pos:String}{after:Array Edge}{guard:Option (Nat×Bool)}{x:Operand} :
  nW P Γ σ m nx ⟨dst,.box t x,type,pos,after,guard⟩ (fun K=>need (σ x) (fun v=>CO t v m nx K)):=by
 refine nW.need fun v hv=> ?_
 intro K E w ρ h hs hw hσ hr
 unfold CO at h
 split at h
 ·rename_i hp
  simp only[execOp,Instr.box,Sem.run_bind,Result.andThen_ok,rJ,Sem.run_pure,Out]
  exact bg.alloc hs hw (mC (hσ _ _ hv)) (tX (by rw[hr _ _ hv,SV.dV hp])) (oa (E:=E) (by rw[hr _ _ hv,SV.dV hp])) h (by simp[SV.val])
 ·exact h.elim
def times (n:Nat)(zs:List SV):List SV:=match n with
 | 0=>[]
 | n+1=>zs++times n zs
theorem oM {E:Nat->Nat}{zs:List SV}{z:Array Value}(hz:z.toList=zs.map (SV.val E))(hne:z.size≠0): ∀ n:Nat,
  ((Array.range (n*z.size)).map fun i=>z[i% z.size]!).toList=(times n zs).map (SV.val E)
 | 0=>by simp[times]
 | n+1=>by
   have ih:=oM hz hne n
   simp only[Array.toList_map,Array.toList_range] at ih ⊢
   rw[show(n+1)*z.size=z.size+n*z.size by rw[Nat.add_mul];omega,List.range_add,List.map_append,times,List.map_append,← ih]
   congr 1
   ·rw[← hz]
    apply List.ext_getElem?
    intro i
    rw[List.getElem?_map]
    by_cases hi:i<z.size
    ·rw[List.getElem?_range hi]
     simp[Nat.mod_eq_of_lt hi,hi]
    ·rw[List.getElem?_eq_none (by simp;omega),List.getElem?_eq_none (by simp;omega)];rfl
   ·rw[List.map_map]
    apply List.map_congr_left
    intro i _
    simp
theorem zI {nx:Nat}{zs:List SV}(h:SV.ep nx zs=true): ∀ n,SV.ep nx (times n zs)=true
 | 0=>rfl
 | n+1=>by
   have ih:=zI h n
   simp only[times]
   have app: ∀ {a b:List SV},SV.ep nx a=true->SV.ep nx b=true->SV.ep nx (a++b)=true:=by
    intro a
    induction a with
    | nil=>intro b _ hb;exact hb
    | cons x r ihr=>intro b ha hb;simp only[SV.ep,Bool.and_eq_true,List.cons_append] at ha ⊢;exact⟨ha.1,ihr ha.2 hb⟩
   exact app h ih
theorem dK {nx:Nat}: ∀ {a b:List SV},SV.ep nx a=true->SV.ep nx b=true->SV.ep nx (a++b)=true
 | [],_,_,hb=>hb
 | x::r,b,ha,hb=>by simp only[SV.ep,Bool.and_eq_true,List.cons_append] at ha ⊢;exact⟨ha.1,dK ha.2 hb⟩
theorem Jx {nx:Nat}: ∀ {a:List SV} {i:Nat} {v:SV},SV.ep nx a=true->v.wf nx=true->SV.ep nx (a.set i v)=true
 | [],_,_,_,_=>rfl
 | x::r,0,v,ha,hv=>by simp only[SV.ep,Bool.and_eq_true,List.set_cons_zero] at ha ⊢;exact⟨hv,ha.2⟩
 | x::r,i+1,v,ha,hv=>by simp only[SV.ep,Bool.and_eq_true,List.set_cons_succ] at ha ⊢;exact⟨ha.1,Jx ha.2 hv⟩
theorem td {nx:Nat}: ∀ {vs cs:List SV} {off:Nat},SV.ep nx cs=true->SV.ep nx vs=true->SV.ep nx (aZ cs off vs)=true
 | [],_,_,hc,_=>hc
 | v::r,cs,off,hc,hv=>by
   simp only[SV.ep,Bool.and_eq_true] at hv
   rw[aZ]
   exact td (Jx hc hv.1) hv.2
theorem Ep {nx:Nat}{place:Nat->Option (Nat×Nat)}: ∀ {parts:List (Nat×SV)} {cells out:List SV},qJ place cells parts=some out->SV.ep nx cells=true ->
  (∀ p∈ parts,p.2.wf nx=true)->SV.ep nx out=true
 | [],cells,out,h,hc,_=>by simp[qJ] at h;subst h;exact hc
 | (i,v)::rest,cells,out,h,hc,hp=>by
   simp only[qJ] at h
   split at h
   ·cases h
   ·split at h
    ·exact Ep h (td hc (mC (hp (i,v) (by simp)))) (fun p hm=>hp p (by simp[hm]))
    ·cases h
theorem zX {nx:Nat}{σ:Operand->Option SV}(hσ:WA nx σ): ∀ {ps:List (Nat×Operand)} {l:List (Nat×SV)},partsOf σ ps=some l->∀ p∈ l,p.2.wf nx=true
 | [],l,h,p,hp=>by simp[partsOf] at h;subst h;cases hp
 | (i,x)::r,l,h,p,hp=>by
   simp only[partsOf] at h
   split at h
   ·rename_i v l' hv hl
    injection h with h;subst h
    cases hp with
    | head=>exact hσ x v hv
    | tail _ hp=>exact zX hσ hl p hp
   ·cases h
def jo (P:Program)(σ:Operand->Option SV)(t:TypeId)(len:Nat)(parts:List (Nat×Operand))(m:Mem)(nx:Nat)(K:KL):VC :=
 match P.underlying t with
 | some (.slice e)=>(match sz P e,fA P e,partsOf σ parts with
   | some s,some z,some ps=>if z.plain&&decide (z.cells.length=s)&&decide (len*s<=16777216)&&decide (s≠0)then(match qJ (fun i=>some (i*s,s)) (times len z.cells) ps with
      | some out=>NL e out len m nx K
      | none=>.fail "buildSlice: fill")else .fail "buildSlice: size"
   | _,_,_=>.fail "buildSlice")
 | _=>.fail "buildSlice"
theorem Ac {dst:Option Tmp}{t type:TypeId}{pos:String}{after:Array Edge}{guard:Option (Nat×Bool)}{len:Nat}{parts:Array (Nat×Operand)} :
  nW P Γ σ m nx ⟨dst,.buildSlice t len parts,type,pos,after,guard⟩ (jo P σ t len parts.toList m nx):=by
 intro K E w ρ h hs hw hσ hr
 unfold jo at h
 split at h
 ·rename_i e hd
  split at h
  ·rename_i s z ps hsz hz hp
   split at h
   ·rename_i hc
    simp only[Bool.and_eq_true,decide_eq_true_eq] at hc
    obtain⟨⟨⟨h1,h2⟩,h3⟩,h4⟩:=hc
    split at h
    ·rename_i out hf
     unfold NL at h
     have hzc:=SV.dV (E:=E) h1
     have hzs:(z.val E).cells.size=s:=by rw[hzc];simp[h2]
     have hfill:=qa (E:=E) ps _ out hf
     have hpp:(parts.map fun(x:Nat×Operand)=>(x.1,ρ x.2)).toList=ps.map fun p=>(p.1,p.2.val E):=by rw[← kT hr hp];simp
     have fin: ∀ z':Array Value,((Array.range (len*s)).map fun i=>z'[i% z'.size]!)=(SV.vals E (times len z.cells)).toArray ->
       Out P (bg K Γ E nx) ((match Instr.fill (fun i=>some (i*s,s)) ((Array.range (len*s)).map fun i=>z'[i% z'.size]!) (parts.map fun(x:Nat×Operand)=>(x.1,ρ x.2)).toList with
        | some cells=>do
          let r ← newRow e cells
          pure (Value.slice (some r) len len)
        | _=>stuck "buildSlice: a part of the wrong size" : Sem Value).run P w |>.andThen fun a w'=>(pure (Next.value a):Sem Next).run P w'):=by
      intro z' hz'
      rw[hz',hpp,hfill]
      simp only[Result.andThen_ok,Sem.run_bind,newRow,run_newObj,Sem.run_pure,Out]
      exact bg.alloc hs hw (Ep hf (zI (mC (vA hz)) len) (zX hσ hp)) (tX (by simp[SV.bp])) (oa (E:=E) (by simp[SV.bp])) h (by simp[SV.val])
     simp only[execOp,Instr.buildSlice,Sem.run_bind,aC hd,Result.andThen_ok,bK hsz,Sem.run_ite]
     rw[if_neg (by omega)]
     by_cases h0:len*s=0
     ·rw[if_pos h0]
      simp only[Sem.run_pure,Result.andThen_ok]
      refine fin #[] ?_
      have:len=0:=by rcases Nat.mul_eq_zero.1 h0 with h | h;exact h;exact absurd h h4
      subst this;simp[times,SV.vals]
     ·rw[if_neg h0]
      simp only[cX (E:=E) hz,Sem.run_pure,Result.andThen_ok]
      refine fin _ ?_
      apply Array.ext'
      have:=oM (E:=E) (zs:=z.cells) (z:=(z.val E).cells) (by rw[hzc]) (by rw[hzs];exact h4) len
      rw[hzs] at this
      rw[SV.bp]
      simpa [hzs] using this
    ·exact h.elim
   ·exact h.elim
  ·exact h.elim
 ·exact h.elim
end
theorem I1 {w:World}{b o:Nat}{v:Value}{c:Array Value}{ty:TypeId}{fr:Nat×Nat}(h:w.heap[b]?=some (.cells c ty fr)) :
  w.setCell ⟨b,o,none⟩ v={w with heap:=w.heap.setIfInBounds b (.cells (c.setIfInBounds o v) ty fr)}:=by
 unfold World.setCell
 congr 1
 apply Array.ext_getElem?
 intro i
 rw[Array.getElem?_modify,Array.getElem?_setIfInBounds]
 by_cases e:b=i
 ·subst e
  obtain⟨hlt,he⟩:=Array.getElem?_eq_some_iff.1 h
  simp[hlt,he]
 ·simp[e]
def dB (c:Array Value)(off:Nat):List Value->Array Value
 | []=>c
 | v::r=>dB (c.setIfInBounds off v) (off+1) r
theorem fq: ∀(vs:List Value) (c:Array Value) (off:Nat),(dB c off vs).toList=aZ c.toList off vs
 | [],_,_=>rfl
 | v::r,c,off=>by rw[dB,fq r,aZ];simp
theorem bA: ∀(vs:List Value) (c:Array Value) (off:Nat),(dB c off vs).size=c.size
 | [],_,_=>rfl
 | v::r,c,off=>by rw[dB,bA r];simp
theorem cJ {P:Program}{b o:Nat}{ty:TypeId}{fr:Nat×Nat}: ∀(vs:List Value) (i:Nat) (w:World) (c:Array Value),w.heap[b]?=some (.cells c ty fr) ->
  (∀ j,c.size<=j∨¬ (fr.1<=j/\j<fr.2))->o+i+vs.length<=c.size->(∀ v∈ vs,v.oneCell'=true) ->
  (storeCells ⟨b,o,none⟩ vs i).run P w=.ok () {w with heap:=w.heap.setIfInBounds b (.cells (dB c (o+i) vs) ty fr)}
 | [],i,w,c,h,_,_,_=>by
   simp only[storeCells,Sem.run_pure,dB]
   congr 1
   have:w.heap.setIfInBounds b (.cells c ty fr)=w.heap:=by
    apply Array.ext_getElem?
    intro j
    rw[Array.getElem?_setIfInBounds]
    by_cases e:b=j
    ·subst e
     obtain⟨hlt,he⟩:=Array.getElem?_eq_some_iff.1 h
     simp[hlt,he]
    ·simp[e]
   rw[this]
 | v::r,i,w,c,h,hf,hl,hv=>by
   have hv0:=hv v (by simp)
   simp only[List.length_cons] at hl
   have hlt:o+i<c.size:=by omega
   have hfz:w.frozen? ⟨b,o+i,none⟩=false:=by
    simp only[World.frozen?,h]
    have:=hf (o+i)
    obtain⟨lo,hi⟩:=fr
    simp only at this ⊢
    rcases this with h1 | h1
    ·omega
    ·simp only[Bool.and_eq_false_iff,decide_eq_false_iff_not]
     by_cases h2:lo<=o+i
     ·right;exact fun h3=>h1 ⟨h2,h3⟩
     ·left;exact h2
   have hc:w.cell? ⟨b,o+i,none⟩=some c[o+i]:=by rw[cell_of h,Array.getElem?_eq_getElem hlt]
   simp only[storeCells,Sem.run_bind,ck,run_store P w ⟨b,o+i,none⟩ v .plain hv0,hc,hfz,Bool.false_eq_true,if_false,Result.andThen_ok]
   rw[I1 h]
   have hblt:=(Array.getElem?_eq_some_iff.1 h).1
   rw[cJ (ty:=ty) (fr:=fr) r (i+1) _ (c.setIfInBounds (o+i) v) (by simp[hblt]) (by simpa using hf) (by simp;omega) (fun u hu=>hv u (by simp[hu]))]
   congr 1
   simp only[dB,Array.setIfInBounds_setIfInBounds,Nat.add_assoc]
section
variable {P : Program} {Γ : aY} {σ : Operand -> Option SV} {m : Mem} {nx : Nat}
theorem bg.write {K:KL}{Γ:aY}{E:Nat->Nat}{w:World}(hs:aJ Γ E m nx w){key:Nat}{cs:List SV}{tot:Nat}{ty:TypeId}
  (hk:m.get key=some (.cells cs tot ty)) {off:Nat} {vs:List SV} (hv: ∀ v∈ vs,v.kM=true) (hl:off+vs.length<=cs.length) {sv:Option SV} {r:Value} (hr: ∀ v,sv=some v->r=v.val E)
  (h:(K sv (m.put key (.cells (aZ cs off vs) tot ty)) nx).holds) :
  ∃ w',(storeCells ⟨E key,off,none⟩ (SV.vals E vs)).run P w=.ok () w'/\bg K Γ E nx r w':=by
 obtain⟨ob,ho,c,fr,rfl,h1,h2,h3⟩:=hs.kO key _ hk rfl
 have hcl:cs.length<=c.size:=by
  cases hcs:cs.length with
  | zero=>omega
  | succ n =>
    obtain⟨v,hv⟩: ∃ v,cs[n]?=some v:=⟨cs[n]'(by omega),List.getElem?_eq_getElem _⟩
    have:=h2 n v hv
    have:=(Array.getElem?_eq_some_iff.1 this).1
    omega
 have hrun:=cJ (P:=P) (o:=off) (SV.vals E vs) 0 w c ho h1 (by simp[SV.bp];omega) (fun v hv'=>by
  rw[SV.bp,List.mem_map] at hv'
  obtain⟨u,hu,rfl⟩:=hv'
  exact SV.nK (hv u hu))
 refine⟨_,hrun,E,sv,_,_,fun _ _=>rfl,Nat.le_refl _,hr,hs.write hk rfl rfl (B':=.cells (aZ cs off vs) tot ty) ?_ rfl,h⟩
 refine⟨_,fr,rfl,by rw[bA];exact h1,fun i v hi=> ?_,by rw[bA];exact h3⟩
 rw[← Array.getElem?_toList,fq,Nat.add_zero]
 have key2: ∀(vs:List SV) (cs:List SV) (l:List Value) (off:Nat),(∀(i:Nat) (v:SV),cs[i]?=some v->l[i]?=some (v.val E)) ->
   ∀(i:Nat) (v:SV),(aZ cs off vs)[i]?=some v->(aZ l off (SV.vals E vs))[i]?=some (v.val E):=by
  intro vs
  induction vs with
  | nil=>intro cs l off h i v hi;exact h i v hi
  | cons x r ih =>
    intro cs l off h i v hi
    simp only[aZ,SV.vals] at hi ⊢
    refine ih (cs.set off x) (l.set off (x.val E)) (off+1) (fun j u hj=> ?_) i v hi
    rw[List.getElem?_set] at hj ⊢
    split at hj
    ·rename_i e
     subst e
     split at hj
     ·rename_i hlt
      injection hj with hj;subst hj
      have:off<l.length:=by
       obtain⟨u,hu⟩: ∃ u,cs[off]?=some u:=⟨cs[off],List.getElem?_eq_getElem hlt⟩
       have:=h off u hu
       exact(List.getElem?_eq_some_iff.1 this).1
      simp[this]
     ·cases hj
    ·rename_i e
     rw[if_neg e];exact h j u hj
 exact key2 vs cs c.toList off (fun j u hj=>by rw[Array.getElem?_toList];exact h2 j u hj) i v hi
def l8:List SV->Bool
 | []=>true
 | v::r=>v.kM&&l8 r
theorem iD: ∀ {l:List SV},l8 l=true->∀ v∈ l,v.kM=true
 | x::r,h,v,hv=>by
   simp only[l8,Bool.and_eq_true] at h
   cases hv with
   | head=>exact h.1
   | tail _ hv=>exact iD h.2 v hv
def mix (k:IntKind)(i:Nat)(v:Int):Nat->List Int->List SV
 | _,[]=>[]
 | j,z::r=>.int k false (if i=j then v else z)::mix k i v (j+1) r
theorem Kr {k:IntKind}{i:Nat}{v:Int}: ∀ {l:List Int} {j:Nat},(mix k i v j l).length=l.length
 | [],_=>rfl
 | _::r,j=>by simp[mix,Kr (l:=r)]
theorem JG {k:IntKind}{i:Nat}{v:Int}: ∀ {l:List Int} {j q:Nat} {x:SV},(mix k i v j l)[q]?=some x->x=.int k false (if i=j+q then v else An l q)
 | [],_,_,_,h=>by simp[mix] at h
 | z::r,j,0,x,h=>by simp[mix] at h;subst h;simp[An]
 | z::r,j,q+1,x,h=>by
   simp only[mix,List.getElem?_cons_succ] at h
   rw[JG h,show j+1+q=j+(q+1)by omega]
   simp[An]
def jF (i:Nat)(v:List UInt8):Nat->List (List UInt8)->List SV
 | _,[]=>[]
 | j,z::r=>.str false (if i=j then v else z)::jF i v (j+1) r
theorem E4 {i:Nat}{v:List UInt8}: ∀ {l:List (List UInt8)} {j:Nat},(jF i v j l).length=l.length
 | [],_=>rfl
 | _::r,j=>by simp[jF,E4 (l:=r)]
theorem F3 {i:Nat}{v:List UInt8}: ∀ {l:List (List UInt8)} {j q:Nat} {x:SV},(jF i v j l)[q]?=some x->x=.str false (if i=j+q then v else bq l q)
 | [],_,_,_,h=>by simp[jF] at h
 | z::r,j,0,x,h=>by simp[jF] at h;subst h;simp[bq]
 | z::r,j,q+1,x,h=>by
   simp only[jF,List.getElem?_cons_succ] at h
   rw[F3 h,show j+1+q=j+(q+1)by omega]
   simp[bq]
def au.NJ (i:Nat)(v:SV):au->Option au
 | .int k f=>(match v with
   | .int k' _ n=>if k=k' then some (.int k fun j=>if j=i then n else f j)else none
   | _=>none)
 | .bool f=>(match v with
   | .bool _ b=>some (.bool fun j=>if j=i then b else f j)
   | _=>none)
 | .str f=>(match v with
   | .str _ s=>some (.str fun j=>if j=i then s else f j)
   | _=>none)
 | .ref k f=>(match v with
   | .eD _ a 0=>some (.ref k fun j=>if j=i then a else f j)
   | _=>none)
 | .cn k w z f n c=>(match v with
   | .cn _ w' z' a 0 n' c'=>if w=w'/\z=z' then some (.cn k w z (fun j=>if j=i then a else f j) (fun j=>if j=i then n' else n j) (fun j=>if j=i then c' else c j))else none
   | _=>none)
 | .raw _=>none
theorem au.HE {i:Nat}{v:SV}{c c':au}(h:c.NJ i v=some c')(E:Nat->Nat):(c'.at i).val E=v.val E/\∀ j,j≠i->c'.at j=c.at j:=by
 cases c with
 | int k f =>
   simp only[au.NJ] at h
   split at h
   ·split at h
    ·rename_i e;subst e
     injection h with h;subst h
     exact⟨by simp[au.at,SV.val],fun j hj=>by simp[au.at,hj]⟩
    ·cases h
   ·cases h
 | bool f =>
   simp only[au.NJ] at h
   split at h
   ·injection h with h;subst h
    exact⟨by simp[au.at,SV.val],fun j hj=>by simp[au.at,hj]⟩
   ·cases h
 | str f =>
   simp only[au.NJ] at h
   split at h
   ·injection h with h;subst h
    exact⟨by simp[au.at,SV.val],fun j hj=>by simp[au.at,hj]⟩
   ·cases h
 | ref k f =>
   simp only[au.NJ] at h
   split at h
   ·injection h with h;subst h
    exact⟨by simp[au.at,SV.val],fun j hj=>by simp[au.at,hj]⟩
   ·cases h
 | cn k w z f n c =>
   simp only[au.NJ] at h
   split at h
   ·split at h
    ·rename_i e;obtain⟨rfl,rfl⟩:=e
     injection h with h;subst h
     exact⟨by simp[au.at,SV.val],fun j hj=>by simp[au.at,hj]⟩
    ·cases h
   ·cases h
 | raw f=>cases h
theorem au.sI {i:Nat}{v:SV}{c c':au}(h:c.NJ i v=some c'):v.kM=true:=by
 cases c<;>simp only[au.NJ] at h
 case raw=>cases h
 all_goals (split at h<;>first | rfl | cases h)
def lH (P:Program)(t:TypeId)(a x:Option SV)(m:Mem)(nx:Nat)(K:KL):VC :=
 match a,x,sz P t with
 | some (.ptr key true o),some v,some n=>(match m.get key with
   | some (.cells cs tot ty)=>if v.plain&&l8 v.cells&&decide (v.cells.length=n)&&decide (o+n<=cs.length)then
      K none (m.put key (.cells (aZ cs o v.cells) tot ty)) nx else .fail "store: cells"
   | _=>.fail "store: no such block")
 | some (.mR key base n i),some (.int k _ v),some 1=>(match m.get key with
   | some (.cells cs tot ty)=>(match fu cs base n with
     | some l=>(match rB k l with
       | some zs=>.and (.atom (i<n)) (K none (m.put key (.cells (aZ cs base (mix k i v 0 zs)) tot ty)) nx)
       | none=>.fail "store: no integers")
     | none=>.fail "store: cells")
   | some (.rows false nb [c] false tot ty)=>(match c.NJ (base+i) (.int k true v)with
     | some c'=>.and (.atom (i<n/\base+i<nb)) (K none (m.put key (.rows false nb [c'] false tot ty)) nx)
     | none=>.fail "store: another kind")
   | _=>.fail "store: no such block")
 | some (.mR key base n i),some (.str _ v),some 1=>(match m.get key with
   | some (.cells cs tot ty)=>(match fu cs base n with
     | some l=>(match lR l with
       | some zs=>.and (.atom (i<n)) (K none (m.put key (.cells (aZ cs base (jF i v 0 zs)) tot ty)) nx)
       | none=>.fail "store: no texts")
     | none=>.fail "store: cells")
   | _=>.fail "store: no such block")
 | some (.jz key w i k),some v,some 1=>(match m.get key with
   | some (.rows z n av false tot ty)=>if av.length=w then(match av[k]? with
     | some c=>(match c.NJ i v with
       | some c'=>.and (.atom (i<n)) (K none (m.put key (.rows z n (av.set k c') false tot ty)) nx)
       | none=>.fail "store: another kind")
     | none=>.fail "store: no such column")else .fail "store: another row"
   | _=>.fail "store: no such row")
 | some (.eD key b o),some v,some 1=>(match m.get key with
   | some (.iw D cs tot ty false)=>(match cs[o]? with
     | some c=>(match c.NJ b v with
       | some c'=>.and (.atom (D b=true)) (K none (m.put key (.iw D (cs.set o c') tot ty false)) nx)
       | none=>.fail "store: another kind")
     | none=>.fail "store: no such column")
   | _=>.fail "store: no family")
 | _,_,_=>.fail "store"
theorem ni {α:Type}: ∀(vs cs:List α) (off q:Nat) (u:α),(aZ cs off vs)[q]?=some u->off+vs.length<=cs.length->(off<=q/\q<off+vs.length/\vs[q - off]?=some u)∨((q<off∨off+vs.length<=q)/\cs[q]?=some u):=by
 intro vs
 induction vs with
 | nil=>intro cs off q u hq _;right;exact⟨by simp;omega,hq⟩
 | cons x r ih =>
   intro cs off q u hq hle
   simp only[aZ] at hq
   simp only[List.length_cons] at hle ⊢
   rcases ih (cs.set off x) (off+1) q u hq (by simp;omega)with ⟨g1,g2,g3⟩ | ⟨g1,g2⟩
   ·left;refine⟨by omega,by omega,?_⟩
    rw[show q - off=(q - (off+1))+1 by omega];simpa using g3
   ·rw[List.getElem?_set] at g2
    split at g2
    ·rename_i e;subst e
     rw[if_pos (by omega)] at g2
     left;refine⟨by omega,by omega,?_⟩
     rw[Nat.sub_self];simpa using g2
    ·right;exact⟨by omega,g2⟩
theorem Bp {dst:Option Tmp}{t type:TypeId}{pos:String}{after:Array Edge}{guard:Option (Nat×Bool)}{a x:Operand} :
  nW P Γ σ m nx ⟨dst,.store t a x,type,pos,after,guard⟩ (lH P t (σ a) (σ x) m nx):=by
 intro K E w ρ h hs hw hσ hr
 unfold lH at h
 split at h
 ·rename_i key o v n ha hx hn
  split at h
  ·rename_i cs tot ty hk
   split at h
   ·rename_i hc
    simp only[Bool.and_eq_true,decide_eq_true_eq] at hc
    obtain⟨⟨⟨h1,h2⟩,h3⟩,h4⟩:=hc
    obtain⟨w',hrun,haft⟩:=bg.write (P:=P) (r:=undef) hs hk (iD h2) (by omega) (fun v hv=>by cases hv) h
    have hcv:=SV.dV (E:=E) h1
    have hsize:(v.val E).cells.size=n:=by rw[hcv];simp[h3]
    simp only[execOp,Instr.storeAt,hr a _ ha,hr x _ hx,SV.val,Instr.sureAddr,Sem.run_bind,Sem.run_pure,Result.andThen_ok,storeVar,bK hn,hsize]
    simp only[ne_eq,not_true_eq_false,if_false]
    rw[hcv]
    rw[SV.bp] at hrun
    simp only[hrun,Result.andThen_ok,Out]
    exact haft
   ·exact h.elim
  ·exact h.elim
 ·rename_i key base n i k lf v ha hx hn
  split at h
  ·rename_i cs tot ty hk
   split at h
   ·rename_i l hl
    split at h
    ·rename_i zs hz
     obtain⟨hi,h⟩:=h
     have hi:i<n:=hi
     have hg:=cc hl
     have hzg:=nc hz
     have hlt:base+i<cs.length:=by
      have:(l[i]?)=some (l[i]'(by rw[hg.1];exact hi)):=List.getElem?_eq_getElem _
      exact(List.getElem?_eq_some_iff.1 (hg.2 i _ this)).1
     obtain⟨ob,ho,c,fr,rfl,h1,h2,h3⟩:=hs.kO key _ hk rfl
     have hcl:base+i<c.size:=(Array.getElem?_eq_some_iff.1 (h2 _ _ (List.getElem?_eq_getElem hlt))).1
     have hrun:=cJ (P:=P) (o:=base+i) [Value.int k v] 0 w c ho h1 (by simp;omega) (fun u hu=>by simp at hu;subst hu;rfl)
     have hE:=hs.write hk rfl rfl (B':=.cells (aZ cs base (mix k i v 0 zs)) tot ty) (o:=.cells (dB c (base+i+0) [Value.int k v]) ty fr) ?_ rfl
     ·simp only[execOp,Instr.storeAt,hr a _ ha,hr x _ hx,SV.val,Instr.sureAddr,Sem.run_bind,Sem.run_pure,Result.andThen_ok,storeVar,bK hn]
      simp only[Value.cells,List.size_toArray,List.length_singleton,ne_eq,not_true_eq_false,if_false,hrun,Result.andThen_ok,Out]
      exact⟨E,none,_,_,fun _ _=>rfl,Nat.le_refl _,(fun v hv=>by cases hv),hE,h⟩
     ·refine⟨_,fr,rfl,by rw[bA];exact h1,fun q u hq=> ?_,by rw[bA];exact h3⟩
      have hmixlen:(mix k i v 0 zs).length=n:=by rw[Kr,hzg.1,hg.1]
      have hset: ∀(vs cs:List SV) (off q:Nat) (u:SV),(aZ cs off vs)[q]?=some u->off+vs.length<=cs.length->(off<=q/\q<off+vs.length/\vs[q - off]?=some u)∨((q<off∨off+vs.length<=q)/\cs[q]?=some u):=by
       intro vs
       induction vs with
       | nil=>intro cs off q u hq _;right;exact⟨by simp;omega,hq⟩
       | cons x r ih =>
         intro cs off q u hq hle
         simp only[aZ] at hq
         simp only[List.length_cons] at hle ⊢
         rcases ih (cs.set off x) (off+1) q u hq (by simp;omega)with ⟨g1,g2,g3⟩ | ⟨g1,g2⟩
         ·left;refine⟨by omega,by omega,?_⟩
          rw[show q - off=(q - (off+1))+1 by omega];simpa using g3
         ·rw[List.getElem?_set] at g2
          split at g2
          ·rename_i e;subst e
           rw[if_pos (by omega)] at g2
           left;refine⟨by omega,by omega,?_⟩
           rw[Nat.sub_self];simpa using g2
          ·right;exact⟨by omega,g2⟩
      have hbase:base+n<=cs.length:=by
       cases n with
       | zero=>omega
       | succ n' =>
         have:(l[n']?)=some (l[n']'(by rw[hg.1];omega)):=List.getElem?_eq_getElem _
         have:=(List.getElem?_eq_some_iff.1 (hg.2 n' _ this)).1
         omega
      have hsa:(dB c (base+i+0) [Value.int k v])[q]?=if base+i=q then some (.int k v)else c[q]?:=by
       simp only[dB,Nat.add_zero]
       rw[Array.getElem?_setIfInBounds]
       by_cases e:base+i=q
       ·rw[if_pos e,if_pos e,if_pos (by omega)]
       ·rw[if_neg e,if_neg e]
      rw[hsa]
      rcases hset _ _ _ _ _ hq (by rw[hmixlen];exact hbase)with ⟨g1,g2,g3⟩ | ⟨g1,g2⟩
      ·have hu:=JG g3
       subst hu
       rw[hmixlen] at g2
       by_cases e:base+i=q
       ·rw[if_pos e,if_pos (by omega)];rfl
       ·rw[if_neg e,if_neg (by omega)]
        have hq':(l[q - base]?)=some (l[q - base]'(by rw[hg.1];omega)):=List.getElem?_eq_getElem _
        obtain⟨b,hb⟩:=hzg.2 _ _ hq'
        have:=h2 _ _ (hg.2 _ _ hq')
        rw[show base+(q - base)=q by omega,hb] at this
        rw[this];rfl
      ·rw[hmixlen] at g1
       rw[if_neg (by omega)];exact h2 q u g2
    ·exact h.elim
   ·exact h.elim
  ·rename_i nb col tot ty hk
   split at h
   ·rename_i col' hup
    obtain⟨⟨hi,hb⟩,h⟩:=h
    have hb:base+i<nb:=hb
    obtain⟨ob,ho,c,fr,rfl,h1,h2,h3,h4⟩:=hs.kO key _ hk rfl
    have hcl:base+i<c.size:=by simp only[List.length_cons,List.length_nil] at h2;omega
    obtain⟨u1,u2⟩:=au.HE hup E
    have hrun:=cJ (P:=P) (o:=base+i) [Value.int k v] 0 w c ho (h1 rfl) (by simp;omega) (fun u hu=>by simp at hu;subst hu;rfl)
    have hE:=hs.write hk rfl rfl (B':=.rows false nb [col'] false tot ty) (o:=.cells (dB c (base+i+0) [Value.int k v]) ty fr) ?_ rfl
    ·simp only[execOp,Instr.storeAt,hr a _ ha,hr x _ hx,SV.val,Instr.sureAddr,Sem.run_bind,Sem.run_pure,Result.andThen_ok,storeVar,bK hn]
     simp only[Value.cells,List.size_toArray,List.length_singleton,ne_eq,not_true_eq_false,if_false,hrun,Result.andThen_ok,Out]
     exact⟨E,none,_,_,fun _ _=>rfl,Nat.le_refl _,(fun v hv=>by cases hv),hE,h⟩
    ·refine⟨_,fr,rfl,fun _=>by rw[bA];exact h1 rfl,by rw[bA];exact h2,by rw[bA];exact h3,fun i' k' cl hi' hk'=> ?_⟩
     match k',hk' with
     | 0,hk' =>
       simp only[List.getElem?_cons_zero,Option.some.injEq] at hk';subst hk'
       have hsa:(dB c (base+i+0) [Value.int k v])[i'*[col'].length+0]?=if base+i=i' then some (.int k v)else c[i']?:=by
        simp only[dB,Nat.add_zero,List.length_singleton,Nat.mul_one]
        rw[Array.getElem?_setIfInBounds]
        by_cases e:base+i=i'
        ·rw[if_pos e,if_pos e,if_pos (by omega)]
        ·rw[if_neg e,if_neg e]
       rw[hsa]
       by_cases e:base+i=i'
       ·subst e;rw[if_pos rfl];exact congrArg some u1.symm
       ·rw[if_neg e,u2 i' (fun h=>e h.symm)]
        have:=h4 i' 0 col hi' rfl
        simpa using this
     | q+1,hk'=>simp at hk'
   ·exact h.elim
  ·exact h.elim
 ·rename_i key base n i lf v ha hx hn
  split at h
  ·rename_i cs tot ty hk
   split at h
   ·rename_i l hl
    split at h
    ·rename_i zs hz
     obtain⟨hi,h⟩:=h
     have hi:i<n:=hi
     have hg:=cc hl
     have hzg:=kE hz
     have hzl:=rG hz
     have hlt:base+i<cs.length:=by
      have:(l[i]?)=some (l[i]'(by rw[hg.1];exact hi)):=List.getElem?_eq_getElem _
      exact(List.getElem?_eq_some_iff.1 (hg.2 i _ this)).1
     obtain⟨ob,ho,c,fr,rfl,h1,h2,h3⟩:=hs.kO key _ hk rfl
     have hcl:base+i<c.size:=(Array.getElem?_eq_some_iff.1 (h2 _ _ (List.getElem?_eq_getElem hlt))).1
     have hrun:=cJ (P:=P) (o:=base+i) [Value.string ⟨v.toArray⟩] 0 w c ho h1 (by simp;omega) (fun u hu=>by simp at hu;subst hu;rfl)
     have hE:=hs.write hk rfl rfl (B':=.cells (aZ cs base (jF i v 0 zs)) tot ty) (o:=.cells (dB c (base+i+0) [Value.string ⟨v.toArray⟩]) ty fr) ?_ rfl
     ·simp only[execOp,Instr.storeAt,hr a _ ha,hr x _ hx,SV.val,Instr.sureAddr,Sem.run_bind,Sem.run_pure,Result.andThen_ok,storeVar,bK hn]
      simp only[Value.cells,List.size_toArray,List.length_singleton,ne_eq,not_true_eq_false,if_false,hrun,Result.andThen_ok,Out]
      exact⟨E,none,_,_,fun _ _=>rfl,Nat.le_refl _,(fun v hv=>by cases hv),hE,h⟩
     ·refine⟨_,fr,rfl,by rw[bA];exact h1,fun q u hq=> ?_,by rw[bA];exact h3⟩
      have hmixlen:(jF i v 0 zs).length=n:=by rw[E4,hzl,hg.1]
      have hbase:base+n<=cs.length:=by
       cases n with
       | zero=>omega
       | succ n' =>
         have:(l[n']?)=some (l[n']'(by rw[hg.1];omega)):=List.getElem?_eq_getElem _
         have:=(List.getElem?_eq_some_iff.1 (hg.2 n' _ this)).1
         omega
      have hsa:(dB c (base+i+0) [Value.string ⟨v.toArray⟩])[q]?=if base+i=q then some (.string ⟨v.toArray⟩)else c[q]?:=by
       simp only[dB,Nat.add_zero]
       rw[Array.getElem?_setIfInBounds]
       by_cases e:base+i=q
       ·rw[if_pos e,if_pos e,if_pos (by omega)]
       ·rw[if_neg e,if_neg e]
      rw[hsa]
      rcases ni _ _ _ _ _ hq (by rw[hmixlen];exact hbase)with ⟨g1,g2,g3⟩ | ⟨g1,g2⟩
      ·have hu:=F3 g3
       subst hu
       rw[hmixlen] at g2
       by_cases e:base+i=q
       ·rw[if_pos e,if_pos (by omega)];rfl
       ·rw[if_neg e,if_neg (by omega)]
        have hq':(l[q - base]?)=some (l[q - base]'(by rw[hg.1];omega)):=List.getElem?_eq_getElem _
        obtain⟨b,hb⟩:=hzg _ _ hq'
        have:=h2 _ _ (hg.2 _ _ hq')
        rw[show base+(q - base)=q by omega,hb] at this
        rw[this];rfl
      ·rw[hmixlen] at g1
       rw[if_neg (by omega)];exact h2 q u g2
    ·exact h.elim
   ·exact h.elim
  ·exact h.elim
 ·rename_i key w0 i k v ha hx hn
  split at h
  ·rename_i z n av tot ty hk
   split at h
   ·rename_i hw0
    split at h
    ·rename_i col hcol
     split at h
     ·rename_i col' hup
      obtain⟨hi,h⟩:=h
      have hi:i<n:=hi
      subst hw0
      have hkl:k<av.length:=(List.getElem?_eq_some_iff.1 hcol).1
      obtain⟨ob,ho,c,fr,rfl,h1,h2,h3,h4⟩:=hs.kO key _ hk (SB.ic hi)
      have hcl:i*av.length+k<c.size:=by
       have:i*av.length+k<n*av.length:=by
        have:(i+1)*av.length<=n*av.length:=Nat.mul_le_mul_right _ hi
        rw[Nat.add_mul] at this;omega
       omega
      obtain⟨u1,u2⟩:=au.HE hup E
      have hrun:=cJ (P:=P) (o:=i*av.length+k) [v.val E] 0 w c ho (h1 rfl) (by simp;omega) (fun u hu=>by simp at hu;subst hu;exact SV.nK (au.sI hup))
      have hE:=hs.write hk (SB.ic hi) rfl (B':=.rows z n (av.set k col') false tot ty) (o:=.cells (dB c (i*av.length+k+0) [v.val E]) ty fr) ?_ rfl
      ·have hcell:(v.val E).cells=#[v.val E]:=by
        have hc:=au.sI hup
        cases v<;>first | rfl | (simp[SV.kM] at hc;done) | skip
        rename_i u
        cases u<;>first | rfl | (simp[SV.kM] at hc;done)
       simp only[execOp,Instr.storeAt,hr a _ ha,hr x _ hx,SV.val,Instr.sureAddr,Sem.run_bind,Sem.run_pure,Result.andThen_ok,storeVar,bK hn,hcell]
       simp only[List.size_toArray,List.length_singleton,ne_eq,not_true_eq_false,if_false,hrun,Result.andThen_ok,Out]
       exact⟨E,none,_,_,fun _ _=>rfl,Nat.le_refl _,(fun v hv=>by cases hv),hE,h⟩
      ·refine⟨_,fr,rfl,fun _=>by rw[bA];exact h1 rfl,by rw[bA,List.length_set];exact h2,by rw[bA];exact h3,fun i' k' cl hi' hk'=> ?_⟩
       rw[List.length_set]
       have hk'l:k'<av.length:=by
        have:=(List.getElem?_eq_some_iff.1 hk').1
        rwa [List.length_set] at this
       have hsa:(dB c (i*av.length+k+0) [v.val E])[i'*av.length+k']?=if i*av.length+k=i'*av.length+k' then some (v.val E)else c[i'*av.length+k']?:=by
        simp only[dB,Nat.add_zero]
        rw[Array.getElem?_setIfInBounds]
        by_cases e:i*av.length+k=i'*av.length+k'
        ·rw[if_pos e,if_pos e,if_pos hcl]
        ·rw[if_neg e,if_neg e]
       have hinj:i*av.length+k=i'*av.length+k'->i=i'/\k=k':=fun e=>by
        have e1:i=i':=by
         rcases Nat.lt_trichotomy i i' with hlt | heq | hgt
         ·have:(i+1)*av.length<=i'*av.length:=Nat.mul_le_mul_right _ hlt
          rw[Nat.add_mul] at this;omega
         ·exact heq
         ·have:(i'+1)*av.length<=i*av.length:=Nat.mul_le_mul_right _ hgt
          rw[Nat.add_mul] at this;omega
        subst e1
        exact⟨rfl,by omega⟩
       rw[hsa]
       rw[List.getElem?_set] at hk'
       by_cases e:k=k'
       ·rw[if_pos e,if_pos hkl] at hk'
        injection hk' with hk'
        subst hk'
        by_cases ei:i'=i
        ·subst ei;subst e
         rw[if_pos rfl,u1]
        ·rw[if_neg (fun h=>ei (hinj h).1.symm),u2 i' ei]
         subst e
         exact h4 i' k col hi' hcol
       ·rw[if_neg e] at hk'
        rw[if_neg (fun h=>e (hinj h).2)]
        exact h4 i' k' cl hi' hk'
     ·exact h.elim
    ·exact h.elim
   ·exact h.elim
  ·exact h.elim
 ·rename_i key b o v ha hx hn
  split at h
  ·rename_i D cs tot ty hk
   split at h
   ·rename_i col hcol
    split at h
    ·rename_i col' hup
     obtain⟨hD,h⟩:=h
     have hD:D b=true:=hD
     have hol:o<cs.length:=(List.getElem?_eq_some_iff.1 hcol).1
     obtain⟨ob,ho,c,fr,rfl,h1,h2,h3⟩:=hs.gi key _ b hk hD
     have hoc:o<c.size:=(Array.getElem?_eq_some_iff.1 (h2 o (col.at b) (by rw[List.getElem?_map,hcol];rfl))).1
     have hvc:=SV.nK (E:=E) (au.sI hup)
     obtain⟨u1,u2⟩:=au.HE hup E
     have hrun:=cJ (P:=P) (o:=o) [v.val E] 0 w c ho h1 (by simp;omega) (fun u hu=>by simp at hu;subst hu;exact hvc)
     have hE:=hs.PV hk hD (cs':=cs.set o col') (o:=.cells (dB c (o+0) [v.val E]) ty fr) ?_ ?_
     ·have hcells:(v.val E).cells=#[v.val E]:=by
       have hc:=au.sI hup
       cases v<;>first | rfl | (simp[SV.kM] at hc;done) | skip
       rename_i u
       cases u<;>first | rfl | (simp[SV.kM] at hc;done)
      simp only[execOp,Instr.storeAt,hr a _ ha,hr x _ hx,SV.val,Instr.sureAddr,Sem.run_bind,Sem.run_pure,Result.andThen_ok,storeVar,bK hn]
      simp only[hcells,List.size_toArray,List.length_singleton,ne_eq,not_true_eq_false,if_false,hrun,Result.andThen_ok,Out]
      exact⟨E,none,_,_,fun _ _=>rfl,Nat.le_refl _,(fun v hv=>by cases hv),hE,h⟩
     ·refine⟨_,fr,rfl,by rw[bA];exact h1,fun q u hq=> ?_,by rw[bA];exact h3⟩
      simp only[dB,Nat.add_zero]
      rw[Array.getElem?_setIfInBounds]
      rw[List.getElem?_map,List.getElem?_set] at hq
      by_cases e:o=q
      ·rw[if_pos e] at hq ⊢
       rw[if_pos hoc]
       rw[if_pos hol] at hq
       injection hq with hq;subst hq
       rw[u1]
      ·rw[if_neg e] at hq ⊢
       exact h2 q u (by rw[List.getElem?_map];exact hq)
     ·intro b' hb'
      apply List.ext_getElem?
      intro q
      rw[List.getElem?_map,List.getElem?_map,List.getElem?_set]
      by_cases e:o=q
      ·subst e
       rw[if_pos rfl,if_pos hol,hcol]
       exact congrArg some (u2 b' hb')
      ·rw[if_neg e]
    ·exact h.elim
   ·exact h.elim
  ·exact h.elim
 ·exact h.elim
end
theorem Um {nx key:Nat}{m:Mem}(h:Mem.wf nx m=true):Mem.wf nx (m.drop key)=true:=by
 induction m with
 | nil=>rfl
 | cons e r ih =>
   simp only[Mem.wf,Bool.and_eq_true] at h
   by_cases he:e.1=key
   ·rw[Mem.drop,if_pos he];exact ih h.2
   ·rw[Mem.drop,if_neg he];simp only[Mem.wf,Bool.and_eq_true];exact⟨h.1,ih h.2⟩
def fM (m:Mem)(s:Nat):SV->Option (List SV×Nat)
 | .aO=>some ([],0)
 | .slc key o n _ _=>(match m.get key with
   | some (.cells cs _ _)=>(match fu cs o (n*s)with
     | some l=>some (l,n)
     | none=>none)
   | _=>none)
 | _=>none
theorem iy {P:Program}{Γ E m nx w}(hs:aJ Γ E m nx w){s:Nat}{x:SV}{l:List SV}{n:Nat}(h:fM m s x=some (l,n)) :
  (Builtin.lenOf (x.val E)).run P w=.ok n w/\(∀ j,j<=n->(Builtin.firstCells s j (x.val E)).run P w=.ok (SV.vals E (l.take (j*s))).toArray w)/\l.length=n*s:=by
 unfold fM at h
 split at h
 ·injection h with h;injection h with h1 h2;subst h1;subst h2
  refine⟨rfl,fun j hj=> ?_,by simp⟩
  obtain rfl:j=0:=by omega
  simp[SV.val,Builtin.firstCells,SV.vals]
 ·rename_i key o n' cl c
  split at h
  ·rename_i cs tot ty hk
   split at h
   ·rename_i l' hl
    injection h with h;injection h with h1 h2;subst h1;subst h2
    have hg:=cc hl
    obtain⟨ob,ho,c0,fr,rfl,_,h2,_⟩:=hs.kO key _ hk rfl
    refine⟨rfl,fun j hj=> ?_,hg.1⟩
    have hle:j*s<=n'*s:=Nat.mul_le_mul_right s hj
    have hrun:=run_loadCells (P:=P) (w:=w) ho o ((l'.take (j*s)).map (SV.val E)) (fun i v hi=>by
     rw[List.getElem?_map] at hi
     cases hil:(l'.take (j*s))[i]? with
     | none=>rw[hil] at hi;cases hi
     | some u =>
       rw[hil] at hi;injection hi with hi;subst hi
       have:l'[i]?=some u:=by
        rw[List.getElem?_take] at hil
        split at hil
        ·exact hil
        ·cases hil
       exact h2 _ _ (hg.2 i u this))
    have hlen:((l'.take (j*s)).map (SV.val E)).length=j*s:=by rw[List.length_map,List.length_take,hg.1];exact Nat.min_eq_left hle
    rw[hlen] at hrun
    simp only[SV.val,Builtin.firstCells,hrun,SV.bp]
   ·cases h
  ·cases h
 ·cases h
def bytes (P:Program)(t:TypeId):Option Nat:=match P.info? t with | some i=>some i.bytes | none=>none
def grown (elem:TypeId)(need:Nat)(cs:List SV)(s:Nat)(m:Mem)(nx:Nat)(K:KL):VC :=
 .all Nat fun c=>.imp (need<=c) (K (some (.slc nx 0 need false c)) ((nx,.cells cs (c*s) elem)::m) (nx+1))
def ur (P:Program)(elem:TypeId)(s:Nat)(b:SV)(new:List SV)(n:Nat)(m:Mem)(nx:Nat)(K:KL):VC :=
 match bytes P elem,fA P elem,fM m s b with
 | some by_,some z,some (old,n0) =>
   if(z.plain&&l8 new&&SV.ep nx new&&decide (z.cells.length=s)&&decide (2*(n0+n)*by_<=281474976710656)&&decide (n0+n<9223372036854775808))=true then
   (match b with
   | .aO=>(match n with
     | 0=>K (some .aO) m nx
     | n+1=>grown elem (n+1) new s m nx K)
   | .slc key o _ true c=>(match m.get key with
     | some (.cells cs tot ty)=>if n0+n<=c then(if o+n0*s+new.length<=cs.length then
        K (some (.slc key o (n0+n) true c)) (m.put key (.cells (aZ cs (o+n0*s) new) tot ty)) nx else .fail "append: cells that are not known")else
        grown elem (n0+n) (old++new) s m nx K
     | _=>.fail "append: no such block")
   | .slc key 0 _ false c=>(match m.get key with
     | some (.cells cs tot ty)=>if cs.length=n0*s/\ty=elem then .and (j9 tot (c*s)) (.all Nat fun c'=>.imp (n0+n<=c') (K (some (.slc nx 0 (n0+n) false c')) ((nx,.cells (old++new) (c'*s) elem)::m.drop key) (nx+1)))
        else .fail "append: another block"
     | _=>.fail "append: no such block")
   | _=>.fail "append: to what")
   else .fail "append: sizes"
 | _,_,_=>.fail "append"
theorem Jn (need c:Nat)(h:c<need):Builtin.nextslicecap need c<=2*need:=by
 unfold Builtin.nextslicecap
 split
 ·omega
 ·split
  ·omega
  ·rename_i h1 h2
   have key: ∀(r x:Nat),256<=x->x<need->Builtin.growBy need r x<=2*need:=by
    intro r
    induction r with
    | zero=>intro x h3 h4;simp only[Builtin.growBy];omega
    | succ r ih =>
      intro x h3 h4
      simp only[Builtin.growBy]
      rw[if_neg (by omega)]
      by_cases h5:x+(x+768) / 4<need
      ·exact ih _ (by omega) h5
      ·cases r with
       | zero=>simp only[Builtin.growBy];omega
       | succ r=>simp only[Builtin.growBy];rw[if_pos (by omega)];omega
   exact key 4 c (by omega) h
theorem ML {w:World}{P:Program}{q:Question}(hq:q.forced=false):(choose q).run P w=.ok (q.cut (w.tape w.drawn q)) {w with drawn:=w.drawn+1}:=by
 rw[run_choose,hq];rfl
def vh:TypeDesc->Bool
 | .slice _=>true
 | .string=>true
 | _=>false
section
variable {P : Program} {Γ : aY}
theorem kZ {w:World}{ats:Array TypeId}{ty t0 t1 elem:TypeId}{d:TypeDesc}{s by_:Nat}{base:Option Addr}{n0 c n:Nat}{x z:Value}{old new:Array Value}
  (h0:ats[0]?=some t0) (h1:ats[1]?=some t1) (hd:P.underlying t0=some (.slice elem)) (hd1:P.underlying t1=some d) (hni:vh d=true) (hs:sz P elem=some s) (hb:bytes P elem=some by_)
  (hz: ∀ w,(zeroValue elem).run P w=.ok z w) (hzs:z.cells.size=s) (hlen:(Builtin.lenOf x).run P w=.ok n w)
  (hold: ∀ k,(Builtin.firstCells s n0 (.slice base n0 c)).run P {w with drawn:=k}=.ok old {w with drawn:=k}) (hnew: ∀ k,(Builtin.firstCells s n x).run P {w with drawn:=k}=.ok new {w with drawn:=k})
  (hneed:c<n0+n) (hbound:2*(n0+n)*by_<=2^ 48) (hsmall:n0+n<2^ 63) :
  ∃ c' rest,n0+n<=c'/\rest.size=(c' - (n0+n))*s/\(Builtin.append_ ats ty #[.slice base n0 c,x]).run P w =
    .ok (.slice (some ⟨w.heap.size,0,none⟩) (n0+n) c') {w with drawn:=w.drawn+1,heap:=w.heap.push (.cells (old++new++rest) elem)}:=by
 have hby: ∃ i,P.info? elem=some i/\i.bytes=by_:=by
  unfold bytes at hb
  split at hb
  ·rename_i i hi;injection hb with hb;exact⟨i,hi,hb⟩
  ·cases hb
 obtain⟨i,hi,hib⟩:=hby
 have hcap:=Jn (n0+n) c hneed
 have hmul:Builtin.nextslicecap (n0+n) c*by_<=2^ 48:=Nat.le_trans (Nat.mul_le_mul_right by_ hcap) hbound
 have h2: ¬ (n0+n<=c):=by omega
 have h3: ¬ (((n0+n:Nat):Int)>9223372036854775807):=by omega
 have h4: ¬ (Builtin.nextslicecap (n0+n) c*by_>2^ 48):=Nat.not_lt.2 hmul
 refine⟨(Question.appendCap (n0+n) c elem).cut (w.tape w.drawn (.appendCap (n0+n) c elem)),Builtin.zeroCells z.cells ((Question.appendCap (n0+n) c elem).cut (w.tape w.drawn (.appendCap (n0+n) c elem)) - (n0+n)),?_,?_,?_⟩
 ·simp only[Question.cut];omega
 ·simp[Builtin.zeroCells,hzs]
 ·cases d
  all_goals first | (cases hni;done) | skip
  all_goals
   simp only[Builtin.append_,h0,h1,List.getElem?_toArray,List.getElem?_cons_zero,List.getElem?_cons_succ,Sem.run_bind,aC hd,Result.andThen_ok,bK hs,aC hd1,Sem.run_pure,
    Bool.false_eq_true,if_false,hlen,Sem.run_ite,h2,iE hi,hib,imax,h3,false_and,h4,ML (q:=.appendCap (n0+n) c elem) rfl,run_askRoom,hold,Bool.not_false,if_true,hnew,hz,newRow,run_newObj]
theorem qg {w w':World}{ats:Array TypeId}{ty t0 t1 elem:TypeId}{d:TypeDesc}{s:Nat}{b o:Nat}{n0 c n:Nat}{x:Value}{new:Array Value}
  (h0:ats[0]?=some t0) (h1:ats[1]?=some t1) (hd:P.underlying t0=some (.slice elem)) (hd1:P.underlying t1=some d) (hni:vh d=true) (hs:sz P elem=some s)
  (hlen:(Builtin.lenOf x).run P w=.ok n w) (hnew:(Builtin.firstCells s n x).run P w=.ok new w) (hneed:n0+n<=c)
  (hst:(storeCells ⟨b,o+n0*s,none⟩ new.toList).run P w=.ok () w') :
  (Builtin.append_ ats ty #[.slice (some ⟨b,o,none⟩) n0 c,x]).run P w=.ok (.slice (some ⟨b,o,none⟩) (n0+n) c) w':=by
 cases d
 all_goals first | (cases hni;done) | skip
 all_goals
  simp only[Builtin.append_,h0,h1,List.getElem?_toArray,List.getElem?_cons_zero,List.getElem?_cons_succ,Sem.run_bind,aC hd,Result.andThen_ok,bK hs,aC hd1,Sem.run_pure,
   Bool.false_eq_true,if_false,hlen,Sem.run_ite,hneed,if_true,hnew,Bool.not_false,ck,hst]
theorem append_nil {w:World}{ats:Array TypeId}{ty t0 t1 elem:TypeId}{d:TypeDesc}{s:Nat}{x:Value}{new:Array Value}
  (h0:ats[0]?=some t0) (h1:ats[1]?=some t1) (hd:P.underlying t0=some (.slice elem)) (hd1:P.underlying t1=some d) (hni:vh d=true) (hs:sz P elem=some s)
  (hlen:(Builtin.lenOf x).run P w=.ok 0 w) (hnew:(Builtin.firstCells s 0 x).run P w=.ok new w) :
  (Builtin.append_ ats ty #[.slice none 0 0,x]).run P w=.ok (.slice none 0 0) w:=by
 cases d
 all_goals first | (cases hni;done) | skip
 all_goals
  simp only[Builtin.append_,h0,h1,List.getElem?_toArray,List.getElem?_cons_zero,List.getElem?_cons_succ,Sem.run_bind,aC hd,Result.andThen_ok,bK hs,aC hd1,Sem.run_pure,
   Bool.false_eq_true,if_false,hlen,Sem.run_ite,Nat.add_zero,Nat.le_refl,if_true,hnew,Bool.not_false]
theorem sL {m:Mem}{s key o n c:Nat}{cl:Bool}{l:List SV}{n0:Nat}(h:fM m s (.slc key o n cl c)=some (l,n0)):n0=n:=by
 simp only[fM] at h
 split at h
 ·split at h
  ·injection h with h;injection h with _ h;exact h.symm
  ·cases h
 ·cases h
theorem bg.grown {m:Mem}{nx:Nat}{K:KL}{Γ:aY}{E:Nat->Nat}{w:World}(hs:aJ Γ E m nx w)(hw:Mem.wf nx m=true){elem:TypeId}{need s:Nat}{cs:List SV}
  (hcs:SV.ep nx cs=true) (hl:cs.length=need*s) (h:(Sx.grown elem need cs s m nx K).holds) {c':Nat} (hc':need<=c') {rest:Array Value} (hr:rest.size=(c' - need)*s) {a:Array Value} (ha:a.toList=cs.map (SV.val E)) :
  bg K Γ E nx (.slice (some ⟨w.heap.size,0,none⟩) need c') {w with drawn:=w.drawn+1,heap:=w.heap.push (.cells (a++rest) elem)}:=by
 have h':=h c' hc'
 have hs':=hs.drew (w.drawn+1)
 refine bg.alloc (sv:=.slc nx 0 need false c') hs' hw hcs (fun i v hv=> ?_) ?_ h' (by simp[SV.val])
 ·have:=tX (E:=E) ha i v hv
  rw[Array.getElem?_append_left (Array.getElem?_eq_some_iff.1 this).1];exact this
 ·rw[Array.size_append,oa (E:=E) ha,hl,hr,← Nat.add_mul];congr 1;omega
theorem ED {m:Mem}{nx s:Nat}(hw:Mem.wf nx m=true){x:SV}{l:List SV}{n:Nat}(h:fM m s x=some (l,n)):SV.ep nx l=true:=by
 unfold fM at h
 split at h
 ·injection h with h;injection h with h1 h2;subst h1;rfl
 ·split at h
  ·rename_i cs tot ty hk
   split at h
   ·rename_i l' hl
    injection h with h;injection h with h1 h2;subst h1
    have hwk:=Mem.CR hw hk
    simp only[SB.wf] at hwk
    have hg:=cc hl
    have: ∀(l':List SV),(∀(j:Nat) (v:SV),l'[j]?=some v->v.wf nx=true)->SV.ep nx l'=true:=by
     intro l'
     induction l' with
     | nil=>intro _;rfl
     | cons x r ih=>intro hh;simp only[SV.ep,Bool.and_eq_true];exact⟨hh 0 x rfl,ih fun j v hj=>hh (j+1) v (by simpa using hj)⟩
    exact this l' fun j v hj=>SV.qh hwk (hg.2 j v hj)
   ·cases h
  ·cases h
 ·cases h
def wQ (P:Program)(ats:Array TypeId)(x y:SV)(m:Mem)(nx:Nat)(K:KL):VC :=
 match ats[0]?,ats[1]? with
 | some t0,some t1=>(match P.underlying t0,P.underlying t1 with
   | some (.slice elem),some d=>(match sz P elem with
     | some s=>(match fM m s y with
       | some (new,n)=>if vh d=true then ur P elem s x new n m nx K else .fail "append: make"
       | none=>.fail "append: of what")
     | none=>.fail "append")
   | _,_=>.fail "append")
 | _,_=>.fail "append"
theorem Ik {m:Mem}{nx:Nat}{ats:Array TypeId}{ty:TypeId}{x y:SV}{K:KL}{Γ:aY}{E:Nat->Nat}{w:World}
  (h:(wQ P ats x y m nx K).holds) (hs:aJ Γ E m nx w) (hw:Mem.wf nx m=true) :
  ∃ r w',(Builtin.append_ ats ty #[x.val E,y.val E]).run P w=.ok r w'/\bg K Γ E nx r w':=by
 unfold wQ at h
 split at h
 ·rename_i t0 t1 h0 h1
  split at h
  ·rename_i elem d hd hd1
   split at h
   ·rename_i s hsz
    split at h
    ·rename_i new n hy
     split at h
     ·rename_i hni
      obtain⟨ylen,ycells,ynum⟩:=iy (P:=P) hs hy
      have hynew:=ycells n (Nat.le_refl _)
      rw[List.take_of_length_le (by omega)] at hynew
      unfold ur at h
      split at h
      ·rename_i by_ z old n0 hby hz hx
       split at h
       ·rename_i hc
        simp only[Bool.and_eq_true,decide_eq_true_eq] at hc
        obtain⟨⟨⟨⟨⟨g1,g2⟩,g3⟩,g4⟩,g5⟩,g6⟩:=hc
        have hzr: ∀ w:World,(zeroValue elem).run P w=.ok (z.val E) w:=fun w=>cX hz
        have hzs:(z.val E).cells.size=s:=by rw[SV.dV g1];simp[g4]
        have hdraw: ∀ k,aJ Γ E m nx {w with drawn:=k}:=fun k=>hs.drew k
        have ydraw: ∀ k,(Builtin.firstCells s n (y.val E)).run P {w with drawn:=k}=.ok (SV.vals E new).toArray {w with drawn:=k}:=fun k=>by
         have:=(iy (P:=P) (hdraw k) hy).2.1 n (Nat.le_refl _)
         rw[List.take_of_length_le (by omega)] at this;exact this
        have oldwf:=ED hw hx
        obtain⟨xlen,xcells,xnum⟩:=iy (P:=P) hs hx
        have xdraw: ∀ k,(Builtin.firstCells s n0 (x.val E)).run P {w with drawn:=k}=.ok (SV.vals E old).toArray {w with drawn:=k}:=fun k=>by
         have:=(iy (P:=P) (hdraw k) hx).2.1 n0 (Nat.le_refl _)
         rw[List.take_of_length_le (by omega)] at this;exact this
        split at h
        ·
         simp only[fM] at hx
         injection hx with hx;injection hx with e1 e2;subst e1;subst e2
         split at h
         ·exact⟨_,_,append_nil h0 h1 hd hd1 hni hsz ylen hynew,E,some .aO,m,nx,fun _ _=>rfl,Nat.le_refl _,fun v hv=>by injection hv with hv;subst hv;rfl,hs,h⟩
         ·rename_i n'
          obtain⟨c',rest,q1,q2,q3⟩:=kZ (w:=w) (ty:=ty) (base:=none) (n0:=0) (c:=0) h0 h1 hd hd1 hni hsz hby hzr hzs ylen xdraw ydraw (by omega) (by omega) (by omega)
          refine⟨_,_,q3,?_⟩
          rw[Nat.zero_add] at q1 q2 ⊢
          exact bg.grown hs hw g3 ynum h q1 q2 (by simp[SV.bp,SV.vals])
        ·
         rename_i key o _ c
         have e0:=sL hx
         subst e0
         split at h
         ·rename_i cs tot ty' hk
          split at h
          ·rename_i hle
           split at h
           ·rename_i hin
            obtain⟨w',hrun,haft⟩:=bg.write (P:=P) (sv:=some (.slc key o (n0+n) true c)) (r:=.slice (some ⟨E key,o,none⟩) (n0+n) c) hs hk (iD g2) hin
             (fun v hv=>by injection hv with hv;subst hv;rfl) h
            exact⟨_,w',qg h0 h1 hd hd1 hni hsz ylen hynew hle hrun,haft⟩
           ·exact h.elim
          ·rename_i hle
           obtain⟨c',rest,q1,q2,q3⟩:=kZ (w:=w) (ty:=ty) (base:=some ⟨E key,o,none⟩) (n0:=n0) (c:=c) h0 h1 hd hd1 hni hsz hby hzr hzs ylen xdraw ydraw (by omega) (by omega) (by omega)
           exact⟨_,_,q3,bg.grown hs hw (dK oldwf g3) (by simp[xnum,ynum,Nat.add_mul]) h q1 q2 (by simp[SV.bp])⟩
         ·exact h.elim
        ·
         rename_i key _ c
         have e0:=sL hx
         subst e0
         split at h
         ·rename_i cs tot ty' hk
          split at h
          ·rename_i hcond
           obtain⟨hcl,rfl⟩:=hcond
           obtain⟨htot,h⟩:=h
           have htot:tot=c*s:=htot
           by_cases hle:n0+n<=c
           ·
            obtain⟨ob,ho,ca,fr,rfl,hf1,hf2,hf3⟩:=hs.kO key _ hk rfl
            have hcap:n0*s+new.length<=ca.size:=by rw[hf3,htot,ynum,← Nat.add_mul];exact Nat.mul_le_mul_right s hle
            have hrun:=cJ (P:=P) (o:=0+n0*s) (SV.vals E new) 0 w ca ho hf1 (by simp[SV.bp];omega) (fun v hv'=>by
             rw[SV.bp,List.mem_map] at hv'
             obtain⟨u,hu,rfl⟩:=hv'
             exact SV.nK (iD g2 u hu))
            refine⟨_,_,qg (o:=0) h0 h1 hd hd1 hni hsz ylen hynew hle hrun,?_⟩
            have hold:old=cs:=by
             simp only[fM,hk] at hx
             split at hx
             ·rename_i l hl
              injection hx with hx;injection hx with e1 _;subst e1
              have hg:=cc hl
              apply List.ext_getElem?
              intro j
              by_cases hj:j<l.length
              ·have:=hg.2 j l[j] (List.getElem?_eq_getElem hj)
               rw[Nat.zero_add] at this
               rw[this,List.getElem?_eq_getElem hj]
              ·rw[List.getElem?_eq_none (by omega),List.getElem?_eq_none (by rw[hcl,← hg.1];omega)]
             ·cases hx
            have hkn:=hs.lt key _ hk
            refine⟨fun j=>if j=nx then E key else E j,some (.slc nx 0 (n0+n) false c),_,_,fun k hk'=>by simp[Nat.ne_of_lt hk'],Nat.le_succ _,fun v hv=>by injection hv with hv;subst hv;simp[SV.val],
             hs.move hw hk rfl rfl (B':=.cells (old++new) (c*s) ty') ?_,h c hle⟩
            refine⟨_,fr,rfl,by rw[bA];exact hf1,fun i v hi=> ?_,by rw[bA,hf3,htot]⟩
            have hcong:v.val (fun j=>if j=nx then E key else E j)=v.val E:=SV.val_congr (nx:=nx) (fun k hk'=>by simp[Nat.ne_of_lt hk']) v (SV.qh (dK oldwf g3) hi)
            rw[hcong,← Array.getElem?_toList,fq]
            have hcat: ∀(vs:List Value) (pre post:List Value),vs.length<=post.length->aZ (pre++post) pre.length vs=pre++(vs++post.drop vs.length):=by
             intro vs
             induction vs with
             | nil=>intro pre post _;simp[aZ]
             | cons u r ih =>
               intro pre post hp
               cases post with
               | nil=>simp at hp
               | cons q qs =>
                 rw[aZ]
                 have:(pre++q::qs).set pre.length u=(pre++[u])++qs:=by simp
                 rw[this]
                 have:=ih (pre++[u]) qs (by simpa using hp)
                 simp only[List.length_append,List.length_singleton] at this
                 rw[this];simp
            have hsplit:ca.toList=ca.toList.take (n0*s)++ca.toList.drop (n0*s):=(List.take_append_drop _ _).symm
            have hpl:(ca.toList.take (n0*s)).length=n0*s:=by rw[List.length_take,Array.length_toList];omega
            rw[hsplit,show 0+n0*s+0=(ca.toList.take (n0*s)).length by rw[hpl];omega,hcat _ _ _ (by simp[SV.bp];omega)]
            rw[List.getElem?_append] at hi ⊢
            rw[hold,hcl] at hi
            rw[hpl]
            split
            ·rename_i hlt
             rw[if_pos hlt] at hi
             rw[List.getElem?_take,if_pos hlt,Array.getElem?_toList]
             exact hf2 i v hi
            ·rename_i hge
             rw[if_neg hge] at hi
             have hil:i - n0*s<new.length:=(List.getElem?_eq_some_iff.1 hi).1
             rw[List.getElem?_append_left (by simpa [SV.bp] using hil),SV.bp,List.getElem?_map,hi];rfl
           ·obtain⟨c',rest,q1,q2,q3⟩:=kZ (w:=w) (ty:=ty) (base:=some ⟨E key,0,none⟩) (n0:=n0) (c:=c) h0 h1 hd hd1 hni hsz hby hzr hzs ylen xdraw ydraw (by omega) (by omega) (by omega)
            refine⟨_,_,q3,?_⟩
            have hsub:aJ Γ E (m.drop key) nx w:=hs.sub (fun k B hk=>(Mem.dW hk).2) (fun k B hk=>hs.lt k B (Mem.dW hk).2) (.inl (Nat.le_refl _))
            refine bg.grown (m:=m.drop key) hsub (Um hw) (dK oldwf g3) (by simp[xnum,ynum,Nat.add_mul]) ?_ q1 q2 (by simp[SV.bp])
            exact h
          ·exact h.elim
         ·exact h.elim
        ·exact h.elim
       ·exact h.elim
      ·exact h.elim
     ·exact h.elim
    ·exact h.elim
   ·exact h.elim
  ·exact h.elim
 ·exact h.elim
end
end
end Go.Proofs.YtoibaecagklkaaaGreatDoor.Sx
