/-
  The framework's eighth part: operations that make or change memory, and calls.
-/
import Derived.Test.YtoibaecagklkaaaGreatDoorMc
open Array renaming ext_getElem?->ef,getElem?_eq_some_iff->T,getElem?_setIfInBounds->X,getElem?_toList->bf,length_toList->ej,range->cR
open Bool renaming and_eq_true->J,false->F,false_eq_true->bW,not_false->c4,true->A
open Decidable renaming decide->V
open Go.Builtin renaming append_->Y,firstCells->N,growBy->bx,lenOf->b_,nextslicecap->b!,zeroCells->ek
open Go.Instr renaming storeAt->an,sureAddr->ay
open Go.Result renaming andThen_ok->G
open Go.Sem renaming run_bind->I,run_ite->ct,run_pure->H
open Go.Value renaming cells->c5,int->aO,string->c_
open List renaming cons_append->en,ext_getElem?->c!,getElem?_cons_succ->bD,getElem?_cons_zero->cx,getElem?_eq_getElem->L,getElem?_eq_none->cy,getElem?_eq_some_iff->O,getElem?_map->S,getElem?_set->a_,getElem?_take->ep,getElem?_toArray->dG,length_cons->cQ,length_map->er,length_set->d_,length_singleton->Z,length_take->eu,map_append->ez,mem_map->eA,size_toArray->bH,take_of_length_le->d!
open Nat renaming add_mul->W,add_zero->ag,le_refl->M,le_succ->eB,le_trans->eC,mul_le_mul_right->a!,ne_of_lt->ec,sub_self->eL,zero_add->eM
open Option renaming none->C,some->g
namespace Go.Proofs.YtoibaecagklkaaaGreatDoor
open Go Sx
variable {after:Array Edge}{ats:Array TypeId}{c new:Array Value}{RP:List PanicEntry->World->Prop}{cs l:List SV}{m:Mem}{key n n0 nx o s:Nat}{E:Nat->Nat}{guard:Option (Nat×Bool)}{ro:Option Nat}{dst:Option Tmp}{P:Program}{v x:SV}{pos:String}{d:TypeDesc}{elem t t0 t1 ty type:TypeId}{r:Value}{R:Value->World->Prop}{w:World}{Γ:br}
namespace Sx
open Go
noncomputable section
def Fr (ro:Option Nat):Fence:={Fence.wide with round:=ro}
theorem AA {f:FuncId}{args:Array Value}{R:Ending->World->Prop}:CallsIn (Fr ro) n P f args w R↔Calls P f args w R:=by
 rw[← callsIn_wide (n:=n)];cases ro with
 | none=>exact Iff.rfl
 | some l=>exact⟨CallsIn.outOfRound,CallsIn.inRound l⟩
def Out (P:Program)(R:Value->World->Prop)(x:Result Next)(RP:List PanicEntry->World->Prop:=λ_ _=>False):Prop:=match x with
 | .ok (.value v) w=>R v w
 | .ok .skip w=>R undef w
 | .ok (.enter f args) w=>Calls P f args w λe w'=>(∃ v,e=.returned v/\R v w')∨∃ ch,e=.panicked ch/\RP ch w'
 | .ok (.round l f tmps assign body) w=>RoundIn Fence.wide 0 P l f tmps assign body w λe w'=>∃ v,e=.returned v/\R v w'
 | .halt (.panic v) w=>RP [{v,recovered:=F}] w
 | _=>False
theorem Ao (ro:Option Nat){o:Oper}{a:Act}: ∀ f,o.about P w a.eval=g f->(Fr ro).fn f:=λ_ _=>trivial
def pK (o:Oper):Bool:=match o.op with
 | .defer _=>F
 | _=>A
theorem Vl {o:Oper}(h:pK o=A)(ρ:Operand->Value):o.semAt ro ρ=execOp ρ o:=by
 cases ro with
 | none=>rfl
 | some l =>unfold pK at h;unfold Oper.semAt;cases ho:o.op<;>rw[ho] at h<;>first | rfl | cases h
theorem Out.wp {o:Oper}(hd:pK o=A){a:Act}{Q:Exit->Act->World->Prop}{K:Act->World->Prop}
  (h:Out P R ((execOp a.eval o).run P w) RP) (hk: ∀ r w',R r w'->K (a.put o.dst r) w') (hp: ∀ ch w',RP ch w'->Q (.panic ch) a w'):o.wpIn (Fr ro) 0 P a w K Q:=by
 unfold Oper.wpIn;refine⟨Ao ro,?_⟩;have hs:o.semAt (Fr ro).round a.eval=execOp a.eval o:=Vl (ro:=ro) hd _;rw[hs];generalize (execOp a.eval o).run P w=x at h;cases x with
 | ok n w' =>
   cases n<;>simp only[Out] at h<;>simp only[Oper.uponIn]
   case value v=>exact hk _ _ h
   case skip=>exact hk _ _ h
   case enter f args =>
    refine⟨λh=>(by cases ro<;>cases h),AA.2 (Calls.mono h λe w'' he=> ?_)⟩
    rcases he with ⟨v,rfl,hr⟩ | ⟨ch,rfl,hr⟩
    ·exact hk _ _ hr
    ·exact hp _ _ hr
   case round l f tmps assign body =>
    refine⟨λh=>(by cases ro<;>cases h),?_⟩
    have h2:RoundIn (Fr ro) 0 P l f tmps assign body w' λe w''=>∃ v,e=.returned v/\R v w'':=by cases ro<;>exact h
    refine h2.mono λe w'' he=> ?_;obtain⟨v,rfl,hr⟩:=he;exact hk _ _ hr
 | halt x w' =>
   cases x<;>simp only[Out] at h
   simp only[Oper.uponIn];exact hp _ _ h
theorem Out.mono {R':Value->World->Prop}{RP':List PanicEntry->World->Prop}{x:Result Next}(h:Out P R x RP)(hr: ∀ v w,R v w->R' v w)(hp: ∀ c w,RP c w->RP' c w):Out P R' x RP':=by
 unfold Out at *
 split at h<;>first
  | exact hr _ _ h
  | exact Calls.mono h λe w' he=>he.imp (fun⟨v,he,hv⟩=>⟨v,he,hr _ _ hv⟩) (fun⟨c,he,hv⟩=>⟨c,he,hp _ _ hv⟩)
  | exact RoundIn.mono h λe w' ⟨v,he,hv⟩=>⟨v,he,hr _ _ hv⟩
  | exact hp _ _ h
  | exact h.elim
theorem Out.tf {x:Result Next}(h:Out P R x):Out P R x RP:=h.mono (λ_ _ h=>h) (λ_ _ h=>h.elim)
abbrev KL:=Option SV->Mem->Nat->VC
def bC (K:KL)(Γ:br)(E:Nat->Nat)(nx:Nat)(r:Value)(w':World):Prop :=∃ E' sv m' nx',(∀ k,k<nx->E' k=E k)/\nx<=nx'/\(∀ v,sv=g v->r=v.val E')/\aN Γ E' m' nx' w'/\(K sv m' nx').holds
abbrev PK:=SV->Mem->Nat->VC
def jK (KP:PK)(Γ:br)(E:Nat->Nat)(nx:Nat)(ch:List PanicEntry)(w':World):Prop :=∃ E' v m' nx',(∀ k,k<nx->E' k=E k)/\nx<=nx'/\ch=[{v:=v.val E',recovered:=F}]/\v.wf nx'=A/\aN Γ E' m' nx' w'/\(KP v m' nx').holds
theorem jK.weaken {KP:PK}{E':Nat->Nat}{nx':Nat}{ch:List PanicEntry}(h:jK KP Γ E' nx' ch w)(hE: ∀ k,k<nx->E' k=E k)(hn:nx<=nx'):jK KP Γ E nx ch w:=by obtain⟨E'',v,m,n,h1,h2,h3,h4,h5,h6⟩:=h;exact⟨E'',v,m,n,λk hk=>(h1 k (Nat.lt_of_lt_of_le hk hn)).trans (hE k hk),eC hn h2,h3,h4,h5,h6⟩
theorem bC.zz {K:KL}(h:bC K Γ.own E nx r w):bC K Γ E nx r w:=by obtain⟨E',sv,m',nx',h1,h2,h3,h4,h5⟩:=h;exact⟨E',sv,m',nx',h1,h2,h3,h4.zz,h5⟩
theorem jK.zz {KP:PK}{c:List PanicEntry}(h:jK KP Γ.own E nx c w):jK KP Γ E nx c w:=by obtain⟨E',v,m',nx',h1,h2,h3,h4,h5,h6⟩:=h;exact⟨E',v,m',nx',h1,h2,h3,h4,h5.zz,h6⟩
def WfS (nx:Nat)(σ:Operand->Option SV):Prop:=∀ x v,σ x=g v->v.wf nx=A
def qn (P:Program)(Γ:br)(σ:Operand->Option SV)(m:Mem)(nx:Nat)(o:Oper)(t:KL->VC):Prop :=∀ K E w ρ,(t K).holds->aN Γ E m nx w->Mem.wf nx m=A->WfS nx σ->Reads E σ ρ->Out P (bC K Γ E nx) ((execOp ρ o).run P w)
section
variable {P : Program} {Γ : br} {σ : Operand -> Option SV} {m : Mem} {nx : Nat} {o : Oper}
theorem qn.fail (why:String):qn P Γ σ m nx o (λ_=>.fail why):=λ_ _ _ _ h=>h.elim
theorem qn.need {x:Operand}{t:SV->KL->VC}(h: ∀ v,σ x=g v->qn P Γ σ m nx o (t v)):qn P Γ σ m nx o (λK=>need (σ x) (λv=>t v K)):=by
 unfold Sx.need;cases hx:σ x with
 | none=>exact qn.fail _
 | some v=>exact h v hx
theorem bC.alloc {K:KL}(hs:aN Γ E m nx w)(hw:Mem.wf nx m=A){tot:Nat}
  {sv:SV}  (hcs:SV.fO nx cs=A) (hc: ∀(i:Nat) (v:SV),cs[i]?=g v->c[i]?=g (v.val E)) (hm:c.size=tot)
  (hk:(K (g sv) ((nx,.cells cs tot ty)::m) (nx+1)).holds)  (hr:r=sv.val (λk=>if k=nx then w.heap.size else E k)) :
  bC K Γ E nx r {w with heap:=w.heap.push (.cells c ty)}:=by
 have hE: ∀ k,k<nx->(λk=>if k=nx then w.heap.size else E k) k=E k:=λk hk=>by simp[ec hk]
 refine⟨_,g sv,_,_,hE,eB _,λv hv=>by injection hv with hv;subst hv;exact hr,hs.alloc hw (B:=.cells cs tot ty) ?_,hk⟩;refine⟨c,(0,0),rfl,λi=>.inr (by simp),λi v hv=> ?_,hm⟩;rw[SV.val_congr hE v (SV.s8 hcs hv)];exact hc i v hv
theorem BQ {nx:Nat}: ∀ {l:List Value} {xs:List SV},SV.nc l=g xs->SV.fO nx xs=A
 | [],xs,h=>by simp[SV.nc] at h;subst h;rfl
 | v::r,xs,h=>by
   simp only[SV.nc] at h;split at h
   ·rename_i x l' hx hl;injection h with h;subst h;simp only[SV.fO,BQ hl,Bool.and_true];unfold SV.uB at hx;split at hx<;>first | (injection hx with hx;subst hx;rfl) | cases hx
   ·cases h
theorem BR {v:Value}(h:SV.ofConst v=g x):x.wf nx=true:=by
 unfold SV.ofConst at h;split at h
 ·split at h
  ·rename_i l hl;injection h with h;subst h;exact BQ hl
  ·cases h
 ·unfold SV.uB at h;split at h<;>first | (injection h with h;subst h;rfl) | cases h
theorem yG (h:gC P t=g v):v.wf nx=true:=by
 unfold gC at h;split at h
 ·split at h
  ·exact BR h
  ·cases h
 ·cases h
theorem nW (h:v.wf nx=A):SV.fO nx v.cells=true:=by cases v<;>simp_all [SV.cells,SV.wf,SV.fO]
theorem vD (hc:c.toList=l.map (SV.val E)): ∀(i:Nat) (v:SV),l[i]?=g v->c[i]?=g (v.val E):=by intro i v hv;rw[← bf,hc,S,hv];rfl
theorem qY (hc:c.toList=l.map (SV.val E)):c.size=l.length:=by rw[← ej,hc,er]
def Gf (ty:TypeId)(v:SV)(m:Mem)(nx:Nat)(K:KL):VC :=
 match v.plain with
 | true=>K (g (.ptr nx A 0)) ((nx,.cells v.cells v.cells.length ty)::m) (nx+1)
 | false=>.fail "new: a value that is not known"
def Ul (elem:TypeId)(cs:List SV)(n:Nat)(m:Mem)(nx:Nat)(K:KL):VC :=K (g (.slc nx 0 n A n)) ((nx,.cells cs cs.length elem)::m) (nx+1)
theorem uy {v:Value}:(newVar t v).run P w=.ok ⟨w.heap.size,0,C⟩ {w with heap:=w.heap.push (.cells v.cells t)}:=by simp[newVar,newRow]
theorem PB  :
  qn P Γ σ m nx ⟨dst,.alloc t,type,pos,after,guard⟩ (λK=>match gC P t with | some z=>Gf t z m nx K | none=>.fail "alloc"):=by
 intro K E w ρ h hs hw hσ hr;split at h
 ·rename_i z hz;unfold Gf at h;split at h
  ·rename_i hp;simp only[execOp,Instr.alloc,I,dL (E:=E) hz,G,uy,H,Out];exact bC.alloc hs hw (nW (yG hz)) (vD (by rw[SV.fA hp])) (qY (E:=E) (by rw[SV.fA hp])) h (by simp[SV.val])
  ·exact h.elim
 ·exact h.elim
theorem Xt {x:Operand} :
  qn P Γ σ m nx ⟨dst,.box t x,type,pos,after,guard⟩ (λK=>need (σ x) (λv=>Gf t v m nx K)):=by
 refine qn.need λv hv=> ?_;intro K E w ρ h hs hw hσ hr;unfold Gf at h;split at h
 ·rename_i hp;simp only[execOp,Instr.box,I,G,uy,H,Out];exact bC.alloc hs hw (nW (hσ _ _ hv)) (vD (by rw[hr _ _ hv,SV.fA hp])) (qY (E:=E) (by rw[hr _ _ hv,SV.fA hp])) h (by simp[SV.val])
 ·exact h.elim
def times (n:Nat)(zs:List SV):List SV:=match n with
 | 0=>[]
 | n+1=>zs++times n zs
theorem rK {E:Nat->Nat}{zs:List SV}{z:Array Value}(hz:z.toList=zs.map (SV.val E))(hne:z.size≠0): ∀ n:Nat,
  ((cR (n*z.size)).map λi=>z[i% z.size]!).toList=(times n zs).map (SV.val E)
 | 0=>by simp[times]
 | n+1=>by
   have ih:=rK hz hne n;simp only[Array.toList_map,Array.toList_range] at ih ⊢;rw[show(n+1)*z.size=z.size+n*z.size by rw[W];omega,List.range_add,ez,times,ez,← ih];congr 1
   ·rw[← hz];apply c!;intro i;rw[S];by_cases hi:i<z.size
    ·rw[List.getElem?_range hi];simp[Nat.mod_eq_of_lt hi,hi]
    ·rw[cy (by simp;omega),cy (by simp;omega)];rfl
   ·rw[List.map_map];apply List.map_congr_left;intro i _;simp
theorem CF {nx:Nat}{zs:List SV}(h:SV.fO nx zs=A): ∀ n,SV.fO nx (times n zs)=A
 | 0=>rfl
 | n+1=>by
   have ih:=CF h n;simp only[times];have app: ∀ {a b:List SV},SV.fO nx a=A->SV.fO nx b=A->SV.fO nx (a++b)=true:=by
    intro a;induction a with
    | nil=>intro b _ hb;exact hb
    | cons x r ihr=>intro b ha hb;simp only[SV.fO,J,en] at ha ⊢;exact⟨ha.1,ihr ha.2 hb⟩
   exact app h ih
theorem fj {nx:Nat}: ∀ {a b:List SV},SV.fO nx a=A->SV.fO nx b=A->SV.fO nx (a++b)=A
 | [],_,_,hb=>hb
 | x::r,b,ha,hb=>by simp only[SV.fO,J,en] at ha ⊢;exact⟨ha.1,fj ha.2 hb⟩
theorem OP {nx:Nat}: ∀ {a:List SV} {i:Nat} {v:SV},SV.fO nx a=A->v.wf nx=A->SV.fO nx (a.set i v)=A
 | [],_,_,_,_=>rfl
 | x::r,0,v,ha,hv=>by simp only[SV.fO,J,List.set_cons_zero] at ha ⊢;exact⟨hv,ha.2⟩
 | x::r,i+1,v,ha,hv=>by simp only[SV.fO,J,List.set_cons_succ] at ha ⊢;exact⟨ha.1,OP ha.2 hv⟩
theorem wM {nx:Nat}: ∀ {vs cs:List SV} {off:Nat},SV.fO nx cs=A->SV.fO nx vs=A->SV.fO nx (aM cs off vs)=A
 | [],_,_,hc,_=>hc
 | v::r,cs,off,hc,hv=>by simp only[SV.fO,J] at hv;rw[aM];exact wM (OP hc hv.1) hv.2
theorem HU {nx:Nat}{place:Nat->Option (Nat×Nat)}: ∀ {parts:List (Nat×SV)} {cells out:List SV},tB place cells parts=g out->SV.fO nx cells=A ->
  (∀ p∈ parts,p.2.wf nx=A)->SV.fO nx out=A
 | [],cells,out,h,hc,_=>by simp[tB] at h;subst h;exact hc
 | (i,v)::rest,cells,out,h,hc,hp=>by
   simp only[tB] at h;split at h
   ·cases h
   ·split at h
    ·exact HU h (wM hc (nW (hp (i,v) (by simp)))) (λp hm=>hp p (by simp[hm]))
    ·cases h
theorem BV {nx:Nat}{σ:Operand->Option SV}(hσ:WfS nx σ): ∀ {ps:List (Nat×Operand)} {l:List (Nat×SV)},partsOf σ ps=g l->∀ p∈ l,p.2.wf nx=A
 | [],l,h,p,hp=>by simp[partsOf] at h;subst h;cases hp
 | (i,x)::r,l,h,p,hp=>by
   simp only[partsOf] at h;split at h
   ·rename_i v l' hv hl;injection h with h;subst h;cases hp with
    | head=>exact hσ x v hv
    | tail _ hp=>exact BV hσ hl p hp
   ·cases h
def kK (P:Program)(σ:Operand->Option SV)(t:TypeId)(len:Nat)(parts:List (Nat×Operand))(m:Mem)(nx:Nat)(K:KL):VC :=
 match P.underlying t with
 | some (.slice e)=>(match sz P e,gC P e,partsOf σ parts with
   | some s,g z,g ps=>if z.plain&&V (z.cells.length=s)&&V (len*s<=16777216)&&V (s≠0)then(match tB (λi=>g (i*s,s)) (times len z.cells) ps with
      | some out=>Ul e out len m nx K
      | none=>.fail "buildSlice: fill")else .fail "buildSlice: size"
   | _,_,_=>.fail "buildSlice")
 | _=>.fail "buildSlice"
theorem Bq {len:Nat}{parts:Array (Nat×Operand)} :
  qn P Γ σ m nx ⟨dst,.buildSlice t len parts,type,pos,after,guard⟩ (kK P σ t len parts.toList m nx):=by
 intro K E w ρ h hs hw hσ hr;unfold kK at h;split at h
 ·rename_i e hd;split at h
  ·rename_i s z ps hsz hz hp;split at h
   ·rename_i hc;simp only[J,decide_eq_true_eq] at hc;obtain⟨⟨⟨h1,h2⟩,h3⟩,h4⟩:=hc;split at h
    ·rename_i out hf;unfold Ul at h;have hzc:=SV.fA (E:=E) h1;have hzs:(z.val E).cells.size=s:=by rw[hzc];simp[h2]
     have hfill:=rY (E:=E) ps _ out hf;have hpp:(parts.map fun(x:Nat×Operand)=>(x.1,ρ x.2)).toList=ps.map λp=>(p.1,p.2.val E):=by rw[← ng hr hp];simp
     have fin: ∀ z':Array Value,((cR (len*s)).map λi=>z'[i% z'.size]!)=(SV.vals E (times len z.cells)).toArray ->
       Out P (bC K Γ E nx) ((match Instr.fill (λi=>g (i*s,s)) ((cR (len*s)).map λi=>z'[i% z'.size]!) (parts.map fun(x:Nat×Operand)=>(x.1,ρ x.2)).toList with
        | some cells=>do
          let r ← newRow e cells
          pure (Value.slice (g r) len len)
        | _=>stuck "buildSlice: a part of the wrong size" : Sem Value).run P w |>.andThen λa w'=>(pure (Next.value a):Sem Next).run P w'):=by
      intro z' hz';rw[hz',hpp,hfill];simp only[G,I,newRow,run_newObj,H,Out];exact bC.alloc hs hw (HU hf (CF (nW (yG hz)) len) (BV hσ hp)) (vD (by simp[SV.bG])) (qY (E:=E) (by simp[SV.bG])) h (by simp[SV.val])
     simp only[execOp,Instr.buildSlice,I,aE hd,G,cg hsz,ct];rw[if_neg (by omega)];by_cases h0:len*s=0
     ·rw[if_pos h0];simp only[H,G];refine fin #[] ?_;have:len=0:=by rcases Nat.mul_eq_zero.1 h0 with h | h;exact h;exact absurd h h4
      subst this;simp[times,SV.vals]
     ·rw[if_neg h0];simp only[dL (E:=E) hz,H,G];refine fin _ ?_;apply Array.ext';have:=rK (E:=E) (zs:=z.cells) (z:=(z.val E).cells) (by rw[hzc]) (by rw[hzs];exact h4) len;rw[hzs] at this;rw[SV.bG];simpa [hzs] using this
    ·exact h.elim
   ·exact h.elim
  ·exact h.elim
 ·exact h.elim
end
theorem Mx {b:Nat}{v:Value}{fr:Nat×Nat}(h:w.heap[b]?=g (.cells c ty fr)) :
  w.setCell ⟨b,o,C⟩ v={w with heap:=w.heap.setIfInBounds b (.cells (c.setIfInBounds o v) ty fr)}:=by
 unfold World.setCell;congr 1;apply ef;intro i;rw[Array.getElem?_modify,X];by_cases e:b=i
 ·subst e;obtain⟨hlt,he⟩:=T.1 h;simp[hlt,he]
 ·simp[e]
def eV (c:Array Value)(off:Nat):List Value->Array Value
 | []=>c
 | v::r=>eV (c.setIfInBounds off v) (off+1) r
theorem gL: ∀(vs:List Value) (c:Array Value) (off:Nat),(eV c off vs).toList=aM c.toList off vs
 | [],_,_=>rfl
 | v::r,c,off=>by rw[eV,gL r,aM];simp
theorem bM: ∀(vs:List Value) (c:Array Value) (off:Nat),(eV c off vs).size=c.size
 | [],_,_=>rfl
 | v::r,c,off=>by rw[eV,bM r];simp
theorem di {P:Program}{b o:Nat}{ty:TypeId}{fr:Nat×Nat}: ∀(vs:List Value) (i:Nat) (w:World) (c:Array Value),w.heap[b]?=g (.cells c ty fr) ->
  (∀ j,c.size<=j∨¬ (fr.1<=j/\j<fr.2))->o+i+vs.length<=c.size->(∀ v∈ vs,v.oneCell'=A) ->
  (storeCells ⟨b,o,C⟩ vs i).run P w=.ok () {w with heap:=w.heap.setIfInBounds b (.cells (eV c (o+i) vs) ty fr)}
 | [],i,w,c,h,_,_,_=>by
   simp only[storeCells,H,eV];congr 1;have:w.heap.setIfInBounds b (.cells c ty fr)=w.heap:=by
    apply ef;intro j;rw[X];by_cases e:b=j
    ·subst e;obtain⟨hlt,he⟩:=T.1 h;simp[hlt,he]
    ·simp[e]
   rw[this]
 | v::r,i,w,c,h,hf,hl,hv=>by
   have hv0:=hv v (by simp);simp only[cQ] at hl;have hlt:o+i<c.size:=by omega
   have hfz:w.frozen? ⟨b,o+i,C⟩=false:=by
    simp only[World.frozen?,h];have:=hf (o+i);obtain⟨lo,hi⟩:=fr;simp only at this ⊢;rcases this with h1 | h1
    ·omega
    ·simp only[Bool.and_eq_false_iff,decide_eq_false_iff_not];by_cases h2:lo<=o+i
     ·right;exact λh3=>h1 ⟨h2,h3⟩
     ·left;exact h2
   have hc:w.cell? ⟨b,o+i,C⟩=g c[o+i]:=by rw[cell_of h,Array.getElem?_eq_getElem hlt]
   simp only[storeCells,I,cP,run_store P w ⟨b,o+i,C⟩ v .plain hv0,hc,hfz,bW,if_false,G];rw[Mx h];have hblt:=(T.1 h).1;rw[di (ty:=ty) (fr:=fr) r (i+1) _ (c.setIfInBounds (o+i) v) (by simp[hblt]) (by simpa using hf) (by simp;omega) (λu hu=>hv u (by simp[hu]))];congr 1;simp only[eV,Array.setIfInBounds_setIfInBounds,Nat.add_assoc]
section
variable {P : Program} {Γ : br} {σ : Operand -> Option SV} {m : Mem} {nx : Nat}
theorem bC.write {K:KL}(hs:aN Γ E m nx w){tot:Nat}
  (hk:m.get key=g (.cells cs tot ty)) {off:Nat} {vs:List SV} (hv: ∀ v∈ vs,v.mo=A) (hl:off+vs.length<=cs.length) {sv:Option SV}  (hr: ∀ v,sv=g v->r=v.val E)
  (h:(K sv (m.put key (.cells (aM cs off vs) tot ty)) nx).holds) :
  ∃ w',(storeCells ⟨E key,off,C⟩ (SV.vals E vs)).run P w=.ok () w'/\bC K Γ E nx r w':=by
 obtain⟨ob,ho,c,fr,rfl,h1,h2,h3⟩:=hs.nU key _ hk rfl;have hcl:cs.length<=c.size:=by
  cases hcs:cs.length with
  | zero=>omega
  | succ n =>
    obtain⟨v,hv⟩: ∃ v,cs[n]?=g v:=⟨cs[n]'(by omega),L _⟩
    have:=h2 n v hv;have:=(T.1 this).1;omega
 have hrun:=di (P:=P) (o:=off) (SV.vals E vs) 0 w c ho h1 (by simp[SV.bG];omega) (λv hv'=>by rw[SV.bG,eA] at hv';obtain⟨u,hu,rfl⟩:=hv';exact SV.pE (hv u hu))
 refine⟨_,hrun,E,sv,_,_,λ_ _=>rfl,M _,hr,hs.write hk rfl rfl (B':=.cells (aM cs off vs) tot ty) ?_ rfl,h⟩;refine⟨_,fr,rfl,by rw[bM];exact h1,λi v hi=> ?_,by rw[bM];exact h3⟩;rw[← bf,gL,ag]
 have key2: ∀(vs:List SV) (cs:List SV) (l:List Value) (off:Nat),(∀(i:Nat) (v:SV),cs[i]?=g v->l[i]?=g (v.val E)) ->
   ∀(i:Nat) (v:SV),(aM cs off vs)[i]?=g v->(aM l off (SV.vals E vs))[i]?=g (v.val E):=by
  intro vs;induction vs with
  | nil=>intro cs l off h i v hi;exact h i v hi
  | cons x r ih =>
    intro cs l off h i v hi;simp only[aM,SV.vals] at hi ⊢;refine ih (cs.set off x) (l.set off (x.val E)) (off+1) (λj u hj=> ?_) i v hi;rw[a_] at hj ⊢;split at hj
    ·rename_i e;subst e;split at hj
     ·rename_i hlt;injection hj with hj;subst hj;have:off<l.length:=by
       obtain⟨u,hu⟩: ∃ u,cs[off]?=g u:=⟨cs[off],L hlt⟩
       have:=h off u hu;exact(O.1 this).1
      simp[this]
     ·cases hj
    ·rename_i e;rw[if_neg e];exact h j u hj
 exact key2 vs cs c.toList off (λj u hj=>by rw[bf];exact h2 j u hj) i v hi
def nS:List SV->Bool
 | []=>A
 | v::r=>v.mo&&nS r
theorem jf: ∀ {l:List SV},nS l=A->∀ v∈ l,v.mo=A
 | x::r,h,v,hv=>by
   simp only[nS,J] at h;cases hv with
   | head=>exact h.1
   | tail _ hv=>exact jf h.2 v hv
def mix (k:IntKind)(i:Nat)(v:Int):Nat->List Int->List SV
 | _,[]=>[]
 | j,z::r=>.int k F (if i=j then v else z)::mix k i v (j+1) r
theorem N4 {k:IntKind}{i:Nat}{v:Int}: ∀ {l:List Int} {j:Nat},(mix k i v j l).length=l.length
 | [],_=>rfl
 | _::r,j=>by simp[mix,N4 (l:=r)]
theorem N3 {k:IntKind}{i:Nat}{v:Int}: ∀ {l:List Int} {j q:Nat} {x:SV},(mix k i v j l)[q]?=g x->x=.int k F (if i=j+q then v else De l q)
 | [],_,_,_,h=>by simp[mix] at h
 | z::r,j,0,x,h=>by simp[mix] at h;subst h;simp[De]
 | z::r,j,q+1,x,h=>by simp only[mix,bD] at h;rw[N3 h,show j+1+q=j+(q+1)by omega];simp[De]
def lJ (i:Nat)(v:List UInt8):Nat->List (List UInt8)->List SV
 | _,[]=>[]
 | j,z::r=>.str F (if i=j then v else z)::lJ i v (j+1) r
theorem IY {i:Nat}{v:List UInt8}: ∀ {l:List (List UInt8)} {j:Nat},(lJ i v j l).length=l.length
 | [],_=>rfl
 | _::r,j=>by simp[lJ,IY (l:=r)]
theorem IX {i:Nat}{v:List UInt8}: ∀ {l:List (List UInt8)} {j q:Nat} {x:SV},(lJ i v j l)[q]?=g x->x=.str F (if i=j+q then v else bT l q)
 | [],_,_,_,h=>by simp[lJ] at h
 | z::r,j,0,x,h=>by simp[lJ] at h;subst h;simp[bT]
 | z::r,j,q+1,x,h=>by simp only[lJ,bD] at h;rw[IX h,show j+1+q=j+(q+1)by omega];simp[bT]
def ak.VF (i:Nat)(v:SV):ak->Option ak
 | .int k f=>(match v with
   | .int k' _ n=>if k=k' then g (.int k λj=>if j=i then n else f j)else C
   | _=>C)
 | .bool f=>(match v with
   | .bool _ b=>g (.bool λj=>if j=i then b else f j)
   | _=>C)
 | .str f=>(match v with
   | .str _ s=>g (.str λj=>if j=i then s else f j)
   | _=>C)
 | .ref k f=>(match v with
   | .fP _ a 0=>g (.ref k λj=>if j=i then a else f j)
   | _=>C)
 | .b7 k w z f n c=>(match v with
   | .b7 _ w' z' a 0 n' c'=>if w=w'/\z=z' then g (.b7 k w z (λj=>if j=i then a else f j) (λj=>if j=i then n' else n j) (λj=>if j=i then c' else c j))else C
   | _=>C)
 | .raw _=>C
theorem ak.MP {i:Nat}{c c':ak}(h:c.VF i v=g c')(E:Nat->Nat):(c'.at i).val E=v.val E/\∀ j,j≠i->c'.at j=c.at j:=by
 cases c with
 | int k f =>
   simp only[ak.VF] at h;split at h
   ·split at h
    ·rename_i e;subst e;injection h with h;subst h;exact⟨by simp[ak.at,SV.val],λj hj=>by simp[ak.at,hj]⟩
    ·cases h
   ·cases h
 | bool f =>
   simp only[ak.VF] at h;split at h
   ·injection h with h;subst h;exact⟨by simp[ak.at,SV.val],λj hj=>by simp[ak.at,hj]⟩
   ·cases h
 | str f =>
   simp only[ak.VF] at h;split at h
   ·injection h with h;subst h;exact⟨by simp[ak.at,SV.val],λj hj=>by simp[ak.at,hj]⟩
   ·cases h
 | ref k f =>
   simp only[ak.VF] at h;split at h
   ·injection h with h;subst h;exact⟨by simp[ak.at,SV.val],λj hj=>by simp[ak.at,hj]⟩
   ·cases h
 | b7 k w z f n c =>
   simp only[ak.VF] at h;split at h
   ·split at h
    ·rename_i e;obtain⟨rfl,rfl⟩:=e;injection h with h;subst h;exact⟨by simp[ak.at,SV.val],λj hj=>by simp[ak.at,hj]⟩
    ·cases h
   ·cases h
 | raw f=>cases h
theorem ak.wG {i:Nat}{c c':ak}(h:c.VF i v=g c'):v.mo=true:=by
 cases c<;>simp only[ak.VF] at h
 case raw=>cases h
 all_goals (split at h<;>first | rfl | cases h)
def nD (P:Program)(t:TypeId)(a x:Option SV)(m:Mem)(nx:Nat)(K:KL):VC :=
 match a,x,sz P t with
 | some (.ptr key A o),g v,g n=>(match m.get key with
   | some (.cells cs tot ty)=>if v.plain&&nS v.cells&&V (v.cells.length=n)&&V (o+n<=cs.length)then
      K C (m.put key (.cells (aM cs o v.cells) tot ty)) nx else .fail "store: cells"
   | _=>.fail "store: no such block")
 | some (.oP key base n i),g (.int k _ v),g 1=>(match m.get key with
   | some (.cells cs tot ty)=>(match gP cs base n with
     | some l=>(match uk k l with
       | some zs=>.and (.atom (i<n)) (K C (m.put key (.cells (aM cs base (mix k i v 0 zs)) tot ty)) nx)
       | none=>.fail "store: no integers")
     | none=>.fail "store: cells")
   | some (.rows F nb [c] F tot ty)=>(match c.VF (base+i) (.int k A v)with
     | some c'=>.and (.atom (i<n/\base+i<nb)) (K C (m.put key (.rows F nb [c'] F tot ty)) nx)
     | none=>.fail "store: another kind")
   | _=>.fail "store: no such block")
 | some (.oP key base n i),g (.str _ v),g 1=>(match m.get key with
   | some (.cells cs tot ty)=>(match gP cs base n with
     | some l=>(match nO l with
       | some zs=>.and (.atom (i<n)) (K C (m.put key (.cells (aM cs base (lJ i v 0 zs)) tot ty)) nx)
       | none=>.fail "store: no texts")
     | none=>.fail "store: cells")
   | _=>.fail "store: no such block")
 | some (.k6 key w i k),g v,g 1=>(match m.get key with
   | some (.rows z n ax F tot ty)=>if ax.length=w then(match ax[k]? with
     | some c=>(match c.VF i v with
       | some c'=>.and (.atom (i<n)) (K C (m.put key (.rows z n (ax.set k c') F tot ty)) nx)
       | none=>.fail "store: another kind")
     | none=>.fail "store: no such column")else .fail "store: another row"
   | _=>.fail "store: no such row")
 | some (.fP key b o),g v,g 1=>(match m.get key with
   | some (.dV D cs tot ty F)=>(match cs[o]? with
     | some c=>(match c.VF b v with
       | some c'=>.and (.atom (D b=A)) (K C (m.put key (.dV D (cs.set o c') tot ty F)) nx)
       | none=>.fail "store: another kind")
     | none=>.fail "store: no such column")
   | _=>.fail "store: no family")
 | _,_,_=>.fail "store"
theorem p5 {α:Type}: ∀(vs cs:List α) (off q:Nat) (u:α),(aM cs off vs)[q]?=g u->off+vs.length<=cs.length->(off<=q/\q<off+vs.length/\vs[q - off]?=g u)∨((q<off∨off+vs.length<=q)/\cs[q]?=g u):=by
 intro vs;induction vs with
 | nil=>intro cs off q u hq _;right;exact⟨by simp;omega,hq⟩
 | cons x r ih =>
   intro cs off q u hq hle;simp only[aM] at hq;simp only[cQ] at hle ⊢;rcases ih (cs.set off x) (off+1) q u hq (by simp;omega)with ⟨g1,g2,g3⟩ | ⟨g1,g2⟩
   ·left;refine⟨by omega,by omega,?_⟩;rw[show q - off=(q - (off+1))+1 by omega];simpa using g3
   ·rw[a_] at g2;split at g2
    ·rename_i e;subst e;rw[if_pos (by omega)] at g2;left;refine⟨by omega,by omega,?_⟩;rw[eL];simpa using g2
    ·right;exact⟨by omega,g2⟩
theorem Ec {a x:Operand} :
  qn P Γ σ m nx ⟨dst,.store t a x,type,pos,after,guard⟩ (nD P t (σ a) (σ x) m nx):=by
 intro K E w ρ h hs hw hσ hr;unfold nD at h;split at h
 ·rename_i key o v n ha hx hn;split at h
  ·rename_i cs tot ty hk;split at h
   ·rename_i hc;simp only[J,decide_eq_true_eq] at hc;obtain⟨⟨⟨h1,h2⟩,h3⟩,h4⟩:=hc;obtain⟨w',hrun,haft⟩:=bC.write (P:=P) (r:=undef) hs hk (jf h2) (by omega) (λv hv=>by cases hv) h;have hcv:=SV.fA (E:=E) h1;have hsize:(v.val E).cells.size=n:=by rw[hcv];simp[h3]
    simp only[execOp,an,hr a _ ha,hr x _ hx,SV.val,ay,I,H,G,storeVar,cg hn,hsize];simp only[ne_eq,not_true_eq_false,if_false];rw[hcv];rw[SV.bG] at hrun;simp only[hrun,G,Out];exact haft
   ·exact h.elim
  ·exact h.elim
 ·rename_i key base n i k lf v ha hx hn;split at h
  ·rename_i cs tot ty hk;split at h
   ·rename_i l hl;split at h
    ·rename_i zs hz;obtain⟨hi,h⟩:=h;have hi:i<n:=hi;have hg:=cN hl;have hzg:=pz hz;have hlt:base+i<cs.length:=by have:(l[i]?)=g (l[i]'(by rw[hg.1];exact hi)):=L _;exact(O.1 (hg.2 i _ this)).1
     obtain⟨ob,ho,c,fr,rfl,h1,h2,h3⟩:=hs.nU key _ hk rfl;have hcl:base+i<c.size:=(T.1 (h2 _ _ (L hlt))).1;have hrun:=di (P:=P) (o:=base+i) [aO k v] 0 w c ho h1 (by simp;omega) (λu hu=>by simp at hu;subst hu;rfl);have hE:=hs.write hk rfl rfl (B':=.cells (aM cs base (mix k i v 0 zs)) tot ty) (o:=.cells (eV c (base+i+0) [aO k v]) ty fr) ?_ rfl
     ·simp only[execOp,an,hr a _ ha,hr x _ hx,SV.val,ay,I,H,G,storeVar,cg hn];simp only[c5,bH,Z,ne_eq,not_true_eq_false,if_false,hrun,G,Out];exact⟨E,C,_,_,λ_ _=>rfl,M _,(λv hv=>by cases hv),hE,h⟩
     ·refine⟨_,fr,rfl,by rw[bM];exact h1,λq u hq=> ?_,by rw[bM];exact h3⟩;have hmixlen:(mix k i v 0 zs).length=n:=by rw[N4,hzg.1,hg.1]
      have hset: ∀(vs cs:List SV) (off q:Nat) (u:SV),(aM cs off vs)[q]?=g u->off+vs.length<=cs.length->(off<=q/\q<off+vs.length/\vs[q - off]?=g u)∨((q<off∨off+vs.length<=q)/\cs[q]?=g u):=by
       intro vs;induction vs with
       | nil=>intro cs off q u hq _;right;exact⟨by simp;omega,hq⟩
       | cons x r ih =>
         intro cs off q u hq hle;simp only[aM] at hq;simp only[cQ] at hle ⊢;rcases ih (cs.set off x) (off+1) q u hq (by simp;omega)with ⟨g1,g2,g3⟩ | ⟨g1,g2⟩
         ·left;refine⟨by omega,by omega,?_⟩;rw[show q - off=(q - (off+1))+1 by omega];simpa using g3
         ·rw[a_] at g2;split at g2
          ·rename_i e;subst e;rw[if_pos (by omega)] at g2;left;refine⟨by omega,by omega,?_⟩;rw[eL];simpa using g2
          ·right;exact⟨by omega,g2⟩
      have hbase:base+n<=cs.length:=by
       cases n with
       | zero=>omega
       | succ n' =>have:(l[n']?)=g (l[n']'(by rw[hg.1];omega)):=L _;have:=(O.1 (hg.2 n' _ this)).1;omega
      have hsa:(eV c (base+i+0) [aO k v])[q]?=if base+i=q then g (.int k v)else c[q]?:=by
       simp only[eV,ag];rw[X];by_cases e:base+i=q
       ·rw[if_pos e,if_pos e,if_pos (by omega)]
       ·rw[if_neg e,if_neg e]
      rw[hsa];rcases hset _ _ _ _ _ hq (by rw[hmixlen];exact hbase)with ⟨g1,g2,g3⟩ | ⟨g1,g2⟩
      ·have hu:=N3 g3;subst hu;rw[hmixlen] at g2;by_cases e:base+i=q
       ·rw[if_pos e,if_pos (by omega)];rfl
       ·rw[if_neg e,if_neg (by omega)];have hq':(l[q - base]?)=g (l[q - base]'(by rw[hg.1];omega)):=L _;obtain⟨b,hb⟩:=hzg.2 _ _ hq';have:=h2 _ _ (hg.2 _ _ hq');rw[show base+(q - base)=q by omega,hb] at this;rw[this];rfl
      ·rw[hmixlen] at g1;rw[if_neg (by omega)];exact h2 q u g2
    ·exact h.elim
   ·exact h.elim
  ·rename_i nb col tot ty hk;split at h
   ·rename_i col' hup;obtain⟨⟨hi,hb⟩,h⟩:=h;have hb:base+i<nb:=hb;obtain⟨ob,ho,c,fr,rfl,h1,h2,h3,h4⟩:=hs.nU key _ hk rfl;have hcl:base+i<c.size:=by simp only[cQ,List.length_nil] at h2;omega
    obtain⟨u1,u2⟩:=ak.MP hup E;have hrun:=di (P:=P) (o:=base+i) [aO k v] 0 w c ho (h1 rfl) (by simp;omega) (λu hu=>by simp at hu;subst hu;rfl);have hE:=hs.write hk rfl rfl (B':=.rows F nb [col'] F tot ty) (o:=.cells (eV c (base+i+0) [aO k v]) ty fr) ?_ rfl
    ·simp only[execOp,an,hr a _ ha,hr x _ hx,SV.val,ay,I,H,G,storeVar,cg hn];simp only[c5,bH,Z,ne_eq,not_true_eq_false,if_false,hrun,G,Out];exact⟨E,C,_,_,λ_ _=>rfl,M _,(λv hv=>by cases hv),hE,h⟩
    ·refine⟨_,fr,rfl,λ_=>by rw[bM];exact h1 rfl,by rw[bM];exact h2,by rw[bM];exact h3,λi' k' cl hi' hk'=> ?_⟩
     match k',hk' with
     | 0,hk' =>
       simp only[cx,Option.some.injEq] at hk';subst hk';have hsa:(eV c (base+i+0) [aO k v])[i'*[col'].length+0]?=if base+i=i' then g (.int k v)else c[i']?:=by
        simp only[eV,ag,Z,Nat.mul_one];rw[X];by_cases e:base+i=i'
        ·rw[if_pos e,if_pos e,if_pos (by omega)]
        ·rw[if_neg e,if_neg e]
       rw[hsa];by_cases e:base+i=i'
       ·subst e;rw[if_pos rfl];exact congrArg g u1.symm
       ·rw[if_neg e,u2 i' (λh=>e h.symm)];have:=h4 i' 0 col hi' rfl;simpa using this
     | q+1,hk'=>simp at hk'
   ·exact h.elim
  ·exact h.elim
 ·rename_i key base n i lf v ha hx hn;split at h
  ·rename_i cs tot ty hk;split at h
   ·rename_i l hl;split at h
    ·rename_i zs hz;obtain⟨hi,h⟩:=h;have hi:i<n:=hi;have hg:=cN hl;have hzg:=mM hz;have hzl:=uO hz;have hlt:base+i<cs.length:=by have:(l[i]?)=g (l[i]'(by rw[hg.1];exact hi)):=L _;exact(O.1 (hg.2 i _ this)).1
     obtain⟨ob,ho,c,fr,rfl,h1,h2,h3⟩:=hs.nU key _ hk rfl;have hcl:base+i<c.size:=(T.1 (h2 _ _ (L hlt))).1;have hrun:=di (P:=P) (o:=base+i) [c_ ⟨v.toArray⟩] 0 w c ho h1 (by simp;omega) (λu hu=>by simp at hu;subst hu;rfl);have hE:=hs.write hk rfl rfl (B':=.cells (aM cs base (lJ i v 0 zs)) tot ty) (o:=.cells (eV c (base+i+0) [c_ ⟨v.toArray⟩]) ty fr) ?_ rfl
     ·simp only[execOp,an,hr a _ ha,hr x _ hx,SV.val,ay,I,H,G,storeVar,cg hn];simp only[c5,bH,Z,ne_eq,not_true_eq_false,if_false,hrun,G,Out];exact⟨E,C,_,_,λ_ _=>rfl,M _,(λv hv=>by cases hv),hE,h⟩
     ·refine⟨_,fr,rfl,by rw[bM];exact h1,λq u hq=> ?_,by rw[bM];exact h3⟩;have hmixlen:(lJ i v 0 zs).length=n:=by rw[IY,hzl,hg.1]
      have hbase:base+n<=cs.length:=by
       cases n with
       | zero=>omega
       | succ n' =>have:(l[n']?)=g (l[n']'(by rw[hg.1];omega)):=L _;have:=(O.1 (hg.2 n' _ this)).1;omega
      have hsa:(eV c (base+i+0) [c_ ⟨v.toArray⟩])[q]?=if base+i=q then g (.string ⟨v.toArray⟩)else c[q]?:=by
       simp only[eV,ag];rw[X];by_cases e:base+i=q
       ·rw[if_pos e,if_pos e,if_pos (by omega)]
       ·rw[if_neg e,if_neg e]
      rw[hsa];rcases p5 _ _ _ _ _ hq (by rw[hmixlen];exact hbase)with ⟨g1,g2,g3⟩ | ⟨g1,g2⟩
      ·have hu:=IX g3;subst hu;rw[hmixlen] at g2;by_cases e:base+i=q
       ·rw[if_pos e,if_pos (by omega)];rfl
       ·rw[if_neg e,if_neg (by omega)];have hq':(l[q - base]?)=g (l[q - base]'(by rw[hg.1];omega)):=L _;obtain⟨b,hb⟩:=hzg _ _ hq';have:=h2 _ _ (hg.2 _ _ hq');rw[show base+(q - base)=q by omega,hb] at this;rw[this];rfl
      ·rw[hmixlen] at g1;rw[if_neg (by omega)];exact h2 q u g2
    ·exact h.elim
   ·exact h.elim
  ·exact h.elim
 ·rename_i key w0 i k v ha hx hn;split at h
  ·rename_i z n ax tot ty hk;split at h
   ·rename_i hw0;split at h
    ·rename_i col hcol;split at h
     ·rename_i col' hup;obtain⟨hi,h⟩:=h;have hi:i<n:=hi;subst hw0;have hkl:k<ax.length:=(O.1 hcol).1;obtain⟨ob,ho,c,fr,rfl,h1,h2,h3,h4⟩:=hs.nU key _ hk (SB.iN hi);have hcl:i*ax.length+k<c.size:=by
       have:i*ax.length+k<n*ax.length:=by have:(i+1)*ax.length<=n*ax.length:=a! _ hi;rw[W] at this;omega
       omega
      obtain⟨u1,u2⟩:=ak.MP hup E;have hrun:=di (P:=P) (o:=i*ax.length+k) [v.val E] 0 w c ho (h1 rfl) (by simp;omega) (λu hu=>by simp at hu;subst hu;exact SV.pE (ak.wG hup));have hE:=hs.write hk (SB.iN hi) rfl (B':=.rows z n (ax.set k col') F tot ty) (o:=.cells (eV c (i*ax.length+k+0) [v.val E]) ty fr) ?_ rfl
      ·have hcell:(v.val E).cells=#[v.val E]:=by
        have hc:=ak.wG hup;cases v<;>first | rfl | (simp[SV.mo] at hc;done) | skip
        rename_i u;cases u<;>first | rfl | (simp[SV.mo] at hc;done)
       simp only[execOp,an,hr a _ ha,hr x _ hx,SV.val,ay,I,H,G,storeVar,cg hn,hcell];simp only[bH,Z,ne_eq,not_true_eq_false,if_false,hrun,G,Out];exact⟨E,C,_,_,λ_ _=>rfl,M _,(λv hv=>by cases hv),hE,h⟩
      ·refine⟨_,fr,rfl,λ_=>by rw[bM];exact h1 rfl,by rw[bM,d_];exact h2,by rw[bM];exact h3,λi' k' cl hi' hk'=> ?_⟩;rw[d_];have hk'l:k'<ax.length:=by
        have:=(O.1 hk').1
        rwa [d_] at this
       have hsa:(eV c (i*ax.length+k+0) [v.val E])[i'*ax.length+k']?=if i*ax.length+k=i'*ax.length+k' then g (v.val E)else c[i'*ax.length+k']?:=by
        simp only[eV,ag];rw[X];by_cases e:i*ax.length+k=i'*ax.length+k'
        ·rw[if_pos e,if_pos e,if_pos hcl]
        ·rw[if_neg e,if_neg e]
       have hinj:i*ax.length+k=i'*ax.length+k'->i=i'/\k=k':=λe=>by
        have e1:i=i':=by
         rcases Nat.lt_trichotomy i i' with hlt | heq | hgt
         ·have:(i+1)*ax.length<=i'*ax.length:=a! _ hlt;rw[W] at this;omega
         ·exact heq
         ·have:(i'+1)*ax.length<=i*ax.length:=a! _ hgt;rw[W] at this;omega
        subst e1;exact⟨rfl,by omega⟩
       rw[hsa];rw[a_] at hk';by_cases e:k=k'
       ·rw[if_pos e,if_pos hkl] at hk';injection hk' with hk';subst hk';by_cases ei:i'=i
        ·subst ei;subst e;rw[if_pos rfl,u1]
        ·rw[if_neg (λh=>ei (hinj h).1.symm),u2 i' ei];subst e;exact h4 i' k col hi' hcol
       ·rw[if_neg e] at hk';rw[if_neg (λh=>e (hinj h).2)];exact h4 i' k' cl hi' hk'
     ·exact h.elim
    ·exact h.elim
   ·exact h.elim
  ·exact h.elim
 ·rename_i key b o v ha hx hn;split at h
  ·rename_i D cs tot ty hk;split at h
   ·rename_i col hcol;split at h
    ·rename_i col' hup;obtain⟨hD,h⟩:=h;have hD:D b=true:=hD;have hol:o<cs.length:=(O.1 hcol).1;obtain⟨ob,ho,c,fr,rfl,h1,h2,h3⟩:=hs.iC key _ b hk hD;have hoc:o<c.size:=(T.1 (h2 o (col.at b) (by rw[S,hcol];rfl))).1;have hvc:=SV.pE (E:=E) (ak.wG hup);obtain⟨u1,u2⟩:=ak.MP hup E;have hrun:=di (P:=P) (o:=o) [v.val E] 0 w c ho h1 (by simp;omega) (λu hu=>by simp at hu;subst hu;exact hvc);have hE:=hs.Wj hk hD (cs':=cs.set o col') (o:=.cells (eV c (o+0) [v.val E]) ty fr) ?_ ?_
     ·have hcells:(v.val E).cells=#[v.val E]:=by
       have hc:=ak.wG hup;cases v<;>first | rfl | (simp[SV.mo] at hc;done) | skip
       rename_i u;cases u<;>first | rfl | (simp[SV.mo] at hc;done)
      simp only[execOp,an,hr a _ ha,hr x _ hx,SV.val,ay,I,H,G,storeVar,cg hn];simp only[hcells,bH,Z,ne_eq,not_true_eq_false,if_false,hrun,G,Out];exact⟨E,C,_,_,λ_ _=>rfl,M _,(λv hv=>by cases hv),hE,h⟩
     ·refine⟨_,fr,rfl,by rw[bM];exact h1,λq u hq=> ?_,by rw[bM];exact h3⟩;simp only[eV,ag];rw[X];rw[S,a_] at hq;by_cases e:o=q
      ·rw[if_pos e] at hq ⊢;rw[if_pos hoc];rw[if_pos hol] at hq;injection hq with hq;subst hq;rw[u1]
      ·rw[if_neg e] at hq ⊢;exact h2 q u (by rw[S];exact hq)
     ·intro b' hb';apply c!;intro q;rw[S,S,a_];by_cases e:o=q
      ·subst e;rw[if_pos rfl,if_pos hol,hcol];exact congrArg g (u2 b' hb')
      ·rw[if_neg e]
    ·exact h.elim
   ·exact h.elim
  ·exact h.elim
 ·exact h.elim
end
theorem Z3 (h:Mem.wf nx m=A):Mem.wf nx (m.drop key)=true:=by
 induction m with
 | nil=>rfl
 | cons e r ih =>
   simp only[Mem.wf,J] at h;by_cases he:e.1=key
   ·rw[Mem.drop,if_pos he];exact ih h.2
   ·rw[Mem.drop,if_neg he];simp only[Mem.wf,J];exact⟨h.1,ih h.2⟩
def hJ (m:Mem)(s:Nat):SV->Option (List SV×Nat)
 | .aP=>g ([],0)
 | .slc key o n _ _=>(match m.get key with
   | some (.cells cs _ _)=>(match gP cs o (n*s)with
     | some l=>g (l,n)
     | none=>C)
   | _=>C)
 | _=>C
theorem jB {Γ E m nx w}(hs:aN Γ E m nx w)(h:hJ m s x=g (l,n)) :
  (b_ (x.val E)).run P w=.ok n w/\(∀ j,j<=n->(N s j (x.val E)).run P w=.ok (SV.vals E (l.take (j*s))).toArray w)/\l.length=n*s:=by
 unfold hJ at h;split at h
 ·injection h with h;injection h with h1 h2;subst h1;subst h2;refine⟨rfl,λj hj=> ?_,by simp⟩;obtain rfl:j=0:=by omega
  simp[SV.val,N,SV.vals]
 ·rename_i key o n' cl c;split at h
  ·rename_i cs tot ty hk;split at h
   ·rename_i l' hl;injection h with h;injection h with h1 h2;subst h1;subst h2;have hg:=cN hl;obtain⟨ob,ho,c0,fr,rfl,_,h2,_⟩:=hs.nU key _ hk rfl;refine⟨rfl,λj hj=> ?_,hg.1⟩;have hle:j*s<=n'*s:=a! s hj;have hrun:=run_loadCells (P:=P) (w:=w) ho o ((l'.take (j*s)).map (SV.val E)) (λi v hi=>by
     rw[S] at hi;cases hil:(l'.take (j*s))[i]? with
     | none=>rw[hil] at hi;cases hi
     | some u =>
       rw[hil] at hi;injection hi with hi;subst hi;have:l'[i]?=g u:=by
        rw[ep] at hil;split at hil
        ·exact hil
        ·cases hil
       exact h2 _ _ (hg.2 i u this))
    have hlen:((l'.take (j*s)).map (SV.val E)).length=j*s:=by rw[er,eu,hg.1];exact Nat.min_eq_left hle
    rw[hlen] at hrun;simp only[SV.val,N,hrun,SV.bG]
   ·cases h
  ·cases h
 ·cases h
def bytes (P:Program)(t:TypeId):Option Nat:=match P.info? t with | some i=>g i.bytes | none=>C
def grown (elem:TypeId)(need:Nat)(cs:List SV)(s:Nat)(m:Mem)(nx:Nat)(K:KL):VC :=.all Nat λc=>.imp (need<=c) (K (g (.slc nx 0 need F c)) ((nx,.cells cs (c*s) elem)::m) (nx+1))
def xG (P:Program)(elem:TypeId)(s:Nat)(b:SV)(new:List SV)(n:Nat)(m:Mem)(nx:Nat)(K:KL):VC :=
 match bytes P elem,gC P elem,hJ m s b with
 | some by_,g z,g (old,n0) =>
   if(z.plain&&nS new&&SV.fO nx new&&V (z.cells.length=s)&&V (2*(n0+n)*by_<=281474976710656)&&V (n0+n<9223372036854775808))=A then
   (match b with
   | .aP=>(match n with
     | 0=>K (g .aP) m nx
     | n+1=>grown elem (n+1) new s m nx K)
   | .slc key o _ A c=>(match m.get key with
     | some (.cells cs tot ty)=>if n0+n<=c then(if o+n0*s+new.length<=cs.length then
        K (g (.slc key o (n0+n) A c)) (m.put key (.cells (aM cs (o+n0*s) new) tot ty)) nx else .fail "append: cells that are not known")else
        grown elem (n0+n) (old++new) s m nx K
     | _=>.fail "append: no such block")
   | .slc key 0 _ F c=>(match m.get key with
     | some (.cells cs tot ty)=>if cs.length=n0*s/\ty=elem then .and (jP tot (c*s)) (.all Nat λc'=>.imp (n0+n<=c') (K (g (.slc nx 0 (n0+n) F c')) ((nx,.cells (old++new) (c'*s) elem)::m.drop key) (nx+1)))
        else .fail "append: another block"
     | _=>.fail "append: no such block")
   | _=>.fail "append: to what")
   else .fail "append: sizes"
 | _,_,_=>.fail "append"
theorem LX (need c:Nat)(h:c<need):b! need c<=2*need:=by
 unfold b!;split
 ·omega
 ·split
  ·omega
  ·rename_i h1 h2;have key: ∀(r x:Nat),256<=x->x<need->bx need r x<=2*need:=by
    intro r;induction r with
    | zero=>intro x h3 h4;simp only[bx];omega
    | succ r ih =>
      intro x h3 h4;simp only[bx];rw[if_neg (by omega)];by_cases h5:x+(x+768) / 4<need
      ·exact ih _ (by omega) h5
      ·cases r with
       | zero=>simp only[bx];omega
       | succ r=>simp only[bx];rw[if_pos (by omega)];omega
   exact key 4 c (by omega) h
theorem QB {q:Question}(hq:q.forced=F):(choose q).run P w=.ok (q.cut (w.tape w.drawn q)) {w with drawn:=w.drawn+1}:=by rw[run_choose,hq];rfl
def xY:TypeDesc->Bool
 | .slice _=>A
 | .string=>A
 | _=>F
section
variable {P : Program} {Γ : br}
theorem mU {by_:Nat}{base:Option Addr}{c:Nat}{x z:Value}{old:Array Value}
  (h0:ats[0]?=g t0) (h1:ats[1]?=g t1) (hd:P.underlying t0=g (.slice elem)) (hd1:P.underlying t1=g d) (hni:xY d=A) (hs:sz P elem=g s) (hb:bytes P elem=g by_)
  (hz: ∀ w,(zeroValue elem).run P w=.ok z w) (hzs:z.cells.size=s) (hlen:(b_ x).run P w=.ok n w)
  (hold: ∀ k,(N s n0 (.slice base n0 c)).run P {w with drawn:=k}=.ok old {w with drawn:=k}) (hnew: ∀ k,(N s n x).run P {w with drawn:=k}=.ok new {w with drawn:=k})
  (hneed:c<n0+n) (hbound:2*(n0+n)*by_<=2^ 48) (hsmall:n0+n<2^ 63) :
  ∃ c' rest,n0+n<=c'/\rest.size=(c' - (n0+n))*s/\(Y ats ty #[.slice base n0 c,x]).run P w =
    .ok (.slice (g ⟨w.heap.size,0,C⟩) (n0+n) c') {w with drawn:=w.drawn+1,heap:=w.heap.push (.cells (old++new++rest) elem)}:=by
 have hby: ∃ i,P.info? elem=g i/\i.bytes=by_:=by
  unfold bytes at hb;split at hb
  ·rename_i i hi;injection hb with hb;exact⟨i,hi,hb⟩
  ·cases hb
 obtain⟨i,hi,hib⟩:=hby;have hcap:=LX (n0+n) c hneed;have hmul:b! (n0+n) c*by_<=2^ 48:=eC (a! by_ hcap) hbound;have h2: ¬ (n0+n<=c):=by omega
 have h3: ¬ (((n0+n:Nat):Int)>9223372036854775807):=by omega
 have h4: ¬ (b! (n0+n) c*by_>2^ 48):=Nat.not_lt.2 hmul;refine⟨(Question.appendCap (n0+n) c elem).cut (w.tape w.drawn (.appendCap (n0+n) c elem)),ek z.cells ((Question.appendCap (n0+n) c elem).cut (w.tape w.drawn (.appendCap (n0+n) c elem)) - (n0+n)),?_,?_,?_⟩
 ·simp only[Question.cut];omega
 ·simp[ek,hzs]
 ·cases d
  all_goals first | (cases hni;done) | skip
  all_goals
   simp only[Y,h0,h1,dG,cx,bD,I,aE hd,G,cg hs,aE hd1,H,
    bW,if_false,hlen,ct,h2,jx hi,hib,imax,h3,false_and,h4,QB (q:=.appendCap (n0+n) c elem) rfl,run_askRoom,hold,c4,if_true,hnew,hz,newRow,run_newObj]
theorem rS {w':World}{b:Nat}{c:Nat}{x:Value}
  (h0:ats[0]?=g t0) (h1:ats[1]?=g t1) (hd:P.underlying t0=g (.slice elem)) (hd1:P.underlying t1=g d) (hni:xY d=A) (hs:sz P elem=g s)
  (hlen:(b_ x).run P w=.ok n w) (hnew:(N s n x).run P w=.ok new w) (hneed:n0+n<=c)
  (hst:(storeCells ⟨b,o+n0*s,C⟩ new.toList).run P w=.ok () w') :
  (Y ats ty #[.slice (g ⟨b,o,C⟩) n0 c,x]).run P w=.ok (.slice (g ⟨b,o,C⟩) (n0+n) c) w':=by
 cases d
 all_goals first | (cases hni;done) | skip
 all_goals
  simp only[Y,h0,h1,dG,cx,bD,I,aE hd,G,cg hs,aE hd1,H,
   bW,if_false,hlen,ct,hneed,if_true,hnew,c4,cP,hst]
theorem append_nil {x:Value}
  (h0:ats[0]?=g t0) (h1:ats[1]?=g t1) (hd:P.underlying t0=g (.slice elem)) (hd1:P.underlying t1=g d) (hni:xY d=A) (hs:sz P elem=g s)
  (hlen:(b_ x).run P w=.ok 0 w) (hnew:(N s 0 x).run P w=.ok new w) :
  (Y ats ty #[.slice C 0 0,x]).run P w=.ok (.slice C 0 0) w:=by
 cases d
 all_goals first | (cases hni;done) | skip
 all_goals
  simp only[Y,h0,h1,dG,cx,bD,I,aE hd,G,cg hs,aE hd1,H,
   bW,if_false,hlen,ct,ag,M,if_true,hnew,c4]
theorem wo {c:Nat}{cl:Bool}(h:hJ m s (.slc key o n cl c)=g (l,n0)):n0=n:=by
 simp only[hJ] at h;split at h
 ·split at h
  ·injection h with h;injection h with _ h;exact h.symm
  ·cases h
 ·cases h
theorem bC.grown {K:KL}(hs:aN Γ E m nx w)(hw:Mem.wf nx m=A){need:Nat}
  (hcs:SV.fO nx cs=A) (hl:cs.length=need*s) (h:(Sx.grown elem need cs s m nx K).holds) {c':Nat} (hc':need<=c') {rest:Array Value} (hr:rest.size=(c' - need)*s) {a:Array Value} (ha:a.toList=cs.map (SV.val E)) :
  bC K Γ E nx (.slice (g ⟨w.heap.size,0,C⟩) need c') {w with drawn:=w.drawn+1,heap:=w.heap.push (.cells (a++rest) elem)}:=by
 have h':=h c' hc';have hs':=hs.drew (w.drawn+1);refine bC.alloc (sv:=.slc nx 0 need F c') hs' hw hcs (λi v hv=> ?_) ?_ h' (by simp[SV.val])
 ·have:=vD (E:=E) ha i v hv;rw[Array.getElem?_append_left (T.1 this).1];exact this
 ·rw[Array.size_append,qY (E:=E) ha,hl,hr,← W];congr 1;omega
theorem JU (hw:Mem.wf nx m=A)(h:hJ m s x=g (l,n)):SV.fO nx l=true:=by
 unfold hJ at h;split at h
 ·injection h with h;injection h with h1 h2;subst h1;rfl
 ·split at h
  ·rename_i cs tot ty hk;split at h
   ·rename_i l' hl;injection h with h;injection h with h1 h2;subst h1;have hwk:=Mem.G7 hw hk;simp only[SB.wf] at hwk;have hg:=cN hl;have: ∀(l':List SV),(∀(j:Nat) (v:SV),l'[j]?=g v->v.wf nx=A)->SV.fO nx l'=true:=by
     intro l';induction l' with
     | nil=>intro _;rfl
     | cons x r ih=>intro hh;simp only[SV.fO,J];exact⟨hh 0 x rfl,ih λj v hj=>hh (j+1) v (by simpa using hj)⟩
    exact this l' λj v hj=>SV.s8 hwk (hg.2 j v hj)
   ·cases h
  ·cases h
 ·cases h
def zW (P:Program)(ats:Array TypeId)(x y:SV)(m:Mem)(nx:Nat)(K:KL):VC :=
 match ats[0]?,ats[1]? with
 | some t0,g t1=>(match P.underlying t0,P.underlying t1 with
   | some (.slice elem),g d=>(match sz P elem with
     | some s=>(match hJ m s y with
       | some (new,n)=>if xY d=A then xG P elem s x new n m nx K else .fail "append: make"
       | none=>.fail "append: of what")
     | none=>.fail "append")
   | _,_=>.fail "append")
 | _,_=>.fail "append"
theorem Lu {y:SV}{K:KL}
  (h:(zW P ats x y m nx K).holds) (hs:aN Γ E m nx w) (hw:Mem.wf nx m=A) :
  ∃ r w',(Y ats ty #[x.val E,y.val E]).run P w=.ok r w'/\bC K Γ E nx r w':=by
 unfold zW at h;split at h
 ·rename_i t0 t1 h0 h1;split at h
  ·rename_i elem d hd hd1;split at h
   ·rename_i s hsz;split at h
    ·rename_i new n hy;split at h
     ·rename_i hni;obtain⟨ylen,ycells,ynum⟩:=jB (P:=P) hs hy;have hynew:=ycells n (M _);rw[d! (by omega)] at hynew;unfold xG at h;split at h
      ·rename_i by_ z old n0 hby hz hx;split at h
       ·rename_i hc;simp only[J,decide_eq_true_eq] at hc;obtain⟨⟨⟨⟨⟨g1,g2⟩,g3⟩,g4⟩,g5⟩,g6⟩:=hc;have hzr: ∀ w:World,(zeroValue elem).run P w=.ok (z.val E) w:=λw=>dL hz;have hzs:(z.val E).cells.size=s:=by rw[SV.fA g1];simp[g4]
        have hdraw: ∀ k,aN Γ E m nx {w with drawn:=k}:=λk=>hs.drew k;have ydraw: ∀ k,(N s n (y.val E)).run P {w with drawn:=k}=.ok (SV.vals E new).toArray {w with drawn:=k}:=λk=>by have:=(jB (P:=P) (hdraw k) hy).2.1 n (M _);rw[d! (by omega)] at this;exact this
        have oldwf:=JU hw hx;obtain⟨xlen,xcells,xnum⟩:=jB (P:=P) hs hx;have xdraw: ∀ k,(N s n0 (x.val E)).run P {w with drawn:=k}=.ok (SV.vals E old).toArray {w with drawn:=k}:=λk=>by have:=(jB (P:=P) (hdraw k) hx).2.1 n0 (M _);rw[d! (by omega)] at this;exact this
        split at h
        ·
         simp only[hJ] at hx;injection hx with hx;injection hx with e1 e2;subst e1;subst e2;split at h
         ·exact⟨_,_,append_nil h0 h1 hd hd1 hni hsz ylen hynew,E,g .aP,m,nx,λ_ _=>rfl,M _,λv hv=>by injection hv with hv;subst hv;rfl,hs,h⟩
         ·rename_i n';obtain⟨c',rest,q1,q2,q3⟩:=mU (w:=w) (ty:=ty) (base:=C) (n0:=0) (c:=0) h0 h1 hd hd1 hni hsz hby hzr hzs ylen xdraw ydraw (by omega) (by omega) (by omega);refine⟨_,_,q3,?_⟩;rw[eM] at q1 q2 ⊢;exact bC.grown hs hw g3 ynum h q1 q2 (by simp[SV.bG,SV.vals])
        ·
         rename_i key o _ c;have e0:=wo hx;subst e0;split at h
         ·rename_i cs tot ty' hk;split at h
          ·rename_i hle;split at h
           ·rename_i hin
            obtain⟨w',hrun,haft⟩:=bC.write (P:=P) (sv:=g (.slc key o (n0+n) A c)) (r:=.slice (g ⟨E key,o,C⟩) (n0+n) c) hs hk (jf g2) hin
             (λv hv=>by injection hv with hv;subst hv;rfl) h
            exact⟨_,w',rS h0 h1 hd hd1 hni hsz ylen hynew hle hrun,haft⟩
           ·exact h.elim
          ·rename_i hle;obtain⟨c',rest,q1,q2,q3⟩:=mU (w:=w) (ty:=ty) (base:=g ⟨E key,o,C⟩) (n0:=n0) (c:=c) h0 h1 hd hd1 hni hsz hby hzr hzs ylen xdraw ydraw (by omega) (by omega) (by omega);exact⟨_,_,q3,bC.grown hs hw (fj oldwf g3) (by simp[xnum,ynum,W]) h q1 q2 (by simp[SV.bG])⟩
         ·exact h.elim
        ·
         rename_i key _ c;have e0:=wo hx;subst e0;split at h
         ·rename_i cs tot ty' hk;split at h
          ·rename_i hcond;obtain⟨hcl,rfl⟩:=hcond;obtain⟨htot,h⟩:=h;have htot:tot=c*s:=htot;by_cases hle:n0+n<=c
           ·
            obtain⟨ob,ho,ca,fr,rfl,hf1,hf2,hf3⟩:=hs.nU key _ hk rfl;have hcap:n0*s+new.length<=ca.size:=by rw[hf3,htot,ynum,← W];exact a! s hle
            have hrun:=di (P:=P) (o:=0+n0*s) (SV.vals E new) 0 w ca ho hf1 (by simp[SV.bG];omega) (λv hv'=>by rw[SV.bG,eA] at hv';obtain⟨u,hu,rfl⟩:=hv';exact SV.pE (jf g2 u hu))
            refine⟨_,_,rS (o:=0) h0 h1 hd hd1 hni hsz ylen hynew hle hrun,?_⟩;have hold:old=cs:=by
             simp only[hJ,hk] at hx;split at hx
             ·rename_i l hl;injection hx with hx;injection hx with e1 _;subst e1;have hg:=cN hl;apply c!;intro j;by_cases hj:j<l.length
              ·have:=hg.2 j l[j] (L hj);rw[eM] at this;rw[this,L hj]
              ·rw[cy (by omega),cy (by rw[hcl,← hg.1];omega)]
             ·cases hx
            have hkn:=hs.lt key _ hk
            refine⟨λj=>if j=nx then E key else E j,g (.slc nx 0 (n0+n) F c),_,_,λk hk'=>by simp[ec hk'],eB _,λv hv=>by injection hv with hv;subst hv;simp[SV.val],
             hs.move hw hk rfl rfl (B':=.cells (old++new) (c*s) ty') ?_,h c hle⟩
            refine⟨_,fr,rfl,by rw[bM];exact hf1,λi v hi=> ?_,by rw[bM,hf3,htot]⟩;have hcong:v.val (λj=>if j=nx then E key else E j)=v.val E:=SV.val_congr (nx:=nx) (λk hk'=>by simp[ec hk']) v (SV.s8 (fj oldwf g3) hi)
            rw[hcong,← bf,gL];have hcat: ∀(vs:List Value) (pre post:List Value),vs.length<=post.length->aM (pre++post) pre.length vs=pre++(vs++post.drop vs.length):=by
             intro vs;induction vs with
             | nil=>intro pre post _;simp[aM]
             | cons u r ih =>
               intro pre post hp;cases post with
               | nil=>simp at hp
               | cons q qs =>
                 rw[aM];have:(pre++q::qs).set pre.length u=(pre++[u])++qs:=by simp
                 rw[this];have:=ih (pre++[u]) qs (by simpa using hp);simp only[List.length_append,Z] at this;rw[this];simp
            have hsplit:ca.toList=ca.toList.take (n0*s)++ca.toList.drop (n0*s):=(List.take_append_drop _ _).symm;have hpl:(ca.toList.take (n0*s)).length=n0*s:=by rw[eu,ej];omega
            rw[hsplit,show 0+n0*s+0=(ca.toList.take (n0*s)).length by rw[hpl];omega,hcat _ _ _ (by simp[SV.bG];omega)];rw[List.getElem?_append] at hi ⊢;rw[hold,hcl] at hi;rw[hpl];split
            ·rename_i hlt;rw[if_pos hlt] at hi;rw[ep,if_pos hlt,bf];exact hf2 i v hi
            ·rename_i hge;rw[if_neg hge] at hi;have hil:i - n0*s<new.length:=(O.1 hi).1;rw[List.getElem?_append_left (by simpa [SV.bG] using hil),SV.bG,S,hi];rfl
           ·obtain⟨c',rest,q1,q2,q3⟩:=mU (w:=w) (ty:=ty) (base:=g ⟨E key,0,C⟩) (n0:=n0) (c:=c) h0 h1 hd hd1 hni hsz hby hzr hzs ylen xdraw ydraw (by omega) (by omega) (by omega);refine⟨_,_,q3,?_⟩;have hsub:aN Γ E (m.drop key) nx w:=hs.sub (λk B hk=>(Mem.fC hk).2) (λk B hk=>hs.lt k B (Mem.fC hk).2) (.inl (M _));refine bC.grown (m:=m.drop key) hsub (Z3 hw) (fj oldwf g3) (by simp[xnum,ynum,W]) ?_ q1 q2 (by simp[SV.bG]);exact h
          ·exact h.elim
         ·exact h.elim
        ·exact h.elim
       ·exact h.elim
      ·exact h.elim
     ·exact h.elim
    ·exact h.elim
   ·exact h.elim
  ·exact h.elim
 ·exact h.elim
end
end
end Sx
end Go.Proofs.YtoibaecagklkaaaGreatDoor
