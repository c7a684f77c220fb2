/-
  The framework's eighth part: operations that make or change memory, and calls.
-/
import Derived.Test.YtoibaecagklkaaaGreatDoorMc
open Array renaming ext_getElem?->d_,getElem?_eq_some_iff->T,getElem?_setIfInBounds->X,getElem?_toList->a!,length_toList->d!,range->cx
open Bool renaming and_eq_true->J,false->F,false_eq_true->bx,not_false->cB,true->A
open Decidable renaming decide->V
open Go.Builtin renaming append_->Y,firstCells->N,growBy->bh,lenOf->b5,nextslicecap->b6,zeroCells->ef
open Go.Instr renaming storeAt->an,sureAddr->aA
open Go.Result renaming andThen_ok->G
open Go.Sem renaming run_bind->I,run_ite->b9,run_pure->H
open Go.Value renaming cells->cH,int->aD,string->cL
open List renaming cons_append->ej,ext_getElem?->c4,getElem?_cons_succ->bl,getElem?_cons_zero->b_,getElem?_eq_getElem->L,getElem?_eq_none->b!,getElem?_eq_some_iff->O,getElem?_map->S,getElem?_set->aS,getElem?_take->ek,getElem?_toArray->c5,length_cons->cm,length_map->en,length_set->c6,length_singleton->Z,length_take->ep,map_append->er,mem_map->eu,size_toArray->bn,take_of_length_le->c_
open Nat renaming add_mul->W,add_zero->ag,le_refl->M,le_succ->ey,le_trans->ez,mul_le_mul_right->a_,ne_of_lt->c!,sub_self->eB,zero_add->eI
open Option renaming none->C,some->g
namespace Go.Proofs.YtoibaecagklkaaaGreatDoor
open Go Sx
variable {after:Array Edge}{ats:Array TypeId}{c new:Array Value}{RP:List PanicEntry->World->Prop}{cs l:List SV}{m:Mem}{key n n0 nx o s:Nat}{E:Nat->Nat}{guard:Option (Nat×Bool)}{ro:Option Nat}{dst:Option Tmp}{P:Program}{v x:SV}{pos:String}{d:TypeDesc}{elem t t0 t1 ty type:TypeId}{r:Value}{R:Value->World->Prop}{w:World}{Γ:bg}
namespace Sx
open Go
noncomputable section
def Fr (ro:Option Nat):Fence:={Fence.wide with round:=ro}
theorem Ac {f:FuncId}{args:Array Value}{R:Ending->World->Prop}:CallsIn (Fr ro) n P f args w R↔Calls P f args w R:=by
 rw[← callsIn_wide (n:=n)];cases ro with
 | none=>exact Iff.rfl
 | some l=>exact⟨CallsIn.outOfRound,CallsIn.inRound l⟩
def Out (P:Program)(R:Value->World->Prop)(x:Result Next)(RP:List PanicEntry->World->Prop:=λ_ _=>False):Prop:=match x with
 | .ok (.value v) w=>R v w
 | .ok .skip w=>R undef w
 | .ok (.enter f args) w=>Calls P f args w λe w'=>(∃ v,e=.returned v/\R v w')∨∃ ch,e=.panicked ch/\RP ch w'
 | .ok (.round l f tmps assign body) w=>RoundIn Fence.wide 0 P l f tmps assign body w λe w'=>∃ v,e=.returned v/\R v w'
 | .halt (.panic v) w=>RP [{v,recovered:=F}] w
 | _=>False
theorem p7 (ro:Option Nat){o:Oper}{a:Act}: ∀ f,o.about P w a.eval=g f->(Fr ro).fn f:=λ_ _=>trivial
def oV (o:Oper):Bool:=match o.op with
 | .defer _=>F
 | _=>A
theorem VD {o:Oper}(h:oV o=A)(ρ:Operand->Value):o.semAt ro ρ=execOp ρ o:=by
 cases ro with
 | none=>rfl
 | some l =>unfold oV at h;unfold Oper.semAt;cases ho:o.op<;>rw[ho] at h<;>first | rfl | cases h
theorem Out.wp {o:Oper}(hd:oV o=A){a:Act}{Q:Exit->Act->World->Prop}{K:Act->World->Prop}
  (h:Out P R ((execOp a.eval o).run P w) RP) (hk: ∀ r w',R r w'->K (a.put o.dst r) w') (hp: ∀ ch w',RP ch w'->Q (.panic ch) a w'):o.wpIn (Fr ro) 0 P a w K Q:=by
 unfold Oper.wpIn;refine⟨p7 ro,?_⟩;have hs:o.semAt (Fr ro).round a.eval=execOp a.eval o:=VD (ro:=ro) hd _;rw[hs];generalize (execOp a.eval o).run P w=x at h;cases x with
 | ok n w' =>
   cases n<;>simp only[Out] at h<;>simp only[Oper.uponIn]
   case value v=>exact hk _ _ h
   case skip=>exact hk _ _ h
   case enter f args =>
    refine⟨λh=>(by cases ro<;>cases h),Ac.2 (Calls.mono h λe w'' he=> ?_)⟩
    rcases he with ⟨v,rfl,hr⟩ | ⟨ch,rfl,hr⟩
    ·exact hk _ _ hr
    ·exact hp _ _ hr
   case round l f tmps assign body =>
    refine⟨λh=>(by cases ro<;>cases h),?_⟩
    have h2:RoundIn (Fr ro) 0 P l f tmps assign body w' λe w''=>∃ v,e=.returned v/\R v w'':=by cases ro<;>exact h
    refine h2.mono λe w'' he=> ?_;obtain⟨v,rfl,hr⟩:=he;exact hk _ _ hr
 | halt x w' =>
   cases x<;>simp only[Out] at h
   simp only[Oper.uponIn];exact hp _ _ h
theorem Out.mono {R':Value->World->Prop}{RP':List PanicEntry->World->Prop}{x:Result Next}(h:Out P R x RP)(hr: ∀ v w,R v w->R' v w)(hp: ∀ c w,RP c w->RP' c w):Out P R' x RP':=by
 unfold Out at *
 split at h<;>first
  | exact hr _ _ h
  | exact Calls.mono h λe w' he=>he.imp (fun⟨v,he,hv⟩=>⟨v,he,hr _ _ hv⟩) (fun⟨c,he,hv⟩=>⟨c,he,hp _ _ hv⟩)
  | exact RoundIn.mono h λe w' ⟨v,he,hv⟩=>⟨v,he,hr _ _ hv⟩
  | exact hp _ _ h
  | exact h.elim
theorem Out.sH {x:Result Next}(h:Out P R x):Out P R x RP:=h.mono (λ_ _ h=>h) (λ_ _ h=>h.elim)
abbrev KL:=Option SV->Mem->Nat->VC
def bF (K:KL)(Γ:bg)(E:Nat->Nat)(nx:Nat)(r:Value)(w':World):Prop :=∃ E' sv m' nx',(∀ k,k<nx->E' k=E k)/\nx<=nx'/\(∀ v,sv=g v->r=v.val E')/\aO Γ E' m' nx' w'/\(K sv m' nx').holds
abbrev PK:=SV->Mem->Nat->VC
def ij (KP:PK)(Γ:bg)(E:Nat->Nat)(nx:Nat)(ch:List PanicEntry)(w':World):Prop :=∃ E' v m' nx',(∀ k,k<nx->E' k=E k)/\nx<=nx'/\ch=[{v:=v.val E',recovered:=F}]/\v.wf nx'=A/\aO Γ E' m' nx' w'/\(KP v m' nx').holds
theorem ij.weaken {KP:PK}{E':Nat->Nat}{nx':Nat}{ch:List PanicEntry}(h:ij KP Γ E' nx' ch w)(hE: ∀ k,k<nx->E' k=E k)(hn:nx<=nx'):ij KP Γ E nx ch w:=by obtain⟨E'',v,m,n,h1,h2,h3,h4,h5,h6⟩:=h;exact⟨E'',v,m,n,λk hk=>(h1 k (Nat.lt_of_lt_of_le hk hn)).trans (hE k hk),ez hn h2,h3,h4,h5,h6⟩
theorem bF.zc {K:KL}(h:bF K Γ.own E nx r w):bF K Γ E nx r w:=by obtain⟨E',sv,m',nx',h1,h2,h3,h4,h5⟩:=h;exact⟨E',sv,m',nx',h1,h2,h3,h4.zc,h5⟩
theorem ij.zc {KP:PK}{c:List PanicEntry}(h:ij KP Γ.own E nx c w):ij KP Γ E nx c w:=by obtain⟨E',v,m',nx',h1,h2,h3,h4,h5,h6⟩:=h;exact⟨E',v,m',nx',h1,h2,h3,h4,h5.zc,h6⟩
def WfS (nx:Nat)(σ:Operand->Option SV):Prop:=∀ x v,σ x=g v->v.wf nx=A
def pX (P:Program)(Γ:bg)(σ:Operand->Option SV)(m:Mem)(nx:Nat)(o:Oper)(t:KL->VC):Prop :=∀ K E w ρ,(t K).holds->aO Γ E m nx w->Mem.wf nx m=A->WfS nx σ->Reads E σ ρ->Out P (bF K Γ E nx) ((execOp ρ o).run P w)
section
variable {P : Program} {Γ : bg} {σ : Operand -> Option SV} {m : Mem} {nx : Nat} {o : Oper}
theorem pX.fail (why:String):pX P Γ σ m nx o (λ_=>.fail why):=λ_ _ _ _ h=>h.elim
theorem pX.need {x:Operand}{t:SV->KL->VC}(h: ∀ v,σ x=g v->pX P Γ σ m nx o (t v)):pX P Γ σ m nx o (λK=>need (σ x) (λv=>t v K)):=by
 unfold Sx.need;cases hx:σ x with
 | none=>exact pX.fail _
 | some v=>exact h v hx
theorem bF.alloc {K:KL}(hs:aO Γ E m nx w)(hw:Mem.wf nx m=A){tot:Nat}
  {sv:SV}  (hcs:SV.e9 nx cs=A) (hc: ∀(i:Nat) (v:SV),cs[i]?=g v->c[i]?=g (v.val E)) (hm:c.size=tot)
  (hk:(K (g sv) ((nx,.cells cs tot ty)::m) (nx+1)).holds)  (hr:r=sv.val (λk=>if k=nx then w.heap.size else E k)) :
  bF K Γ E nx r {w with heap:=w.heap.push (.cells c ty)}:=by
 have hE: ∀ k,k<nx->(λk=>if k=nx then w.heap.size else E k) k=E k:=λk hk=>by simp[c! hk]
 refine⟨_,g sv,_,_,hE,ey _,λv hv=>by injection hv with hv;subst hv;exact hr,hs.alloc hw (B:=.cells cs tot ty) ?_,hk⟩;refine⟨c,(0,0),rfl,λi=>.inr (by simp),λi v hv=> ?_,hm⟩;rw[SV.val_congr hE v (SV.sE hcs hv)];exact hc i v hv
theorem Bp {nx:Nat}: ∀ {l:List Value} {xs:List SV},SV.mV l=g xs->SV.e9 nx xs=A
 | [],xs,h=>by simp[SV.mV] at h;subst h;rfl
 | v::r,xs,h=>by
   simp only[SV.mV] at h;split at h
   ·rename_i x l' hx hl;injection h with h;subst h;simp only[SV.e9,Bp hl,Bool.and_true];unfold SV.tU at hx;split at hx<;>first | (injection hx with hx;subst hx;rfl) | cases hx
   ·cases h
theorem Bq {v:Value}(h:SV.ofConst v=g x):x.wf nx=true:=by
 unfold SV.ofConst at h;split at h
 ·split at h
  ·rename_i l hl;injection h with h;subst h;exact Bp hl
  ·cases h
 ·unfold SV.tU at h;split at h<;>first | (injection h with h;subst h;rfl) | cases h
theorem yo (h:fX P t=g v):v.wf nx=true:=by
 unfold fX at h;split at h
 ·split at h
  ·exact Bq h
  ·cases h
 ·cases h
theorem nG (h:v.wf nx=A):SV.e9 nx v.cells=true:=by cases v<;>simp_all [SV.cells,SV.wf,SV.e9]
theorem vq (hc:c.toList=l.map (SV.val E)): ∀(i:Nat) (v:SV),l[i]?=g v->c[i]?=g (v.val E):=by intro i v hv;rw[← a!,hc,S,hv];rfl
theorem qF (hc:c.toList=l.map (SV.val E)):c.size=l.length:=by rw[← d!,hc,en]
def FU (ty:TypeId)(v:SV)(m:Mem)(nx:Nat)(K:KL):VC :=
 match v.plain with
 | true=>K (g (.ptr nx A 0)) ((nx,.cells v.cells v.cells.length ty)::m) (nx+1)
 | false=>.fail "new: a value that is not known"
def UF (elem:TypeId)(cs:List SV)(n:Nat)(m:Mem)(nx:Nat)(K:KL):VC :=K (g (.slc nx 0 n A n)) ((nx,.cells cs cs.length elem)::m) (nx+1)
theorem tR {v:Value}:(newVar t v).run P w=.ok ⟨w.heap.size,0,C⟩ {w with heap:=w.heap.push (.cells v.cells t)}:=by simp[newVar,newRow]
theorem Pw  :
  pX P Γ σ m nx ⟨dst,.alloc t,type,pos,after,guard⟩ (λK=>match fX P t with | some z=>FU t z m nx K | none=>.fail "alloc"):=by
 intro K E w ρ h hs hw hσ hr;split at h
 ·rename_i z hz;unfold FU at h;split at h
  ·rename_i hp;simp only[execOp,Instr.alloc,I,dG (E:=E) hz,G,tR,H,Out];exact bF.alloc hs hw (nG (yo hz)) (vq (by rw[SV.ff hp])) (qF (E:=E) (by rw[SV.ff hp])) h (by simp[SV.val])
  ·exact h.elim
 ·exact h.elim
theorem XX {x:Operand} :
  pX P Γ σ m nx ⟨dst,.box t x,type,pos,after,guard⟩ (λK=>need (σ x) (λv=>FU t v m nx K)):=by
 refine pX.need λv hv=> ?_;intro K E w ρ h hs hw hσ hr;unfold FU at h;split at h
 ·rename_i hp;simp only[execOp,Instr.box,I,G,tR,H,Out];exact bF.alloc hs hw (nG (hσ _ _ hv)) (vq (by rw[hr _ _ hv,SV.ff hp])) (qF (E:=E) (by rw[hr _ _ hv,SV.ff hp])) h (by simp[SV.val])
 ·exact h.elim
def times (n:Nat)(zs:List SV):List SV:=match n with
 | 0=>[]
 | n+1=>zs++times n zs
theorem rq {E:Nat->Nat}{zs:List SV}{z:Array Value}(hz:z.toList=zs.map (SV.val E))(hne:z.size≠0): ∀ n:Nat,
  ((cx (n*z.size)).map λi=>z[i% z.size]!).toList=(times n zs).map (SV.val E)
 | 0=>by simp[times]
 | n+1=>by
   have ih:=rq hz hne n;simp only[Array.toList_map,Array.toList_range] at ih ⊢;rw[show(n+1)*z.size=z.size+n*z.size by rw[W];omega,List.range_add,er,times,er,← ih];congr 1
   ·rw[← hz];apply c4;intro i;rw[S];by_cases hi:i<z.size
    ·rw[List.getElem?_range hi];simp[Nat.mod_eq_of_lt hi,hi]
    ·rw[b! (by simp;omega),b! (by simp;omega)];rfl
   ·rw[List.map_map];apply List.map_congr_left;intro i _;simp
theorem B5 {nx:Nat}{zs:List SV}(h:SV.e9 nx zs=A): ∀ n,SV.e9 nx (times n zs)=A
 | 0=>rfl
 | n+1=>by
   have ih:=B5 h n;simp only[times];have app: ∀ {a b:List SV},SV.e9 nx a=A->SV.e9 nx b=A->SV.e9 nx (a++b)=true:=by
    intro a;induction a with
    | nil=>intro b _ hb;exact hb
    | cons x r ihr=>intro b ha hb;simp only[SV.e9,J,ej] at ha ⊢;exact⟨ha.1,ihr ha.2 hb⟩
   exact app h ih
theorem ew {nx:Nat}: ∀ {a b:List SV},SV.e9 nx a=A->SV.e9 nx b=A->SV.e9 nx (a++b)=A
 | [],_,_,hb=>hb
 | x::r,b,ha,hb=>by simp only[SV.e9,J,ej] at ha ⊢;exact⟨ha.1,ew ha.2 hb⟩
theorem OJ {nx:Nat}: ∀ {a:List SV} {i:Nat} {v:SV},SV.e9 nx a=A->v.wf nx=A->SV.e9 nx (a.set i v)=A
 | [],_,_,_,_=>rfl
 | x::r,0,v,ha,hv=>by simp only[SV.e9,J,List.set_cons_zero] at ha ⊢;exact⟨hv,ha.2⟩
 | x::r,i+1,v,ha,hv=>by simp only[SV.e9,J,List.set_cons_succ] at ha ⊢;exact⟨ha.1,OJ ha.2 hv⟩
theorem wv {nx:Nat}: ∀ {vs cs:List SV} {off:Nat},SV.e9 nx cs=A->SV.e9 nx vs=A->SV.e9 nx (bf cs off vs)=A
 | [],_,_,hc,_=>hc
 | v::r,cs,off,hc,hv=>by simp only[SV.e9,J] at hv;rw[bf];exact wv (OJ hc hv.1) hv.2
theorem HA {nx:Nat}{place:Nat->Option (Nat×Nat)}: ∀ {parts:List (Nat×SV)} {cells out:List SV},sR place cells parts=g out->SV.e9 nx cells=A ->
  (∀ p∈ parts,p.2.wf nx=A)->SV.e9 nx out=A
 | [],cells,out,h,hc,_=>by simp[sR] at h;subst h;exact hc
 | (i,v)::rest,cells,out,h,hc,hp=>by
   simp only[sR] at h;split at h
   ·cases h
   ·split at h
    ·exact HA h (wv hc (nG (hp (i,v) (by simp)))) (λp hm=>hp p (by simp[hm]))
    ·cases h
theorem Bv {nx:Nat}{σ:Operand->Option SV}(hσ:WfS nx σ): ∀ {ps:List (Nat×Operand)} {l:List (Nat×SV)},partsOf σ ps=g l->∀ p∈ l,p.2.wf nx=A
 | [],l,h,p,hp=>by simp[partsOf] at h;subst h;cases hp
 | (i,x)::r,l,h,p,hp=>by
   simp only[partsOf] at h;split at h
   ·rename_i v l' hv hl;injection h with h;subst h;cases hp with
    | head=>exact hσ x v hv
    | tail _ hp=>exact Bv hσ hl p hp
   ·cases h
def ku (P:Program)(σ:Operand->Option SV)(t:TypeId)(len:Nat)(parts:List (Nat×Operand))(m:Mem)(nx:Nat)(K:KL):VC :=
 match P.underlying t with
 | some (.slice e)=>(match sz P e,fX P e,partsOf σ parts with
   | some s,g z,g ps=>if z.plain&&V (z.cells.length=s)&&V (len*s<=16777216)&&V (s≠0)then(match sR (λi=>g (i*s,s)) (times len z.cells) ps with
      | some out=>UF e out len m nx K
      | none=>.fail "buildSlice: fill")else .fail "buildSlice: size"
   | _,_,_=>.fail "buildSlice")
 | _=>.fail "buildSlice"
theorem AU {len:Nat}{parts:Array (Nat×Operand)} :
  pX P Γ σ m nx ⟨dst,.buildSlice t len parts,type,pos,after,guard⟩ (ku P σ t len parts.toList m nx):=by
 intro K E w ρ h hs hw hσ hr;unfold ku at h;split at h
 ·rename_i e hd;split at h
  ·rename_i s z ps hsz hz hp;split at h
   ·rename_i hc;simp only[J,decide_eq_true_eq] at hc;obtain⟨⟨⟨h1,h2⟩,h3⟩,h4⟩:=hc;split at h
    ·rename_i out hf;unfold UF at h;have hzc:=SV.ff (E:=E) h1;have hzs:(z.val E).cells.size=s:=by rw[hzc];simp[h2]
     have hfill:=rH (E:=E) ps _ out hf;have hpp:(parts.map fun(x:Nat×Operand)=>(x.1,ρ x.2)).toList=ps.map λp=>(p.1,p.2.val E):=by rw[← mX hr hp];simp
     have fin: ∀ z':Array Value,((cx (len*s)).map λi=>z'[i% z'.size]!)=(SV.vals E (times len z.cells)).toArray ->
       Out P (bF K Γ E nx) ((match Instr.fill (λi=>g (i*s,s)) ((cx (len*s)).map λi=>z'[i% z'.size]!) (parts.map fun(x:Nat×Operand)=>(x.1,ρ x.2)).toList with
        | some cells=>do
          let r ← newRow e cells
          pure (Value.slice (g r) len len)
        | _=>stuck "buildSlice: a part of the wrong size" : Sem Value).run P w |>.andThen λa w'=>(pure (Next.value a):Sem Next).run P w'):=by
      intro z' hz';rw[hz',hpp,hfill];simp only[G,I,newRow,run_newObj,H,Out];exact bF.alloc hs hw (HA hf (B5 (nG (yo hz)) len) (Bv hσ hp)) (vq (by simp[SV.bP])) (qF (E:=E) (by simp[SV.bP])) h (by simp[SV.val])
     simp only[execOp,Instr.buildSlice,I,aL hd,G,cu hsz,b9];rw[if_neg (by omega)];by_cases h0:len*s=0
     ·rw[if_pos h0];simp only[H,G];refine fin #[] ?_;have:len=0:=by rcases Nat.mul_eq_zero.1 h0 with h | h;exact h;exact absurd h h4
      subst this;simp[times,SV.vals]
     ·rw[if_neg h0];simp only[dG (E:=E) hz,H,G];refine fin _ ?_;apply Array.ext';have:=rq (E:=E) (zs:=z.cells) (z:=(z.val E).cells) (by rw[hzc]) (by rw[hzs];exact h4) len;rw[hzs] at this;rw[SV.bP];simpa [hzs] using this
    ·exact h.elim
   ·exact h.elim
  ·exact h.elim
 ·exact h.elim
end
theorem MJ {b:Nat}{v:Value}{fr:Nat×Nat}(h:w.heap[b]?=g (.cells c ty fr)) :
  w.setCell ⟨b,o,C⟩ v={w with heap:=w.heap.setIfInBounds b (.cells (c.setIfInBounds o v) ty fr)}:=by
 unfold World.setCell;congr 1;apply d_;intro i;rw[Array.getElem?_modify,X];by_cases e:b=i
 ·subst e;obtain⟨hlt,he⟩:=T.1 h;simp[hlt,he]
 ·simp[e]
def eJ (c:Array Value)(off:Nat):List Value->Array Value
 | []=>c
 | v::r=>eJ (c.setIfInBounds off v) (off+1) r
theorem gj: ∀(vs:List Value) (c:Array Value) (off:Nat),(eJ c off vs).toList=bf c.toList off vs
 | [],_,_=>rfl
 | v::r,c,off=>by rw[eJ,gj r,bf];simp
theorem bV: ∀(vs:List Value) (c:Array Value) (off:Nat),(eJ c off vs).size=c.size
 | [],_,_=>rfl
 | v::r,c,off=>by rw[eJ,bV r];simp
theorem dr {P:Program}{b o:Nat}{ty:TypeId}{fr:Nat×Nat}: ∀(vs:List Value) (i:Nat) (w:World) (c:Array Value),w.heap[b]?=g (.cells c ty fr) ->
  (∀ j,c.size<=j∨¬ (fr.1<=j/\j<fr.2))->o+i+vs.length<=c.size->(∀ v∈ vs,v.oneCell'=A) ->
  (storeCells ⟨b,o,C⟩ vs i).run P w=.ok () {w with heap:=w.heap.setIfInBounds b (.cells (eJ c (o+i) vs) ty fr)}
 | [],i,w,c,h,_,_,_=>by
   simp only[storeCells,H,eJ];congr 1;have:w.heap.setIfInBounds b (.cells c ty fr)=w.heap:=by
    apply d_;intro j;rw[X];by_cases e:b=j
    ·subst e;obtain⟨hlt,he⟩:=T.1 h;simp[hlt,he]
    ·simp[e]
   rw[this]
 | v::r,i,w,c,h,hf,hl,hv=>by
   have hv0:=hv v (by simp);simp only[cm] at hl;have hlt:o+i<c.size:=by omega
   have hfz:w.frozen? ⟨b,o+i,C⟩=false:=by
    simp only[World.frozen?,h];have:=hf (o+i);obtain⟨lo,hi⟩:=fr;simp only at this ⊢;rcases this with h1 | h1
    ·omega
    ·simp only[Bool.and_eq_false_iff,decide_eq_false_iff_not];by_cases h2:lo<=o+i
     ·right;exact λh3=>h1 ⟨h2,h3⟩
     ·left;exact h2
   have hc:w.cell? ⟨b,o+i,C⟩=g c[o+i]:=by rw[cell_of h,Array.getElem?_eq_getElem hlt]
   simp only[storeCells,I,cQ,run_store P w ⟨b,o+i,C⟩ v .plain hv0,hc,hfz,bx,if_false,G];rw[MJ h];have hblt:=(T.1 h).1;rw[dr (ty:=ty) (fr:=fr) r (i+1) _ (c.setIfInBounds (o+i) v) (by simp[hblt]) (by simpa using hf) (by simp;omega) (λu hu=>hv u (by simp[hu]))];congr 1;simp only[eJ,Array.setIfInBounds_setIfInBounds,Nat.add_assoc]
section
variable {P : Program} {Γ : bg} {σ : Operand -> Option SV} {m : Mem} {nx : Nat}
theorem bF.write {K:KL}(hs:aO Γ E m nx w){tot:Nat}
  (hk:m.get key=g (.cells cs tot ty)) {off:Nat} {vs:List SV} (hv: ∀ v∈ vs,v.lX=A) (hl:off+vs.length<=cs.length) {sv:Option SV}  (hr: ∀ v,sv=g v->r=v.val E)
  (h:(K sv (m.put key (.cells (bf cs off vs) tot ty)) nx).holds) :
  ∃ w',(storeCells ⟨E key,off,C⟩ (SV.vals E vs)).run P w=.ok () w'/\bF K Γ E nx r w':=by
 obtain⟨ob,ho,c,fr,rfl,h1,h2,h3⟩:=hs.ny key _ hk rfl;have hcl:cs.length<=c.size:=by
  cases hcs:cs.length with
  | zero=>omega
  | succ n =>
    obtain⟨v,hv⟩: ∃ v,cs[n]?=g v:=⟨cs[n]'(by omega),L _⟩
    have:=h2 n v hv;have:=(T.1 this).1;omega
 have hrun:=dr (P:=P) (o:=off) (SV.vals E vs) 0 w c ho h1 (by simp[SV.bP];omega) (λv hv'=>by rw[SV.bP,eu] at hv';obtain⟨u,hu,rfl⟩:=hv';exact SV.oQ (hv u hu))
 refine⟨_,hrun,E,sv,_,_,λ_ _=>rfl,M _,hr,hs.write hk rfl rfl (B':=.cells (bf cs off vs) tot ty) ?_ rfl,h⟩;refine⟨_,fr,rfl,by rw[bV];exact h1,λi v hi=> ?_,by rw[bV];exact h3⟩;rw[← a!,gj,ag]
 have key2: ∀(vs:List SV) (cs:List SV) (l:List Value) (off:Nat),(∀(i:Nat) (v:SV),cs[i]?=g v->l[i]?=g (v.val E)) ->
   ∀(i:Nat) (v:SV),(bf cs off vs)[i]?=g v->(bf l off (SV.vals E vs))[i]?=g (v.val E):=by
  intro vs;induction vs with
  | nil=>intro cs l off h i v hi;exact h i v hi
  | cons x r ih =>
    intro cs l off h i v hi;simp only[bf,SV.vals] at hi ⊢;refine ih (cs.set off x) (l.set off (x.val E)) (off+1) (λj u hj=> ?_) i v hi;rw[aS] at hj ⊢;split at hj
    ·rename_i e;subst e;split at hj
     ·rename_i hlt;injection hj with hj;subst hj;have:off<l.length:=by
       obtain⟨u,hu⟩: ∃ u,cs[off]?=g u:=⟨cs[off],L hlt⟩
       have:=h off u hu;exact(O.1 this).1
      simp[this]
     ·cases hj
    ·rename_i e;rw[if_neg e];exact h j u hj
 exact key2 vs cs c.toList off (λj u hj=>by rw[a!];exact h2 j u hj) i v hi
def nD:List SV->Bool
 | []=>A
 | v::r=>v.lX&&nD r
theorem jb: ∀ {l:List SV},nD l=A->∀ v∈ l,v.lX=A
 | x::r,h,v,hv=>by
   simp only[nD,J] at h;cases hv with
   | head=>exact h.1
   | tail _ hv=>exact jb h.2 v hv
def mix (k:IntKind)(i:Nat)(v:Int):Nat->List Int->List SV
 | _,[]=>[]
 | j,z::r=>.int k F (if i=j then v else z)::mix k i v (j+1) r
theorem N2 {k:IntKind}{i:Nat}{v:Int}: ∀ {l:List Int} {j:Nat},(mix k i v j l).length=l.length
 | [],_=>rfl
 | _::r,j=>by simp[mix,N2 (l:=r)]
theorem N1 {k:IntKind}{i:Nat}{v:Int}: ∀ {l:List Int} {j q:Nat} {x:SV},(mix k i v j l)[q]?=g x->x=.int k F (if i=j+q then v else zu l q)
 | [],_,_,_,h=>by simp[mix] at h
 | z::r,j,0,x,h=>by simp[mix] at h;subst h;simp[zu]
 | z::r,j,q+1,x,h=>by simp only[mix,bl] at h;rw[N1 h,show j+1+q=j+(q+1)by omega];simp[zu]
def kz (i:Nat)(v:e_):Nat->List e_->List SV
 | _,[]=>[]
 | j,z::r=>.str F (if i=j then v else z)::kz i v (j+1) r
theorem Iv {i:Nat}{v:e_}: ∀ {l:List e_} {j:Nat},(kz i v j l).length=l.length
 | [],_=>rfl
 | _::r,j=>by simp[kz,Iv (l:=r)]
theorem Iu {i:Nat}{v:e_}: ∀ {l:List e_} {j q:Nat} {x:SV},(kz i v j l)[q]?=g x->x=.str F (if i=j+q then v else bZ l q)
 | [],_,_,_,h=>by simp[kz] at h
 | z::r,j,0,x,h=>by simp[kz] at h;subst h;simp[bZ]
 | z::r,j,q+1,x,h=>by simp only[kz,bl] at h;rw[Iu h,show j+1+q=j+(q+1)by omega];simp[bZ]
def aE.VX (i:Nat)(v:SV):aE->Option aE
 | .int k f=>(match v with
   | .int k' _ n=>if k=k' then g (.int k λj=>if j=i then n else f j)else C
   | _=>C)
 | .bool f=>(match v with
   | .bool _ b=>g (.bool λj=>if j=i then b else f j)
   | _=>C)
 | .str f=>(match v with
   | .str _ s=>g (.str λj=>if j=i then s else f j)
   | _=>C)
 | .ref k f=>(match v with
   | .fY _ a 0=>g (.ref k λj=>if j=i then a else f j)
   | _=>C)
 | .fc k w z f n c=>(match v with
   | .fc _ w' z' a 0 n' c'=>if w=w'/\z=z' then g (.fc k w z (λj=>if j=i then a else f j) (λj=>if j=i then n' else n j) (λj=>if j=i then c' else c j))else C
   | _=>C)
 | .raw _=>C
theorem aE.MZ {i:Nat}{c c':aE}(h:c.VX i v=g c')(E:Nat->Nat):(c'.at i).val E=v.val E/\∀ j,j≠i->c'.at j=c.at j:=by
 cases c with
 | int k f =>
   simp only[aE.VX] at h;split at h
   ·split at h
    ·rename_i e;subst e;injection h with h;subst h;exact⟨by simp[aE.at,SV.val],λj hj=>by simp[aE.at,hj]⟩
    ·cases h
   ·cases h
 | bool f =>
   simp only[aE.VX] at h;split at h
   ·injection h with h;subst h;exact⟨by simp[aE.at,SV.val],λj hj=>by simp[aE.at,hj]⟩
   ·cases h
 | str f =>
   simp only[aE.VX] at h;split at h
   ·injection h with h;subst h;exact⟨by simp[aE.at,SV.val],λj hj=>by simp[aE.at,hj]⟩
   ·cases h
 | ref k f =>
   simp only[aE.VX] at h;split at h
   ·injection h with h;subst h;exact⟨by simp[aE.at,SV.val],λj hj=>by simp[aE.at,hj]⟩
   ·cases h
 | fc k w z f n c =>
   simp only[aE.VX] at h;split at h
   ·split at h
    ·rename_i e;obtain⟨rfl,rfl⟩:=e;injection h with h;subst h;exact⟨by simp[aE.at,SV.val],λj hj=>by simp[aE.at,hj]⟩
    ·cases h
   ·cases h
 | raw f=>cases h
theorem aE.wk {i:Nat}{c c':aE}(h:c.VX i v=g c'):v.lX=true:=by
 cases c<;>simp only[aE.VX] at h
 case raw=>cases h
 all_goals (split at h<;>first | rfl | cases h)
def nh (P:Program)(t:TypeId)(a x:Option SV)(m:Mem)(nx:Nat)(K:KL):VC :=
 match a,x,sz P t with
 | some (.ptr key A o),g v,g n=>(match m.get key with
   | some (.cells cs tot ty)=>if v.plain&&nD v.cells&&V (v.cells.length=n)&&V (o+n<=cs.length)then
      K C (m.put key (.cells (bf cs o v.cells) tot ty)) nx else .fail "store: cells"
   | _=>.fail "store: no such block")
 | some (.oB key base n i),g (.int k _ v),g 1=>(match m.get key with
   | some (.cells cs tot ty)=>(match gv cs base n with
     | some l=>(match tF k l with
       | some zs=>.and (.atom (i<n)) (K C (m.put key (.cells (bf cs base (mix k i v 0 zs)) tot ty)) nx)
       | none=>.fail "store: no integers")
     | none=>.fail "store: cells")
   | some (.rows F nb [c] F tot ty)=>(match c.VX (base+i) (.int k A v)with
     | some c'=>.and (.atom (i<n/\base+i<nb)) (K C (m.put key (.rows F nb [c'] F tot ty)) nx)
     | none=>.fail "store: another kind")
   | _=>.fail "store: no such block")
 | some (.oB key base n i),g (.str _ v),g 1=>(match m.get key with
   | some (.cells cs tot ty)=>(match gv cs base n with
     | some l=>(match nw l with
       | some zs=>.and (.atom (i<n)) (K C (m.put key (.cells (bf cs base (kz i v 0 zs)) tot ty)) nx)
       | none=>.fail "store: no texts")
     | none=>.fail "store: cells")
   | _=>.fail "store: no such block")
 | some (.kN key w i k),g v,g 1=>(match m.get key with
   | some (.rows z n az F tot ty)=>if az.length=w then(match az[k]? with
     | some c=>(match c.VX i v with
       | some c'=>.and (.atom (i<n)) (K C (m.put key (.rows z n (az.set k c') F tot ty)) nx)
       | none=>.fail "store: another kind")
     | none=>.fail "store: no such column")else .fail "store: another row"
   | _=>.fail "store: no such row")
 | some (.fY key b o),g v,g 1=>(match m.get key with
   | some (.tq D cs tot ty F)=>(match cs[o]? with
     | some c=>(match c.VX b v with
       | some c'=>.and (.atom (D b=A)) (K C (m.put key (.tq D (cs.set o c') tot ty F)) nx)
       | none=>.fail "store: another kind")
     | none=>.fail "store: no such column")
   | _=>.fail "store: no family")
 | _,_,_=>.fail "store"
theorem pE {α:Type}: ∀(vs cs:List α) (off q:Nat) (u:α),(bf cs off vs)[q]?=g u->off+vs.length<=cs.length->(off<=q/\q<off+vs.length/\vs[q - off]?=g u)∨((q<off∨off+vs.length<=q)/\cs[q]?=g u):=by
 intro vs;induction vs with
 | nil=>intro cs off q u hq _;right;exact⟨by simp;omega,hq⟩
 | cons x r ih =>
   intro cs off q u hq hle;simp only[bf] at hq;simp only[cm] at hle ⊢;rcases ih (cs.set off x) (off+1) q u hq (by simp;omega)with ⟨g1,g2,g3⟩ | ⟨g1,g2⟩
   ·left;refine⟨by omega,by omega,?_⟩;rw[show q - off=(q - (off+1))+1 by omega];simpa using g3
   ·rw[aS] at g2;split at g2
    ·rename_i e;subst e;rw[if_pos (by omega)] at g2;left;refine⟨by omega,by omega,?_⟩;rw[eB];simpa using g2
    ·right;exact⟨by omega,g2⟩
theorem DK {a x:Operand} :
  pX P Γ σ m nx ⟨dst,.store t a x,type,pos,after,guard⟩ (nh P t (σ a) (σ x) m nx):=by
 intro K E w ρ h hs hw hσ hr;unfold nh at h;split at h
 ·rename_i key o v n ha hx hn;split at h
  ·rename_i cs tot ty hk;split at h
   ·rename_i hc;simp only[J,decide_eq_true_eq] at hc;obtain⟨⟨⟨h1,h2⟩,h3⟩,h4⟩:=hc;obtain⟨w',hrun,haft⟩:=bF.write (P:=P) (r:=undef) hs hk (jb h2) (by omega) (λv hv=>by cases hv) h;have hcv:=SV.ff (E:=E) h1;have hsize:(v.val E).cells.size=n:=by rw[hcv];simp[h3]
    simp only[execOp,an,hr a _ ha,hr x _ hx,SV.val,aA,I,H,G,storeVar,cu hn,hsize];simp only[ne_eq,not_true_eq_false,if_false];rw[hcv];rw[SV.bP] at hrun;simp only[hrun,G,Out];exact haft
   ·exact h.elim
  ·exact h.elim
 ·rename_i key base n i k lf v ha hx hn;split at h
  ·rename_i cs tot ty hk;split at h
   ·rename_i l hl;split at h
    ·rename_i zs hz;obtain⟨hi,h⟩:=h;have hi:i<n:=hi;have hg:=c7 hl;have hzg:=oP hz;have hlt:base+i<cs.length:=by have:(l[i]?)=g (l[i]'(by rw[hg.1];exact hi)):=L _;exact(O.1 (hg.2 i _ this)).1
     obtain⟨ob,ho,c,fr,rfl,h1,h2,h3⟩:=hs.ny key _ hk rfl;have hcl:base+i<c.size:=(T.1 (h2 _ _ (L hlt))).1;have hrun:=dr (P:=P) (o:=base+i) [aD k v] 0 w c ho h1 (by simp;omega) (λu hu=>by simp at hu;subst hu;rfl);have hE:=hs.write hk rfl rfl (B':=.cells (bf cs base (mix k i v 0 zs)) tot ty) (o:=.cells (eJ c (base+i+0) [aD k v]) ty fr) ?_ rfl
     ·simp only[execOp,an,hr a _ ha,hr x _ hx,SV.val,aA,I,H,G,storeVar,cu hn];simp only[cH,bn,Z,ne_eq,not_true_eq_false,if_false,hrun,G,Out];exact⟨E,C,_,_,λ_ _=>rfl,M _,(λv hv=>by cases hv),hE,h⟩
     ·refine⟨_,fr,rfl,by rw[bV];exact h1,λq u hq=> ?_,by rw[bV];exact h3⟩;have hmixlen:(mix k i v 0 zs).length=n:=by rw[N2,hzg.1,hg.1]
      have hset: ∀(vs cs:List SV) (off q:Nat) (u:SV),(bf cs off vs)[q]?=g u->off+vs.length<=cs.length->(off<=q/\q<off+vs.length/\vs[q - off]?=g u)∨((q<off∨off+vs.length<=q)/\cs[q]?=g u):=by
       intro vs;induction vs with
       | nil=>intro cs off q u hq _;right;exact⟨by simp;omega,hq⟩
       | cons x r ih =>
         intro cs off q u hq hle;simp only[bf] at hq;simp only[cm] at hle ⊢;rcases ih (cs.set off x) (off+1) q u hq (by simp;omega)with ⟨g1,g2,g3⟩ | ⟨g1,g2⟩
         ·left;refine⟨by omega,by omega,?_⟩;rw[show q - off=(q - (off+1))+1 by omega];simpa using g3
         ·rw[aS] at g2;split at g2
          ·rename_i e;subst e;rw[if_pos (by omega)] at g2;left;refine⟨by omega,by omega,?_⟩;rw[eB];simpa using g2
          ·right;exact⟨by omega,g2⟩
      have hbase:base+n<=cs.length:=by
       cases n with
       | zero=>omega
       | succ n' =>have:(l[n']?)=g (l[n']'(by rw[hg.1];omega)):=L _;have:=(O.1 (hg.2 n' _ this)).1;omega
      have hsa:(eJ c (base+i+0) [aD k v])[q]?=if base+i=q then g (.int k v)else c[q]?:=by
       simp only[eJ,ag];rw[X];by_cases e:base+i=q
       ·rw[if_pos e,if_pos e,if_pos (by omega)]
       ·rw[if_neg e,if_neg e]
      rw[hsa];rcases hset _ _ _ _ _ hq (by rw[hmixlen];exact hbase)with ⟨g1,g2,g3⟩ | ⟨g1,g2⟩
      ·have hu:=N1 g3;subst hu;rw[hmixlen] at g2;by_cases e:base+i=q
       ·rw[if_pos e,if_pos (by omega)];rfl
       ·rw[if_neg e,if_neg (by omega)];have hq':(l[q - base]?)=g (l[q - base]'(by rw[hg.1];omega)):=L _;obtain⟨b,hb⟩:=hzg.2 _ _ hq';have:=h2 _ _ (hg.2 _ _ hq');rw[show base+(q - base)=q by omega,hb] at this;rw[this];rfl
      ·rw[hmixlen] at g1;rw[if_neg (by omega)];exact h2 q u g2
    ·exact h.elim
   ·exact h.elim
  ·rename_i nb col tot ty hk;split at h
   ·rename_i col' hup;obtain⟨⟨hi,hb⟩,h⟩:=h;have hb:base+i<nb:=hb;obtain⟨ob,ho,c,fr,rfl,h1,h2,h3,h4⟩:=hs.ny key _ hk rfl;have hcl:base+i<c.size:=by simp only[cm,List.length_nil] at h2;omega
    obtain⟨u1,u2⟩:=aE.MZ hup E;have hrun:=dr (P:=P) (o:=base+i) [aD k v] 0 w c ho (h1 rfl) (by simp;omega) (λu hu=>by simp at hu;subst hu;rfl);have hE:=hs.write hk rfl rfl (B':=.rows F nb [col'] F tot ty) (o:=.cells (eJ c (base+i+0) [aD k v]) ty fr) ?_ rfl
    ·simp only[execOp,an,hr a _ ha,hr x _ hx,SV.val,aA,I,H,G,storeVar,cu hn];simp only[cH,bn,Z,ne_eq,not_true_eq_false,if_false,hrun,G,Out];exact⟨E,C,_,_,λ_ _=>rfl,M _,(λv hv=>by cases hv),hE,h⟩
    ·refine⟨_,fr,rfl,λ_=>by rw[bV];exact h1 rfl,by rw[bV];exact h2,by rw[bV];exact h3,λi' k' cl hi' hk'=> ?_⟩
     match k',hk' with
     | 0,hk' =>
       simp only[b_,Option.some.injEq] at hk';subst hk';have hsa:(eJ c (base+i+0) [aD k v])[i'*[col'].length+0]?=if base+i=i' then g (.int k v)else c[i']?:=by
        simp only[eJ,ag,Z,Nat.mul_one];rw[X];by_cases e:base+i=i'
        ·rw[if_pos e,if_pos e,if_pos (by omega)]
        ·rw[if_neg e,if_neg e]
       rw[hsa];by_cases e:base+i=i'
       ·subst e;rw[if_pos rfl];exact congrArg g u1.symm
       ·rw[if_neg e,u2 i' (λh=>e h.symm)];have:=h4 i' 0 col hi' rfl;simpa using this
     | q+1,hk'=>simp at hk'
   ·exact h.elim
  ·exact h.elim
 ·rename_i key base n i lf v ha hx hn;split at h
  ·rename_i cs tot ty hk;split at h
   ·rename_i l hl;split at h
    ·rename_i zs hz;obtain⟨hi,h⟩:=h;have hi:i<n:=hi;have hg:=c7 hl;have hzg:=mD hz;have hzl:=uw hz;have hlt:base+i<cs.length:=by have:(l[i]?)=g (l[i]'(by rw[hg.1];exact hi)):=L _;exact(O.1 (hg.2 i _ this)).1
     obtain⟨ob,ho,c,fr,rfl,h1,h2,h3⟩:=hs.ny key _ hk rfl;have hcl:base+i<c.size:=(T.1 (h2 _ _ (L hlt))).1;have hrun:=dr (P:=P) (o:=base+i) [cL ⟨v.toArray⟩] 0 w c ho h1 (by simp;omega) (λu hu=>by simp at hu;subst hu;rfl);have hE:=hs.write hk rfl rfl (B':=.cells (bf cs base (kz i v 0 zs)) tot ty) (o:=.cells (eJ c (base+i+0) [cL ⟨v.toArray⟩]) ty fr) ?_ rfl
     ·simp only[execOp,an,hr a _ ha,hr x _ hx,SV.val,aA,I,H,G,storeVar,cu hn];simp only[cH,bn,Z,ne_eq,not_true_eq_false,if_false,hrun,G,Out];exact⟨E,C,_,_,λ_ _=>rfl,M _,(λv hv=>by cases hv),hE,h⟩
     ·refine⟨_,fr,rfl,by rw[bV];exact h1,λq u hq=> ?_,by rw[bV];exact h3⟩;have hmixlen:(kz i v 0 zs).length=n:=by rw[Iv,hzl,hg.1]
      have hbase:base+n<=cs.length:=by
       cases n with
       | zero=>omega
       | succ n' =>have:(l[n']?)=g (l[n']'(by rw[hg.1];omega)):=L _;have:=(O.1 (hg.2 n' _ this)).1;omega
      have hsa:(eJ c (base+i+0) [cL ⟨v.toArray⟩])[q]?=if base+i=q then g (.string ⟨v.toArray⟩)else c[q]?:=by
       simp only[eJ,ag];rw[X];by_cases e:base+i=q
       ·rw[if_pos e,if_pos e,if_pos (by omega)]
       ·rw[if_neg e,if_neg e]
      rw[hsa];rcases pE _ _ _ _ _ hq (by rw[hmixlen];exact hbase)with ⟨g1,g2,g3⟩ | ⟨g1,g2⟩
      ·have hu:=Iu g3;subst hu;rw[hmixlen] at g2;by_cases e:base+i=q
       ·rw[if_pos e,if_pos (by omega)];rfl
       ·rw[if_neg e,if_neg (by omega)];have hq':(l[q - base]?)=g (l[q - base]'(by rw[hg.1];omega)):=L _;obtain⟨b,hb⟩:=hzg _ _ hq';have:=h2 _ _ (hg.2 _ _ hq');rw[show base+(q - base)=q by omega,hb] at this;rw[this];rfl
      ·rw[hmixlen] at g1;rw[if_neg (by omega)];exact h2 q u g2
    ·exact h.elim
   ·exact h.elim
  ·exact h.elim
 ·rename_i key w0 i k v ha hx hn;split at h
  ·rename_i z n az tot ty hk;split at h
   ·rename_i hw0;split at h
    ·rename_i col hcol;split at h
     ·rename_i col' hup;obtain⟨hi,h⟩:=h;have hi:i<n:=hi;subst hw0;have hkl:k<az.length:=(O.1 hcol).1;obtain⟨ob,ho,c,fr,rfl,h1,h2,h3,h4⟩:=hs.ny key _ hk (SB.jk hi);have hcl:i*az.length+k<c.size:=by
       have:i*az.length+k<n*az.length:=by have:(i+1)*az.length<=n*az.length:=a_ _ hi;rw[W] at this;omega
       omega
      obtain⟨u1,u2⟩:=aE.MZ hup E;have hrun:=dr (P:=P) (o:=i*az.length+k) [v.val E] 0 w c ho (h1 rfl) (by simp;omega) (λu hu=>by simp at hu;subst hu;exact SV.oQ (aE.wk hup));have hE:=hs.write hk (SB.jk hi) rfl (B':=.rows z n (az.set k col') F tot ty) (o:=.cells (eJ c (i*az.length+k+0) [v.val E]) ty fr) ?_ rfl
      ·have hcell:(v.val E).cells=#[v.val E]:=by
        have hc:=aE.wk hup;cases v<;>first | rfl | (simp[SV.lX] at hc;done) | skip
        rename_i u;cases u<;>first | rfl | (simp[SV.lX] at hc;done)
       simp only[execOp,an,hr a _ ha,hr x _ hx,SV.val,aA,I,H,G,storeVar,cu hn,hcell];simp only[bn,Z,ne_eq,not_true_eq_false,if_false,hrun,G,Out];exact⟨E,C,_,_,λ_ _=>rfl,M _,(λv hv=>by cases hv),hE,h⟩
      ·refine⟨_,fr,rfl,λ_=>by rw[bV];exact h1 rfl,by rw[bV,c6];exact h2,by rw[bV];exact h3,λi' k' cl hi' hk'=> ?_⟩;rw[c6];have hk'l:k'<az.length:=by
        have:=(O.1 hk').1
        rwa [c6] at this
       have hsa:(eJ c (i*az.length+k+0) [v.val E])[i'*az.length+k']?=if i*az.length+k=i'*az.length+k' then g (v.val E)else c[i'*az.length+k']?:=by
        simp only[eJ,ag];rw[X];by_cases e:i*az.length+k=i'*az.length+k'
        ·rw[if_pos e,if_pos e,if_pos hcl]
        ·rw[if_neg e,if_neg e]
       have hinj:i*az.length+k=i'*az.length+k'->i=i'/\k=k':=λe=>by
        have e1:i=i':=by
         rcases Nat.lt_trichotomy i i' with hlt | heq | hgt
         ·have:(i+1)*az.length<=i'*az.length:=a_ _ hlt;rw[W] at this;omega
         ·exact heq
         ·have:(i'+1)*az.length<=i*az.length:=a_ _ hgt;rw[W] at this;omega
        subst e1;exact⟨rfl,by omega⟩
       rw[hsa];rw[aS] at hk';by_cases e:k=k'
       ·rw[if_pos e,if_pos hkl] at hk';injection hk' with hk';subst hk';by_cases ei:i'=i
        ·subst ei;subst e;rw[if_pos rfl,u1]
        ·rw[if_neg (λh=>ei (hinj h).1.symm),u2 i' ei];subst e;exact h4 i' k col hi' hcol
       ·rw[if_neg e] at hk';rw[if_neg (λh=>e (hinj h).2)];exact h4 i' k' cl hi' hk'
     ·exact h.elim
    ·exact h.elim
   ·exact h.elim
  ·exact h.elim
 ·rename_i key b o v ha hx hn;split at h
  ·rename_i D cs tot ty hk;split at h
   ·rename_i col hcol;split at h
    ·rename_i col' hup;obtain⟨hD,h⟩:=h;have hD:D b=true:=hD;have hol:o<cs.length:=(O.1 hcol).1;obtain⟨ob,ho,c,fr,rfl,h1,h2,h3⟩:=hs.gD key _ b hk hD;have hoc:o<c.size:=(T.1 (h2 o (col.at b) (by rw[S,hcol];rfl))).1;have hvc:=SV.oQ (E:=E) (aE.wk hup);obtain⟨u1,u2⟩:=aE.MZ hup E;have hrun:=dr (P:=P) (o:=o) [v.val E] 0 w c ho h1 (by simp;omega) (λu hu=>by simp at hu;subst hu;exact hvc);have hE:=hs.W2 hk hD (cs':=cs.set o col') (o:=.cells (eJ c (o+0) [v.val E]) ty fr) ?_ ?_
     ·have hcells:(v.val E).cells=#[v.val E]:=by
       have hc:=aE.wk hup;cases v<;>first | rfl | (simp[SV.lX] at hc;done) | skip
       rename_i u;cases u<;>first | rfl | (simp[SV.lX] at hc;done)
      simp only[execOp,an,hr a _ ha,hr x _ hx,SV.val,aA,I,H,G,storeVar,cu hn];simp only[hcells,bn,Z,ne_eq,not_true_eq_false,if_false,hrun,G,Out];exact⟨E,C,_,_,λ_ _=>rfl,M _,(λv hv=>by cases hv),hE,h⟩
     ·refine⟨_,fr,rfl,by rw[bV];exact h1,λq u hq=> ?_,by rw[bV];exact h3⟩;simp only[eJ,ag];rw[X];rw[S,aS] at hq;by_cases e:o=q
      ·rw[if_pos e] at hq ⊢;rw[if_pos hoc];rw[if_pos hol] at hq;injection hq with hq;subst hq;rw[u1]
      ·rw[if_neg e] at hq ⊢;exact h2 q u (by rw[S];exact hq)
     ·intro b' hb';apply c4;intro q;rw[S,S,aS];by_cases e:o=q
      ·subst e;rw[if_pos rfl,if_pos hol,hcol];exact congrArg g (u2 b' hb')
      ·rw[if_neg e]
    ·exact h.elim
   ·exact h.elim
  ·exact h.elim
 ·exact h.elim
end
theorem aaq (h:Mem.wf nx m=A):Mem.wf nx (m.drop key)=true:=by
 induction m with
 | nil=>rfl
 | cons e r ih =>
   simp only[Mem.wf,J] at h;by_cases he:e.1=key
   ·rw[Mem.drop,if_pos he];exact ih h.2
   ·rw[Mem.drop,if_neg he];simp only[Mem.wf,J];exact⟨h.1,ih h.2⟩
def gT (m:Mem)(s:Nat):SV->Option (List SV×Nat)
 | .aK=>g ([],0)
 | .slc key o n _ _=>(match m.get key with
   | some (.cells cs _ _)=>(match gv cs o (n*s)with
     | some l=>g (l,n)
     | none=>C)
   | _=>C)
 | _=>C
theorem ju {Γ E m nx w}(hs:aO Γ E m nx w)(h:gT m s x=g (l,n)) :
  (b5 (x.val E)).run P w=.ok n w/\(∀ j,j<=n->(N s j (x.val E)).run P w=.ok (SV.vals E (l.take (j*s))).toArray w)/\l.length=n*s:=by
 unfold gT at h;split at h
 ·injection h with h;injection h with h1 h2;subst h1;subst h2;refine⟨rfl,λj hj=> ?_,by simp⟩;obtain rfl:j=0:=by omega
  simp[SV.val,N,SV.vals]
 ·rename_i key o n' cl c;split at h
  ·rename_i cs tot ty hk;split at h
   ·rename_i l' hl;injection h with h;injection h with h1 h2;subst h1;subst h2;have hg:=c7 hl;obtain⟨ob,ho,c0,fr,rfl,_,h2,_⟩:=hs.ny key _ hk rfl;refine⟨rfl,λj hj=> ?_,hg.1⟩;have hle:j*s<=n'*s:=a_ s hj;have hrun:=run_loadCells (P:=P) (w:=w) ho o ((l'.take (j*s)).map (SV.val E)) (λi v hi=>by
     rw[S] at hi;cases hil:(l'.take (j*s))[i]? with
     | none=>rw[hil] at hi;cases hi
     | some u =>
       rw[hil] at hi;injection hi with hi;subst hi;have:l'[i]?=g u:=by
        rw[ek] at hil;split at hil
        ·exact hil
        ·cases hil
       exact h2 _ _ (hg.2 i u this))
    have hlen:((l'.take (j*s)).map (SV.val E)).length=j*s:=by rw[en,ep,hg.1];exact Nat.min_eq_left hle
    rw[hlen] at hrun;simp only[SV.val,N,hrun,SV.bP]
   ·cases h
  ·cases h
 ·cases h
def bytes (P:Program)(t:TypeId):Option Nat:=match P.info? t with | some i=>g i.bytes | none=>C
def grown (elem:TypeId)(need:Nat)(cs:List SV)(s:Nat)(m:Mem)(nx:Nat)(K:KL):VC :=.all Nat λc=>.imp (need<=c) (K (g (.slc nx 0 need F c)) ((nx,.cells cs (c*s) elem)::m) (nx+1))
def xo (P:Program)(elem:TypeId)(s:Nat)(b:SV)(new:List SV)(n:Nat)(m:Mem)(nx:Nat)(K:KL):VC :=
 match bytes P elem,fX P elem,gT m s b with
 | some by_,g z,g (old,n0) =>
   if(z.plain&&nD new&&SV.e9 nx new&&V (z.cells.length=s)&&V (2*(n0+n)*by_<=281474976710656)&&V (n0+n<9223372036854775808))=A then
   (match b with
   | .aK=>(match n with
     | 0=>K (g .aK) m nx
     | n+1=>grown elem (n+1) new s m nx K)
   | .slc key o _ A c=>(match m.get key with
     | some (.cells cs tot ty)=>if n0+n<=c then(if o+n0*s+new.length<=cs.length then
        K (g (.slc key o (n0+n) A c)) (m.put key (.cells (bf cs (o+n0*s) new) tot ty)) nx else .fail "append: cells that are not known")else
        grown elem (n0+n) (old++new) s m nx K
     | _=>.fail "append: no such block")
   | .slc key 0 _ F c=>(match m.get key with
     | some (.cells cs tot ty)=>if cs.length=n0*s/\ty=elem then .and (jG tot (c*s)) (.all Nat λc'=>.imp (n0+n<=c') (K (g (.slc nx 0 (n0+n) F c')) ((nx,.cells (old++new) (c'*s) elem)::m.drop key) (nx+1)))
        else .fail "append: another block"
     | _=>.fail "append: no such block")
   | _=>.fail "append: to what")
   else .fail "append: sizes"
 | _,_,_=>.fail "append"
theorem LZ (need c:Nat)(h:c<need):b6 need c<=2*need:=by
 unfold b6;split
 ·omega
 ·split
  ·omega
  ·rename_i h1 h2;have key: ∀(r x:Nat),256<=x->x<need->bh need r x<=2*need:=by
    intro r;induction r with
    | zero=>intro x h3 h4;simp only[bh];omega
    | succ r ih =>
      intro x h3 h4;simp only[bh];rw[if_neg (by omega)];by_cases h5:x+(x+768) / 4<need
      ·exact ih _ (by omega) h5
      ·cases r with
       | zero=>simp only[bh];omega
       | succ r=>simp only[bh];rw[if_pos (by omega)];omega
   exact key 4 c (by omega) h
theorem QH {q:Question}(hq:q.forced=F):(choose q).run P w=.ok (q.cut (w.tape w.drawn q)) {w with drawn:=w.drawn+1}:=by rw[run_choose,hq];rfl
def xL:TypeDesc->Bool
 | .slice _=>A
 | .string=>A
 | _=>F
section
variable {P : Program} {Γ : bg}
theorem mH {by_:Nat}{base:Option Addr}{c:Nat}{x z:Value}{old:Array Value}
  (h0:ats[0]?=g t0) (h1:ats[1]?=g t1) (hd:P.underlying t0=g (.slice elem)) (hd1:P.underlying t1=g d) (hni:xL d=A) (hs:sz P elem=g s) (hb:bytes P elem=g by_)
  (hz: ∀ w,(zeroValue elem).run P w=.ok z w) (hzs:z.cells.size=s) (hlen:(b5 x).run P w=.ok n w)
  (hold: ∀ k,(N s n0 (.slice base n0 c)).run P {w with drawn:=k}=.ok old {w with drawn:=k}) (hnew: ∀ k,(N s n x).run P {w with drawn:=k}=.ok new {w with drawn:=k})
  (hneed:c<n0+n) (hbound:2*(n0+n)*by_<=2^ 48) (hsmall:n0+n<2^ 63) :
  ∃ c' rest,n0+n<=c'/\rest.size=(c' - (n0+n))*s/\(Y ats ty #[.slice base n0 c,x]).run P w =
    .ok (.slice (g ⟨w.heap.size,0,C⟩) (n0+n) c') {w with drawn:=w.drawn+1,heap:=w.heap.push (.cells (old++new++rest) elem)}:=by
 have hby: ∃ i,P.info? elem=g i/\i.bytes=by_:=by
  unfold bytes at hb;split at hb
  ·rename_i i hi;injection hb with hb;exact⟨i,hi,hb⟩
  ·cases hb
 obtain⟨i,hi,hib⟩:=hby;have hcap:=LZ (n0+n) c hneed;have hmul:b6 (n0+n) c*by_<=2^ 48:=ez (a_ by_ hcap) hbound;have h2: ¬ (n0+n<=c):=by omega
 have h3: ¬ (((n0+n:Nat):Int)>9223372036854775807):=by omega
 have h4: ¬ (b6 (n0+n) c*by_>2^ 48):=Nat.not_lt.2 hmul;refine⟨(Question.appendCap (n0+n) c elem).cut (w.tape w.drawn (.appendCap (n0+n) c elem)),ef z.cells ((Question.appendCap (n0+n) c elem).cut (w.tape w.drawn (.appendCap (n0+n) c elem)) - (n0+n)),?_,?_,?_⟩
 ·simp only[Question.cut];omega
 ·simp[ef,hzs]
 ·cases d
  all_goals first | (cases hni;done) | skip
  all_goals
   simp only[Y,h0,h1,c5,b_,bl,I,aL hd,G,cu hs,aL hd1,H,
    bx,if_false,hlen,b9,h2,jn hi,hib,imax,h3,false_and,h4,QH (q:=.appendCap (n0+n) c elem) rfl,run_askRoom,hold,cB,if_true,hnew,hz,newRow,run_newObj]
theorem rC {w':World}{b:Nat}{c:Nat}{x:Value}
  (h0:ats[0]?=g t0) (h1:ats[1]?=g t1) (hd:P.underlying t0=g (.slice elem)) (hd1:P.underlying t1=g d) (hni:xL d=A) (hs:sz P elem=g s)
  (hlen:(b5 x).run P w=.ok n w) (hnew:(N s n x).run P w=.ok new w) (hneed:n0+n<=c)
  (hst:(storeCells ⟨b,o+n0*s,C⟩ new.toList).run P w=.ok () w') :
  (Y ats ty #[.slice (g ⟨b,o,C⟩) n0 c,x]).run P w=.ok (.slice (g ⟨b,o,C⟩) (n0+n) c) w':=by
 cases d
 all_goals first | (cases hni;done) | skip
 all_goals
  simp only[Y,h0,h1,c5,b_,bl,I,aL hd,G,cu hs,aL hd1,H,
   bx,if_false,hlen,b9,hneed,if_true,hnew,cB,cQ,hst]
theorem append_nil {x:Value}
  (h0:ats[0]?=g t0) (h1:ats[1]?=g t1) (hd:P.underlying t0=g (.slice elem)) (hd1:P.underlying t1=g d) (hni:xL d=A) (hs:sz P elem=g s)
  (hlen:(b5 x).run P w=.ok 0 w) (hnew:(N s 0 x).run P w=.ok new w) :
  (Y ats ty #[.slice C 0 0,x]).run P w=.ok (.slice C 0 0) w:=by
 cases d
 all_goals first | (cases hni;done) | skip
 all_goals
  simp only[Y,h0,h1,c5,b_,bl,I,aL hd,G,cu hs,aL hd1,H,
   bx,if_false,hlen,b9,ag,M,if_true,hnew,cB]
theorem vY {c:Nat}{cl:Bool}(h:gT m s (.slc key o n cl c)=g (l,n0)):n0=n:=by
 simp only[gT] at h;split at h
 ·split at h
  ·injection h with h;injection h with _ h;exact h.symm
  ·cases h
 ·cases h
theorem bF.grown {K:KL}(hs:aO Γ E m nx w)(hw:Mem.wf nx m=A){need:Nat}
  (hcs:SV.e9 nx cs=A) (hl:cs.length=need*s) (h:(Sx.grown elem need cs s m nx K).holds) {c':Nat} (hc':need<=c') {rest:Array Value} (hr:rest.size=(c' - need)*s) {a:Array Value} (ha:a.toList=cs.map (SV.val E)) :
  bF K Γ E nx (.slice (g ⟨w.heap.size,0,C⟩) need c') {w with drawn:=w.drawn+1,heap:=w.heap.push (.cells (a++rest) elem)}:=by
 have h':=h c' hc';have hs':=hs.drew (w.drawn+1);refine bF.alloc (sv:=.slc nx 0 need F c') hs' hw hcs (λi v hv=> ?_) ?_ h' (by simp[SV.val])
 ·have:=vq (E:=E) ha i v hv;rw[Array.getElem?_append_left (T.1 this).1];exact this
 ·rw[Array.size_append,qF (E:=E) ha,hl,hr,← W];congr 1;omega
theorem JF (hw:Mem.wf nx m=A)(h:gT m s x=g (l,n)):SV.e9 nx l=true:=by
 unfold gT at h;split at h
 ·injection h with h;injection h with h1 h2;subst h1;rfl
 ·split at h
  ·rename_i cs tot ty hk;split at h
   ·rename_i l' hl;injection h with h;injection h with h1 h2;subst h1;have hwk:=Mem.GQ hw hk;simp only[SB.wf] at hwk;have hg:=c7 hl;have: ∀(l':List SV),(∀(j:Nat) (v:SV),l'[j]?=g v->v.wf nx=A)->SV.e9 nx l'=true:=by
     intro l';induction l' with
     | nil=>intro _;rfl
     | cons x r ih=>intro hh;simp only[SV.e9,J];exact⟨hh 0 x rfl,ih λj v hj=>hh (j+1) v (by simpa using hj)⟩
    exact this l' λj v hj=>SV.sE hwk (hg.2 j v hj)
   ·cases h
  ·cases h
 ·cases h
def zH (P:Program)(ats:Array TypeId)(x y:SV)(m:Mem)(nx:Nat)(K:KL):VC :=
 match ats[0]?,ats[1]? with
 | some t0,g t1=>(match P.underlying t0,P.underlying t1 with
   | some (.slice elem),g d=>(match sz P elem with
     | some s=>(match gT m s y with
       | some (new,n)=>if xL d=A then xo P elem s x new n m nx K else .fail "append: make"
       | none=>.fail "append: of what")
     | none=>.fail "append")
   | _,_=>.fail "append")
 | _,_=>.fail "append"
theorem Lj {y:SV}{K:KL}
  (h:(zH P ats x y m nx K).holds) (hs:aO Γ E m nx w) (hw:Mem.wf nx m=A) :
  ∃ r w',(Y ats ty #[x.val E,y.val E]).run P w=.ok r w'/\bF K Γ E nx r w':=by
 unfold zH at h;split at h
 ·rename_i t0 t1 h0 h1;split at h
  ·rename_i elem d hd hd1;split at h
   ·rename_i s hsz;split at h
    ·rename_i new n hy;split at h
     ·rename_i hni;obtain⟨ylen,ycells,ynum⟩:=ju (P:=P) hs hy;have hynew:=ycells n (M _);rw[c_ (by omega)] at hynew;unfold xo at h;split at h
      ·rename_i by_ z old n0 hby hz hx;split at h
       ·rename_i hc;simp only[J,decide_eq_true_eq] at hc;obtain⟨⟨⟨⟨⟨g1,g2⟩,g3⟩,g4⟩,g5⟩,g6⟩:=hc;have hzr: ∀ w:World,(zeroValue elem).run P w=.ok (z.val E) w:=λw=>dG hz;have hzs:(z.val E).cells.size=s:=by rw[SV.ff g1];simp[g4]
        have hdraw: ∀ k,aO Γ E m nx {w with drawn:=k}:=λk=>hs.drew k;have ydraw: ∀ k,(N s n (y.val E)).run P {w with drawn:=k}=.ok (SV.vals E new).toArray {w with drawn:=k}:=λk=>by have:=(ju (P:=P) (hdraw k) hy).2.1 n (M _);rw[c_ (by omega)] at this;exact this
        have oldwf:=JF hw hx;obtain⟨xlen,xcells,xnum⟩:=ju (P:=P) hs hx;have xdraw: ∀ k,(N s n0 (x.val E)).run P {w with drawn:=k}=.ok (SV.vals E old).toArray {w with drawn:=k}:=λk=>by have:=(ju (P:=P) (hdraw k) hx).2.1 n0 (M _);rw[c_ (by omega)] at this;exact this
        split at h
        ·
         simp only[gT] at hx;injection hx with hx;injection hx with e1 e2;subst e1;subst e2;split at h
         ·exact⟨_,_,append_nil h0 h1 hd hd1 hni hsz ylen hynew,E,g .aK,m,nx,λ_ _=>rfl,M _,λv hv=>by injection hv with hv;subst hv;rfl,hs,h⟩
         ·rename_i n';obtain⟨c',rest,q1,q2,q3⟩:=mH (w:=w) (ty:=ty) (base:=C) (n0:=0) (c:=0) h0 h1 hd hd1 hni hsz hby hzr hzs ylen xdraw ydraw (by omega) (by omega) (by omega);refine⟨_,_,q3,?_⟩;rw[eI] at q1 q2 ⊢;exact bF.grown hs hw g3 ynum h q1 q2 (by simp[SV.bP,SV.vals])
        ·
         rename_i key o _ c;have e0:=vY hx;subst e0;split at h
         ·rename_i cs tot ty' hk;split at h
          ·rename_i hle;split at h
           ·rename_i hin
            obtain⟨w',hrun,haft⟩:=bF.write (P:=P) (sv:=g (.slc key o (n0+n) A c)) (r:=.slice (g ⟨E key,o,C⟩) (n0+n) c) hs hk (jb g2) hin
             (λv hv=>by injection hv with hv;subst hv;rfl) h
            exact⟨_,w',rC h0 h1 hd hd1 hni hsz ylen hynew hle hrun,haft⟩
           ·exact h.elim
          ·rename_i hle;obtain⟨c',rest,q1,q2,q3⟩:=mH (w:=w) (ty:=ty) (base:=g ⟨E key,o,C⟩) (n0:=n0) (c:=c) h0 h1 hd hd1 hni hsz hby hzr hzs ylen xdraw ydraw (by omega) (by omega) (by omega);exact⟨_,_,q3,bF.grown hs hw (ew oldwf g3) (by simp[xnum,ynum,W]) h q1 q2 (by simp[SV.bP])⟩
         ·exact h.elim
        ·
         rename_i key _ c;have e0:=vY hx;subst e0;split at h
         ·rename_i cs tot ty' hk;split at h
          ·rename_i hcond;obtain⟨hcl,rfl⟩:=hcond;obtain⟨htot,h⟩:=h;have htot:tot=c*s:=htot;by_cases hle:n0+n<=c
           ·
            obtain⟨ob,ho,ca,fr,rfl,hf1,hf2,hf3⟩:=hs.ny key _ hk rfl;have hcap:n0*s+new.length<=ca.size:=by rw[hf3,htot,ynum,← W];exact a_ s hle
            have hrun:=dr (P:=P) (o:=0+n0*s) (SV.vals E new) 0 w ca ho hf1 (by simp[SV.bP];omega) (λv hv'=>by rw[SV.bP,eu] at hv';obtain⟨u,hu,rfl⟩:=hv';exact SV.oQ (jb g2 u hu))
            refine⟨_,_,rC (o:=0) h0 h1 hd hd1 hni hsz ylen hynew hle hrun,?_⟩;have hold:old=cs:=by
             simp only[gT,hk] at hx;split at hx
             ·rename_i l hl;injection hx with hx;injection hx with e1 _;subst e1;have hg:=c7 hl;apply c4;intro j;by_cases hj:j<l.length
              ·have:=hg.2 j l[j] (L hj);rw[eI] at this;rw[this,L hj]
              ·rw[b! (by omega),b! (by rw[hcl,← hg.1];omega)]
             ·cases hx
            have hkn:=hs.lt key _ hk
            refine⟨λj=>if j=nx then E key else E j,g (.slc nx 0 (n0+n) F c),_,_,λk hk'=>by simp[c! hk'],ey _,λv hv=>by injection hv with hv;subst hv;simp[SV.val],
             hs.move hw hk rfl rfl (B':=.cells (old++new) (c*s) ty') ?_,h c hle⟩
            refine⟨_,fr,rfl,by rw[bV];exact hf1,λi v hi=> ?_,by rw[bV,hf3,htot]⟩;have hcong:v.val (λj=>if j=nx then E key else E j)=v.val E:=SV.val_congr (nx:=nx) (λk hk'=>by simp[c! hk']) v (SV.sE (ew oldwf g3) hi)
            rw[hcong,← a!,gj];have hcat: ∀(vs:List Value) (pre post:List Value),vs.length<=post.length->bf (pre++post) pre.length vs=pre++(vs++post.drop vs.length):=by
             intro vs;induction vs with
             | nil=>intro pre post _;simp[bf]
             | cons u r ih =>
               intro pre post hp;cases post with
               | nil=>simp at hp
               | cons q qs =>
                 rw[bf];have:(pre++q::qs).set pre.length u=(pre++[u])++qs:=by simp
                 rw[this];have:=ih (pre++[u]) qs (by simpa using hp);simp only[List.length_append,Z] at this;rw[this];simp
            have hsplit:ca.toList=ca.toList.take (n0*s)++ca.toList.drop (n0*s):=(List.take_append_drop _ _).symm;have hpl:(ca.toList.take (n0*s)).length=n0*s:=by rw[ep,d!];omega
            rw[hsplit,show 0+n0*s+0=(ca.toList.take (n0*s)).length by rw[hpl];omega,hcat _ _ _ (by simp[SV.bP];omega)];rw[List.getElem?_append] at hi ⊢;rw[hold,hcl] at hi;rw[hpl];split
            ·rename_i hlt;rw[if_pos hlt] at hi;rw[ek,if_pos hlt,a!];exact hf2 i v hi
            ·rename_i hge;rw[if_neg hge] at hi;have hil:i - n0*s<new.length:=(O.1 hi).1;rw[List.getElem?_append_left (by simpa [SV.bP] using hil),SV.bP,S,hi];rfl
           ·obtain⟨c',rest,q1,q2,q3⟩:=mH (w:=w) (ty:=ty) (base:=g ⟨E key,0,C⟩) (n0:=n0) (c:=c) h0 h1 hd hd1 hni hsz hby hzr hzs ylen xdraw ydraw (by omega) (by omega) (by omega);refine⟨_,_,q3,?_⟩;have hsub:aO Γ E (m.drop key) nx w:=hs.sub (λk B hk=>(Mem.fj hk).2) (λk B hk=>hs.lt k B (Mem.fj hk).2) (.inl (M _));refine bF.grown (m:=m.drop key) hsub (aaq hw) (ew oldwf g3) (by simp[xnum,ynum,W]) ?_ q1 q2 (by simp[SV.bP]);exact h
          ·exact h.elim
         ·exact h.elim
        ·exact h.elim
       ·exact h.elim
      ·exact h.elim
     ·exact h.elim
    ·exact h.elim
   ·exact h.elim
  ·exact h.elim
 ·exact h.elim
end
end
end Sx
end Go.Proofs.YtoibaecagklkaaaGreatDoor
