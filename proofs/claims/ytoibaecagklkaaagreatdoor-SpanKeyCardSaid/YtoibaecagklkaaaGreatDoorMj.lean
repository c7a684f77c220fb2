/-
  Calls of the library that have no body: internal/reflectlite, as errors.Is and errors.As need it; by tables of types.
-/
import Derived.Test.YtoibaecagklkaaaGreatDoorMa
import Derived.Test.YtoibaecagklkaaaGreatDoorMi
import Derived.Laws.Externs
import Derived.ProofKit
import Derived.Below
import Derived.ChangeSame
open Bool renaming and_eq_true->ag,false->C,false_eq_true->an,true->A
open Decidable renaming decide->I
open Go.DataW renaming TrodAll->V,trod->bW
open Go.Extern.ReflectliteType renaming abiMethod->b7,assignableTo->Y,elem->b_,implements_->b!,method->Z,relation->T,toType->cl,typeOf->ct
open Go.Extern.ReflectliteValue renaming methodAny->cx,valueError->cy
open Go.Extern.Rtype renaming kind->ax,noPackHeld->cR
open Go.Proofs.Tryz renaming f117->aP,f216->a_,prog->G
open Go.Result renaming andThen_ok->Q
open Go.Sem renaming run_bind->S,run_pure->c4
open Int renaming eq_ofNat_of_zero_le->c5,ofNat->M
open List renaming cons_append->c_,getElem?_eq_getElem->a!,map_cons->c!,mem_append->dG,mem_cons->N,mem_cons_of_mem->bf,mem_cons_self->dV,not_mem_nil->O
open Option renaming none->L,some->D
open UInt8 renaming ofNat->J
namespace Go.Proofs.YtoibaecagklkaaaGreatDoor
open Go Sx
variable {fn:Func}{f:FuncId}{n:Int}{s:List UInt8}{m:Mem}{k nx t:Nat}{P:Program}{v:SV}{K:SV->Mem->Nat->VC}{W w w':World}
section
open Go Sx
theorem fV {e:Array Value->Sem Value}(hf:P.funcs[f]?=D fn) (h1:(fn.name== "runtime.NumGoroutine")=C) (h2:fn.body.isNone=A)
  (h3:Extern.findNext fn=L) (h4:Extern.find fn=D e) {args:Array Value} {v:Value}  (h:(e args).run P w=.ok v w'):(callFunc f args).run P w=.ok (.value v) w':=by
 rw[run_callFunc_extern hf h1 h2 h3 h4,h];rfl
abbrev nH:TypeId:=212
noncomputable abbrev wQ (t:Nat):Value:=.pointer (D ⟨hB,t,L⟩)
noncomputable abbrev hd (t:Nat):SV:=.raw (wQ t)
noncomputable abbrev tyV (t:Nat):SV:=.iface nH (.agg [hd t])
def oh {β:Type}(a:Nat):List (Nat×β)->Option β
 | []=>L
 | e::r=>if e.1=a then D e.2 else oh a r
theorem fZ {β:Type}{a:Nat}{b:β}: ∀ {l:List (Nat×β)},oh a l=D b->(a,b)∈ l
 | [],h=>by cases h
 | e::r,h=>by
   unfold oh at h;split at h
   ·rename_i he;injection h with h;subst h;subst he;simp
   ·exact bf _ (fZ h)
def IG {β:Type}(a b:Nat):List (Nat×Nat×β)->Option β
 | []=>L
 | e::r=>if e.1=a/\e.2.1=b then D e.2.2 else IG a b r
theorem sE {β:Type}{a b:Nat}{c:β}: ∀ {l:List (Nat×Nat×β)},IG a b l=D c->(a,b,c)∈ l
 | [],h=>by cases h
 | e::r,h=>by
   unfold IG at h;split at h
   ·rename_i he;injection h with h;subst h;obtain⟨rfl,rfl⟩:=he;simp
   ·exact bf _ (sE h)
noncomputable def BS:SV->Option Nat
 | .raw (.pointer (D ⟨b,t,L⟩))=>if b=hB then D t else L
 | _=>L
theorem ju (h:BS v=D t):v=hd t:=by
 unfold BS at h;split at h
 ·rename_i b t';split at h
  ·rename_i e;injection h with h;subst h;subst e;rfl
  ·cases h
 ·cases h
noncomputable def rM:PT:=λargs m nx K=>match args with
 | [.iface t _]=>K (tyV t) m nx
 | _=>.fail "TypeOf"
noncomputable def jh:PT:=λargs m nx K=>match args with
 | [.agg [h]]=>(match BS h with
   | some t=>(match oh t Fx with
     | some b=>K (.bool A b) m nx
     | none=>.fail "Comparable")
   | none=>.fail "Comparable")
 | _=>.fail "Comparable"
noncomputable def oK:PT:=λargs m nx K=>match args with
 | [.iface t v]=>(match oh t cY,v.plain with
   | some k,A=>K (.agg [hd t,.ptr nx A 0,.int .u64 A (M (k+128))]) ((nx,.cells v.cells v.cells.length t)::m) (nx+1)
   | _,_=>.fail "ValueOf")
 | _=>.fail "ValueOf"
noncomputable def CH:PT:=λargs m nx K=>match args with
 | [.agg [h,.ptr _ A 0,.int .u64 _ n]]=>(match BS h with
   | some t=>(match oh t cY with
     | some k=>if n=M (k+128)then K (tyV t) m nx else .fail "Value.Type"
     | none=>.fail "Value.Type")
   | none=>.fail "Value.Type")
 | _=>.fail "Value.Type"
noncomputable def Bm:PT:=λargs m nx K=>match args with
 | [h]=>(match BS h with
   | some t=>(match oh t cY with
     | some k=>K (.int .u8 A (M k)) m nx
     | none=>.fail "Kind")
   | none=>.fail "Kind")
 | _=>.fail "Kind"
noncomputable def vi:PT:=λargs m nx K=>match args with
 | [.agg [h]]=>(match BS h with
   | some t=>(match oh t j7 with
     | some e=>K (tyV e) m nx
     | none=>.fail "Elem")
   | none=>.fail "Elem")
 | _=>.fail "Elem"
noncomputable def EE (tab:List (Nat×Nat×Bool)):PT:=λargs m nx K=>match args with
 | [.agg [h],.iface t (.agg [g])]=>(match BS h,BS g with
   | some a,D b=>(match IG a b tab with
     | some c=>if t=nH then K (.bool A c) m nx else .fail "a relation of types"
     | none=>.fail "a relation of types")
   | _,_=>.fail "a relation of types")
 | _=>.fail "a relation of types"
noncomputable def zU (m:Mem):SV->Option (Nat×SV)
 | .agg [h,.ptr key A 0,.int .u64 _ n]=>(match BS h,m.get key with
   | some t,D (.cells (.ptr k b o::_) _ _)=>(match oh t j7 with
     | some _=>if n=150 then D (t,.ptr k b o)else L
     | none=>L)
   | _,_=>L)
 | _=>L
noncomputable def vw:PT:=λargs m nx K=>match args with
 | [v]=>(match zU m v with
   | some _=>K (.bool A C) m nx
   | none=>.fail "IsNil")
 | _=>.fail "IsNil"
noncomputable def vj:PT:=λargs m nx K=>match args with
 | [v]=>(match zU m v with
   | some (t,p)=>(match oh t j7 with
     | some e=>(match oh e cY with
       | some k=>K (.agg [hd e,p,.int .u64 A (M (k+128+256))]) m nx
       | none=>.fail "Value.Elem")
     | none=>.fail "Value.Elem")
   | none=>.fail "Value.Elem")
 | _=>.fail "Value.Elem"
noncomputable def JG:PT:=λargs m nx K=>match args with
 | [.agg [h,p,.int .u64 _ n],.agg [g,.ptr key A 0,.int .u64 _ n']]=>(match BS h,BS g,m.get key with
   | some a,D b,D (.cells (v::_) _ _)=>(match IG a b Cp,oh a cY,oh b cY with
     | some wrap,D k,D k'=>if n=M (k+128+256)/\n'=M (k'+128)then
        nD G a (D p) (D (match wrap with | true=>.iface b v | false=>v)) m nx (λ_ m nx=>K (.aO []) m nx)else .fail "Value.Set"
     | _,_,_=>.fail "Value.Set")
   | _,_,_=>.fail "Value.Set")
 | _=>.fail "Value.Set"
noncomputable def Aq:PT:=EE (wW++Eo)
noncomputable def Lj:PT:=EE FX
theorem Ik: ∀ p∈ cY,∀ w,(ax p.1).run G w=.ok p.2 w:=by
 intro p hp w;simp only[cY,N,O,or_false] at hp
 repeat' first
  | (rcases hp with rfl | hp)
  | subst hp
  | kernel_rfl
theorem SQ: ∀ p∈ Fx,∀ w,((Z λt=>do cR "Comparable" t;pure (.bool (← typeInfo t).comparable)) #[.agg #[wQ p.1]]).run G w=.ok (.bool p.2) w:=by
 intro p hp w;simp only[Fx,N,O,or_false] at hp
 repeat' first
  | (rcases hp with rfl | hp)
  | subst hp
  | kernel_rfl
theorem VE: ∀ p∈ cY,∀(a:Addr) w,(cx (cy "reflectlite.Value.Type" 0) (λt _ _ _=>cl t) #[.agg #[wQ p.1,.pointer (D a),.int .u64 (M (p.2+128))]]).run G w
  = .ok (.iface nH (.agg #[wQ p.1])) w:=by
 intro p hp a w;simp only[cY,N,O,or_false] at hp
 repeat' first
  | (rcases hp with rfl | hp)
  | subst hp
  | kernel_rfl
theorem Hg: ∀ p∈ cY,∀ w,((b7 λt=>do pure (.int .u8 (M (← ax t)))) #[wQ p.1]).run G w=.ok (.int .u8 (M p.2)) w:=by
 intro p hp w;simp only[cY,N,O,or_false] at hp
 repeat' first
  | (rcases hp with rfl | hp)
  | subst hp
  | kernel_rfl
theorem Pc: ∀ p∈ j7,∀ w,(Z b_ #[.agg #[wQ p.1]]).run G w=.ok (.iface nH (.agg #[wQ p.2])) w:=by
 intro p hp w;simp only[j7,N,O,or_false] at hp
 repeat' first
  | (rcases hp with rfl | hp)
  | subst hp
  | kernel_rfl
theorem TE: ∀ p∈ FX,∀ w,(T "Implements" b! #[.agg #[wQ p.1],.iface nH (.agg #[wQ p.2.1])]).run G w=.ok (.bool p.2.2) w:=by
 intro p hp w;simp only[FX,N,O,or_false] at hp
 repeat' first
  | (rcases hp with rfl | hp)
  | subst hp
  | kernel_rfl
theorem Kz: ∀ p∈ wW,∀ w,(T "AssignableTo" Y #[.agg #[wQ p.1],.iface nH (.agg #[wQ p.2.1])]).run G w=.ok (.bool p.2.2) w:=by
 intro p hp w;simp only[wW,N,O,or_false] at hp
 repeat' first
  | (rcases hp with rfl | hp)
  | subst hp
  | kernel_rfl
noncomputable def Wa (t:Nat):Array (String×TypeId):=match G.underlying t with
 | some (.interface l)=>l
 | _=>#[]
noncomputable def Y5 (t:Nat):Array Method:=match G.info? t with
 | some i=>i.methods
 | none=>#[]
theorem XF: ∀ p∈ Eo,∀ w,(T "AssignableTo" Y #[.agg #[wQ p.1],.iface nH (.agg #[wQ p.2.1])]).run G w=.ok (.bool (C||(Instr.missingMethod (Wa p.2.1) (Y5 p.1)).isNone)) w:=by
 intro p hp w;simp only[Eo,N,O,or_false] at hp
 repeat' first
  | (rcases hp with rfl | hp)
  | subst hp
  | kernel_rfl
theorem Uy: ∀ p∈ Eo,DT (Wa p.2.1) (Y5 p.1)=A/\p.2.2=false:=by
 intro p hp;simp only[Eo,N,O,or_false] at hp
 repeat' first
  | (rcases hp with rfl | hp)
  | subst hp
  | exact⟨by kernel_rfl,rfl⟩
theorem aba: ∀ p∈ Eo,∀ w,(T "AssignableTo" Y #[.agg #[wQ p.1],.iface nH (.agg #[wQ p.2.1])]).run G w=.ok (.bool p.2.2) w:=by intro p hp w;obtain⟨h1,h2⟩:=Uy p hp;obtain⟨m,hm⟩:=Bo h1;rw[XF p hp w,h2,hm];rfl
theorem ML (t:Nat)(v:Value)(w:World):(ct #[.iface t v]).run G w=.ok (.iface nH (.agg #[wQ t])) w:=by kernel_rfl
end
section
open Go Sx
set_option maxRecDepth 20000
theorem bA {s:String}{α:Prop}(h:(VC.fail s).holds):α:=False.elim h
section
variable {K : SV -> Mem -> Nat -> VC} {Γ : br} {E : Nat -> Nat} {nx : Nat} {m : Mem} {w : World}
theorem gk (h:(K v m nx).holds)(hs:aN Γ E m nx w):bC (lift K) Γ E nx (v.val E) w :=⟨E,D v,m,nx,λ_ _=>rfl,Nat.le_refl _,λu hu=>by injection hu with hu;subst hu;rfl,hs,h⟩
end
theorem Q5:av G 113 rM:=by
 intro args m nx K h hw ha Γ E w hs;unfold rM at h;split at h
 ·rename_i t v;simp only[SV.vals,SV.val];rw[fV (e:=ct) Tryz.func113 (by kernel_rfl) (by kernel_rfl) (by kernel_rfl) (by kernel_rfl) (ML t _ w)];simp only[Out];exact gk (v:=tyV t) h hs
 ·exact bA h
set_option maxRecDepth 20000 in
theorem CX:av G 247 jh:=by
 intro args m nx K h hw ha Γ E w hs;unfold jh at h;split at h
 ·rename_i x;split at h
  ·rename_i t ht;have hx:=ju ht;split at h
   ·rename_i b hb;rw[hx];simp only[SV.vals,SV.val];rw[fV (e:=Z λt=>do cR "Comparable" t;pure (.bool (← typeInfo t).comparable)) Tryz.func247 (by kernel_rfl) (by kernel_rfl) (by kernel_rfl) (by kernel_rfl) (SQ _ (fZ hb) w)]
    simp only[Out];exact gk (v:=.bool A b) h hs
   ·exact bA h
  ·exact bA h
 ·exact bA h
set_option maxRecDepth 20000 in
theorem Xq:av G 235 Bm:=by
 intro args m nx K h hw ha Γ E w hs;unfold Bm at h;split at h
 ·rename_i x;split at h
  ·rename_i t ht;have hx:=ju ht;split at h
   ·rename_i k hk;rw[hx];simp only[SV.vals,SV.val];rw[fV (e:=b7 λt=>do pure (.int .u8 (← ax t))) Tryz.func235 (by kernel_rfl) (by kernel_rfl) (by kernel_rfl) (by kernel_rfl) (Hg _ (fZ hk) w)]
    simp only[Out];exact gk (v:=.int .u8 A (M k)) h hs
   ·exact bA h
  ·exact bA h
 ·exact bA h
set_option maxRecDepth 20000 in
theorem S0:av G 248 vi:=by
 intro args m nx K h hw ha Γ E w hs;unfold vi at h;split at h
 ·rename_i x;split at h
  ·rename_i t ht;have hx:=ju ht;split at h
   ·rename_i e he;rw[hx];simp only[SV.vals,SV.val];rw[fV (e:=Z b_) Tryz.func248 (by kernel_rfl) (by kernel_rfl) (by kernel_rfl) (by kernel_rfl) (Pc _ (fZ he) w)];simp only[Out];exact gk (v:=tyV e) h hs
   ·exact bA h
  ·exact bA h
 ·exact bA h
set_option maxRecDepth 20000 in
theorem Xj:av G 249 Lj:=by
 intro args m nx K h hw ha Γ E w hs;unfold Lj EE at h;split at h
 ·rename_i x t y;split at h
  ·rename_i a b hx hy;have hx:=ju hx;have hy:=ju hy;split at h
   ·rename_i c hc;split at h
    ·rename_i e;subst e;rw[hx,hy];simp only[SV.vals,SV.val];rw[fV (e:=T "Implements" b!) Tryz.func249 (by kernel_rfl) (by kernel_rfl) (by kernel_rfl) (by kernel_rfl) (TE _ (sE hc) w)];simp only[Out];exact gk (v:=.bool A c) h hs
    ·exact bA h
   ·exact bA h
  ·exact bA h
 ·exact bA h
set_option maxRecDepth 20000 in
theorem OX:av G 246 Aq:=by
 intro args m nx K h hw ha Γ E w hs;unfold Aq EE at h;split at h
 ·rename_i x t y;split at h
  ·rename_i a b hx hy;have hx:=ju hx;have hy:=ju hy;split at h
   ·rename_i c hc;split at h
    ·rename_i e;subst e;rw[hx,hy];simp only[SV.vals,SV.val];have hrun:(T "AssignableTo" Y #[.agg #[wQ a],.iface nH (.agg #[wQ b])]).run G w=.ok (.bool c) w:=by
      rcases dG.1 (sE hc)with h1 | h1
      ·exact Kz _ h1 w
      ·exact aba _ h1 w
     rw[fV (e:=T "AssignableTo" Y) Tryz.func246 (by kernel_rfl) (by kernel_rfl) (by kernel_rfl) (by kernel_rfl) hrun];simp only[Out];exact gk (v:=.bool A c) h hs
    ·exact bA h
   ·exact bA h
  ·exact bA h
 ·exact bA h
set_option maxRecDepth 20000 in
theorem Yk:av G 86 CH:=by
 intro args m nx K h hw ha Γ E w hs;unfold CH at h;split at h
 ·rename_i x key l n;split at h
  ·rename_i t ht;have hx:=ju ht;split at h
   ·rename_i k hk;split at h
    ·rename_i e;subst e;rw[hx];simp only[SV.vals,SV.val];rw[fV (e:=cx (cy "reflectlite.Value.Type" 0) (λt _ _ _=>cl t)) Tryz.func86 (by kernel_rfl) (by kernel_rfl) (by kernel_rfl) (by kernel_rfl) (VE _ (fZ hk) _ w)];simp only[Out];exact gk (v:=tyV t) h hs
    ·exact bA h
   ·exact bA h
  ·exact bA h
 ·exact bA h
end
section
open Go Sx Extern
theorem rlm (z:Sem Value)(f:TypeId->Addr->Nat->Nat->Sem Value)(v:Value) :
  ReflectliteValue.method z f #[v]=(do match ← ReflectliteValue.parts v with | none=>z | some (t,a,fl)=>f t a fl (fl% 32)):=rfl
theorem rls (v x:Value):ReflectliteValue.set #[v,x]=(do
  let (D (dst,a,fl),D (src,b,_)):=(← ReflectliteValue.parts v,← ReflectliteValue.parts x)
   | unsupported (.noEntry "extern/(internal/reflectlite.Value).Set.zeroValue")
  if fl / ReflectliteValue.flagAddr% 2==0 then unsupported (.noEntry "extern/(internal/reflectlite.Value).Set.unaddressable")
  let val ← loadVar src b
  if ← Rtype.directlyAssignable dst src then storeVar dst a val
  else if ← Rtype.implements dst src then
   if(← Rtype.kind src)==20 then
    match val with
    | .nilIface=>unsupported (.noEntry "extern/reflectlite: a nil value of one interface type handed on as a value of another")
    | _=>storeVar dst a val
   else storeVar dst a (.iface src val)
  else panicString ("reflectlite.Set: value of type " ++ (← Rtype.spelt src)++ " is not assignable to type " ++ (← Rtype.spelt dst))
  pure (.tuple #[])):=rfl
theorem Lc (t:Nat)(w:World):(Rtype.handle t).run G w=.ok (wQ t) w:=by kernel_rfl
theorem Ur (h:(t,k)∈ cY)(a:Addr)(fl:Nat)(w:World):(ReflectliteValue.mk t a fl).run G w=.ok (.agg #[wQ t,.pointer (D a),.int .u64 (M (k+128+fl))]) w:=by have h1:=Ik _ h w;simp only at h1;simp only[ReflectliteValue.mk,S,Lc,h1,Q,c4];rfl
theorem x3: ∀ p∈ cY,∀(a:Addr) w,(ReflectliteValue.parts (.agg #[wQ p.1,.pointer (D a),.int .u64 (M (p.2+128))])).run G w=.ok (D (p.1,a,p.2+128)) w:=by
 intro p hp a w;simp only[cY,N,O,or_false] at hp
 repeat' first
  | (rcases hp with rfl | hp)
  | subst hp
  | kernel_rfl
theorem L8: ∀ p∈ cY,∀(a:Addr) w,(ReflectliteValue.parts (.agg #[wQ p.1,.pointer (D a),.int .u64 (M (p.2+128+256))])).run G w=.ok (D (p.1,a,p.2+128+256)) w:=by
 intro p hp a w;simp only[cY,N,O,or_false] at hp
 repeat' first
  | (rcases hp with rfl | hp)
  | subst hp
  | kernel_rfl
theorem Jo: ∀ p∈ j7,(p.1,22)∈ cY/\G.underlying p.1=D (.pointer p.2):=by
 intro p hp;simp only[j7,N,O,or_false] at hp
 repeat' first
  | (rcases hp with rfl | hp)
  | subst hp
  | exact⟨by simp[cY],by kernel_rfl⟩
theorem elem?_run: ∀ p∈ j7,∀ w,(Rtype.elem? p.1).run G w=.ok (D p.2) w:=by
 intro p hp w;simp only[j7,N,O,or_false] at hp
 repeat' first
  | (rcases hp with rfl | hp)
  | subst hp
  | kernel_rfl
noncomputable def Je (t:Nat):Bool:=match G.underlying t with
 | some d=>!fG d
 | none=>C
theorem Qk: ∀ p∈ cY,Je p.1=true:=by
 intro p hp;simp only[cY,N,O,or_false] at hp
 repeat' first
  | (rcases hp with rfl | hp)
  | subst hp
  | kernel_rfl
theorem UH: ∀ p∈ cY,∃ d,G.underlying p.1=D d/\fG d=false:=by
 intro p hp;have:=Qk p hp;unfold Je at this;split at this
 ·rename_i d hd;exact⟨d,hd,by simpa using this⟩
 ·cases this
theorem KW: ∀ p∈ Cp,∀ w,(Rtype.directlyAssignable p.1 p.2.1).run G w=.ok (!p.2.2) w:=by
 intro p hp w;simp only[Cp,N,O,or_false] at hp
 repeat' first
  | (rcases hp with rfl | hp)
  | subst hp
  | kernel_rfl
theorem Wi: ∀ p∈ Cp,p.2.2=A->∀ w,(Rtype.implements p.1 p.2.1).run G w=.ok A w/\(p.2.1,20)∉ cY:=by
 intro p hp hw w;simp only[Cp,N,O,or_false] at hp
 repeat' first
  | (rcases hp with rfl | hp)
  | subst hp
  | cases hw
  | exact⟨by kernel_rfl,by simp[cY]⟩
theorem qX (h:(t,k)∈ cY){b o:Nat}{c:Array Value}{ty:TypeId}{fr:Nat×Nat}(hb:w.heap[b]?=D (.cells c ty fr)){v:Value}(hv:c[o]?=D v) :
  (loadVar t ⟨b,o,L⟩).run G w=.ok v w:=by
 obtain⟨d,h1,h2⟩:=UH _ h;simp only[loadVar,S,cI h1,h2,Q,an,if_false,run_load,cell_of hb,hv]
set_option maxRecDepth 20000 in
theorem MR:av G 85 oK:=by
 intro args m nx K h hw ha Γ E w hs;unfold oK at h;split at h
 ·rename_i t v;split at h
  ·rename_i k hk hp;have hm:=fZ hk;simp only[SV.vals,SV.val]
   have hrun:((λargs=>ReflectliteValue.unpack (args.getD 0 (.tuple #[]))) #[Value.iface t (v.val E)]).run G w =
     .ok (.agg #[wQ t,.pointer (D ⟨w.heap.size,0,L⟩),.int .u64 (M (k+128+0))]) {w with heap:=w.heap.push (.cells (v.val E).cells t)}:=by
    show(ReflectliteValue.unpack (Value.iface t (v.val E))).run G w=_;simp only[ReflectliteValue.unpack,S,uy,Q,Ur hm]
   rw[fV (e:=λargs=>ReflectliteValue.unpack (args.getD 0 (.tuple #[]))) Tryz.func85 (by kernel_rfl) (by kernel_rfl) (by kernel_rfl) (by kernel_rfl) hrun];simp only[Out];simp only[SV.fO,SV.wf,Bool.and_true] at ha;refine bC.alloc hs hw (K:=lift K) (sv:=.agg [hd t,.ptr nx A 0,.int .u64 A (M (k+128))]) (nW ha) (vD (by rw[SV.fA hp])) (qY (E:=E) (by rw[SV.fA hp])) h ?_;simp[SV.val,SV.vals]
  ·exact bA h
 ·exact bA h
theorem A9 {p:SV}(h:zU m v=D (t,p)): ∃ key l cs tot ty k b o e,v=.agg [hd t,.ptr key A 0,.int .u64 l 150]/\p=.ptr k b o/\m.get key=D (.cells (.ptr k b o::cs) tot ty)/\(t,e)∈ j7:=by
 unfold zU at h;split at h
 ·rename_i x key l n;split at h
  ·rename_i t' k b o cs tot ty ht hk;split at h
   ·rename_i e he;split at h
    ·rename_i hn;injection h with h;injection h with h1 h2;subst h1;subst h2;subst hn;exact⟨key,l,cs,tot,ty,k,b,o,e,by rw[ju ht],rfl,hk,fZ he⟩
    ·cases h
   ·cases h
  ·cases h
 ·cases h
set_option maxRecDepth 20000 in
theorem TI:av G 87 vw:=by
 intro args m nx K h hw ha Γ E w hs;unfold vw at h;split at h
 ·rename_i v;split at h
  ·rename_i tp htp;obtain⟨t,p⟩:=tp;obtain⟨key,l,cs,tot,ty,k,b,o,e,hv,hp,hk,he⟩:=A9 htp;obtain⟨ob,ho,c,fr,rfl,_,h2,_⟩:=hs.nU key _ hk rfl;have h0:=h2 0 _ rfl;obtain⟨hkt,hun⟩:=Jo _ he;have hrun:(ReflectliteValue.method (ReflectliteValue.valueError "reflectlite.Value.IsNil" 0) ReflectliteValue.isNil #[.agg #[wQ t,.pointer (D ⟨E key,0,L⟩),.int .u64 150]]).run G w=.ok (.bool C) w:=by
    rw[rlm];have hp:=x3 _ hkt ⟨E key,0,L⟩ w;have hl:=qX hkt ho h0;simp only[show M (22+128)=150 from rfl] at hp
    simp only[S,hp,Q,ReflectliteValue.isNil];simp[hl,SV.val]
   rw[hv];simp only[SV.vals,SV.val];rw[fV (e:=ReflectliteValue.method (ReflectliteValue.valueError "reflectlite.Value.IsNil" 0) ReflectliteValue.isNil) Tryz.func87 (by kernel_rfl) (by kernel_rfl) (by kernel_rfl) (by kernel_rfl) hrun];simp only[Out];exact gk (v:=.bool A C) h hs
  ·exact bA h
 ·exact bA h
set_option maxRecDepth 20000 in
theorem S1:av G 133 vj:=by
 intro args m nx K h hw ha Γ E w hs;unfold vj at h;split at h
 ·rename_i v;split at h
  ·rename_i t p htp;obtain⟨key,l,cs,tot,ty,k,b,o,e0,hv,hp,hk,he0⟩:=A9 htp;split at h
   ·rename_i e he;have he:=fZ he;split at h
    ·rename_i ke hke;have hke:=fZ hke;obtain⟨ob,ho,c,fr,rfl,_,h2,_⟩:=hs.nU key _ hk rfl;have h0:=h2 0 _ rfl;obtain⟨hkt,hun⟩:=Jo _ he;have hrun:(ReflectliteValue.method (ReflectliteValue.valueError "reflectlite.Value.Elem" 0) ReflectliteValue.elem #[.agg #[wQ t,.pointer (D ⟨E key,0,L⟩),.int .u64 150]]).run G w=.ok (.agg #[wQ e,.pointer (D ⟨E k,o,L⟩),.int .u64 (M (ke+128+256))]) w:=by
      rw[rlm];have hp:=x3 _ hkt ⟨E key,0,L⟩ w;have hl:=qX hkt ho h0;have hel:=elem?_run _ he w;have hmk:=Ur hke ⟨E k,o,L⟩ ReflectliteValue.flagAddr w;simp only at hel;simp only[show M (22+128)=150 from rfl] at hp
      simp only[S,hp,Q,ReflectliteValue.elem];simp[hl,SV.val,hel,hmk];rfl
     rw[hv];simp only[SV.vals,SV.val];rw[fV (e:=ReflectliteValue.method (ReflectliteValue.valueError "reflectlite.Value.Elem" 0) ReflectliteValue.elem) Tryz.func133 (by kernel_rfl) (by kernel_rfl) (by kernel_rfl) (by kernel_rfl) hrun];simp only[Out];subst hp;have:=gk (v:=.agg [hd e,.ptr k b o,.int .u64 A (M (ke+128+256))]) h hs;simpa [SV.val,SV.vals] using this
    ·exact bA h
   ·exact bA h
  ·exact bA h
 ·exact bA h
end
section
open Go Sx Extern
set_option maxRecDepth 20000
theorem W8: ∀ p∈ cY,((p.2+128+256) / ReflectliteValue.flagAddr% 2==0)=false:=by
 intro p hp;simp only[cY,N,O,or_false] at hp
 repeat' first
  | (rcases hp with rfl | hp)
  | subst hp
  | rfl
set_option maxRecDepth 20000 in
theorem GW {t:TypeId}{p x:SV}{Γ:br}{E:Nat->Nat}(h:(nD G t (D p) (D x) m nx (λ_ m nx=>K (.aO []) m nx)).holds)(hs:aN Γ E m nx w)(hw:Mem.wf nx m=A)
  (hp:p.wf nx=A) (hx:x.wf nx=A) {a:Addr} (ha:p.val E=.pointer (D a)) (_h0:a.spot=L) :
  ∃ w',(storeVar t a (x.val E)).run G w=.ok () w'/\bC (lift K) Γ E nx (.tuple #[]) w':=by
 have:=Ec (P:=G) (Γ:=Γ) (m:=m) (nx:=nx) (σ:=λo=>match o with | .tmp 0=>D p | .tmp 1=>D x | _=>L) (dst:=L) (t:=t) (type:=0) (pos:= "") (after:=#[]) (guard:=L) (a:=.tmp 0) (x:=.tmp 1)
  (λ_ m nx=>K (.aO []) m nx) E w (λo=>match o with | .tmp 0=>p.val E | .tmp 1=>x.val E | _=>undef) h hs hw (λo v hv=>by
    simp only at hv;split at hv
    ·injection hv with hv;subst hv;exact hp
    ·injection hv with hv;subst hv;exact hx
    ·cases hv) (λo v hv=>by
    simp only at hv ⊢;split at hv
    ·injection hv with hv;subst hv;rfl
    ·injection hv with hv;subst hv;rfl
    ·cases hv)
 simp only[execOp,Instr.storeAt,ha,Instr.sureAddr,S,c4,Q] at this;generalize hr:(storeVar t a (x.val E)).run G w=r at this;cases r with
 | halt e w'=>cases e<;>simp[Result.andThen,Out] at this
 | ok u w' =>simp only[Q,Out] at this;obtain⟨E',sv,m',nx',g1,g2,g3,g4,g5⟩:=this;exact⟨w',rfl,E',D (.aO []),m',nx',g1,g2,λv hv=>by injection hv with hv;subst hv;rfl,g4,g5⟩
set_option maxRecDepth 20000 in
theorem abv:av G 134 JG:=by
 intro args m nx K h hw ha Γ E w hs;unfold JG at h;split at h
 ·rename_i x p l n y key l' n';split at h
  ·rename_i a b v cs tot ty hx hy hk;have hx:=ju hx;have hy:=ju hy;split at h
   ·rename_i wrap k k' hwr hka hkb;have hwr:=sE hwr;have hka:=fZ hka;have hkb:=fZ hkb;split at h
    ·rename_i hn;obtain⟨rfl,rfl⟩:=hn;obtain⟨ob,ho,c,fr,rfl,_,h2,_⟩:=hs.nU key _ hk rfl;have h0:=h2 0 _ rfl;have hvw:v.wf nx=true:=SV.s8 (Mem.G7 hw hk) (i:=0) rfl;have hpw:p.wf nx=true:=by simp only[SV.fO,SV.wf,ag] at ha;exact ha.1.2.1
     have hpp: ∃ q,p.val E=.pointer (D q)/\q.spot=none:=by
      unfold nD at h;split at h
      ·rename_i e _ _;injection e with e;subst e;exact⟨_,rfl,rfl⟩
      ·rename_i e _ _;injection e with e;subst e;exact⟨_,rfl,rfl⟩
      ·rename_i e _ _;injection e with e;subst e;exact⟨_,rfl,rfl⟩
      ·rename_i e _ _;injection e with e;subst e;exact⟨_,rfl,rfl⟩
      ·rename_i e _ _;injection e with e;subst e;exact⟨_,rfl,rfl⟩
      ·exact bA h
     obtain⟨q,hq,hsp⟩:=hpp;obtain⟨w',hst,haft⟩:=GW h hs hw hpw (by cases wrap<;>exact hvw) hq hsp
     have hp1:=L8 _ hka q w;have hp2:=x3 _ hkb ⟨E key,0,L⟩ w;have hd:=KW _ hwr w;have hl:=qX hkb ho h0;simp only at hp1 hp2 hd;have hflag:((k+128+256) / ReflectliteValue.flagAddr% 2==0)=false:=W8 _ hka;have hrun:(ReflectliteValue.set #[.agg #[wQ a,.pointer (D q),.int .u64 (M (k+128+256))],.agg #[wQ b,.pointer (D ⟨E key,0,L⟩),.int .u64 (M (k'+128))]]).run G w=.ok (.tuple #[]) w':=by
      rw[rls];simp only[S,hp1,hp2,Q,hflag,an,if_false,hl,hd];cases wrap with
      | false =>
        simp only[Bool.not_false,if_true]
        try simp only at hst
        rw[S,hst];rfl
      | true =>
        obtain⟨hi,hne⟩:=Wi _ hwr rfl w;have hkk:=Ik _ hkb w;simp only at hi hkk;have h20:(k'==20)=false:=by simp only[beq_eq_false_iff_ne,ne_eq];intro e;subst e;exact hne hkb
        simp only[Bool.not_true,an,if_false,S,hi,Q,if_true,hkk,h20];simp only[SV.val] at hst;rw[hst];rfl
     rw[hx,hy];simp only[SV.vals,SV.val,hq];rw[fV (e:=ReflectliteValue.set) Tryz.func134 (by kernel_rfl) (by kernel_rfl) (by kernel_rfl) (by kernel_rfl) hrun];exact haft
    ·exact bA h
   ·exact bA h
  ·exact bA h
 ·exact bA h
theorem I0:aT rM:=by intro args m nx K K' hK h;unfold rM at h ⊢;split at h;exact hK _ _ _ h;exact bA h
theorem zH:aT jh:=by
 intro args m nx K K' hK h;unfold jh at h ⊢;repeat' split at h
 all_goals first | exact bA h | (simp only[*];done) | (simp only[*];exact hK _ _ _ h)
theorem Qb:aT Bm:=by
 intro args m nx K K' hK h;unfold Bm at h ⊢;repeat' split at h
 all_goals first | exact bA h | (simp only[*];done) | (simp only[*];exact hK _ _ _ h)
theorem LR:aT vi:=by
 intro args m nx K K' hK h;unfold vi at h ⊢;repeat' split at h
 all_goals first | exact bA h | (simp only[*];done) | (simp only[*];exact hK _ _ _ h)
theorem IZ (tab:List (Nat×Nat×Bool)):aT (EE tab):=by
 intro args m nx K K' hK h;unfold EE at h ⊢;repeat' split at h
 all_goals first | exact bA h | (simp only[*,if_true];done) | (simp only[*,if_true];exact hK _ _ _ h)
theorem Qc:aT CH:=by
 intro args m nx K K' hK h;unfold CH at h ⊢;repeat' split at h
 all_goals first | exact bA h | (simp only[*,if_true];done) | (simp only[*,if_true];exact hK _ _ _ h)
theorem Gn:aT oK:=by
 intro args m nx K K' hK h;unfold oK at h ⊢;repeat' split at h
 all_goals first | exact bA h | (simp only[*];done) | (simp only[*];exact hK _ _ _ h)
theorem LU:aT vw:=by
 intro args m nx K K' hK h;unfold vw at h ⊢;repeat' split at h
 all_goals first | exact bA h | (simp only[*];done) | (simp only[*];exact hK _ _ _ h)
theorem LS:aT vj:=by
 intro args m nx K K' hK h;unfold vj at h ⊢;repeat' split at h
 all_goals first | exact bA h | (simp only[*];done) | (simp only[*];exact hK _ _ _ h)
theorem IM {t:TypeId}{a x:Option SV}{K K':KL}(hK: ∀ v m nx,(K v m nx).holds->(K' v m nx).holds)(h:(nD P t a x m nx K).holds):(nD P t a x m nx K').holds:=by
 unfold nD at h ⊢;repeat' split at h
 all_goals first | exact bA h | exact hK _ _ _ h | exact⟨h.1,hK _ _ _ h.2⟩ | (simp only[*,if_true];done) | (simp only[*,if_true];exact hK _ _ _ h) | (simp only[*,if_true];exact⟨h.1,hK _ _ _ h.2⟩)
theorem Us:aT JG:=by
 intro args m nx K K' hK h;unfold JG at h ⊢;split at h
 ·split at h
  ·split at h
   ·split at h
    ·rename_i hn;simp only[*,and_self,if_true];exact IM (λ_ _ _=>hK _ _ _) h
    ·exact bA h
   ·exact bA h
  ·exact bA h
 ·exact bA h
noncomputable def gX:List (FuncId×PT):=[(113,rM),(247,jh),(235,Bm),(248,vi),
 (249,Lj),(246,Aq),(86,CH),(85,oK),
 (87,vw),(133,vj),(134,JG)]
theorem eZ:bt G (λf=>aD f gX):=by
 unfold gX;apply bt.cons
 ·exact Q5
 ·exact I0
 apply bt.cons
 ·exact CX
 ·exact zH
 apply bt.cons
 ·exact Xq
 ·exact Qb
 apply bt.cons
 ·exact S0
 ·exact LR
 apply bt.cons
 ·exact Xj
 ·exact IZ _
 apply bt.cons
 ·exact OX
 ·exact IZ _
 apply bt.cons
 ·exact Yk
 ·exact Qc
 apply bt.cons
 ·exact MR
 ·exact Gn
 apply bt.cons
 ·exact TI
 ·exact LU
 apply bt.cons
 ·exact S1
 ·exact LS
 apply bt.cons
 ·exact abv
 ·exact Us
 exact bt.nil
end
namespace Sx
open Go Go.RowKit Go.WideShapes Go.ChangeShapes
section
variable {H : Type} {enc : TypeId × Value -> H} {P : Program}
theorem C7 {f:Func}{s:ChangeSpec}{apart fresh handsOn again:Bool}{W':World}{args:Array Value}{v:Value}{ds gs:List (DataW H)}{before pa pv:List MemPlace}
  (hW:DataW.Whole enc P f.params.toList s.vars apart W args.toList ds gs before)
  (hres: ∀(b:Nat) (sp:Nat->Bool) (hd:Bool),V enc P W' b sp hd f.resultTypes.toList (v.resultList f.resultTypes.size) (s.fn H (ds++gs)).results [])
  (hargs: ∀ sp:Nat->Bool,(∀ p∈ before,sp p.block=A)->V enc P W' 0 sp A f.params.toList args.toList (s.fn H (ds++gs)).args pa)
  (hvars: ∀ sp:Nat->Bool,(∀ p∈ before,sp p.block=A)->DataW.TrodVars enc P W' sp s.vars (s.fn H (ds++gs)).vars pv)
  (hps:before=pa++pv) (hb:Below W.heap.size W W')
  (hok: ∀(j:Nat) (t:TypeId) (r:Value),f.resultTypes[j]?=D t->(v.resultList f.resultTypes.size)[j]?=D r->Value.okWide P W' .any 0 t r) :
  s.post enc P f apart fresh handsOn again W args v W':=by
 have hlt: ∀ p∈ before,p.block<W.heap.size:=λp hp=>hW.lt p hp;have hold: ∀ p∈ before,(λb=>decide (b<W.heap.size)) p.block=true:=λp hp=>by simpa using hlt p hp
 refine⟨ds,gs,before,[],pa,pv,hW,hres _ _ _,hargs _ hold,hvars _ hold,World.keptBut_mono (λp hp=>⟨hp,?_⟩) (hb.frame (· ∈ before)),λ_=> ?_⟩
 ·rw[hps,dG] at hp;exact Or.inr hp
 ·obtain⟨_,_,_,_,_,hz,hn⟩:=hW;refine⟨hok,_,_,([]++pa)++pv,⟨[]++pa,pv,trodAll_append (hargs _ (λ_ _=>rfl)) (hres _ _ _),hvars _ (λ_ _=>rfl),rfl,?_,?_⟩,?_⟩
  ·intro b off hp;have hin:MemPlace.cell b off∈ before:=by rw[hps];simpa using hp
   rw[hb.frozen (hlt _ hin)];exact hz b off hin
  ·intro ha;have:=hn ha;rw[hps] at this;simpa using this
  ·intro p hp _;rw[hps];simpa using hp
theorem tK (hl:laidOutB P=A){W W':World}(hb:Below W.heap.size W W'){sp:Nat->Bool}: ∀ {ts:List TypeId} {vs:List Value} {ds:List (DataW H)} {ps:List MemPlace},
  (∀ t∈ ts,P.readableRec t=A/\t<P.types.size)->V enc P W 0 (λ_=>A) A ts vs ds ps->(∀ x∈ ps,x.block<W.heap.size)->(∀ x∈ ps,sp x.block=A)->V enc P W' 0 sp A ts vs ds ps
 | [],[],[],ps,_,h,_,_=>h
 | t::ts,v::vs,d::ds,ps,ht,h,hlt,hsp=>by obtain⟨p,q,h1,h2,rfl⟩:=h;refine⟨p,q,?_,tK hl hb (λt h=>ht t (bf _ h)) h2 (λx hx=>hlt x (by simp[hx])) (λx hx=>hsp x (by simp[hx])),rfl⟩;exact WideElems.Trod_stays hl (ht t (dV ..)).1 (ht t (dV ..)).2 h1 (λx hx=>hb.same (hlt x (by simp[hx]))) (λx hx=>hsp x (by simp[hx]))
theorem zw {W:World}{b:Nat}{sp:Nat->Bool}{hd:Bool}: ∀ {ts:List TypeId} {vs:List Value} {ds:List (DataW H)} {ps:List MemPlace},V enc P W b sp hd ts vs ds ps->ds.length=ts.length/\vs.length=ts.length
 | [],[],[],_,_=>⟨rfl,rfl⟩
 | _::_,_::_,_::_,_,h=>by obtain⟨p,q,_,h2,_⟩:=h;have:=zw h2;simp[this.1,this.2]
 | [],[],_::_,_,h=>h.elim
 | [],_::_,_,_,h=>h.elim
 | _::_,[],_,_,h=>h.elim
 | _::_,_::_,[],_,h=>h.elim
end
theorem acE {base:Nat}{t e:TypeId}{v:Value}{H:Type}{enc:TypeId×Value->H}{d:DataW H}{ps:List MemPlace}(ht:P.underlying t=D (.slice e))
  (hval:Value.okWide P W .any base t v) (hd:DataW.Trod enc P W 0 (λ_=>A) A t v d ps) :
  ∃(z:Bool) (b o n c:Nat),v=(SV.bH 0 (P.cellsOf e) z o 0 n c).val (λ_=>b)/\n<=maxLen/\((z&&Nat.beq n 0)=C->∃ cs ty fr,W.heap[b]?=D (.cells cs ty fr) /\
   ∀ i,i<n->∃(xs:List Value) (y:DataW H×List MemPlace) (m:Nat),xs.length=P.cellsOf e/\(∀ k,k<P.cellsOf e->cs[o+i*P.cellsOf e+k]?=xs[k]?)/\bW enc P W 0 (λ_=>A) A m e xs=D y):=by
 obtain⟨a0,n,c,rfl⟩:=okWide_slice ht hval;obtain⟨fuel,hf⟩:=hd;rcases DataW.trod_slice ht hf with ⟨h0,_⟩ | ⟨a,len,cap,elems,rest,m,_,hcs,_,hb,hlc,hmax,hlen,hel,_,_⟩
 ·simp only[Value.cells] at h0;have h1:a0=L/\n=0/\c=0:=by simpa using h0
  obtain⟨rfl,rfl,rfl⟩:=h1;exact⟨A,0,0,0,0,rfl,Nat.zero_le _,λh=>by cases h⟩
 ·simp only[Value.cells] at hcs;have h1:a0=D a/\n=len/\c=cap:=by simpa using hcs
  obtain⟨rfl,rfl,rfl⟩:=h1;have hhas:W.has P .any base a e c:=by simp only[Value.okWide,ht,Cell.okWide,Cell.ok] at hval;exact hval.2.2
  obtain⟨_,hspot,row,cells,hshape,_⟩:=hhas;obtain⟨nU,off,spot⟩:=a;simp only at hspot;subst hspot;have hcells: ∃ cs ty fr,W.heap[nU]?=D (.cells cs ty fr):=by
   unfold World.shape? at hshape;split at hshape
   ·rename_i cs ty fr h;exact⟨cs,ty,fr,h⟩
   ·cases hshape
  obtain⟨cs,ty,fr,hblk⟩:=hcells;refine⟨C,nU,off,n,c,by simp[SV.val],Nat.le_trans hlc hmax,λ_=>⟨cs,ty,fr,hblk,λi hi=> ?_⟩⟩;have h2:=hel i hi;rw[a! (by omega)] at h2;obtain⟨xs,hxs,hy⟩:=Option.bind_eq_some_iff.1 h2;obtain⟨_,hl2,hget⟩:=World.cells?_some hxs;refine⟨xs,_,m,hl2,λk hk=> ?_,hy⟩;have:=hget k hk;rw[← this,cP,cP,cell_of hblk]
def JY (cs:Array Value)(j:Nat):List UInt8:=match cs[j]? with
 | some (.string s)=>s.data.toList
 | _=>[]
theorem tL {H:Type}{enc:TypeId×Value->H}{m:Nat}{t:TypeId}{x:Value}{y:DataW H×List MemPlace}(ht:P.underlying t=D .string)(h:bW enc P W 0 (λ_=>A) A m t [x]=D y)
  {cs:Array Value} {j:Nat} (hc:cs[j]?=D x):cs[j]?=D ((SV.str C (JY cs j)).val (λ_=>0))/\(JY cs j).length<=maxLen:=by
 obtain⟨s,hx,_,hw⟩:=DataW.trod_string ht h;injection hx with hx;subst hx;unfold JY;rw[hc];refine⟨by simp[SV.val],?_⟩;have he:s.data.toList.length=s.size:=Array.length_toList;show s.data.toList.length<=maxLen;rw[he];exact hw
end Sx
section
open Go Sx
set_option maxRecDepth 20000
theorem bX:G.follows .mixedOrders=true:=by kernel_rfl
theorem Ut:(G.funcs.all λfn=>!(fn.name== "runtime.NumGoroutine"))=true:=by kernel_rfl
theorem bw (f:FuncId)(fn:Func)(h:G.funcs[f]?=D fn):G.funcs[f]?=D fn/\(fn.name== "runtime.NumGoroutine")=false:=by refine⟨h,?_⟩;have:=Array.all_eq_true'.1 Ut fn (Array.mem_of_getElem? h);simpa using this
noncomputable def cv:fQ:={cQ:=λf=>aD f gX,fns:=λf=>G.funcs[f]?,bD:=λ_=>[],rounds:=100}
theorem me:Sx.Good G cv:=.of bX eZ bw
end
namespace Sx
open Go
def G1:SV->SV
 | .int k _ n=>.int k C n
 | .bool _ b=>.bool C b
 | .str _ s=>.str C s
 | v=>v
def CI:SV->SV
 | .agg cs=>.agg (cs.map G1)
 | v=>G1 v
theorem MN (E:Nat->Nat)(v:SV):(G1 v).val E=v.val E:=by cases v<;>rfl
theorem zy (E:Nat->Nat): ∀ l:List SV,SV.vals E (l.map G1)=SV.vals E l
 | []=>rfl
 | v::r=>by simp only[c!,SV.vals,MN,zy E r]
theorem EV (E:Nat->Nat)(v:SV):(CI v).val E=v.val E:=by cases v<;>first | rfl | simp only[CI,SV.val,zy]
theorem p7 (E:Nat->Nat): ∀ l:List SV,SV.vals E (l.map CI)=SV.vals E l
 | []=>rfl
 | v::r=>by simp only[c!,SV.vals,EV,p7 E r]
noncomputable def bh (spec:List SV->Option (Prop×SV)):PT:=λargs m nx K=>match spec (args.map CI)with
 | some (p,r)=>.and (.atom p) (K r m nx)
 | none=>.fail "arguments that nothing is said of"
def af (v r:SV):Prop:=∀ E,v.val E=r.val E
def svA (v r:SV):VC:=.eqv (af v r) (af v v) (λ_=>rfl)
theorem aS (spec:List SV->Option (Prop×SV)):aT (bh spec):=by
 intro args m nx K K' hK h;unfold bh at h ⊢;split at h
 ·exact⟨h.1,hK _ _ _ h.2⟩
 ·exact h
theorem iO {cfg:fQ}(hg:Good P cfg)(hf:P.funcs[f]?=D fn) (hn:(fn.name== "runtime.NumGoroutine")=C) (hb:fn.body.isSome=A) {n:Nat} {spec:List SV->Option (Prop×SV)}
  (h: ∀ args p r,spec args=D (p,r)->p->SV.fO 0 args=A/\r.wf 0=A/\az (fN P (calling P cfg n) [] Aa (cfg.bD f) cfg.rounds fn args [] 0 (λv _ _=>.atom (af v r)))):av P f (bh spec):=by
 intro args m nx K hk hwf hargs Γ E w hs;unfold bh at hk;split at hk
 ·rename_i p r hr;obtain⟨hp,hk⟩:=hk;obtain⟨h1,h2,h3⟩:=h _ _ _ hr hp;have hc:=fc hg hf hn hb h3 rfl h1 (aN.none w hs.Lb);rw[SV.sZ h1 (λ_=>0) E,p7] at hc;refine gy hf hn hb (hc.mono ?_);rintro e w' ⟨v,rfl,E',sv,m',nx',_,_,g3,g4,g5⟩;refine⟨v,rfl,?_⟩;cases sv with
  | none=>exact g5.elim
  | some u =>have hu:af u r:=g5;refine⟨E,D r,m,nx,λ_ _=>rfl,Nat.le_refl _,λx hx=> ?_,hs.still g4.ext,hk⟩;injection hx with hx;subst hx;rw[g3 u rfl,hu E',SV.wI h2 E' E]
 ·exact hk.elim
end Sx
section
open Go Sx
set_option maxRecDepth 20000
noncomputable def ZY:fQ:={cv with rounds:=9}
theorem acr:Sx.Good G ZY:=.of bX eZ bw
def CY:Nat->Int->List UInt8
 | 0,_=>[]
 | k+1,n=>if 0<n then CY k (n / 256)++[J (n% 256).toNat] else []
def digits (n:Int):List UInt8:=CY 8 n
noncomputable def eO (cfg:fQ)(f:Nat)(fn:Func)(args:List SV)(R:SV->Prop):VC:=fN G (calling G cfg 20) [] Aa (cfg.bD f) cfg.rounds fn args [] 0 (λv _ _=>.atom (R v))
theorem VJ (n:Int)(R:SV->Prop):VC.holds (eO ZY 117 aP [.int .u64 C n] R)=(((I (0<n)=A->∀(u8:Nat),1<=u8->(I (0<n / 256)=A->u8*1=u8*1/\∀(u7:Nat),2<=u7->(I (0<n / 256 / (256:Int))=A->u7*1=u7*1/\∀(u6:Nat),3<=u6->(I (0<n / 256 / (256:Int) / (256:Int))=A->u6*1=u6*1/\∀(u5:Nat),4<=u5->(I (0<n / 256 / (256:Int) / (256:Int) / (256:Int))=A->u5*1=u5*1/\∀(u4:Nat),5<=u4->(I (0<n / 256 / (256:Int) / (256:Int) / (256:Int) / (256:Int))=A->u4*1=u4*1/\∀(u3:Nat),6<=u3->(I (0<n / 256 / (256:Int) / (256:Int) / (256:Int) / (256:Int) / (256:Int))=A->u3*1=u3*1/\∀(u2:Nat),7<=u2->(I (0<n / 256 / (256:Int) / (256:Int) / (256:Int) / (256:Int) / (256:Int) / (256:Int))=A->u2*1=u2*1/\∀(u1:Nat),8<=u1->(I (0<n / 256 / (256:Int) / (256:Int) / (256:Int) / (256:Int) / (256:Int) / (256:Int) / (256:Int))=A->u1*1=u1*1/\∀(u0:Nat),9<=u0->False)/\(I (0<n / 256 / (256:Int) / (256:Int) / (256:Int) / (256:Int) / (256:Int) / (256:Int) / (256:Int))=C ->R (SV.str (C&&(C&&(C&&(C&&(C&&(C&&(C&&(C&&A)))))))) [J (n / 256 / (256:Int) / (256:Int) / (256:Int) / (256:Int) / (256:Int) / (256:Int)% (256:Int)).toNat,J (n / 256 / (256:Int) / (256:Int) / (256:Int) / (256:Int) / (256:Int)% (256:Int)).toNat,J (n / 256 / (256:Int) / (256:Int) / (256:Int) / (256:Int)% (256:Int)).toNat,J (n / 256 / (256:Int) / (256:Int) / (256:Int)% (256:Int)).toNat,J (n / 256 / (256:Int) / (256:Int)% (256:Int)).toNat,J (n / 256 / (256:Int)% (256:Int)).toNat,J (n / 256% (256:Int)).toNat,J (n% 256).toNat])))/\(I (0<n / 256 / (256:Int) / (256:Int) / (256:Int) / (256:Int) / (256:Int) / (256:Int))=C ->R (SV.str (C&&(C&&(C&&(C&&(C&&(C&&(C&&A))))))) [J (n / 256 / (256:Int) / (256:Int) / (256:Int) / (256:Int) / (256:Int)% (256:Int)).toNat,J (n / 256 / (256:Int) / (256:Int) / (256:Int) / (256:Int)% (256:Int)).toNat,J (n / 256 / (256:Int) / (256:Int) / (256:Int)% (256:Int)).toNat,J (n / 256 / (256:Int) / (256:Int)% (256:Int)).toNat,J (n / 256 / (256:Int)% (256:Int)).toNat,J (n / 256% (256:Int)).toNat,J (n% 256).toNat])))/\(I (0<n / 256 / (256:Int) / (256:Int) / (256:Int) / (256:Int) / (256:Int))=C->R (SV.str (C&&(C&&(C&&(C&&(C&&(C&&A)))))) [J (n / 256 / (256:Int) / (256:Int) / (256:Int) / (256:Int)% (256:Int)).toNat,J (n / 256 / (256:Int) / (256:Int) / (256:Int)% (256:Int)).toNat,J (n / 256 / (256:Int) / (256:Int)% (256:Int)).toNat,J (n / 256 / (256:Int)% (256:Int)).toNat,J (n / 256% (256:Int)).toNat,J (n% 256).toNat]))) /\(I (0<n / 256 / (256:Int) / (256:Int) / (256:Int) / (256:Int))=C->R (SV.str (C&&(C&&(C&&(C&&(C&&A))))) [J (n / 256 / (256:Int) / (256:Int) / (256:Int)% (256:Int)).toNat,J (n / 256 / (256:Int) / (256:Int)% (256:Int)).toNat,J (n / 256 / (256:Int)% (256:Int)).toNat,J (n / 256% (256:Int)).toNat,J (n% 256).toNat])))/\(I (0<n / 256 / (256:Int) / (256:Int) / (256:Int))=C->R (SV.str (C&&(C&&(C&&(C&&A)))) [J (n / 256 / (256:Int) / (256:Int)% (256:Int)).toNat,J (n / 256 / (256:Int)% (256:Int)).toNat,J (n / 256% (256:Int)).toNat,J (n% 256).toNat])))/\(I (0<n / 256 / (256:Int) / (256:Int))=C->R (SV.str (C&&(C&&(C&&A))) [J (n / 256 / (256:Int)% (256:Int)).toNat,J (n / 256% (256:Int)).toNat,J (n% 256).toNat])))/\(I (0<n / 256 / (256:Int))=C->R (SV.str (C&&(C&&A)) [J (n / 256% (256:Int)).toNat,J (n% 256).toNat]))) /\(I (0<n / 256)=C->R (SV.str (C&&A) [J (n% 256).toNat])))/\(I (0<n)=C->R (SV.str A [])))):=by kernel_rfl
theorem ic {l:Bool}{a b:List UInt8}(h:a=b):af (.str l a) (.str C b):=λE=>by subst h;rfl
theorem SZ (h:I (0<n)=C):CY k n=[]:=by
 have: ¬ (0<n):=by simpa using h
 cases k with
 | zero=>rfl
 | succ k=>simp[CY,this]
theorem SY (h:I (0<n)=A):CY (k+1) n=CY k (n / 256)++[J (n% 256).toNat]:=by
 have:0<n:=by simpa using h
 simp[CY,this]
theorem FB (h0:0<=n)(h1:n<18446744073709551616):az (eO ZY 117 aP [.int .u64 C n] (λv=>af v (.str C (digits n)))):=by
 refine az.of_eq (VJ n _) ?_;unfold digits
 repeat' first
  | apply And.intro
  | intro (_:_=_)
  | intro (c:Nat)
  | intro (_:_<=_)
 all_goals first
  | rfl
  | (apply ic;simp only[SY,SZ, *,List.nil_append,c_])
  | (exfalso;simp only[decide_eq_true_eq] at *;omega)
noncomputable def AL:List SV->Option (Prop×SV)
 | [.int .u64 C n]=>D (0<=n/\n<18446744073709551616,.str C (digits n))
 | _=>L
noncomputable def HH:PT:=bh AL
theorem Pb:av G 117 HH:=by
 refine iO acr (n:=20) (fn:=aP) Tryz.func117 (by kernel_rfl) (by kernel_rfl) ?_;intro args p r h hp;unfold AL at h;split at h
 ·rename_i n;injection h with h;injection h with h1 h2;subst h1;subst h2;exact⟨rfl,rfl,FB hp.1 hp.2⟩
 ·cases h
noncomputable def TU:List (FuncId×PT):=(117,HH)::gX
theorem Iz:bt G (λf=>aD f TU):=.cons Pb (aS _) eZ
noncomputable def adh:fQ:={cv with cQ:=λf=>aD f TU}
end
namespace Sx
open Go
inductive cO:Type 1 where
 | ret (v:SV)
 | new (v:Nat->SV) (B:SB)
 | all (α:Type) (f:α->cO)
 | req (p:Prop) (a:cO)
 | fork (b:Bool) (f:Bool->cO)
def cO.vc (m:Mem)(nx:Nat)(K:SV->Mem->Nat->VC):cO->VC
 | .ret v=>K v m nx
 | .new v B=>K (v nx) ((nx,B)::m) (nx+1)
 | .all α f=>.all α λx=>(f x).vc m nx K
 | .req p a=>.imp p (a.vc m nx K)
 | .fork b f=>Sx.fork b λb=>(f b).vc m nx K
def cO.Ok:cO->Prop
 | .ret v=>v.wf 0=A
 | .new v B=>B.wf 0=A/\B.ro=C/\(∀ k,(v k).wf (k+1)=A)/\∀(E E':Nat->Nat) k k',(B.no=C->E k=E' k')->(v k).val E=(v k').val E'
 | .all _α f=>∀ x,(f x).Ok
 | .req _ a=>a.Ok
 | .fork _ f=>∀ b,(f b).Ok
mutual
def SV.key:SV->Option Nat
 | .ptr k _ _=>D k
 | .slc k _ _ _ _=>D k
 | .bx k _ _ _ _ _=>D k
 | .aO vs=>SV.keys vs
 | .agg vs=>SV.keys vs
 | .iface _ v=>v.key
 | _=>L
def SV.keys:List SV->Option Nat
 | []=>L
 | v::r=>match v.key with
   | some k=>D k
   | none=>SV.keys r
end
def cO.fit (v:SV)(m:Mem):cO->VC
 | .ret r=>.atom (af v r)
 | .new r B=>(match v.key with
   | some k=>(match m.get k with
     | some X=>.and (leA X B) (svA v (r k))
     | none=>.fail "no block")
   | none=>.fail "no key")
 | .all α f=>.ex α λx=>(f x).fit v m
 | .req p a=>.and (.atom p) (a.fit v m)
 | .fork b f=>Sx.fork b λb=>(f b).fit v m
noncomputable def cw (spec:List SV->Option (Prop×cO)):PT:=λargs m nx K=>match spec (args.map CI)with
 | some (p,a)=>.and (.atom p) (a.vc m nx K)
 | none=>.fail "arguments that nothing is said of"
theorem cO.wJ {K':SV->Mem->Nat->VC}(hK: ∀ v m nx,(K v m nx).holds->(K' v m nx).holds): ∀ {a:cO},(a.vc m nx K).holds->(a.vc m nx K').holds
 | .ret _,h=>hK _ _ _ h
 | .new _ _,h=>hK _ _ _ h
 | .all _ _,h=>λx=>cO.wJ hK (h x)
 | .req _ _,h=>λx=>cO.wJ hK (h x)
 | .fork _ _,h=>cH.2 (cO.wJ hK (cH.1 h))
theorem b6 (spec:List SV->Option (Prop×cO)):aT (cw spec):=by
 intro args m nx K K' hK h;unfold cw at h ⊢;split at h
 ·exact⟨h.1,cO.wJ hK h.2⟩
 ·exact h
theorem bF.le {E:Nat->Nat}{X B:SB}{o:Obj}(h:aa X B)(hn:B.no=C)(hb:bF E X o):bF E B o:=(h.old hn).2.1 E o hb
theorem aN.new {Γ E m nx w}(h:aN Γ E m nx w)(hw:Mem.wf nx m=A){E1:Nat->Nat}{m1:Mem}{nx1:Nat}
  {gl gm} (h1:aN (br.at w (λ_=>False) gl gm) E1 m1 nx1 w') {j:Nat} {X B:SB} (hX:m1.get j=D X) (hle:aa X B) (hw2:B.wf 0=A) (hr2:B.ro=C) :
  ∃ E',(∀ i,i<nx->E' i=E i)/\(B.no=C->E' nx=E1 j)/\aN Γ E' ((nx,B)::m) (nx+1) w':=by
 have hf:=h.still h1.ext;have hge: ∀ a,B.gb (E1 j) a->w.heap.size<=a:=λa ha=>by obtain⟨g1,_,g3⟩:=hle.2 _ a ha;exact(h1.jl j X a hX g1 (g3 hr2)).elim False.elim id
 refine⟨λi=>if i=nx then E1 j else E i,λi hi=>by simp[Nat.ne_of_lt hi],λ_=>by simp,?_⟩
 refine hf.Zd hw (λ_ _ h=>h) (λa ha=>⟨?_,λ_=>.inr (Nat.le_trans h.ext.size (hge a ha)),λi X hi hX=> ?_⟩) (λ_ _ _ _ _=>rfl) hf.ext (λ_ _=>rfl)
 ·obtain⟨g1,g2,_⟩:=hle.2 _ a ha;obtain⟨o,ho,hb⟩:=h1.iC j X a hX g1;exact⟨o,ho,(g2 E1 o hb).pure (SB.Nw hw2 a)⟩
 ·have:=hge a ha;have:=h.Y0 hi hX;omega
theorem cO.told {Γ E m nx w}(h:aN Γ E m nx w)(hw:Mem.wf nx m=A){E1:Nat->Nat}{m1:Mem}{nx1:Nat}
  {gl gm} (h1:aN (br.at w (λ_=>False) gl gm) E1 m1 nx1 w')  : ∀ {a:cO},a.Ok->(a.fit v m1).holds->(a.vc m nx K).holds->bC (lift K) Γ E nx (v.val E1) w'
 | .ret r,hO,hf,hK=>⟨E,D r,m,nx,λ_ _=>rfl,Nat.le_refl _,λx hx=>by injection hx with hx;subst hx;have hf:af v r:=hf;rw[hf E1];exact SV.wI hO E1 E,h.still h1.ext,hK⟩
 | .new r B,hO,hf,hK=>by
   obtain⟨o1,o2,o3,o4⟩:=hO;simp only[cO.fit] at hf;split at hf
   ·rename_i k hk;split at hf
    ·rename_i X hX;obtain⟨f1,f2⟩:=hf;have f1:aa X B:=f1;have f2:af v (r k):=f2;obtain⟨E',e1,e2,e3⟩:=aN.new h hw h1 hX f1 o1 o2;refine⟨E',D (r nx),_,nx+1,e1,Nat.le_succ _,λx hx=> ?_,e3,hK⟩;injection hx with hx;subst hx;rw[f2 E1];exact o4 E1 E' k nx λhb=>(e2 hb).symm
    ·exact hf.elim
   ·exact hf.elim
 | .all _ f,hO,⟨x,hx⟩,hK=>cO.told h hw h1 (hO x) hx (hK x)
 | .req _ a,hO,hf,hK=>cO.told (a:=a) h hw h1 hO hf.2 (hK hf.1)
 | .fork _ _,hO,hf,hK=>cO.told h hw h1 (hO _) (cH.1 hf) (cH.1 hK)
theorem dW (hf:P.funcs[f]?=D fn) (hn:(fn.name== "runtime.NumGoroutine")=C) (hb:fn.body.isSome=A) {n:Nat} {spec:List SV->Option (Prop×cO)}
  (h: ∀ args p a,spec args=D (p,a)->p->∃ cfg,Good P cfg/\SV.fO 0 args=A/\a.Ok/\az (fN P (calling P cfg n) [] Aa (cfg.bD f) cfg.rounds fn args [] 0 (λv m _=>a.fit v m))):av P f (cw spec):=by
 intro args m nx K hk hwf hargs Γ E w hs;unfold cw at hk;split at hk
 ·rename_i p a hr;obtain⟨hp,hk⟩:=hk;obtain⟨cfg,hg,h1,h2,h3⟩:=h _ _ _ hr hp;have hc:=fc hg hf hn hb h3 rfl h1 (aN.none w hs.Lb);rw[SV.sZ h1 (λ_=>0) E,p7] at hc;refine gy hf hn hb (hc.mono ?_);rintro e w' ⟨v,rfl,E',sv,m',nx',_,_,g3,g4,g5⟩;refine⟨v,rfl,?_⟩;cases sv with
  | none=>exact g5.elim
  | some u=>rw[g3 u rfl];exact cO.told hs hwf g4 h2 g5 hk
 ·exact hk.elim
theorem SV.fj : ∀ {a b:List SV},SV.fO nx a=A->SV.fO nx b=A->SV.fO nx (a++b)=A
 | [],_,_,h=>h
 | x::a,b,h,h'=>by simp only[SV.fO,ag] at h;simp only[c_,SV.fO,ag];exact⟨h.1,SV.fj h.2 h'⟩
end Sx
section
open Go Sx
set_option maxRecDepth 20000
def num (l:List UInt8):Int:=l.foldl (λa b=>a*256+(b.toNat:Int)) 0
def part (s:List UInt8)(i:Int):Int:=num ((s.drop 1).take (i - 1).toNat)
def jS (s:List UInt8)(to:Int):Bool:=I (to<=s.length)&& !decide (ah s 1=0)&&I (part s to<=1048576)&&I (55<part s to)
noncomputable def ZN (s:List UInt8)(to:Int):bg :={α:=Int,pre:=λ_ i=>1<=i/\i<=to/\part s i<=1048576,kY:=λ_ i=>(to - i).toNat,fresh:=0,slots:=λ_ i=>[(6,.int .i64 C (part s i)),(7,.int .i64 C i)],mem:=λ_ _=>[]}
noncomputable def Z0 (s:List UInt8)(to:Int):fQ:={adh with bD:=λf=>if f=216 then [(7,always (ZN s to))] else []}
noncomputable def gG (cfg:fQ)(f:Nat)(fn:Func)(args:List SV)(a:cO):VC:=fN G (calling G cfg 20) [] Aa (cfg.bD f) cfg.rounds fn args [] 0 (λv m _=>a.fit v m)
def K6 (z:List SV):cO:=.all Int λat'=>.new (λk=>.aO (z++[.iface 290 (.ptr k A 0)])) (.cells [.int .i64 C at',.iface 30 (.int .i64 A 2)] 2 292)
def F5 (s:List UInt8)(to:Int):cO:=.fork (jS s to) λb=>match b with
 | true=>.ret (.aO [.int .i64 C (part s to),.ay])
 | false=>K6 [.int .i64 A 0]
theorem VN (s:List UInt8)(to:Int):VC.holds (gG (Z0 s to) 216 a_ [.str C s,.int .i64 C to] (F5 s to))=(((I ((s.length:Int)<to)=A->(jS s to=A->af (SV.aO [SV.int .i64 A 0,SV.iface 290 (SV.ptr 0 A 0)]) (SV.aO [SV.int .i64 C (part s to),SV.ay]))/\(jS s to=C->∃(u7:Int),aa (SB.cells [SV.int .i64 C (s.length:Int),SV.iface 30 (SV.int .i64 A 2)] 2 292) (SB.cells [SV.int .i64 C u7,SV.iface 30 (SV.int .i64 A 2)] 2 292)/\af (SV.aO [SV.int .i64 A 0,SV.iface 290 (SV.ptr 0 A 0)]) (SV.aO ([SV.int .i64 A 0]++[SV.iface 290 (SV.ptr 0 A 0)]))))/\(I ((s.length:Int)<to)=C->((0:Int)<=(1:Int)/\1<(s.length:Int))/\(I (ah s 1=0)=A->(jS s to=A->af (SV.aO [SV.int .i64 A 0,SV.iface 290 (SV.ptr 0 A 0)]) (SV.aO [SV.int .i64 C (part s to),SV.ay]))/\(jS s to=C->∃(u6:Int),aa (SB.cells [SV.int .i64 A 1,SV.iface 30 (SV.int .i64 A 2)] 2 292) (SB.cells [SV.int .i64 C u6,SV.iface 30 (SV.int .i64 A 2)] 2 292)/\af (SV.aO [SV.int .i64 A 0,SV.iface 290 (SV.ptr 0 A 0)]) (SV.aO ([SV.int .i64 A 0]++[SV.iface 290 (SV.ptr 0 A 0)]))))/\(I (ah s 1=0)=C->(∃(u5:Int),(1<=u5 /\u5<=to/\part s u5<=1048576)/\0=part s u5/\1=u5/\True)/\∀(u4:Int),1<=u4/\u4<=to/\part s u4<=1048576->(I (u4<to)=A->I6 (part s u4*256)/\(0<=u4/\u4<(s.length:Int))/\((-9223372036854775808:Int)<=ah s u4/\ah s u4<=9223372036854775807)/\(0<=part s u4*256/\part s u4*256<=(9223372036854775807:Int)/\0<=ah s u4/\ah s u4<=9223372036854775807)/\(I (1048576<bitsOf BinOp.or (part s u4*256) (ah s u4))=A->(jS s to=A->af (SV.aO [SV.int .i64 A 0,SV.iface 290 (SV.ptr ((0:Nat)) A 0)]) (SV.aO [SV.int .i64 C (part s to),SV.ay]))/\(jS s to=C->∃(u3:Int),aa (SB.cells [SV.int .i64 C u4,SV.iface 30 (SV.int .i64 A 2)] 2 292) (SB.cells [SV.int .i64 C u3,SV.iface 30 (SV.int .i64 A 2)] 2 292)/\af (SV.aO [SV.int .i64 A 0,SV.iface 290 (SV.ptr ((0:Nat)) A 0)]) (SV.aO ([SV.int .i64 A 0]++[SV.iface 290 (SV.ptr ((0:Nat)) A 0)]))))/\(I (1048576<bitsOf BinOp.or (part s u4*256) (ah s u4))=C ->I6 (u4+1)/\∃(u2:Int),((1<=u2/\u2<=to/\part s u2<=1048576)/\(to - u2).toNat<(to - u4).toNat)/\bitsOf BinOp.or (part s u4*256) (ah s u4)=part s u2/\u4+1=u2/\True))/\(I (u4<to)=C->(I (part s u4<=55)=A->(jS s to=A->af (SV.aO [SV.int .i64 A 0,SV.iface 290 (SV.ptr ((0:Nat)) A 0)]) (SV.aO [SV.int .i64 C (part s to),SV.ay]))/\(jS s to=C->∃(u1:Int),aa (SB.cells [SV.int .i64 A 1,SV.iface 30 (SV.int .i64 A 2)] 2 292) (SB.cells [SV.int .i64 C u1,SV.iface 30 (SV.int .i64 A 2)] 2 292)/\af (SV.aO [SV.int .i64 A 0,SV.iface 290 (SV.ptr ((0:Nat)) A 0)]) (SV.aO ([SV.int .i64 A 0]++[SV.iface 290 (SV.ptr ((0:Nat)) A 0)]))))/\(I (part s u4<=55)=C->(jS s to=A->af (SV.aO [SV.int .i64 C (part s u4),SV.ay]) (SV.aO [SV.int .i64 C (part s to),SV.ay]))/\(jS s to=C->∃(_:Int),False))))))):=by kernel_rfl
theorem dM (s:List UInt8)(i:Int):0<=ah s i/\ah s i<256:=by unfold ah;have:=(s.getD i.toNat 0).toNat_lt;omega
theorem ou (l:List UInt8)(b:UInt8):num (l++[b])=num l*256+(b.toNat:Int):=by simp[num]
theorem Jg (s:List UInt8):part s 1=0:=by simp[part,num]
theorem Eu {x:Int}(h:1<=x)(h2:x<s.length):part s (x+1)=part s x*256+ah s x:=by
 unfold part;have e:(x+1 - 1).toNat=(x - 1).toNat+1:=by omega
 have hx:(x - 1).toNat<(s.drop 1).length:=by simp;omega
 rw[e,List.take_add_one,a! hx];simp only[Option.toList,ou];have e2:ah s x=((s.drop 1)[(x - 1).toNat].toNat:Int):=by
  have:1+(x - 1).toNat=x.toNat:=by omega
  unfold ah;rw[List.getElem_drop,List.getD_eq_getElem?_getD,a! (by omega)];simp only[Option.getD_some,this]
 rw[e2]
theorem sK (s:List UInt8)(x:Int):0<=part s x:=by
 unfold part num;suffices ∀(l:List UInt8) (a:Int),0<=a->0<=l.foldl (λa b=>a*256+(b.toNat:Int)) a from this _ _ (Int.le_refl _)
 intro l;induction l with
 | nil=>exact λ_ h=>h
 | cons b r ih=>intro a h;exact ih _ (show 0<=a*256+(b.toNat:Int)by omega)
theorem Et {s:List UInt8}{x:Int}(h:1<=x): ∀(n:Nat),x+n<=s.length->part s x<=part s (x+n)
 | 0,_=>by simp
 | n+1,hn=>by
   have h1:=Et (s:=s) h n (by omega);have h2:=Eu (s:=s) (x:=x+n) (by omega) (by omega);have h3:=dM s (x+n);have h4:=sK s (x+n);have:x+((n+1:Nat):Int)=x+n+1:=by omega
   rw[this,h2];omega
theorem XT {x y:Int}(h:1<=x)(hy:y<=s.length)(hxy:x<=y):part s x<=part s y:=by
 have:=Et (s:=s) h (y - x).toNat (by omega)
 rwa [show x+((y - x).toNat:Int)=y by omega] at this
theorem UJ {a b:Int}(ha:0<=a)(hb:0<=b)(hb2:b<256):bitsOf .or (a*256) b=a*256+b:=by
 obtain⟨a,rfl⟩:=c5 ha;obtain⟨b,rfl⟩:=c5 hb;have:((a:Int)*256)=((a*256:Nat):Int):=by omega
 rw[this];show((((a*256:Nat):Int).toNat ||| (b:Int).toNat:Nat):Int)=_;simp only[Int.toNat_natCast];have:=Nat.two_pow_add_eq_or_of_lt (i:=8) (b:=b) (by omega) a;rw[show(2:Nat)^8=256 from rfl,Nat.mul_comm] at this
 omega
theorem iD {to:Int}:jS s to=A↔to<=s.length/\ah s 1≠0/\part s to<=1048576/\55<part s to:=by simp[jS,and_assoc]
theorem F6 {to:Int}(h2:2<=to)(h3:to<100):az (gG (Z0 s to) 216 a_ [.str C s,.int .i64 C to] (F5 s to)):=by
 refine az.of_eq (VN s to) ?_;have F: ∀ {p:Prop},¬ (to<=s.length/\ah s 1≠0/\part s to<=1048576/\55<part s to)->jS s to=A->p:=λh e=>absurd (iD.1 e) h;refine⟨λa=>⟨F (by simp at a;omega),λ_=>by(first | exact⟨_,aa.cells (λ_=>rfl) rfl,λ_=>rfl⟩ | exact λ_=>rfl | trivial)⟩,λa=> ?_⟩
 simp only[decide_eq_false_iff_not,Int.not_lt] at a;refine⟨by omega,λb=>⟨F (by simp at b;simp[b]),λ_=>by(first | exact⟨_,aa.cells (λ_=>rfl) rfl,λ_=>rfl⟩ | exact λ_=>rfl | trivial)⟩,λb=> ?_⟩
 simp only[decide_eq_false_iff_not] at b;refine⟨⟨1,⟨by omega,by omega,by rw[Jg];decide⟩,(Jg s).symm,rfl,trivial⟩,λx ⟨hx1,hx2,hx3⟩=> ?_⟩;have g1:=sK s x;have g2:=dM s x;rw[UJ g1 g2.1 g2.2];refine⟨λc=> ?_,λc=> ?_⟩
 ·simp only[decide_eq_true_eq] at c;have g3:=Eu (s:=s) hx1 (by omega);rw[← g3];refine⟨by omega,by omega,by omega,by omega,λd=>⟨F ?_,λ_=>by(first | exact⟨_,aa.cells (λ_=>rfl) rfl,λ_=>rfl⟩ | exact λ_=>rfl | trivial)⟩,λd=>⟨by omega,x+1,⟨⟨by omega,by omega,by simpa using d⟩,by omega⟩,rfl,rfl,trivial⟩⟩
  simp only[decide_eq_true_eq] at d;have:=XT (s:=s) (x:=x+1) (by omega) a (by omega);omega
 ·simp only[decide_eq_false_iff_not] at c;obtain rfl:x=to:=by omega
  refine⟨λd=>⟨F (by simp at d;omega),λ_=>by(first | exact⟨_,aa.cells (λ_=>rfl) rfl,λ_=>rfl⟩ | exact λ_=>rfl | trivial)⟩,λd=>⟨λ_=>by(first | exact⟨_,aa.cells (λ_=>rfl) rfl,λ_=>rfl⟩ | exact λ_=>rfl | trivial),λe=> ?_⟩⟩
  simp only[decide_eq_false_iff_not] at d;rw[iD.2 ⟨a,b,hx3,by omega⟩] at e;cases e
def Bu:List SV->Option (Prop×cO)
 | [.str C s,.int .i64 C to]=>D (2<=to/\to<100,F5 s to)
 | _=>L
noncomputable def Iy:PT:=cw Bu
theorem acu (s:List UInt8)(to:Int):Sx.Good G (Z0 s to):=.of bX Iz bw
theorem DB {z:List SV}(hz:SV.fO 0 z=A):(K6 z).Ok:=by
 intro x;refine⟨rfl,rfl,λk=>SV.fj (SV.iJ (Nat.zero_le _) z hz) ?_,λE E' k k' h=> ?_⟩
 ·simp[SV.fO,SV.wf,Nat.blt_eq]
 ·have hk:E k=E' k':=h rfl;have hv:=SV.sZ hz E E';simp only[SV.bG] at hv;simp[SV.val,SV.bG,hk,hv]
theorem PC:av G 216 Iy:=by
 refine dW (n:=20) (fn:=a_) Tryz.func216 (by kernel_rfl) (by kernel_rfl) ?_;intro args p a h hp;unfold Bu at h;split at h
 ·rename_i s to;injection h with h;injection h with h1 h2;subst h1;subst h2;refine⟨_,acu s to,rfl,λb=> ?_,F6 hp.1 hp.2⟩;cases b
  ·exact DB rfl
  ·exact rfl
 ·cases h
noncomputable def TV:List (FuncId×PT):=(216,Iy)::TU
theorem IA:bt G (λf=>aD f TV):=.cons PC (b6 _) Iz
noncomputable def RW:fQ:={cv with cQ:=λf=>aD f TV}
theorem Y1:Sx.Good G RW:=.of bX IA bw
def lead (s:List UInt8):Int:=if ah s 0<192 then ah s 0 - 128 else ah s 0 - 192
def cutFrom (s:List UInt8):Int:=if ah s 0<128 then 0 else if 55<lead s then lead s - 54 else 1
def KS (s:List UInt8):Int:=if ah s 0<128 then 1 else if 55<lead s then part s (lead s - 54)else lead s
def bR (s:List UInt8):Bool:=I (s≠[])&&(I (ah s 0<128)||((!decide (55<lead s)||jS s (lead s - 54))&&I (KS s<=s.length - cutFrom s)&& !(I (ah s 0<192)&&I (lead s=1)&&I (ah s 1<128))))
def dx (s:List UInt8):Bool:=I (192<=ah s 0)
def ai (s:List UInt8):List UInt8:=(s.drop (cutFrom s).toNat).take (KS s).toNat
def aF (s:List UInt8):List UInt8:=s.drop (cutFrom s+KS s).toNat
def Z2 (s:List UInt8):cO:=.fork (bR s) λb=>match b with
 | true=>.ret (.aO [.bool C (dx s),.str C (ai s),.str C (aF s),.ay])
 | false=>K6 [.bool A C,.str A [],.str A []]
end
end Go.Proofs.YtoibaecagklkaaaGreatDoor
