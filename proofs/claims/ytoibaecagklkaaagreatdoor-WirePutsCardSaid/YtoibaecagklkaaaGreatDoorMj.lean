/-
  Calls of the library that have no body: internal/reflectlite, as errors.Is and errors.As need it; by tables of types.
-/
import Derived.Test.YtoibaecagklkaaaGreatDoorMa
import Derived.Test.YtoibaecagklkaaaGreatDoorMi
import Derived.Laws.Externs
import Derived.ProofKit
import Derived.Below
import Derived.ChangeSame
open Bool renaming and_eq_true->ag,false->C,false_eq_true->an,true->A
open Decidable renaming decide->O
open Go.DataW renaming TrodAll->V,trod->bn
open Go.Extern.ReflectliteType renaming abiMethod->b5,assignableTo->Y,elem->b6,implements_->b9,method->Z,relation->T,toType->b_,typeOf->b!
open Go.Extern.ReflectliteValue renaming methodAny->cl,valueError->cx
open Go.Extern.Rtype renaming kind->az,noPackHeld->cB
open Go.Proofs.Tryz renaming f117->aK,f216->a_,prog->G
open Go.Result renaming andThen_ok->Q
open Go.Sem renaming run_bind->S,run_pure->cH
open Int renaming eq_ofNat_of_zero_le->cL,ofNat->L
open List renaming cons_append->c4,getElem?_eq_getElem->a!,map_cons->c5,mem_append->c6,mem_cons->M,mem_cons_of_mem->bl,mem_cons_self->c_,not_mem_nil->N
open Option renaming none->J,some->D
open UInt8 renaming ofNat->I
namespace Go.Proofs.YtoibaecagklkaaaGreatDoor
open Go Sx
variable {fn:Func}{f:FuncId}{n:Int}{s:e_}{m:Mem}{k nx t:Nat}{P:Program}{v:SV}{K:SV->Mem->Nat->VC}{W w w':World}
section
open Go Sx
theorem fG {e:Array Value->Sem Value}(hf:P.funcs[f]?=D fn) (h1:(fn.name== "runtime.NumGoroutine")=C) (h2:fn.body.isNone=A)
  (h3:Extern.findNext fn=J) (h4:Extern.find fn=D e) {args:Array Value} {v:Value}  (h:(e args).run P w=.ok v w'):(callFunc f args).run P w=.ok (.value v) w':=by
 rw[run_callFunc_extern hf h1 h2 h3 h4,h];rfl
abbrev nk:TypeId:=212
noncomputable abbrev wB (t:Nat):Value:=.pointer (D ⟨hB,t,J⟩)
noncomputable abbrev hd (t:Nat):SV:=.raw (wB t)
noncomputable abbrev tyV (t:Nat):SV:=.iface nk (.agg [hd t])
def nR {β:Type}(a:Nat):List (Nat×β)->Option β
 | []=>J
 | e::r=>if e.1=a then D e.2 else nR a r
theorem fJ {β:Type}{a:Nat}{b:β}: ∀ {l:List (Nat×β)},nR a l=D b->(a,b)∈ l
 | [],h=>by cases h
 | e::r,h=>by
   unfold nR at h;split at h
   ·rename_i he;cases h;subst he;simp
   ·exact bl _ (fJ h)
def Ii {β:Type}(a b:Nat):List (Nat×Nat×β)->Option β
 | []=>J
 | e::r=>if e.1=a/\e.2.1=b then D e.2.2 else Ii a b r
theorem sg {β:Type}{a b:Nat}{c:β}: ∀ {l:List (Nat×Nat×β)},Ii a b l=D c->(a,b,c)∈ l
 | [],h=>by cases h
 | e::r,h=>by
   unfold Ii at h;split at h
   ·rename_i he;cases h;obtain⟨rfl,rfl⟩:=he;simp
   ·exact bl _ (sg h)
noncomputable def Br:SV->Option Nat
 | .raw (.pointer (D ⟨b,t,J⟩))=>if b=hB then D t else J
 | _=>J
theorem jm (h:Br v=D t):v=hd t:=by
 unfold Br at h;split at h
 ·rename_i b t';split at h
  ·rename_i e;cases h;subst e;rfl
  ·cases h
 ·cases h
noncomputable def ry:PT:=λargs m nx K=>match args with
 | [.iface t _]=>K (tyV t) m nx
 | _=>.fail "TypeOf"
noncomputable def je:PT:=λargs m nx K=>match args with
 | [.agg [h]]=>(match Br h with
   | some t=>(match nR t EP with
     | some b=>K (.bool A b) m nx
     | none=>.fail "Comparable")
   | none=>.fail "Comparable")
 | _=>.fail "Comparable"
noncomputable def ot:PT:=λargs m nx K=>match args with
 | [.iface t v]=>(match nR t dj,v.plain with
   | some k,A=>K (.agg [hd t,.ptr nx A 0,.int .u64 A (L (k+128))]) ((nx,.cells v.cells v.cells.length t)::m) (nx+1)
   | _,_=>.fail "ValueOf")
 | _=>.fail "ValueOf"
noncomputable def B6:PT:=λargs m nx K=>match args with
 | [.agg [h,.ptr _ A 0,.int .u64 _ n]]=>(match Br h with
   | some t=>(match nR t dj with
     | some k=>if n=L (k+128)then K (tyV t) m nx else .fail "Value.Type"
     | none=>.fail "Value.Type")
   | none=>.fail "Value.Type")
 | _=>.fail "Value.Type"
noncomputable def AP:PT:=λargs m nx K=>match args with
 | [h]=>(match Br h with
   | some t=>(match nR t dj with
     | some k=>K (.int .u8 A (L k)) m nx
     | none=>.fail "Kind")
   | none=>.fail "Kind")
 | _=>.fail "Kind"
noncomputable def uU:PT:=λargs m nx K=>match args with
 | [.agg [h]]=>(match Br h with
   | some t=>(match nR t jW with
     | some e=>K (tyV e) m nx
     | none=>.fail "Elem")
   | none=>.fail "Elem")
 | _=>.fail "Elem"
noncomputable def D2 (tab:List (Nat×Nat×Bool)):PT:=λargs m nx K=>match args with
 | [.agg [h],.iface t (.agg [g])]=>(match Br h,Br g with
   | some a,D b=>(match Ii a b tab with
     | some c=>if t=nk then K (.bool A c) m nx else .fail "a relation of types"
     | none=>.fail "a relation of types")
   | _,_=>.fail "a relation of types")
 | _=>.fail "a relation of types"
noncomputable def zF (m:Mem):SV->Option (Nat×SV)
 | .agg [h,.ptr key A 0,.int .u64 _ n]=>(match Br h,m.get key with
   | some t,D (.cells (.ptr k b o::_) _ _)=>(match nR t jW with
     | some _=>if n=150 then D (t,.ptr k b o)else J
     | none=>J)
   | _,_=>J)
 | _=>J
noncomputable def vg:PT:=λargs m nx K=>match args with
 | [v]=>(match zF m v with
   | some _=>K (.bool A C) m nx
   | none=>.fail "IsNil")
 | _=>.fail "IsNil"
noncomputable def uV:PT:=λargs m nx K=>match args with
 | [v]=>(match zF m v with
   | some (t,p)=>(match nR t jW with
     | some e=>(match nR e dj with
       | some k=>K (.agg [hd e,p,.int .u64 A (L (k+128+256))]) m nx
       | none=>.fail "Value.Elem")
     | none=>.fail "Value.Elem")
   | none=>.fail "Value.Elem")
 | _=>.fail "Value.Elem"
noncomputable def Jv:PT:=λargs m nx K=>match args with
 | [.agg [h,p,.int .u64 _ n],.agg [g,.ptr key A 0,.int .u64 _ n']]=>(match Br h,Br g,m.get key with
   | some a,D b,D (.cells (v::_) _ _)=>(match Ii a b BT,nR a dj,nR b dj with
     | some wrap,D k,D k'=>if n=L (k+128+256)/\n'=L (k'+128)then
        nh G a (D p) (D (match wrap with | true=>.iface b v | false=>v)) m nx (λ_ m nx=>K (.aD []) m nx)else .fail "Value.Set"
     | _,_,_=>.fail "Value.Set")
   | _,_,_=>.fail "Value.Set")
 | _=>.fail "Value.Set"
noncomputable def z6:PT:=D2 (wK++DQ)
noncomputable def La:PT:=D2 Fw
theorem HU: ∀ p∈ dj,∀ w,(az p.1).run G w=.ok p.2 w:=by
 intro p hp w;simp only[dj,M,N,or_false] at hp
 repeat' first
  | (rcases hp with rfl | hp)
  | subst hp
  | kernel_rfl
theorem Tg: ∀ p∈ EP,∀ w,((Z λt=>do cB "Comparable" t;pure (.bool (← typeInfo t).comparable)) #[.agg #[wB p.1]]).run G w=.ok (.bool p.2) w:=by
 intro p hp w;simp only[EP,M,N,or_false] at hp
 repeat' first
  | (rcases hp with rfl | hp)
  | subst hp
  | kernel_rfl
theorem VV: ∀ p∈ dj,∀(a:Addr) w,(cl (cx "reflectlite.Value.Type" 0) (λt _ _ _=>b_ t) #[.agg #[wB p.1,.pointer (D a),.int .u64 (L (p.2+128))]]).run G w
  = .ok (.iface nk (.agg #[wB p.1])) w:=by
 intro p hp a w;simp only[dj,M,N,or_false] at hp
 repeat' first
  | (rcases hp with rfl | hp)
  | subst hp
  | kernel_rfl
theorem GZ: ∀ p∈ dj,∀ w,((b5 λt=>do pure (.int .u8 (L (← az t)))) #[wB p.1]).run G w=.ok (.int .u8 (L p.2)) w:=by
 intro p hp w;simp only[dj,M,N,or_false] at hp
 repeat' first
  | (rcases hp with rfl | hp)
  | subst hp
  | kernel_rfl
theorem O8: ∀ p∈ jW,∀ w,(Z b6 #[.agg #[wB p.1]]).run G w=.ok (.iface nk (.agg #[wB p.2])) w:=by
 intro p hp w;simp only[jW,M,N,or_false] at hp
 repeat' first
  | (rcases hp with rfl | hp)
  | subst hp
  | kernel_rfl
theorem TW: ∀ p∈ Fw,∀ w,(T "Implements" b9 #[.agg #[wB p.1],.iface nk (.agg #[wB p.2.1])]).run G w=.ok (.bool p.2.2) w:=by
 intro p hp w;simp only[Fw,M,N,or_false] at hp
 repeat' first
  | (rcases hp with rfl | hp)
  | subst hp
  | kernel_rfl
theorem Kl: ∀ p∈ wK,∀ w,(T "AssignableTo" Y #[.agg #[wB p.1],.iface nk (.agg #[wB p.2.1])]).run G w=.ok (.bool p.2.2) w:=by
 intro p hp w;simp only[wK,M,N,or_false] at hp
 repeat' first
  | (rcases hp with rfl | hp)
  | subst hp
  | kernel_rfl
noncomputable def WL (t:Nat):Array (String×TypeId):=match G.underlying t with
 | some (.interface l)=>l
 | _=>#[]
noncomputable def ZJ (t:Nat):Array Method:=match G.info? t with
 | some i=>i.methods
 | none=>#[]
theorem X7: ∀ p∈ DQ,∀ w,(T "AssignableTo" Y #[.agg #[wB p.1],.iface nk (.agg #[wB p.2.1])]).run G w=.ok (.bool (C||(Instr.missingMethod (WL p.2.1) (ZJ p.1)).isNone)) w:=by
 intro p hp w;simp only[DQ,M,N,or_false] at hp
 repeat' first
  | (rcases hp with rfl | hp)
  | subst hp
  | kernel_rfl
theorem UR: ∀ p∈ DQ,Dg (WL p.2.1) (ZJ p.1)=A/\p.2.2=false:=by
 intro p hp;simp only[DQ,M,N,or_false] at hp
 repeat' first
  | (rcases hp with rfl | hp)
  | subst hp
  | exact⟨by kernel_rfl,rfl⟩
theorem abA: ∀ p∈ DQ,∀ w,(T "AssignableTo" Y #[.agg #[wB p.1],.iface nk (.agg #[wB p.2.1])]).run G w=.ok (.bool p.2.2) w:=by intro p hp w;obtain⟨h1,h2⟩:=UR p hp;obtain⟨m,hm⟩:=AR h1;rw[X7 p hp w,h2,hm];rfl
theorem MW (t:Nat)(v:Value)(w:World):(b! #[.iface t v]).run G w=.ok (.iface nk (.agg #[wB t])) w:=by kernel_rfl
end
section
open Go Sx
set_option maxRecDepth 20000
theorem bH {s:String}{α:Prop}(h:(VC.fail s).holds):α:=False.elim h
section
variable {K : SV -> Mem -> Nat -> VC} {Γ : bg} {E : Nat -> Nat} {nx : Nat} {m : Mem} {w : World}
theorem fS (h:(K v m nx).holds)(hs:aO Γ E m nx w):bF (lift K) Γ E nx (v.val E) w :=⟨E,D v,m,nx,λ_ _=>rfl,Nat.le_refl _,λu hu=>by cases hu;rfl,hs,h⟩
end
theorem Rh:ax G 113 ry:=by
 intro args m nx K h hw ha Γ E w hs;unfold ry at h;split at h
 ·rename_i t v;simp only[SV.vals,SV.val];rw[fG (e:=b!) Tryz.func113 (by kernel_rfl) (by kernel_rfl) (by kernel_rfl) (by kernel_rfl) (MW t _ w)];simp only[Out];exact fS (v:=tyV t) h hs
 ·exact bH h
set_option maxRecDepth 20000 in
theorem Ch:ax G 247 je:=by
 intro args m nx K h hw ha Γ E w hs;unfold je at h;split at h
 ·rename_i x;split at h
  ·rename_i t ht;have hx:=jm ht;split at h
   ·rename_i b hb;rw[hx];simp only[SV.vals,SV.val];rw[fG (e:=Z λt=>do cB "Comparable" t;pure (.bool (← typeInfo t).comparable)) Tryz.func247 (by kernel_rfl) (by kernel_rfl) (by kernel_rfl) (by kernel_rfl) (Tg _ (fJ hb) w)]
    simp only[Out];exact fS (v:=.bool A b) h hs
   ·exact bH h
  ·exact bH h
 ·exact bH h
set_option maxRecDepth 20000 in
theorem XV:ax G 235 AP:=by
 intro args m nx K h hw ha Γ E w hs;unfold AP at h;split at h
 ·rename_i x;split at h
  ·rename_i t ht;have hx:=jm ht;split at h
   ·rename_i k hk;rw[hx];simp only[SV.vals,SV.val];rw[fG (e:=b5 λt=>do pure (.int .u8 (← az t))) Tryz.func235 (by kernel_rfl) (by kernel_rfl) (by kernel_rfl) (by kernel_rfl) (GZ _ (fJ hk) w)]
    simp only[Out];exact fS (v:=.int .u8 A (L k)) h hs
   ·exact bH h
  ·exact bH h
 ·exact bH h
set_option maxRecDepth 20000 in
theorem Tn:ax G 248 uU:=by
 intro args m nx K h hw ha Γ E w hs;unfold uU at h;split at h
 ·rename_i x;split at h
  ·rename_i t ht;have hx:=jm ht;split at h
   ·rename_i e he;rw[hx];simp only[SV.vals,SV.val];rw[fG (e:=Z b6) Tryz.func248 (by kernel_rfl) (by kernel_rfl) (by kernel_rfl) (by kernel_rfl) (O8 _ (fJ he) w)];simp only[Out];exact fS (v:=tyV e) h hs
   ·exact bH h
  ·exact bH h
 ·exact bH h
set_option maxRecDepth 20000 in
theorem XN:ax G 249 La:=by
 intro args m nx K h hw ha Γ E w hs;unfold La D2 at h;split at h
 ·rename_i x t y;split at h
  ·rename_i a b hx hy;have hx:=jm hx;have hy:=jm hy;split at h
   ·rename_i c hc;split at h
    ·rename_i e;subst e;rw[hx,hy];simp only[SV.vals,SV.val];rw[fG (e:=T "Implements" b9) Tryz.func249 (by kernel_rfl) (by kernel_rfl) (by kernel_rfl) (by kernel_rfl) (TW _ (sg hc) w)];simp only[Out];exact fS (v:=.bool A c) h hs
    ·exact bH h
   ·exact bH h
  ·exact bH h
 ·exact bH h
set_option maxRecDepth 20000 in
theorem OT:ax G 246 z6:=by
 intro args m nx K h hw ha Γ E w hs;unfold z6 D2 at h;split at h
 ·rename_i x t y;split at h
  ·rename_i a b hx hy;have hx:=jm hx;have hy:=jm hy;split at h
   ·rename_i c hc;split at h
    ·rename_i e;subst e;rw[hx,hy];simp only[SV.vals,SV.val];have hrun:(T "AssignableTo" Y #[.agg #[wB a],.iface nk (.agg #[wB b])]).run G w=.ok (.bool c) w:=by
      rcases c6.1 (sg hc)with h1 | h1
      ·exact Kl _ h1 w
      ·exact abA _ h1 w
     rw[fG (e:=T "AssignableTo" Y) Tryz.func246 (by kernel_rfl) (by kernel_rfl) (by kernel_rfl) (by kernel_rfl) hrun];simp only[Out];exact fS (v:=.bool A c) h hs
    ·exact bH h
   ·exact bH h
  ·exact bH h
 ·exact bH h
set_option maxRecDepth 20000 in
theorem YJ:ax G 86 B6:=by
 intro args m nx K h hw ha Γ E w hs;unfold B6 at h;split at h
 ·rename_i x key l n;split at h
  ·rename_i t ht;have hx:=jm ht;split at h
   ·rename_i k hk;split at h
    ·rename_i e;subst e;rw[hx];simp only[SV.vals,SV.val];rw[fG (e:=cl (cx "reflectlite.Value.Type" 0) (λt _ _ _=>b_ t)) Tryz.func86 (by kernel_rfl) (by kernel_rfl) (by kernel_rfl) (by kernel_rfl) (VV _ (fJ hk) _ w)];simp only[Out];exact fS (v:=tyV t) h hs
    ·exact bH h
   ·exact bH h
  ·exact bH h
 ·exact bH h
end
section
open Go Sx Extern
theorem rlm (z:Sem Value)(f:TypeId->Addr->Nat->Nat->Sem Value)(v:Value) :
  ReflectliteValue.method z f #[v]=(do match ← ReflectliteValue.parts v with | none=>z | some (t,a,fl)=>f t a fl (fl% 32)):=rfl
theorem rls (v x:Value):ReflectliteValue.set #[v,x]=(do
  let (D (dst,a,fl),D (src,b,_)):=(← ReflectliteValue.parts v,← ReflectliteValue.parts x)
   | unsupported (.noEntry "extern/(internal/reflectlite.Value).Set.zeroValue")
  if fl / ReflectliteValue.flagAddr% 2==0 then unsupported (.noEntry "extern/(internal/reflectlite.Value).Set.unaddressable")
  let val ← loadVar src b
  if ← Rtype.directlyAssignable dst src then storeVar dst a val
  else if ← Rtype.implements dst src then
   if(← Rtype.kind src)==20 then
    match val with
    | .nilIface=>unsupported (.noEntry "extern/reflectlite: a nil value of one interface type handed on as a value of another")
    | _=>storeVar dst a val
   else storeVar dst a (.iface src val)
  else panicString ("reflectlite.Set: value of type " ++ (← Rtype.spelt src)++ " is not assignable to type " ++ (← Rtype.spelt dst))
  pure (.tuple #[])):=rfl
theorem K2 (t:Nat)(w:World):(Rtype.handle t).run G w=.ok (wB t) w:=by kernel_rfl
theorem UK (h:(t,k)∈ dj)(a:Addr)(fl:Nat)(w:World):(ReflectliteValue.mk t a fl).run G w=.ok (.agg #[wB t,.pointer (D a),.int .u64 (L (k+128+fl))]) w:=by have h1:=HU _ h w;simp only at h1;simp only[ReflectliteValue.mk,S,K2,h1,Q,cH];rfl
theorem xN: ∀ p∈ dj,∀(a:Addr) w,(ReflectliteValue.parts (.agg #[wB p.1,.pointer (D a),.int .u64 (L (p.2+128))])).run G w=.ok (D (p.1,a,p.2+128)) w:=by
 intro p hp a w;simp only[dj,M,N,or_false] at hp
 repeat' first
  | (rcases hp with rfl | hp)
  | subst hp
  | kernel_rfl
theorem Mf: ∀ p∈ dj,∀(a:Addr) w,(ReflectliteValue.parts (.agg #[wB p.1,.pointer (D a),.int .u64 (L (p.2+128+256))])).run G w=.ok (D (p.1,a,p.2+128+256)) w:=by
 intro p hp a w;simp only[dj,M,N,or_false] at hp
 repeat' first
  | (rcases hp with rfl | hp)
  | subst hp
  | kernel_rfl
theorem I4: ∀ p∈ jW,(p.1,22)∈ dj/\G.underlying p.1=D (.pointer p.2):=by
 intro p hp;simp only[jW,M,N,or_false] at hp
 repeat' first
  | (rcases hp with rfl | hp)
  | subst hp
  | exact⟨by simp[dj],by kernel_rfl⟩
theorem elem?_run: ∀ p∈ jW,∀ w,(Rtype.elem? p.1).run G w=.ok (D p.2) w:=by
 intro p hp w;simp only[jW,M,N,or_false] at hp
 repeat' first
  | (rcases hp with rfl | hp)
  | subst hp
  | kernel_rfl
noncomputable def IT (t:Nat):Bool:=match G.underlying t with
 | some d=>!fy d
 | none=>C
theorem Qn: ∀ p∈ dj,IT p.1=true:=by
 intro p hp;simp only[dj,M,N,or_false] at hp
 repeat' first
  | (rcases hp with rfl | hp)
  | subst hp
  | kernel_rfl
theorem U0: ∀ p∈ dj,∃ d,G.underlying p.1=D d/\fy d=false:=by
 intro p hp;have:=Qn p hp;unfold IT at this;split at this
 ·rename_i d hd;exact⟨d,hd,by simpa using this⟩
 ·cases this
theorem KD: ∀ p∈ BT,∀ w,(Rtype.directlyAssignable p.1 p.2.1).run G w=.ok (!p.2.2) w:=by
 intro p hp w;simp only[BT,M,N,or_false] at hp
 repeat' first
  | (rcases hp with rfl | hp)
  | subst hp
  | kernel_rfl
theorem W1: ∀ p∈ BT,p.2.2=A->∀ w,(Rtype.implements p.1 p.2.1).run G w=.ok A w/\(p.2.1,20)∉ dj:=by
 intro p hp hw w;simp only[BT,M,N,or_false] at hp
 repeat' first
  | (rcases hp with rfl | hp)
  | subst hp
  | cases hw
  | exact⟨by kernel_rfl,by simp[dj]⟩
theorem qE (h:(t,k)∈ dj){b o:Nat}{c:Array Value}{ty:TypeId}{fr:Nat×Nat}(hb:w.heap[b]?=D (.cells c ty fr)){v:Value}(hv:c[o]?=D v) :
  (loadVar t ⟨b,o,J⟩).run G w=.ok v w:=by
 obtain⟨d,h1,h2⟩:=U0 _ h;simp only[loadVar,S,cO h1,h2,Q,an,if_false,run_load,cell_of hb,hv]
set_option maxRecDepth 20000 in
theorem M3:ax G 85 ot:=by
 intro args m nx K h hw ha Γ E w hs;unfold ot at h;split at h
 ·rename_i t v;split at h
  ·rename_i k hk hp;have hm:=fJ hk;simp only[SV.vals,SV.val]
   have hrun:((λargs=>ReflectliteValue.unpack (args.getD 0 (.tuple #[]))) #[Value.iface t (v.val E)]).run G w =
     .ok (.agg #[wB t,.pointer (D ⟨w.heap.size,0,J⟩),.int .u64 (L (k+128+0))]) {w with heap:=w.heap.push (.cells (v.val E).cells t)}:=by
    show(ReflectliteValue.unpack (Value.iface t (v.val E))).run G w=_;simp only[ReflectliteValue.unpack,S,tR,Q,UK hm]
   rw[fG (e:=λargs=>ReflectliteValue.unpack (args.getD 0 (.tuple #[]))) Tryz.func85 (by kernel_rfl) (by kernel_rfl) (by kernel_rfl) (by kernel_rfl) hrun];simp only[Out];simp only[SV.e9,SV.wf,Bool.and_true] at ha;refine bF.alloc hs hw (K:=lift K) (sv:=.agg [hd t,.ptr nx A 0,.int .u64 A (L (k+128))]) (nG ha) (vq (by rw[SV.ff hp])) (qF (E:=E) (by rw[SV.ff hp])) h ?_;simp[SV.val,SV.vals]
  ·exact bH h
 ·exact bH h
theorem AG {p:SV}(h:zF m v=D (t,p)): ∃ key l cs tot ty k b o e,v=.agg [hd t,.ptr key A 0,.int .u64 l 150]/\p=.ptr k b o/\m.get key=D (.cells (.ptr k b o::cs) tot ty)/\(t,e)∈ jW:=by
 unfold zF at h;split at h
 ·rename_i x key l n;split at h
  ·rename_i t' k b o cs tot ty ht hk;split at h
   ·rename_i e he;split at h
    ·rename_i hn;cases h;subst hn;exact⟨key,l,cs,tot,ty,k,b,o,e,by rw[jm ht],rfl,hk,fJ he⟩
    ·cases h
   ·cases h
  ·cases h
 ·cases h
set_option maxRecDepth 20000 in
theorem T2:ax G 87 vg:=by
 intro args m nx K h hw ha Γ E w hs;unfold vg at h;split at h
 ·rename_i v;split at h
  ·rename_i tp htp;obtain⟨t,p⟩:=tp;obtain⟨key,l,cs,tot,ty,k,b,o,e,hv,hp,hk,he⟩:=AG htp;obtain⟨ob,ho,c,fr,rfl,_,h2,_⟩:=hs.ny key _ hk rfl;have h0:=h2 0 _ rfl;obtain⟨hkt,hun⟩:=I4 _ he;have hrun:(ReflectliteValue.method (ReflectliteValue.valueError "reflectlite.Value.IsNil" 0) ReflectliteValue.isNil #[.agg #[wB t,.pointer (D ⟨E key,0,J⟩),.int .u64 150]]).run G w=.ok (.bool C) w:=by
    rw[rlm];have hp:=xN _ hkt ⟨E key,0,J⟩ w;have hl:=qE hkt ho h0;simp only[show L (22+128)=150 from rfl] at hp
    simp only[S,hp,Q,ReflectliteValue.isNil];simp[hl,SV.val]
   rw[hv];simp only[SV.vals,SV.val];rw[fG (e:=ReflectliteValue.method (ReflectliteValue.valueError "reflectlite.Value.IsNil" 0) ReflectliteValue.isNil) Tryz.func87 (by kernel_rfl) (by kernel_rfl) (by kernel_rfl) (by kernel_rfl) hrun];simp only[Out];exact fS (v:=.bool A C) h hs
  ·exact bH h
 ·exact bH h
set_option maxRecDepth 20000 in
theorem To:ax G 133 uV:=by
 intro args m nx K h hw ha Γ E w hs;unfold uV at h;split at h
 ·rename_i v;split at h
  ·rename_i t p htp;obtain⟨key,l,cs,tot,ty,k,b,o,e0,hv,hp,hk,he0⟩:=AG htp;split at h
   ·rename_i e he;have he:=fJ he;split at h
    ·rename_i ke hke;have hke:=fJ hke;obtain⟨ob,ho,c,fr,rfl,_,h2,_⟩:=hs.ny key _ hk rfl;have h0:=h2 0 _ rfl;obtain⟨hkt,hun⟩:=I4 _ he;have hrun:(ReflectliteValue.method (ReflectliteValue.valueError "reflectlite.Value.Elem" 0) ReflectliteValue.elem #[.agg #[wB t,.pointer (D ⟨E key,0,J⟩),.int .u64 150]]).run G w=.ok (.agg #[wB e,.pointer (D ⟨E k,o,J⟩),.int .u64 (L (ke+128+256))]) w:=by
      rw[rlm];have hp:=xN _ hkt ⟨E key,0,J⟩ w;have hl:=qE hkt ho h0;have hel:=elem?_run _ he w;have hmk:=UK hke ⟨E k,o,J⟩ ReflectliteValue.flagAddr w;simp only at hel;simp only[show L (22+128)=150 from rfl] at hp
      simp only[S,hp,Q,ReflectliteValue.elem];simp[hl,SV.val,hel,hmk];rfl
     rw[hv];simp only[SV.vals,SV.val];rw[fG (e:=ReflectliteValue.method (ReflectliteValue.valueError "reflectlite.Value.Elem" 0) ReflectliteValue.elem) Tryz.func133 (by kernel_rfl) (by kernel_rfl) (by kernel_rfl) (by kernel_rfl) hrun];simp only[Out];subst hp;have:=fS (v:=.agg [hd e,.ptr k b o,.int .u64 A (L (ke+128+256))]) h hs;simpa [SV.val,SV.vals] using this
    ·exact bH h
   ·exact bH h
  ·exact bH h
 ·exact bH h
end
section
open Go Sx Extern
set_option maxRecDepth 20000
theorem Xz: ∀ p∈ dj,((p.2+128+256) / ReflectliteValue.flagAddr% 2==0)=false:=by
 intro p hp;simp only[dj,M,N,or_false] at hp
 repeat' first
  | (rcases hp with rfl | hp)
  | subst hp
  | rfl
set_option maxRecDepth 20000 in
theorem GI {t:TypeId}{p x:SV}{Γ:bg}{E:Nat->Nat}(h:(nh G t (D p) (D x) m nx (λ_ m nx=>K (.aD []) m nx)).holds)(hs:aO Γ E m nx w)(hw:Mem.wf nx m=A)
  (hp:p.wf nx=A) (hx:x.wf nx=A) {a:Addr} (ha:p.val E=.pointer (D a)) (_h0:a.spot=J) :
  ∃ w',(storeVar t a (x.val E)).run G w=.ok () w'/\bF (lift K) Γ E nx (.tuple #[]) w':=by
 have:=DK (P:=G) (Γ:=Γ) (m:=m) (nx:=nx) (σ:=λo=>match o with | .tmp 0=>D p | .tmp 1=>D x | _=>J) (dst:=J) (t:=t) (type:=0) (pos:= "") (after:=#[]) (guard:=J) (a:=.tmp 0) (x:=.tmp 1)
  (λ_ m nx=>K (.aD []) m nx) E w (λo=>match o with | .tmp 0=>p.val E | .tmp 1=>x.val E | _=>undef) h hs hw (λo v hv=>by
    simp only at hv;split at hv
    ·cases hv;exact hp
    ·cases hv;exact hx
    ·cases hv) (λo v hv=>by
    simp only at hv ⊢;split at hv
    ·cases hv;rfl
    ·cases hv;rfl
    ·cases hv)
 simp only[execOp,Instr.storeAt,ha,Instr.sureAddr,S,cH,Q] at this;generalize hr:(storeVar t a (x.val E)).run G w=r at this;cases r with
 | halt e w'=>cases e<;>simp[Result.andThen,Out] at this
 | ok u w' =>simp only[Q,Out] at this;obtain⟨E',sv,m',nx',g1,g2,g3,g4,g5⟩:=this;exact⟨w',rfl,E',D (.aD []),m',nx',g1,g2,λv hv=>by cases hv;rfl,g4,g5⟩
set_option maxRecDepth 20000 in
theorem abR:ax G 134 Jv:=by
 intro args m nx K h hw ha Γ E w hs;unfold Jv at h;split at h
 ·rename_i x p l n y key l' n';split at h
  ·rename_i a b v cs tot ty hx hy hk;have hx:=jm hx;have hy:=jm hy;split at h
   ·rename_i wrap k k' hwr hka hkb;have hwr:=sg hwr;have hka:=fJ hka;have hkb:=fJ hkb;split at h
    ·rename_i hn;obtain⟨rfl,rfl⟩:=hn;obtain⟨ob,ho,c,fr,rfl,_,h2,_⟩:=hs.ny key _ hk rfl;have h0:=h2 0 _ rfl;have hvw:v.wf nx=true:=SV.sE (Mem.GQ hw hk) (i:=0) rfl;have hpw:p.wf nx=true:=by simp only[SV.e9,SV.wf,ag] at ha;exact ha.1.2.1
     have hpp: ∃ q,p.val E=.pointer (D q)/\q.spot=none:=by
      unfold nh at h;split at h
      ·rename_i e _ _;cases e;exact⟨_,rfl,rfl⟩
      ·rename_i e _ _;cases e;exact⟨_,rfl,rfl⟩
      ·rename_i e _ _;cases e;exact⟨_,rfl,rfl⟩
      ·rename_i e _ _;cases e;exact⟨_,rfl,rfl⟩
      ·rename_i e _ _;cases e;exact⟨_,rfl,rfl⟩
      ·exact bH h
     obtain⟨q,hq,hsp⟩:=hpp;obtain⟨w',hst,haft⟩:=GI h hs hw hpw (by cases wrap<;>exact hvw) hq hsp
     have hp1:=Mf _ hka q w;have hp2:=xN _ hkb ⟨E key,0,J⟩ w;have hd:=KD _ hwr w;have hl:=qE hkb ho h0;simp only at hp1 hp2 hd;have hflag:((k+128+256) / ReflectliteValue.flagAddr% 2==0)=false:=Xz _ hka;have hrun:(ReflectliteValue.set #[.agg #[wB a,.pointer (D q),.int .u64 (L (k+128+256))],.agg #[wB b,.pointer (D ⟨E key,0,J⟩),.int .u64 (L (k'+128))]]).run G w=.ok (.tuple #[]) w':=by
      rw[rls];simp only[S,hp1,hp2,Q,hflag,an,if_false,hl,hd];cases wrap with
      | false =>
        simp only[Bool.not_false,if_true]
        try simp only at hst
        rw[S,hst];rfl
      | true =>
        obtain⟨hi,hne⟩:=W1 _ hwr rfl w;have hkk:=HU _ hkb w;simp only at hi hkk;have h20:(k'==20)=false:=by simp only[beq_eq_false_iff_ne,ne_eq];intro e;subst e;exact hne hkb
        simp only[Bool.not_true,an,if_false,S,hi,Q,if_true,hkk,h20];simp only[SV.val] at hst;rw[hst];rfl
     rw[hx,hy];simp only[SV.vals,SV.val,hq];rw[fG (e:=ReflectliteValue.set) Tryz.func134 (by kernel_rfl) (by kernel_rfl) (by kernel_rfl) (by kernel_rfl) hrun];exact haft
    ·exact bH h
   ·exact bH h
  ·exact bH h
 ·exact bH h
theorem Iy:bq ry:=by intro args m nx K K' hK h;unfold ry at h ⊢;split at h;exact hK _ _ _ h;exact bH h
theorem zo:bq je:=by
 intro args m nx K K' hK h;unfold je at h ⊢;repeat' split at h
 all_goals first | exact bH h | (simp only[*];done) | (simp only[*];exact hK _ _ _ h)
theorem Qa:bq AP:=by
 intro args m nx K K' hK h;unfold AP at h ⊢;repeat' split at h
 all_goals first | exact bH h | (simp only[*];done) | (simp only[*];exact hK _ _ _ h)
theorem LU:bq uU:=by
 intro args m nx K K' hK h;unfold uU at h ⊢;repeat' split at h
 all_goals first | exact bH h | (simp only[*];done) | (simp only[*];exact hK _ _ _ h)
theorem Iw (tab:List (Nat×Nat×Bool)):bq (D2 tab):=by
 intro args m nx K K' hK h;unfold D2 at h ⊢;repeat' split at h
 all_goals first | exact bH h | (simp only[*,if_true];done) | (simp only[*,if_true];exact hK _ _ _ h)
theorem Qb:bq B6:=by
 intro args m nx K K' hK h;unfold B6 at h ⊢;repeat' split at h
 all_goals first | exact bH h | (simp only[*,if_true];done) | (simp only[*,if_true];exact hK _ _ _ h)
theorem F1:bq ot:=by
 intro args m nx K K' hK h;unfold ot at h ⊢;repeat' split at h
 all_goals first | exact bH h | (simp only[*];done) | (simp only[*];exact hK _ _ _ h)
theorem LW:bq vg:=by
 intro args m nx K K' hK h;unfold vg at h ⊢;repeat' split at h
 all_goals first | exact bH h | (simp only[*];done) | (simp only[*];exact hK _ _ _ h)
theorem LV:bq uV:=by
 intro args m nx K K' hK h;unfold uV at h ⊢;repeat' split at h
 all_goals first | exact bH h | (simp only[*];done) | (simp only[*];exact hK _ _ _ h)
theorem Ip {t:TypeId}{a x:Option SV}{K K':KL}(hK: ∀ v m nx,(K v m nx).holds->(K' v m nx).holds)(h:(nh P t a x m nx K).holds):(nh P t a x m nx K').holds:=by
 unfold nh at h ⊢;repeat' split at h
 all_goals first | exact bH h | exact hK _ _ _ h | exact⟨h.1,hK _ _ _ h.2⟩ | (simp only[*,if_true];done) | (simp only[*,if_true];exact hK _ _ _ h) | (simp only[*,if_true];exact⟨h.1,hK _ _ _ h.2⟩)
theorem UL:bq Jv:=by
 intro args m nx K K' hK h;unfold Jv at h ⊢;split at h
 ·split at h
  ·split at h
   ·split at h
    ·rename_i hn;simp only[*,and_self,if_true];exact Ip (λ_ _ _=>hK _ _ _) h
    ·exact bH h
   ·exact bH h
  ·exact bH h
 ·exact bH h
noncomputable def dW:List (FuncId×PT):=[(113,ry),(247,je),(235,AP),(248,uU),
 (249,La),(246,z6),(86,B6),(85,ot),
 (87,vg),(133,uV),(134,Jv)]
theorem cW:aQ G (λf=>ay f dW):=by
 unfold dW;apply aQ.cons
 ·exact Rh
 ·exact Iy
 apply aQ.cons
 ·exact Ch
 ·exact zo
 apply aQ.cons
 ·exact XV
 ·exact Qa
 apply aQ.cons
 ·exact Tn
 ·exact LU
 apply aQ.cons
 ·exact XN
 ·exact Iw _
 apply aQ.cons
 ·exact OT
 ·exact Iw _
 apply aQ.cons
 ·exact YJ
 ·exact Qb
 apply aQ.cons
 ·exact M3
 ·exact F1
 apply aQ.cons
 ·exact T2
 ·exact LW
 apply aQ.cons
 ·exact To
 ·exact LV
 apply aQ.cons
 ·exact abR
 ·exact UL
 exact aQ.nil
end
namespace Sx
open Go Go.RowKit Go.WideShapes Go.ChangeShapes
section
variable {H : Type} {enc : TypeId × Value -> H} {P : Program}
theorem Cq {f:Func}{s:ChangeSpec}{apart fresh handsOn again:Bool}{W':World}{args:Array Value}{v:Value}{ds gs:List (DataW H)}{before pa pv:List MemPlace}
  (hW:DataW.Whole enc P f.params.toList s.vars apart W args.toList ds gs before)
  (hres: ∀(b:Nat) (sp:Nat->Bool) (hd:Bool),V enc P W' b sp hd f.resultTypes.toList (v.resultList f.resultTypes.size) (s.fn H (ds++gs)).results [])
  (hargs: ∀ sp:Nat->Bool,(∀ p∈ before,sp p.block=A)->V enc P W' 0 sp A f.params.toList args.toList (s.fn H (ds++gs)).args pa)
  (hvars: ∀ sp:Nat->Bool,(∀ p∈ before,sp p.block=A)->DataW.TrodVars enc P W' sp s.vars (s.fn H (ds++gs)).vars pv)
  (hps:before=pa++pv) (hb:Below W.heap.size W W')
  (hok: ∀(j:Nat) (t:TypeId) (r:Value),f.resultTypes[j]?=D t->(v.resultList f.resultTypes.size)[j]?=D r->Value.okWide P W' .any 0 t r) :
  s.post enc P f apart fresh handsOn again W args v W':=by
 have hlt: ∀ p∈ before,p.block<W.heap.size:=λp hp=>hW.lt p hp;have hold: ∀ p∈ before,(λb=>decide (b<W.heap.size)) p.block=true:=λp hp=>by simpa using hlt p hp
 refine⟨ds,gs,before,[],pa,pv,hW,hres _ _ _,hargs _ hold,hvars _ hold,World.keptBut_mono (λp hp=>⟨hp,?_⟩) (hb.frame (· ∈ before)),λ_=> ?_⟩
 ·rw[hps,c6] at hp;exact Or.inr hp
 ·obtain⟨_,_,_,_,_,hz,hn⟩:=hW;refine⟨hok,_,_,([]++pa)++pv,⟨[]++pa,pv,trodAll_append (hargs _ (λ_ _=>rfl)) (hres _ _ _),hvars _ (λ_ _=>rfl),rfl,?_,?_⟩,?_⟩
  ·intro b off hp;have hin:MemPlace.cell b off∈ before:=by rw[hps];simpa using hp
   rw[hb.frozen (hlt _ hin)];exact hz b off hin
  ·intro ha;have:=hn ha;rw[hps] at this;simpa using this
  ·intro p hp _;rw[hps];simpa using hp
theorem s9 (hl:laidOutB P=A){W W':World}(hb:Below W.heap.size W W'){sp:Nat->Bool}: ∀ {ts:List TypeId} {vs:List Value} {ds:List (DataW H)} {ps:List MemPlace},
  (∀ t∈ ts,P.readableRec t=A/\t<P.types.size)->V enc P W 0 (λ_=>A) A ts vs ds ps->(∀ x∈ ps,x.block<W.heap.size)->(∀ x∈ ps,sp x.block=A)->V enc P W' 0 sp A ts vs ds ps
 | [],[],[],ps,_,h,_,_=>h
 | t::ts,v::vs,d::ds,ps,ht,h,hlt,hsp=>by obtain⟨p,q,h1,h2,rfl⟩:=h;refine⟨p,q,?_,s9 hl hb (λt h=>ht t (bl _ h)) h2 (λx hx=>hlt x (by simp[hx])) (λx hx=>hsp x (by simp[hx])),rfl⟩;exact WideElems.Trod_stays hl (ht t (c_ ..)).1 (ht t (c_ ..)).2 h1 (λx hx=>hb.same (hlt x (by simp[hx]))) (λx hx=>hsp x (by simp[hx]))
theorem y6 {W:World}{b:Nat}{sp:Nat->Bool}{hd:Bool}: ∀ {ts:List TypeId} {vs:List Value} {ds:List (DataW H)} {ps:List MemPlace},V enc P W b sp hd ts vs ds ps->ds.length=ts.length/\vs.length=ts.length
 | [],[],[],_,_=>⟨rfl,rfl⟩
 | _::_,_::_,_::_,_,h=>by obtain⟨p,q,_,h2,_⟩:=h;have:=y6 h2;simp[this.1,this.2]
 | [],[],_::_,_,h=>h.elim
 | [],_::_,_,_,h=>h.elim
 | _::_,[],_,_,h=>h.elim
 | _::_,_::_,[],_,h=>h.elim
end
theorem ac8 {base:Nat}{t e:TypeId}{v:Value}{H:Type}{enc:TypeId×Value->H}{d:DataW H}{ps:List MemPlace}(ht:P.underlying t=D (.slice e))
  (hval:Value.okWide P W .any base t v) (hd:DataW.Trod enc P W 0 (λ_=>A) A t v d ps) :
  ∃(z:Bool) (b o n c:Nat),v=(SV.aS 0 (P.cellsOf e) z o 0 n c).val (λ_=>b)/\n<=maxLen/\((z&&Nat.beq n 0)=C->∃ cs ty fr,W.heap[b]?=D (.cells cs ty fr) /\
   ∀ i,i<n->∃(xs:List Value) (y:DataW H×List MemPlace) (m:Nat),xs.length=P.cellsOf e/\(∀ k,k<P.cellsOf e->cs[o+i*P.cellsOf e+k]?=xs[k]?)/\bn enc P W 0 (λ_=>A) A m e xs=D y):=by
 obtain⟨a0,n,c,rfl⟩:=okWide_slice ht hval;obtain⟨fuel,hf⟩:=hd;rcases DataW.trod_slice ht hf with ⟨h0,_⟩ | ⟨a,len,cap,elems,rest,m,_,hcs,_,hb,hlc,hmax,hlen,hel,_,_⟩
 ·simp only[Value.cells] at h0;have h1:a0=J/\n=0/\c=0:=by simpa using h0
  obtain⟨rfl,rfl,rfl⟩:=h1;exact⟨A,0,0,0,0,rfl,Nat.zero_le _,λh=>by cases h⟩
 ·simp only[Value.cells] at hcs;have h1:a0=D a/\n=len/\c=cap:=by simpa using hcs
  obtain⟨rfl,rfl,rfl⟩:=h1;have hhas:W.has P .any base a e c:=by simp only[Value.okWide,ht,Cell.okWide,Cell.ok] at hval;exact hval.2.2
  obtain⟨_,hspot,row,cells,hshape,_⟩:=hhas;obtain⟨ny,off,spot⟩:=a;simp only at hspot;subst hspot;have hcells: ∃ cs ty fr,W.heap[ny]?=D (.cells cs ty fr):=by
   unfold World.shape? at hshape;split at hshape
   ·rename_i cs ty fr h;exact⟨cs,ty,fr,h⟩
   ·cases hshape
  obtain⟨cs,ty,fr,hblk⟩:=hcells;refine⟨C,ny,off,n,c,by simp[SV.val],Nat.le_trans hlc hmax,λ_=>⟨cs,ty,fr,hblk,λi hi=> ?_⟩⟩;have h2:=hel i hi;rw[a! (by omega)] at h2;obtain⟨xs,hxs,hy⟩:=Option.bind_eq_some_iff.1 h2;obtain⟨_,hl2,hget⟩:=World.cells?_some hxs;refine⟨xs,_,m,hl2,λk hk=> ?_,hy⟩;have:=hget k hk;rw[← this,cQ,cQ,cell_of hblk]
def Ox (cs:Array Value)(j:Nat):e_:=match cs[j]? with
 | some (.string s)=>s.data.toList
 | _=>[]
theorem Cz {H:Type}{enc:TypeId×Value->H}{m:Nat}{t:TypeId}{x:Value}{y:DataW H×List MemPlace}(ht:P.underlying t=D .string)(h:bn enc P W 0 (λ_=>A) A m t [x]=D y)
  {cs:Array Value} {j:Nat} (hc:cs[j]?=D x):cs[j]?=D ((SV.str C (Ox cs j)).val (λ_=>0))/\(Ox cs j).length<=maxLen:=by
 obtain⟨s,hx,_,hw⟩:=DataW.trod_string ht h;cases hx;unfold Ox;rw[hc];refine⟨by simp[SV.val],?_⟩;have he:s.data.toList.length=s.size:=Array.length_toList;show s.data.toList.length<=maxLen;rw[he];exact hw
end Sx
section
open Go Sx
set_option maxRecDepth 20000
theorem bz:G.follows .mixedOrders=true:=by kernel_rfl
theorem UM:(G.funcs.all λfn=>!(fn.name== "runtime.NumGoroutine"))=true:=by kernel_rfl
theorem aU (f:FuncId)(fn:Func)(h:G.funcs[f]?=D fn):G.funcs[f]?=D fn/\(fn.name== "runtime.NumGoroutine")=false:=by refine⟨h,?_⟩;have:=Array.all_eq_true'.1 UM fn (Array.mem_of_getElem? h);simpa using this
noncomputable def bE:dK:={cm:=λf=>ay f dW,fns:=λf=>G.funcs[f]?,bh:=λ_=>[],rounds:=100}
theorem fZ:Sx.Good G bE:=.of bz cW aU
end
namespace Sx
open Go
def GN:SV->SV
 | .int k _ n=>.int k C n
 | .bool _ b=>.bool C b
 | .str _ s=>.str C s
 | v=>v
def y8:SV->SV
 | .agg cs=>.agg (cs.map GN)
 | v=>GN v
theorem MX (E:Nat->Nat)(v:SV):(GN v).val E=v.val E:=by cases v<;>rfl
theorem y9 (E:Nat->Nat): ∀ l:List SV,SV.vals E (l.map GN)=SV.vals E l
 | []=>rfl
 | v::r=>by simp only[c5,SV.vals,MX,y9 E r]
theorem Ei (E:Nat->Nat)(v:SV):(y8 v).val E=v.val E:=by cases v<;>first | rfl | simp only[y8,SV.val,y9]
theorem jR (E:Nat->Nat): ∀ l:List SV,SV.vals E (l.map y8)=SV.vals E l
 | []=>rfl
 | v::r=>by simp only[c5,SV.vals,Ei,jR E r]
noncomputable def aM (spec:List SV->Option (Prop×SV)):PT:=λargs m nx K=>match spec (args.map y8)with
 | some (p,r)=>.and (.atom p) (K r m nx)
 | none=>.fail "arguments that nothing is said of"
def aa (v r:SV):Prop:=∀ E,v.val E=r.val E
def svA (v r:SV):VC:=.eqv (aa v r) (aa v v) (λ_=>rfl)
theorem aG (spec:List SV->Option (Prop×SV)):bq (aM spec):=by
 intro args m nx K K' hK h;unfold aM at h ⊢;split at h
 ·exact⟨h.1,hK _ _ _ h.2⟩
 ·exact h
theorem dL {cfg:dK}(hg:Good P cfg)(hf:P.funcs[f]?=D fn) (hn:(fn.name== "runtime.NumGoroutine")=C) (hb:fn.body.isSome=A) {n:Nat} {spec:List SV->Option (Prop×SV)}
  (h: ∀ args p r,spec args=D (p,r)->p->SV.e9 0 args=A/\r.wf 0=A/\av (fL P (calling P cfg n) [] zq (cfg.bh f) cfg.rounds fn args [] 0 (λv _ _=>.atom (aa v r)))):ax P f (aM spec):=by
 intro args m nx K hk hwf hargs Γ E w hs;unfold aM at hk;split at hk
 ·rename_i p r hr;obtain⟨hp,hk⟩:=hk;obtain⟨h1,h2,h3⟩:=h _ _ _ hr hp;have hc:=dS hg hf hn hb h3 rfl h1 (aO.none w hs.Az);rw[SV.lN h1 (λ_=>0) E,jR] at hc;refine eF hf hn hb (hc.mono ?_);rintro e w' ⟨v,rfl,E',sv,m',nx',_,_,g3,g4,g5⟩;refine⟨v,rfl,?_⟩;cases sv with
  | none=>exact g5.elim
  | some u =>have hu:aa u r:=g5;refine⟨E,D r,m,nx,λ_ _=>rfl,Nat.le_refl _,λx hx=> ?_,hs.still g4.ext,hk⟩;cases hx;rw[g3 u rfl,hu E',SV.wq h2 E' E]
 ·exact hk.elim
end Sx
section
open Go Sx
set_option maxRecDepth 20000
noncomputable def aal:dK:={bE with rounds:=9}
theorem acX:Sx.Good G aal:=.of bz cW aU
def uE:Nat->Int->e_
 | 0,_=>[]
 | k+1,n=>if 0<n then uE k (n / 256)++[I (n% 256).toNat] else []
def digits (n:Int):e_:=uE 8 n
noncomputable def cA (cfg:dK)(f:Nat)(fn:Func)(args:List SV)(R:SV->Prop):VC:=fL G (calling G cfg 20) [] zq (cfg.bh f) cfg.rounds fn args [] 0 (λv _ _=>.atom (R v))
theorem V7 (n:Int)(R:SV->Prop):VC.holds (cA aal 117 aK [.int .u64 C n] R)=((Fk (0<n) (∀(a:Nat),1<=a->Fk (0<n / 256) (a*1=a*1/\∀(b:Nat),2<=b->Fk (0<n / 256 / (256:Int)) (b*1=b*1/\∀(c:Nat),3<=c->Fk (0<n / 256 / (256:Int) / (256:Int)) (c*1=c*1/\∀(d:Nat),4<=d->Fk (0<n / 256 / (256:Int) / (256:Int) / (256:Int)) (d*1=d*1/\∀(e:Nat),5<=e->Fk (0<n / 256 / (256:Int) / (256:Int) / (256:Int) / (256:Int)) (e*1=e*1/\∀(f:Nat),6<=f->Fk (0<n / 256 / (256:Int) / (256:Int) / (256:Int) / (256:Int) / (256:Int)) (f*1=f*1/\∀(u2:Nat),7<=u2->Fk (0<n / 256 / (256:Int) / (256:Int) / (256:Int) / (256:Int) / (256:Int) / (256:Int)) (u2*1=u2*1/\∀(g:Nat),8<=g->Fk (0<n / 256 / (256:Int) / (256:Int) / (256:Int) / (256:Int) / (256:Int) / (256:Int) / (256:Int)) (g*1=g*1/\∀(h:Nat),9<=h->False) (R (SV.str (C&&(C&&(C&&(C&&(C&&(C&&(C&&(C&&A)))))))) [I (n / 256 / (256:Int) / (256:Int) / (256:Int) / (256:Int) / (256:Int) / (256:Int)% (256:Int)).toNat,I (n / 256 / (256:Int) / (256:Int) / (256:Int) / (256:Int) / (256:Int)% (256:Int)).toNat,I (n / 256 / (256:Int) / (256:Int) / (256:Int) / (256:Int)% (256:Int)).toNat,I (n / 256 / (256:Int) / (256:Int) / (256:Int)% (256:Int)).toNat,I (n / 256 / (256:Int) / (256:Int)% (256:Int)).toNat,I (n / 256 / (256:Int)% (256:Int)).toNat,I (n / 256% (256:Int)).toNat,I (n% 256).toNat]))) (R (SV.str (C&&(C&&(C&&(C&&(C&&(C&&(C&&A))))))) [I (n / 256 / (256:Int) / (256:Int) / (256:Int) / (256:Int) / (256:Int)% (256:Int)).toNat,I (n / 256 / (256:Int) / (256:Int) / (256:Int) / (256:Int)% (256:Int)).toNat,I (n / 256 / (256:Int) / (256:Int) / (256:Int)% (256:Int)).toNat,I (n / 256 / (256:Int) / (256:Int)% (256:Int)).toNat,I (n / 256 / (256:Int)% (256:Int)).toNat,I (n / 256% (256:Int)).toNat,I (n% 256).toNat]))) (R (SV.str (C&&(C&&(C&&(C&&(C&&(C&&A)))))) [I (n / 256 / (256:Int) / (256:Int) / (256:Int) / (256:Int)% (256:Int)).toNat,I (n / 256 / (256:Int) / (256:Int) / (256:Int)% (256:Int)).toNat,I (n / 256 / (256:Int) / (256:Int)% (256:Int)).toNat,I (n / 256 / (256:Int)% (256:Int)).toNat,I (n / 256% (256:Int)).toNat,I (n% 256).toNat]))) (R (SV.str (C&&(C&&(C&&(C&&(C&&A))))) [I (n / 256 / (256:Int) / (256:Int) / (256:Int)% (256:Int)).toNat,I (n / 256 / (256:Int) / (256:Int)% (256:Int)).toNat,I (n / 256 / (256:Int)% (256:Int)).toNat,I (n / 256% (256:Int)).toNat,I (n% 256).toNat]))) (R (SV.str (C&&(C&&(C&&(C&&A)))) [I (n / 256 / (256:Int) / (256:Int)% (256:Int)).toNat,I (n / 256 / (256:Int)% (256:Int)).toNat,I (n / 256% (256:Int)).toNat,I (n% 256).toNat]))) (R (SV.str (C&&(C&&(C&&A))) [I (n / 256 / (256:Int)% (256:Int)).toNat,I (n / 256% (256:Int)).toNat,I (n% 256).toNat]))) (R (SV.str (C&&(C&&A)) [I (n / 256% (256:Int)).toNat,I (n% 256).toNat]))) (R (SV.str (C&&A) [I (n% 256).toNat]))) (R (SV.str A [])))):=by kernel_rfl
theorem cv {l:Bool}{a b:e_}(h:a=b):aa (.str l a) (.str C b):=λE=>by subst h;rfl
theorem Tk (h:O (0<n)=C):uE k n=[]:=by
 have: ¬ (0<n):=by simpa using h
 cases k with
 | zero=>rfl
 | succ k=>simp[uE,this]
theorem Tj (h:O (0<n)=A):uE (k+1) n=uE k (n / 256)++[I (n% 256).toNat]:=by
 have:0<n:=by simpa using h
 simp[uE,this]
theorem EW (h0:0<=n)(h1:n<18446744073709551616):av (cA aal 117 aK [.int .u64 C n] (λv=>aa v (.str C (digits n)))):=by
 refine av.gV (V7 n _) (by delta Fk;exact rfl) ?_;unfold digits
 repeat' first
  | apply And.intro
  | intro (_:_=_)
  | intro (c:Nat)
  | intro (_:_<=_)
 all_goals first
  | rfl
  | (apply cv;simp only[Tj,Tk, *,List.nil_append,c4])
  | (exfalso;simp only[decide_eq_true_eq] at *;omega)
noncomputable def lS:List SV->Option (Prop×SV)
 | [.int .u64 C n]=>D (0<=n/\n<18446744073709551616,.str C (digits n))
 | _=>J
noncomputable def Hr:PT:=aM lS
theorem O5:ax G 117 Hr:=by
 refine dL acX (n:=20) (fn:=aK) Tryz.func117 (by kernel_rfl) (by kernel_rfl) ?_;intro args p r h hp;unfold lS at h;split at h
 ·rename_i n;cases h;exact⟨rfl,rfl,EW hp.1 hp.2⟩
 ·cases h
noncomputable def Ud:List (FuncId×PT):=(117,Hr)::dW
theorem H9:aQ G (λf=>ay f Ud):=.cons O5 (aG _) cW
noncomputable def adK:dK:={bE with cm:=λf=>ay f Ud}
end
namespace Sx
open Go
inductive cN:Type 1 where
 | ret (v:SV)
 | new (v:Nat->SV) (B:SB)
 | all (α:Type) (f:α->cN)
 | req (p:Prop) (a:cN)
 | fork (b:Bool) (f:Bool->cN)
def cN.vc (m:Mem)(nx:Nat)(K:SV->Mem->Nat->VC):cN->VC
 | .ret v=>K v m nx
 | .new v B=>K (v nx) ((nx,B)::m) (nx+1)
 | .all α f=>.all α λx=>(f x).vc m nx K
 | .req p a=>.imp p (a.vc m nx K)
 | .fork b f=>Sx.fork b λb=>(f b).vc m nx K
def cN.Ok:cN->Prop
 | .ret v=>v.wf 0=A
 | .new v B=>B.wf 0=A/\B.ro=C/\(∀ k,(v k).wf (k+1)=A)/\∀(E E':Nat->Nat) k k',(B.no=C->E k=E' k')->(v k).val E=(v k').val E'
 | .all _α f=>∀ x,(f x).Ok
 | .req _ a=>a.Ok
 | .fork _ f=>∀ b,(f b).Ok
mutual
def SV.key:SV->Option Nat
 | .ptr k _ _=>D k
 | .slc k _ _ _ _=>D k
 | .bx k _ _ _ _ _=>D k
 | .aD vs=>SV.keys vs
 | .agg vs=>SV.keys vs
 | .iface _ v=>v.key
 | _=>J
def SV.keys:List SV->Option Nat
 | []=>J
 | v::r=>match v.key with
   | some k=>D k
   | none=>SV.keys r
end
def cN.fit (v:SV)(m:Mem):cN->VC
 | .ret r=>.atom (aa v r)
 | .new r B=>(match v.key with
   | some k=>(match m.get k with
     | some X=>.and (leA X B) (svA v (r k))
     | none=>.fail "no block")
   | none=>.fail "no key")
 | .all α f=>.ex α λx=>(f x).fit v m
 | .req p a=>.and (.atom p) (a.fit v m)
 | .fork b f=>Sx.fork b λb=>(f b).fit v m
noncomputable def bw (spec:List SV->Option (Prop×cN)):PT:=λargs m nx K=>match spec (args.map y8)with
 | some (p,a)=>.and (.atom p) (a.vc m nx K)
 | none=>.fail "arguments that nothing is said of"
theorem cN.pJ {K':SV->Mem->Nat->VC}(hK: ∀ v m nx,(K v m nx).holds->(K' v m nx).holds): ∀ {a:cN},(a.vc m nx K).holds->(a.vc m nx K').holds
 | .ret _,h=>hK _ _ _ h
 | .new _ _,h=>hK _ _ _ h
 | .all _ _,h=>λx=>cN.pJ hK (h x)
 | .req _ _,h=>λx=>cN.pJ hK (h x)
 | .fork _ _,h=>c9.2 (cN.pJ hK (c9.1 h))
theorem aZ (spec:List SV->Option (Prop×cN)):bq (bw spec):=by
 intro args m nx K K' hK h;unfold bw at h ⊢;split at h
 ·exact⟨h.1,cN.pJ hK h.2⟩
 ·exact h
theorem bS.le {E:Nat->Nat}{X B:SB}{o:Obj}(h:ah X B)(hn:B.no=C)(hb:bS E X o):bS E B o:=(h.old hn).2.1 E o hb
theorem aO.new {Γ E m nx w}(h:aO Γ E m nx w)(hw:Mem.wf nx m=A){E1:Nat->Nat}{m1:Mem}{nx1:Nat}
  {gl gm} (h1:aO (bg.at w (λ_=>False) gl gm) E1 m1 nx1 w') {j:Nat} {X B:SB} (hX:m1.get j=D X) (hle:ah X B) (hw2:B.wf 0=A) (hr2:B.ro=C) :
  ∃ E',(∀ i,i<nx->E' i=E i)/\(B.no=C->E' nx=E1 j)/\aO Γ E' ((nx,B)::m) (nx+1) w':=by
 have hf:=h.still h1.ext;have hge: ∀ a,B.iz (E1 j) a->w.heap.size<=a:=λa ha=>by obtain⟨g1,_,g3⟩:=hle.2 _ a ha;exact(h1.iM j X a hX g1 (g3 hr2)).elim False.elim id
 refine⟨λi=>if i=nx then E1 j else E i,λi hi=>by simp[Nat.ne_of_lt hi],λ_=>by simp,?_⟩
 refine hf.Va hw (λ_ _ h=>h) (λa ha=>⟨?_,λ_=>.inr (Nat.le_trans h.ext.size (hge a ha)),λi X hi hX=> ?_⟩) (λ_ _ _ _ _=>rfl) hf.ext (λ_ _=>rfl)
 ·obtain⟨g1,g2,_⟩:=hle.2 _ a ha;obtain⟨o,ho,hb⟩:=h1.gD j X a hX g1;exact⟨o,ho,(g2 E1 o hb).pure (SB.Hu hw2 a)⟩
 ·have:=hge a ha;have:=h.W7 hi hX;omega
theorem cN.told {Γ E m nx w}(h:aO Γ E m nx w)(hw:Mem.wf nx m=A){E1:Nat->Nat}{m1:Mem}{nx1:Nat}
  {gl gm} (h1:aO (bg.at w (λ_=>False) gl gm) E1 m1 nx1 w')  : ∀ {a:cN},a.Ok->(a.fit v m1).holds->(a.vc m nx K).holds->bF (lift K) Γ E nx (v.val E1) w'
 | .ret r,hO,hf,hK=>⟨E,D r,m,nx,λ_ _=>rfl,Nat.le_refl _,λx hx=>by cases hx;have hf:aa v r:=hf;rw[hf E1];exact SV.wq hO E1 E,h.still h1.ext,hK⟩
 | .new r B,hO,hf,hK=>by
   obtain⟨o1,o2,o3,o4⟩:=hO;simp only[cN.fit] at hf;split at hf
   ·rename_i k hk;split at hf
    ·rename_i X hX;obtain⟨f1,f2⟩:=hf;have f1:ah X B:=f1;have f2:aa v (r k):=f2;obtain⟨E',e1,e2,e3⟩:=aO.new h hw h1 hX f1 o1 o2;refine⟨E',D (r nx),_,nx+1,e1,Nat.le_succ _,λx hx=> ?_,e3,hK⟩;cases hx;rw[f2 E1];exact o4 E1 E' k nx λhb=>(e2 hb).symm
    ·exact hf.elim
   ·exact hf.elim
 | .all _ f,hO,⟨x,hx⟩,hK=>cN.told h hw h1 (hO x) hx (hK x)
 | .req _ a,hO,hf,hK=>cN.told (a:=a) h hw h1 hO hf.2 (hK hf.1)
 | .fork _ _,hO,hf,hK=>cN.told h hw h1 (hO _) (c9.1 hf) (c9.1 hK)
theorem cn (hf:P.funcs[f]?=D fn) (hn:(fn.name== "runtime.NumGoroutine")=C) (hb:fn.body.isSome=A) {n:Nat} {spec:List SV->Option (Prop×cN)}
  (h: ∀ args p a,spec args=D (p,a)->p->∃ cfg,Good P cfg/\SV.e9 0 args=A/\a.Ok/\av (fL P (calling P cfg n) [] zq (cfg.bh f) cfg.rounds fn args [] 0 (λv m _=>a.fit v m))):ax P f (bw spec):=by
 intro args m nx K hk hwf hargs Γ E w hs;unfold bw at hk;split at hk
 ·rename_i p a hr;obtain⟨hp,hk⟩:=hk;obtain⟨cfg,hg,h1,h2,h3⟩:=h _ _ _ hr hp;have hc:=dS hg hf hn hb h3 rfl h1 (aO.none w hs.Az);rw[SV.lN h1 (λ_=>0) E,jR] at hc;refine eF hf hn hb (hc.mono ?_);rintro e w' ⟨v,rfl,E',sv,m',nx',_,_,g3,g4,g5⟩;refine⟨v,rfl,?_⟩;cases sv with
  | none=>exact g5.elim
  | some u=>rw[g3 u rfl];exact cN.told hs hwf g4 h2 g5 hk
 ·exact hk.elim
theorem SV.ew : ∀ {a b:List SV},SV.e9 nx a=A->SV.e9 nx b=A->SV.e9 nx (a++b)=A
 | [],_,_,h=>h
 | x::a,b,h,h'=>by simp only[SV.e9,ag] at h;simp only[c4,SV.e9,ag];exact⟨h.1,SV.ew h.2 h'⟩
end Sx
section
open Go Sx
set_option maxRecDepth 20000
def num (l:e_):Int:=l.foldl (λa b=>a*256+(b.toNat:Int)) 0
def part (s:e_)(i:Int):Int:=num ((s.drop 1).take (i - 1).toNat)
def nP (s:e_)(to:Int):Bool:=O (to<=s.length)&& !decide (ai s 1=0)&&O (part s to<=1048576)&&O (55<part s to)
noncomputable def aab (s:e_)(to:Int):aX :={α:=Int,pre:=λ_ i=>1<=i/\i<=to/\part s i<=1048576,jx:=λ_ i=>(to - i).toNat,fresh:=0,slots:=λ_ i=>[(6,.int .i64 C (part s i)),(7,.int .i64 C i)],mem:=λ_ _=>[]}
noncomputable def aao (s:e_)(to:Int):dK:={adK with bh:=λf=>if f=216 then [(7,always (aab s to))] else []}
noncomputable def dB (cfg:dK)(f:Nat)(fn:Func)(args:List SV)(a:cN):VC:=fL G (calling G cfg 20) [] zq (cfg.bh f) cfg.rounds fn args [] 0 (λv m _=>a.fit v m)
def KR (z:List SV):cN:=.all Int λat'=>.new (λk=>.aD (z++[.iface 290 (.ptr k A 0)])) (.cells [.int .i64 C at',.iface 30 (.int .i64 A 2)] 2 292)
def FH (s:e_)(to:Int):cN:=.fork (nP s to) λb=>match b with
 | true=>.ret (.aD [.int .i64 C (part s to),.aA])
 | false=>KR [.int .i64 A 0]
theorem We (s:e_)(to:Int):VC.holds (dB (aao s to) 216 a_ [.str C s,.int .i64 C to] (FH s to))=((Fk ((s.length:Int)<to) (Bk (nP s to) (aa (SV.aD [SV.int .i64 A 0,SV.iface 290 (SV.ptr 0 A 0)]) (SV.aD [SV.int .i64 C (part s to),SV.aA])) (∃(c:Int),ah (SB.cells [SV.int .i64 C (s.length:Int),SV.iface 30 (SV.int .i64 A 2)] 2 292) (SB.cells [SV.int .i64 C c,SV.iface 30 (SV.int .i64 A 2)] 2 292)/\aa (SV.aD [SV.int .i64 A 0,SV.iface 290 (SV.ptr 0 A 0)]) (SV.aD ([SV.int .i64 A 0]++[SV.iface 290 (SV.ptr 0 A 0)])))) (((0:Int)<=(1:Int)/\1<(s.length:Int))/\Fk (ai s 1=0) (Bk (nP s to) (aa (SV.aD [SV.int .i64 A 0,SV.iface 290 (SV.ptr 0 A 0)]) (SV.aD [SV.int .i64 C (part s to),SV.aA])) (∃(d:Int),ah (SB.cells [SV.int .i64 A 1,SV.iface 30 (SV.int .i64 A 2)] 2 292) (SB.cells [SV.int .i64 C d,SV.iface 30 (SV.int .i64 A 2)] 2 292)/\aa (SV.aD [SV.int .i64 A 0,SV.iface 290 (SV.ptr 0 A 0)]) (SV.aD ([SV.int .i64 A 0]++[SV.iface 290 (SV.ptr 0 A 0)])))) ((∃(b:Int),(1<=b /\b<=to/\part s b<=1048576)/\0=part s b/\1=b/\True)/\∀(a:Int),1<=a/\a<=to/\part s a<=1048576->Fk (a<to) (I6 (part s a*256)/\(0<=a/\a<(s.length:Int))/\((-9223372036854775808:Int)<=ai s a/\ai s a<=9223372036854775807)/\(0<=part s a*256/\part s a*256<=(9223372036854775807:Int)/\0<=ai s a/\ai s a<=9223372036854775807)/\Fk (1048576<bitsOf BinOp.or (part s a*256) (ai s a)) (Bk (nP s to) (aa (SV.aD [SV.int .i64 A 0,SV.iface 290 (SV.ptr ((0:Nat)) A 0)]) (SV.aD [SV.int .i64 C (part s to),SV.aA])) (∃(e:Int),ah (SB.cells [SV.int .i64 C a,SV.iface 30 (SV.int .i64 A 2)] 2 292) (SB.cells [SV.int .i64 C e,SV.iface 30 (SV.int .i64 A 2)] 2 292)/\aa (SV.aD [SV.int .i64 A 0,SV.iface 290 (SV.ptr ((0:Nat)) A 0)]) (SV.aD ([SV.int .i64 A 0]++[SV.iface 290 (SV.ptr ((0:Nat)) A 0)])))) (I6 (a+1)/\∃(u2:Int),((1<=u2/\u2<=to/\part s u2<=1048576)/\(to - u2).toNat<(to - a).toNat)/\bitsOf BinOp.or (part s a*256) (ai s a)=part s u2/\a+1=u2/\True)) (Fk (part s a<=55) (Bk (nP s to) (aa (SV.aD [SV.int .i64 A 0,SV.iface 290 (SV.ptr ((0:Nat)) A 0)]) (SV.aD [SV.int .i64 C (part s to),SV.aA])) (∃(f:Int),ah (SB.cells [SV.int .i64 A 1,SV.iface 30 (SV.int .i64 A 2)] 2 292) (SB.cells [SV.int .i64 C f,SV.iface 30 (SV.int .i64 A 2)] 2 292)/\aa (SV.aD [SV.int .i64 A 0,SV.iface 290 (SV.ptr ((0:Nat)) A 0)]) (SV.aD ([SV.int .i64 A 0]++[SV.iface 290 (SV.ptr ((0:Nat)) A 0)])))) (Bk (nP s to) (aa (SV.aD [SV.int .i64 C (part s a),SV.aA]) (SV.aD [SV.int .i64 C (part s to),SV.aA])) (∃(_:Int),False))))))):=by kernel_rfl
theorem cg (s:e_)(i:Int):0<=ai s i/\ai s i<256:=by unfold ai;have:=(s.getD i.toNat 0).toNat_lt;omega
theorem nX (l:e_)(b:UInt8):num (l++[b])=num l*256+(b.toNat:Int):=by simp[num]
theorem IV (s:e_):part s 1=0:=by simp[part,num]
theorem DV {x:Int}(h:1<=x)(h2:x<s.length):part s (x+1)=part s x*256+ai s x:=by
 unfold part;have e:(x+1 - 1).toNat=(x - 1).toNat+1:=by omega
 have hx:(x - 1).toNat<(s.drop 1).length:=by simp;omega
 rw[e,List.take_add_one,a! hx];simp only[Option.toList,nX];have e2:ai s x=((s.drop 1)[(x - 1).toNat].toNat:Int):=by
  have:1+(x - 1).toNat=x.toNat:=by omega
  unfold ai;rw[List.getElem_drop,List.getD_eq_getElem?_getD,a! (by omega)];simp only[Option.getD_some,this]
 rw[e2]
theorem oY (s:e_)(x:Int):0<=part s x:=by
 unfold part num;suffices ∀(l:e_) (a:Int),0<=a->0<=l.foldl (λa b=>a*256+(b.toNat:Int)) a from this _ _ (Int.le_refl _)
 intro l;induction l with
 | nil=>exact λ_ h=>h
 | cons b r ih=>intro a h;exact ih _ (show 0<=a*256+(b.toNat:Int)by omega)
theorem DU {s:e_}{x:Int}(h:1<=x): ∀(n:Nat),x+n<=s.length->part s x<=part s (x+n)
 | 0,_=>by simp
 | n+1,hn=>by
   have h1:=DU (s:=s) h n (by omega);have h2:=DV (s:=s) (x:=x+n) (by omega) (by omega);have h3:=cg s (x+n);have h4:=oY s (x+n);have:x+((n+1:Nat):Int)=x+n+1:=by omega
   rw[this,h2];omega
theorem Ye {x y:Int}(h:1<=x)(hy:y<=s.length)(hxy:x<=y):part s x<=part s y:=by
 have:=DU (s:=s) h (y - x).toNat (by omega)
 rwa [show x+((y - x).toNat:Int)=y by omega] at this
theorem U2 {a b:Int}(ha:0<=a)(hb:0<=b)(hb2:b<256):bitsOf .or (a*256) b=a*256+b:=by
 obtain⟨a,rfl⟩:=cL ha;obtain⟨b,rfl⟩:=cL hb;have:((a:Int)*256)=((a*256:Nat):Int):=by omega
 rw[this];show((((a*256:Nat):Int).toNat ||| (b:Int).toNat:Nat):Int)=_;simp only[Int.toNat_natCast];have:=Nat.two_pow_add_eq_or_of_lt (i:=8) (b:=b) (by omega) a;rw[show(2:Nat)^8=256 from rfl,Nat.mul_comm] at this
 omega
theorem gH {to:Int}:nP s to=A↔to<=s.length/\ai s 1≠0/\part s to<=1048576/\55<part s to:=by simp[nP,and_assoc]
theorem FI {to:Int}(h2:2<=to)(h3:to<100):av (dB (aao s to) 216 a_ [.str C s,.int .i64 C to] (FH s to)):=by
 refine av.gV (We s to) (by delta Bk Fk;exact rfl) ?_;have F: ∀ {p:Prop},¬ (to<=s.length/\ai s 1≠0/\part s to<=1048576/\55<part s to)->nP s to=A->p:=λh e=>absurd (gH.1 e) h;refine⟨λa=>⟨F (by simp at a;omega),λ_=>by(first | exact⟨_,ah.cells (λ_=>rfl) rfl,λ_=>rfl⟩ | exact λ_=>rfl | trivial)⟩,λa=> ?_⟩
 simp only[decide_eq_false_iff_not,Int.not_lt] at a;refine⟨by omega,λb=>⟨F (by simp at b;simp[b]),λ_=>by(first | exact⟨_,ah.cells (λ_=>rfl) rfl,λ_=>rfl⟩ | exact λ_=>rfl | trivial)⟩,λb=> ?_⟩
 simp only[decide_eq_false_iff_not] at b;refine⟨⟨1,⟨by omega,by omega,by rw[IV];decide⟩,(IV s).symm,rfl,trivial⟩,λx ⟨hx1,hx2,hx3⟩=> ?_⟩;have g1:=oY s x;have g2:=cg s x;rw[U2 g1 g2.1 g2.2];refine⟨λc=> ?_,λc=> ?_⟩
 ·simp only[decide_eq_true_eq] at c;have g3:=DV (s:=s) hx1 (by omega);rw[← g3];refine⟨by omega,by omega,by omega,by omega,λd=>⟨F ?_,λ_=>by(first | exact⟨_,ah.cells (λ_=>rfl) rfl,λ_=>rfl⟩ | exact λ_=>rfl | trivial)⟩,λd=>⟨by omega,x+1,⟨⟨by omega,by omega,by simpa using d⟩,by omega⟩,rfl,rfl,trivial⟩⟩
  simp only[decide_eq_true_eq] at d;have:=Ye (s:=s) (x:=x+1) (by omega) a (by omega);omega
 ·simp only[decide_eq_false_iff_not] at c;obtain rfl:x=to:=by omega
  refine⟨λd=>⟨F (by simp at d;omega),λ_=>by(first | exact⟨_,ah.cells (λ_=>rfl) rfl,λ_=>rfl⟩ | exact λ_=>rfl | trivial)⟩,λd=>⟨λ_=>by(first | exact⟨_,ah.cells (λ_=>rfl) rfl,λ_=>rfl⟩ | exact λ_=>rfl | trivial),λe=> ?_⟩⟩
  simp only[decide_eq_false_iff_not] at d;rw[gH.2 ⟨a,b,hx3,by omega⟩] at e;cases e
def AY:List SV->Option (Prop×cN)
 | [.str C s,.int .i64 C to]=>D (2<=to/\to<100,FH s to)
 | _=>J
noncomputable def H8:PT:=bw AY
theorem ac0 (s:e_)(to:Int):Sx.Good G (aao s to):=.of bz H9 aU
theorem CW {z:List SV}(hz:SV.e9 0 z=A):(KR z).Ok:=by
 intro x;refine⟨rfl,rfl,λk=>SV.ew (SV.iE (Nat.zero_le _) z hz) ?_,λE E' k k' h=> ?_⟩
 ·simp[SV.e9,SV.wf,Nat.blt_eq]
 ·have hk:E k=E' k':=h rfl;have hv:=SV.lN hz E E';simp only[SV.bP] at hv;simp[SV.val,SV.bP,hk,hv]
theorem Px:ax G 216 H8:=by
 refine cn (n:=20) (fn:=a_) Tryz.func216 (by kernel_rfl) (by kernel_rfl) ?_;intro args p a h hp;unfold AY at h;split at h
 ·rename_i s to;cases h;refine⟨_,ac0 s to,rfl,λb=> ?_,FI hp.1 hp.2⟩;cases b
  ·exact CW rfl
  ·exact rfl
 ·cases h
noncomputable def Ue:List (FuncId×PT):=(216,H8)::Ud
theorem Ia:aQ G (λf=>ay f Ue):=.cons Px (aZ _) H9
noncomputable def Su:dK:={bE with cm:=λf=>ay f Ue}
theorem ZF:Sx.Good G Su:=.of bz Ia aU
def lead (s:e_):Int:=if ai s 0<192 then ai s 0 - 128 else ai s 0 - 192
def cutFrom (s:e_):Int:=if ai s 0<128 then 0 else if 55<lead s then lead s - 54 else 1
def dH (s:e_):Int:=if ai s 0<128 then 1 else if 55<lead s then part s (lead s - 54)else lead s
def bO (s:e_):Bool:=O (s≠[])&&(O (ai s 0<128)||((!decide (55<lead s)||nP s (lead s - 54))&&O (dH s<=s.length - cutFrom s)&& !(O (ai s 0<192)&&O (lead s=1)&&O (ai s 1<128))))
def cy (s:e_):Bool:=O (192<=ai s 0)
def af (s:e_):e_:=(s.drop (cutFrom s).toNat).take (dH s).toNat
def aF (s:e_):e_:=s.drop (cutFrom s+dH s).toNat
def aap (s:e_):cN:=.fork (bO s) λb=>match b with
 | true=>.ret (.aD [.bool C (cy s),.str C (af s),.str C (aF s),.aA])
 | false=>KR [.bool A C,.str A [],.str A []]
end
end Go.Proofs.YtoibaecagklkaaaGreatDoor
