/-
  Calls of the library that have no body: internal/reflectlite, as errors.Is and errors.As need it; by tables of types.
-/
import Derived.Test.YtoibaecagklkaaaGreatDoorMa
import Derived.Test.YtoibaecagklkaaaGreatDoorMi
import Derived.Laws.Externs
import Derived.ProofKit
import Derived.Below
import Derived.ChangeSame
open Bool renaming and_eq_true->ag,false->C,false_eq_true->an,true->A
open Decidable renaming decide->I
open Go.DataW renaming TrodAll->V,trod->bO
open Go.Extern.ReflectliteType renaming abiMethod->bU,assignableTo->Y,elem->b_,implements_->b!,method->Z,relation->T,toType->cl,typeOf->ct
open Go.Extern.ReflectliteValue renaming methodAny->cx,valueError->cy
open Go.Extern.Rtype renaming kind->ay,noPackHeld->cS
open Go.Proofs.Tryz renaming f117->aM,f216->a_,prog->G
open Go.Result renaming andThen_ok->Q
open Go.Sem renaming run_bind->S,run_pure->c4
open Int renaming eq_ofNat_of_zero_le->c5,ofNat->M
open List renaming cons_append->c6,getElem?_eq_getElem->a!,map_cons->c7,mem_append->c8,mem_cons->N,mem_cons_of_mem->bf,mem_cons_self->c9,not_mem_nil->O
open Option renaming none->L,some->D
open UInt8 renaming ofNat->J
namespace Go.Proofs.YtoibaecagklkaaaGreatDoor
open Go Sx
theorem fM {P:Program}{f:FuncId}{fn:Func}{e:Array Value->Sem Value}(hf:P.funcs[f]?=D fn) (h1:(fn.name== "runtime.NumGoroutine")=C) (h2:fn.body.isNone=A)
  (h3:Extern.findNext fn=L) (h4:Extern.find fn=D e) {args:Array Value} {v:Value} {w w':World} (h:(e args).run P w=.ok v w'):(callFunc f args).run P w=.ok (.value v) w':=by
 rw[run_callFunc_extern hf h1 h2 h3 h4,h];rfl
abbrev nk:TypeId:=212
noncomputable abbrev wQ (t:Nat):Value:=.pointer (D ⟨hB,t,L⟩)
noncomputable abbrev hd (t:Nat):SV:=.raw (wQ t)
noncomputable abbrev tyV (t:Nat):SV:=.iface nk (.agg [hd t])
def nV {β:Type}(a:Nat):List (Nat×β)->Option β
 | []=>L
 | e::r=>if e.1=a then D e.2 else nV a r
theorem fQ {β:Type}{a:Nat}{b:β}: ∀ {l:List (Nat×β)},nV a l=D b->(a,b)∈ l
 | [],h=>by cases h
 | e::r,h=>by
   unfold nV at h;split at h
   ·rename_i he;injection h with h;subst h;subst he;simp
   ·exact bf _ (fQ h)
def Il {β:Type}(a b:Nat):List (Nat×Nat×β)->Option β
 | []=>L
 | e::r=>if e.1=a/\e.2.1=b then D e.2.2 else Il a b r
theorem sB {β:Type}{a b:Nat}{c:β}: ∀ {l:List (Nat×Nat×β)},Il a b l=D c->(a,b,c)∈ l
 | [],h=>by cases h
 | e::r,h=>by
   unfold Il at h;split at h
   ·rename_i he;injection h with h;subst h;obtain⟨rfl,rfl⟩:=he;simp
   ·exact bf _ (sB h)
noncomputable def BS:SV->Option Nat
 | .raw (.pointer (D ⟨b,t,L⟩))=>if b=hB then D t else L
 | _=>L
theorem js {v:SV}{t:Nat}(h:BS v=D t):v=hd t:=by
 unfold BS at h;split at h
 ·rename_i b t';split at h
  ·rename_i e;injection h with h;subst h;subst e;rfl
  ·cases h
 ·cases h
noncomputable def rH:PT:=λargs m nx K=>match args with
 | [.iface t _]=>K (tyV t) m nx
 | _=>.fail "TypeOf"
noncomputable def jg:PT:=λargs m nx K=>match args with
 | [.agg [h]]=>(match BS h with
   | some t=>(match nV t Fh with
     | some b=>K (.bool A b) m nx
     | none=>.fail "Comparable")
   | none=>.fail "Comparable")
 | _=>.fail "Comparable"
noncomputable def oy:PT:=λargs m nx K=>match args with
 | [.iface t v]=>(match nV t cN,v.plain with
   | some k,A=>K (.agg [hd t,.ptr nx A 0,.int .u64 A (M (k+128))]) ((nx,.cells v.cells v.cells.length t)::m) (nx+1)
   | _,_=>.fail "ValueOf")
 | _=>.fail "ValueOf"
noncomputable def CG:PT:=λargs m nx K=>match args with
 | [.agg [h,.ptr _ A 0,.int .u64 _ n]]=>(match BS h with
   | some t=>(match nV t cN with
     | some k=>if n=M (k+128)then K (tyV t) m nx else .fail "Value.Type"
     | none=>.fail "Value.Type")
   | none=>.fail "Value.Type")
 | _=>.fail "Value.Type"
noncomputable def Bk:PT:=λargs m nx K=>match args with
 | [h]=>(match BS h with
   | some t=>(match nV t cN with
     | some k=>K (.int .u8 A (M k)) m nx
     | none=>.fail "Kind")
   | none=>.fail "Kind")
 | _=>.fail "Kind"
noncomputable def vb:PT:=λargs m nx K=>match args with
 | [.agg [h]]=>(match BS h with
   | some t=>(match nV t j5 with
     | some e=>K (tyV e) m nx
     | none=>.fail "Elem")
   | none=>.fail "Elem")
 | _=>.fail "Elem"
noncomputable def EB (tab:List (Nat×Nat×Bool)):PT:=λargs m nx K=>match args with
 | [.agg [h],.iface t (.agg [g])]=>(match BS h,BS g with
   | some a,D b=>(match Il a b tab with
     | some c=>if t=nk then K (.bool A c) m nx else .fail "a relation of types"
     | none=>.fail "a relation of types")
   | _,_=>.fail "a relation of types")
 | _=>.fail "a relation of types"
noncomputable def zY (m:Mem):SV->Option (Nat×SV)
 | .agg [h,.ptr key A 0,.int .u64 _ n]=>(match BS h,m.get key with
   | some t,D (.cells (.ptr k b o::_) _ _)=>(match nV t j5 with
     | some _=>if n=150 then D (t,.ptr k b o)else L
     | none=>L)
   | _,_=>L)
 | _=>L
noncomputable def vt:PT:=λargs m nx K=>match args with
 | [v]=>(match zY m v with
   | some _=>K (.bool A C) m nx
   | none=>.fail "IsNil")
 | _=>.fail "IsNil"
noncomputable def ve:PT:=λargs m nx K=>match args with
 | [v]=>(match zY m v with
   | some (t,p)=>(match nV t j5 with
     | some e=>(match nV e cN with
       | some k=>K (.agg [hd e,p,.int .u64 A (M (k+128+256))]) m nx
       | none=>.fail "Value.Elem")
     | none=>.fail "Value.Elem")
   | none=>.fail "Value.Elem")
 | _=>.fail "Value.Elem"
noncomputable def Jv:PT:=λargs m nx K=>match args with
 | [.agg [h,p,.int .u64 _ n],.agg [g,.ptr key A 0,.int .u64 _ n']]=>(match BS h,BS g,m.get key with
   | some a,D b,D (.cells (v::_) _ _)=>(match Il a b Cr,nV a cN,nV b cN with
     | some wrap,D k,D k'=>if n=M (k+128+256)/\n'=M (k'+128)then
        ng G a (D p) (D (match wrap with | true=>.iface b v | false=>v)) m nx (λ_ m nx=>K (.aN []) m nx)else .fail "Value.Set"
     | _,_,_=>.fail "Value.Set")
   | _,_,_=>.fail "Value.Set")
 | _=>.fail "Value.Set"
noncomputable def At:PT:=EB (wY++Ek)
noncomputable def K5:PT:=EB FG
theorem HW: ∀ p∈ cN,∀ w,(ay p.1).run G w=.ok p.2 w:=by
 intro p hp w;simp only[cN,N,O,or_false] at hp
 repeat' first
  | (rcases hp with rfl | hp)
  | subst hp
  | kernel_rfl
theorem Sk: ∀ p∈ Fh,∀ w,((Z λt=>do cS "Comparable" t;pure (.bool (← typeInfo t).comparable)) #[.agg #[wQ p.1]]).run G w=.ok (.bool p.2) w:=by
 intro p hp w;simp only[Fh,N,O,or_false] at hp
 repeat' first
  | (rcases hp with rfl | hp)
  | subst hp
  | kernel_rfl
theorem U3: ∀ p∈ cN,∀(a:Addr) w,(cx (cy "reflectlite.Value.Type" 0) (λt _ _ _=>cl t) #[.agg #[wQ p.1,.pointer (D a),.int .u64 (M (p.2+128))]]).run G w
  = .ok (.iface nk (.agg #[wQ p.1])) w:=by
 intro p hp a w;simp only[cN,N,O,or_false] at hp
 repeat' first
  | (rcases hp with rfl | hp)
  | subst hp
  | kernel_rfl
theorem GX: ∀ p∈ cN,∀ w,((bU λt=>do pure (.int .u8 (M (← ay t)))) #[wQ p.1]).run G w=.ok (.int .u8 (M p.2)) w:=by
 intro p hp w;simp only[cN,N,O,or_false] at hp
 repeat' first
  | (rcases hp with rfl | hp)
  | subst hp
  | kernel_rfl
theorem OP: ∀ p∈ j5,∀ w,(Z b_ #[.agg #[wQ p.1]]).run G w=.ok (.iface nk (.agg #[wQ p.2])) w:=by
 intro p hp w;simp only[j5,N,O,or_false] at hp
 repeat' first
  | (rcases hp with rfl | hp)
  | subst hp
  | kernel_rfl
theorem S8: ∀ p∈ FG,∀ w,(T "Implements" b! #[.agg #[wQ p.1],.iface nk (.agg #[wQ p.2.1])]).run G w=.ok (.bool p.2.2) w:=by
 intro p hp w;simp only[FG,N,O,or_false] at hp
 repeat' first
  | (rcases hp with rfl | hp)
  | subst hp
  | kernel_rfl
theorem Kj: ∀ p∈ wY,∀ w,(T "AssignableTo" Y #[.agg #[wQ p.1],.iface nk (.agg #[wQ p.2.1])]).run G w=.ok (.bool p.2.2) w:=by
 intro p hp w;simp only[wY,N,O,or_false] at hp
 repeat' first
  | (rcases hp with rfl | hp)
  | subst hp
  | kernel_rfl
noncomputable def Vx (t:Nat):Array (String×TypeId):=match G.underlying t with
 | some (.interface l)=>l
 | _=>#[]
noncomputable def X8 (t:Nat):Array Method:=match G.info? t with
 | some i=>i.methods
 | none=>#[]
theorem WM: ∀ p∈ Ek,∀ w,(T "AssignableTo" Y #[.agg #[wQ p.1],.iface nk (.agg #[wQ p.2.1])]).run G w=.ok (.bool (C||(Instr.missingMethod (Vx p.2.1) (X8 p.1)).isNone)) w:=by
 intro p hp w;simp only[Ek,N,O,or_false] at hp
 repeat' first
  | (rcases hp with rfl | hp)
  | subst hp
  | kernel_rfl
theorem TX: ∀ p∈ Ek,DP (Vx p.2.1) (X8 p.1)=A/\p.2.2=false:=by
 intro p hp;simp only[Ek,N,O,or_false] at hp
 repeat' first
  | (rcases hp with rfl | hp)
  | subst hp
  | exact⟨by kernel_rfl,rfl⟩
theorem Z7: ∀ p∈ Ek,∀ w,(T "AssignableTo" Y #[.agg #[wQ p.1],.iface nk (.agg #[wQ p.2.1])]).run G w=.ok (.bool p.2.2) w:=by intro p hp w;obtain⟨h1,h2⟩:=TX p hp;obtain⟨m,hm⟩:=Bm h1;rw[WM p hp w,h2,hm];rfl
theorem MB (t:Nat)(v:Value)(w:World):(ct #[.iface t v]).run G w=.ok (.iface nk (.agg #[wQ t])) w:=by kernel_rfl
end Go.Proofs.YtoibaecagklkaaaGreatDoor
namespace Go.Proofs.YtoibaecagklkaaaGreatDoor
open Go Sx
set_option maxRecDepth 20000
theorem bq {s:String}{α:Prop}(h:(VC.fail s).holds):α:=False.elim h
section
variable {K : SV -> Mem -> Nat -> VC} {Γ : bh} {E : Nat -> Nat} {nx : Nat} {m : Mem} {w : World}
theorem fS {v:SV}(h:(K v m nx).holds)(hs:aL Γ E m nx w):bt (lift K) Γ E nx (v.val E) w :=⟨E,D v,m,nx,λ_ _=>rfl,Nat.le_refl _,λu hu=>by injection hu with hu;subst hu;rfl,hs,h⟩
end
theorem QD:az G 113 rH:=by
 intro args m nx K h hw ha Γ E w hs;unfold rH at h;split at h
 ·rename_i t v;simp only[SV.vals,SV.val];rw[fM (e:=ct) Tryz.func113 (by kernel_rfl) (by kernel_rfl) (by kernel_rfl) (by kernel_rfl) (MB t _ w)];simp only[Out];exact fS (v:=tyV t) h hs
 ·exact bq h
set_option maxRecDepth 20000 in
theorem CV:az G 247 jg:=by
 intro args m nx K h hw ha Γ E w hs;unfold jg at h;split at h
 ·rename_i x;split at h
  ·rename_i t ht;have hx:=js ht;split at h
   ·rename_i b hb;rw[hx];simp only[SV.vals,SV.val];rw[fM (e:=Z λt=>do cS "Comparable" t;pure (.bool (← typeInfo t).comparable)) Tryz.func247 (by kernel_rfl) (by kernel_rfl) (by kernel_rfl) (by kernel_rfl) (Sk _ (fQ hb) w)]
    simp only[Out];exact fS (v:=.bool A b) h hs
   ·exact bq h
  ·exact bq h
 ·exact bq h
set_option maxRecDepth 20000 in
theorem Ww:az G 235 Bk:=by
 intro args m nx K h hw ha Γ E w hs;unfold Bk at h;split at h
 ·rename_i x;split at h
  ·rename_i t ht;have hx:=js ht;split at h
   ·rename_i k hk;rw[hx];simp only[SV.vals,SV.val];rw[fM (e:=bU λt=>do pure (.int .u8 (← ay t))) Tryz.func235 (by kernel_rfl) (by kernel_rfl) (by kernel_rfl) (by kernel_rfl) (GX _ (fQ hk) w)]
    simp only[Out];exact fS (v:=.int .u8 A (M k)) h hs
   ·exact bq h
  ·exact bq h
 ·exact bq h
set_option maxRecDepth 20000 in
theorem Su:az G 248 vb:=by
 intro args m nx K h hw ha Γ E w hs;unfold vb at h;split at h
 ·rename_i x;split at h
  ·rename_i t ht;have hx:=js ht;split at h
   ·rename_i e he;rw[hx];simp only[SV.vals,SV.val];rw[fM (e:=Z b_) Tryz.func248 (by kernel_rfl) (by kernel_rfl) (by kernel_rfl) (by kernel_rfl) (OP _ (fQ he) w)];simp only[Out];exact fS (v:=tyV e) h hs
   ·exact bq h
  ·exact bq h
 ·exact bq h
set_option maxRecDepth 20000 in
theorem Wp:az G 249 K5:=by
 intro args m nx K h hw ha Γ E w hs;unfold K5 EB at h;split at h
 ·rename_i x t y;split at h
  ·rename_i a b hx hy;have hx:=js hx;have hy:=js hy;split at h
   ·rename_i c hc;split at h
    ·rename_i e;subst e;rw[hx,hy];simp only[SV.vals,SV.val];rw[fM (e:=T "Implements" b!) Tryz.func249 (by kernel_rfl) (by kernel_rfl) (by kernel_rfl) (by kernel_rfl) (S8 _ (sB hc) w)];simp only[Out];exact fS (v:=.bool A c) h hs
    ·exact bq h
   ·exact bq h
  ·exact bq h
 ·exact bq h
set_option maxRecDepth 20000 in
theorem OC:az G 246 At:=by
 intro args m nx K h hw ha Γ E w hs;unfold At EB at h;split at h
 ·rename_i x t y;split at h
  ·rename_i a b hx hy;have hx:=js hx;have hy:=js hy;split at h
   ·rename_i c hc;split at h
    ·rename_i e;subst e;rw[hx,hy];simp only[SV.vals,SV.val];have hrun:(T "AssignableTo" Y #[.agg #[wQ a],.iface nk (.agg #[wQ b])]).run G w=.ok (.bool c) w:=by
      rcases c8.1 (sB hc)with h1 | h1
      ·exact Kj _ h1 w
      ·exact Z7 _ h1 w
     rw[fM (e:=T "AssignableTo" Y) Tryz.func246 (by kernel_rfl) (by kernel_rfl) (by kernel_rfl) (by kernel_rfl) hrun];simp only[Out];exact fS (v:=.bool A c) h hs
    ·exact bq h
   ·exact bq h
  ·exact bq h
 ·exact bq h
set_option maxRecDepth 20000 in
theorem Xn:az G 86 CG:=by
 intro args m nx K h hw ha Γ E w hs;unfold CG at h;split at h
 ·rename_i x key l n;split at h
  ·rename_i t ht;have hx:=js ht;split at h
   ·rename_i k hk;split at h
    ·rename_i e;subst e;rw[hx];simp only[SV.vals,SV.val];rw[fM (e:=cx (cy "reflectlite.Value.Type" 0) (λt _ _ _=>cl t)) Tryz.func86 (by kernel_rfl) (by kernel_rfl) (by kernel_rfl) (by kernel_rfl) (U3 _ (fQ hk) _ w)];simp only[Out];exact fS (v:=tyV t) h hs
    ·exact bq h
   ·exact bq h
  ·exact bq h
 ·exact bq h
end Go.Proofs.YtoibaecagklkaaaGreatDoor
namespace Go.Proofs.YtoibaecagklkaaaGreatDoor
open Go Sx Extern
theorem rlm (z:Sem Value)(f:TypeId->Addr->Nat->Nat->Sem Value)(v:Value) :
  ReflectliteValue.method z f #[v]=(do match ← ReflectliteValue.parts v with | none=>z | some (t,a,fl)=>f t a fl (fl% 32)):=rfl
theorem rls (v x:Value):ReflectliteValue.set #[v,x]=(do
  let (D (dst,a,fl),D (src,b,_)):=(← ReflectliteValue.parts v,← ReflectliteValue.parts x)
   | unsupported (.noEntry "extern/(internal/reflectlite.Value).Set.zeroValue")
  if fl / ReflectliteValue.flagAddr% 2==0 then unsupported (.noEntry "extern/(internal/reflectlite.Value).Set.unaddressable")
  let val ← loadVar src b
  if ← Rtype.directlyAssignable dst src then storeVar dst a val
  else if ← Rtype.implements dst src then
   if(← Rtype.kind src)==20 then
    match val with
    | .nilIface=>unsupported (.noEntry "extern/reflectlite: a nil value of one interface type handed on as a value of another")
    | _=>storeVar dst a val
   else storeVar dst a (.iface src val)
  else panicString ("reflectlite.Set: value of type " ++ (← Rtype.spelt src)++ " is not assignable to type " ++ (← Rtype.spelt dst))
  pure (.tuple #[])):=rfl
theorem KW (t:Nat)(w:World):(Rtype.handle t).run G w=.ok (wQ t) w:=by kernel_rfl
theorem TR {t k:Nat}(h:(t,k)∈ cN)(a:Addr)(fl:Nat)(w:World):(ReflectliteValue.mk t a fl).run G w=.ok (.agg #[wQ t,.pointer (D a),.int .u64 (M (k+128+fl))]) w:=by have h1:=HW _ h w;simp only at h1;simp only[ReflectliteValue.mk,S,KW,h1,Q,c4];rfl
theorem xY: ∀ p∈ cN,∀(a:Addr) w,(ReflectliteValue.parts (.agg #[wQ p.1,.pointer (D a),.int .u64 (M (p.2+128))])).run G w=.ok (D (p.1,a,p.2+128)) w:=by
 intro p hp a w;simp only[cN,N,O,or_false] at hp
 repeat' first
  | (rcases hp with rfl | hp)
  | subst hp
  | kernel_rfl
theorem LY: ∀ p∈ cN,∀(a:Addr) w,(ReflectliteValue.parts (.agg #[wQ p.1,.pointer (D a),.int .u64 (M (p.2+128+256))])).run G w=.ok (D (p.1,a,p.2+128+256)) w:=by
 intro p hp a w;simp only[cN,N,O,or_false] at hp
 repeat' first
  | (rcases hp with rfl | hp)
  | subst hp
  | kernel_rfl
theorem Ja: ∀ p∈ j5,(p.1,22)∈ cN/\G.underlying p.1=D (.pointer p.2):=by
 intro p hp;simp only[j5,N,O,or_false] at hp
 repeat' first
  | (rcases hp with rfl | hp)
  | subst hp
  | exact⟨by simp[cN],by kernel_rfl⟩
theorem elem?_run: ∀ p∈ j5,∀ w,(Rtype.elem? p.1).run G w=.ok (D p.2) w:=by
 intro p hp w;simp only[j5,N,O,or_false] at hp
 repeat' first
  | (rcases hp with rfl | hp)
  | subst hp
  | kernel_rfl
noncomputable def IZ (t:Nat):Bool:=match G.underlying t with
 | some d=>!fA d
 | none=>C
theorem PJ: ∀ p∈ cN,IZ p.1=true:=by
 intro p hp;simp only[cN,N,O,or_false] at hp
 repeat' first
  | (rcases hp with rfl | hp)
  | subst hp
  | kernel_rfl
theorem T6: ∀ p∈ cN,∃ d,G.underlying p.1=D d/\fA d=false:=by
 intro p hp;have:=PJ p hp;unfold IZ at this;split at this
 ·rename_i d hd;exact⟨d,hd,by simpa using this⟩
 ·cases this
theorem KF: ∀ p∈ Cr,∀ w,(Rtype.directlyAssignable p.1 p.2.1).run G w=.ok (!p.2.2) w:=by
 intro p hp w;simp only[Cr,N,O,or_false] at hp
 repeat' first
  | (rcases hp with rfl | hp)
  | subst hp
  | kernel_rfl
theorem VE: ∀ p∈ Cr,p.2.2=A->∀ w,(Rtype.implements p.1 p.2.1).run G w=.ok A w/\(p.2.1,20)∉ cN:=by
 intro p hp hw w;simp only[Cr,N,O,or_false] at hp
 repeat' first
  | (rcases hp with rfl | hp)
  | subst hp
  | cases hw
  | exact⟨by kernel_rfl,by simp[cN]⟩
theorem qU {t k:Nat}(h:(t,k)∈ cN){b o:Nat}{c:Array Value}{ty:TypeId}{fr:Nat×Nat}{w:World}(hb:w.heap[b]?=D (.cells c ty fr)){v:Value}(hv:c[o]?=D v) :
  (loadVar t ⟨b,o,L⟩).run G w=.ok v w:=by
 obtain⟨d,h1,h2⟩:=T6 _ h;simp only[loadVar,S,cz h1,h2,Q,an,if_false,run_load,cell_of hb,hv]
set_option maxRecDepth 20000 in
theorem MH:az G 85 oy:=by
 intro args m nx K h hw ha Γ E w hs;unfold oy at h;split at h
 ·rename_i t v;split at h
  ·rename_i k hk hp;have hm:=fQ hk;simp only[SV.vals,SV.val]
   have hrun:((λargs=>ReflectliteValue.unpack (args.getD 0 (.tuple #[]))) #[Value.iface t (v.val E)]).run G w =
     .ok (.agg #[wQ t,.pointer (D ⟨w.heap.size,0,L⟩),.int .u64 (M (k+128+0))]) {w with heap:=w.heap.push (.cells (v.val E).cells t)}:=by
    show(ReflectliteValue.unpack (Value.iface t (v.val E))).run G w=_;simp only[ReflectliteValue.unpack,S,ux,Q,TR hm]
   rw[fM (e:=λargs=>ReflectliteValue.unpack (args.getD 0 (.tuple #[]))) Tryz.func85 (by kernel_rfl) (by kernel_rfl) (by kernel_rfl) (by kernel_rfl) hrun];simp only[Out];simp only[SV.fH,SV.wf,Bool.and_true] at ha;refine bt.alloc hs hw (K:=lift K) (sv:=.agg [hd t,.ptr nx A 0,.int .u64 A (M (k+128))]) (nI ha) (vC (by rw[SV.fh hp])) (qV (E:=E) (by rw[SV.fh hp])) h ?_;simp[SV.val,SV.vals]
  ·exact bq h
 ·exact bq h
theorem Ba {m:Mem}{v p:SV}{t:Nat}(h:zY m v=D (t,p)): ∃ key l cs tot ty k b o e,v=.agg [hd t,.ptr key A 0,.int .u64 l 150]/\p=.ptr k b o/\m.get key=D (.cells (.ptr k b o::cs) tot ty)/\(t,e)∈ j5:=by
 unfold zY at h;split at h
 ·rename_i x key l n;split at h
  ·rename_i t' k b o cs tot ty ht hk;split at h
   ·rename_i e he;split at h
    ·rename_i hn;injection h with h;injection h with h1 h2;subst h1;subst h2;subst hn;exact⟨key,l,cs,tot,ty,k,b,o,e,by rw[js ht],rfl,hk,fQ he⟩
    ·cases h
   ·cases h
  ·cases h
 ·cases h
set_option maxRecDepth 20000 in
theorem Tc:az G 87 vt:=by
 intro args m nx K h hw ha Γ E w hs;unfold vt at h;split at h
 ·rename_i v;split at h
  ·rename_i tp htp;obtain⟨t,p⟩:=tp;obtain⟨key,l,cs,tot,ty,k,b,o,e,hv,hp,hk,he⟩:=Ba htp;obtain⟨ob,ho,c,fr,rfl,_,h2,_⟩:=hs.nG key _ hk rfl;have h0:=h2 0 _ rfl;obtain⟨hkt,hun⟩:=Ja _ he;have hrun:(ReflectliteValue.method (ReflectliteValue.valueError "reflectlite.Value.IsNil" 0) ReflectliteValue.isNil #[.agg #[wQ t,.pointer (D ⟨E key,0,L⟩),.int .u64 150]]).run G w=.ok (.bool C) w:=by
    rw[rlm];have hp:=xY _ hkt ⟨E key,0,L⟩ w;have hl:=qU hkt ho h0;simp only[show M (22+128)=150 from rfl] at hp
    simp only[S,hp,Q,ReflectliteValue.isNil];simp[hl,SV.val]
   rw[hv];simp only[SV.vals,SV.val];rw[fM (e:=ReflectliteValue.method (ReflectliteValue.valueError "reflectlite.Value.IsNil" 0) ReflectliteValue.isNil) Tryz.func87 (by kernel_rfl) (by kernel_rfl) (by kernel_rfl) (by kernel_rfl) hrun];simp only[Out];exact fS (v:=.bool A C) h hs
  ·exact bq h
 ·exact bq h
set_option maxRecDepth 20000 in
theorem Sv:az G 133 ve:=by
 intro args m nx K h hw ha Γ E w hs;unfold ve at h;split at h
 ·rename_i v;split at h
  ·rename_i t p htp;obtain⟨key,l,cs,tot,ty,k,b,o,e0,hv,hp,hk,he0⟩:=Ba htp;split at h
   ·rename_i e he;have he:=fQ he;split at h
    ·rename_i ke hke;have hke:=fQ hke;obtain⟨ob,ho,c,fr,rfl,_,h2,_⟩:=hs.nG key _ hk rfl;have h0:=h2 0 _ rfl;obtain⟨hkt,hun⟩:=Ja _ he;have hrun:(ReflectliteValue.method (ReflectliteValue.valueError "reflectlite.Value.Elem" 0) ReflectliteValue.elem #[.agg #[wQ t,.pointer (D ⟨E key,0,L⟩),.int .u64 150]]).run G w=.ok (.agg #[wQ e,.pointer (D ⟨E k,o,L⟩),.int .u64 (M (ke+128+256))]) w:=by
      rw[rlm];have hp:=xY _ hkt ⟨E key,0,L⟩ w;have hl:=qU hkt ho h0;have hel:=elem?_run _ he w;have hmk:=TR hke ⟨E k,o,L⟩ ReflectliteValue.flagAddr w;simp only at hel;simp only[show M (22+128)=150 from rfl] at hp
      simp only[S,hp,Q,ReflectliteValue.elem];simp[hl,SV.val,hel,hmk];rfl
     rw[hv];simp only[SV.vals,SV.val];rw[fM (e:=ReflectliteValue.method (ReflectliteValue.valueError "reflectlite.Value.Elem" 0) ReflectliteValue.elem) Tryz.func133 (by kernel_rfl) (by kernel_rfl) (by kernel_rfl) (by kernel_rfl) hrun];simp only[Out];subst hp;have:=fS (v:=.agg [hd e,.ptr k b o,.int .u64 A (M (ke+128+256))]) h hs;simpa [SV.val,SV.vals] using this
    ·exact bq h
   ·exact bq h
  ·exact bq h
 ·exact bq h
end Go.Proofs.YtoibaecagklkaaaGreatDoor
namespace Go.Proofs.YtoibaecagklkaaaGreatDoor
open Go Sx Extern
set_option maxRecDepth 20000
theorem We: ∀ p∈ cN,((p.2+128+256) / ReflectliteValue.flagAddr% 2==0)=false:=by
 intro p hp;simp only[cN,N,O,or_false] at hp
 repeat' first
  | (rcases hp with rfl | hp)
  | subst hp
  | rfl
set_option maxRecDepth 20000 in
theorem GD {t:TypeId}{p x:SV}{m:Mem}{nx:Nat}{K:SV->Mem->Nat->VC}{Γ:bh}{E:Nat->Nat}{w:World}(h:(ng G t (D p) (D x) m nx (λ_ m nx=>K (.aN []) m nx)).holds)(hs:aL Γ E m nx w)(hw:Mem.wf nx m=A)
  (hp:p.wf nx=A) (hx:x.wf nx=A) {a:Addr} (ha:p.val E=.pointer (D a)) (_h0:a.spot=L) :
  ∃ w',(storeVar t a (x.val E)).run G w=.ok () w'/\bt (lift K) Γ E nx (.tuple #[]) w':=by
 have:=D8 (P:=G) (Γ:=Γ) (m:=m) (nx:=nx) (σ:=λo=>match o with | .tmp 0=>D p | .tmp 1=>D x | _=>L) (dst:=L) (t:=t) (type:=0) (pos:= "") (after:=#[]) (guard:=L) (a:=.tmp 0) (x:=.tmp 1)
  (λ_ m nx=>K (.aN []) m nx) E w (λo=>match o with | .tmp 0=>p.val E | .tmp 1=>x.val E | _=>undef) h hs hw (λo v hv=>by
    simp only at hv;split at hv
    ·injection hv with hv;subst hv;exact hp
    ·injection hv with hv;subst hv;exact hx
    ·cases hv) (λo v hv=>by
    simp only at hv ⊢;split at hv
    ·injection hv with hv;subst hv;rfl
    ·injection hv with hv;subst hv;rfl
    ·cases hv)
 simp only[execOp,Instr.storeAt,ha,Instr.sureAddr,S,c4,Q] at this;generalize hr:(storeVar t a (x.val E)).run G w=r at this;cases r with
 | halt e w'=>cases e<;>simp[Result.andThen,Out] at this
 | ok u w' =>simp only[Q,Out] at this;obtain⟨E',sv,m',nx',g1,g2,g3,g4,g5⟩:=this;exact⟨w',rfl,E',D (.aN []),m',nx',g1,g2,λv hv=>by injection hv with hv;subst hv;rfl,g4,g5⟩
set_option maxRecDepth 20000 in
theorem aar:az G 134 Jv:=by
 intro args m nx K h hw ha Γ E w hs;unfold Jv at h;split at h
 ·rename_i x p l n y key l' n';split at h
  ·rename_i a b v cs tot ty hx hy hk;have hx:=js hx;have hy:=js hy;split at h
   ·rename_i wrap k k' hwr hka hkb;have hwr:=sB hwr;have hka:=fQ hka;have hkb:=fQ hkb;split at h
    ·rename_i hn;obtain⟨rfl,rfl⟩:=hn;obtain⟨ob,ho,c,fr,rfl,_,h2,_⟩:=hs.nG key _ hk rfl;have h0:=h2 0 _ rfl;have hvw:v.wf nx=true:=SV.s7 (Mem.GQ hw hk) (i:=0) rfl;have hpw:p.wf nx=true:=by simp only[SV.fH,SV.wf,ag] at ha;exact ha.1.2.1
     have hpp: ∃ q,p.val E=.pointer (D q)/\q.spot=none:=by
      unfold ng at h;split at h
      ·rename_i e _ _;injection e with e;subst e;exact⟨_,rfl,rfl⟩
      ·rename_i e _ _;injection e with e;subst e;exact⟨_,rfl,rfl⟩
      ·rename_i e _ _;injection e with e;subst e;exact⟨_,rfl,rfl⟩
      ·rename_i e _ _;injection e with e;subst e;exact⟨_,rfl,rfl⟩
      ·rename_i e _ _;injection e with e;subst e;exact⟨_,rfl,rfl⟩
      ·exact bq h
     obtain⟨q,hq,hsp⟩:=hpp;obtain⟨w',hst,haft⟩:=GD h hs hw hpw (by cases wrap<;>exact hvw) hq hsp
     have hp1:=LY _ hka q w;have hp2:=xY _ hkb ⟨E key,0,L⟩ w;have hd:=KF _ hwr w;have hl:=qU hkb ho h0;simp only at hp1 hp2 hd;have hflag:((k+128+256) / ReflectliteValue.flagAddr% 2==0)=false:=We _ hka;have hrun:(ReflectliteValue.set #[.agg #[wQ a,.pointer (D q),.int .u64 (M (k+128+256))],.agg #[wQ b,.pointer (D ⟨E key,0,L⟩),.int .u64 (M (k'+128))]]).run G w=.ok (.tuple #[]) w':=by
      rw[rls];simp only[S,hp1,hp2,Q,hflag,an,if_false,hl,hd];cases wrap with
      | false =>
        simp only[Bool.not_false,if_true]
        try simp only at hst
        rw[S,hst];rfl
      | true =>
        obtain⟨hi,hne⟩:=VE _ hwr rfl w;have hkk:=HW _ hkb w;simp only at hi hkk;have h20:(k'==20)=false:=by simp only[beq_eq_false_iff_ne,ne_eq];intro e;subst e;exact hne hkb
        simp only[Bool.not_true,an,if_false,S,hi,Q,if_true,hkk,h20];simp only[SV.val] at hst;rw[hst];rfl
     rw[hx,hy];simp only[SV.vals,SV.val,hq];rw[fM (e:=ReflectliteValue.set) Tryz.func134 (by kernel_rfl) (by kernel_rfl) (by kernel_rfl) (by kernel_rfl) hrun];exact haft
    ·exact bq h
   ·exact bq h
  ·exact bq h
 ·exact bq h
theorem II:aQ rH:=by intro args m nx K K' hK h;unfold rH at h ⊢;split at h;exact hK _ _ _ h;exact bq h
theorem zI:aQ jg:=by
 intro args m nx K K' hK h;unfold jg at h ⊢;repeat' split at h
 all_goals first | exact bq h | (simp only[*];done) | (simp only[*];exact hK _ _ _ h)
theorem PA:aQ Bk:=by
 intro args m nx K K' hK h;unfold Bk at h ⊢;repeat' split at h
 all_goals first | exact bq h | (simp only[*];done) | (simp only[*];exact hK _ _ _ h)
theorem LG:aQ vb:=by
 intro args m nx K K' hK h;unfold vb at h ⊢;repeat' split at h
 all_goals first | exact bq h | (simp only[*];done) | (simp only[*];exact hK _ _ _ h)
theorem IG (tab:List (Nat×Nat×Bool)):aQ (EB tab):=by
 intro args m nx K K' hK h;unfold EB at h ⊢;repeat' split at h
 all_goals first | exact bq h | (simp only[*,if_true];done) | (simp only[*,if_true];exact hK _ _ _ h)
theorem PB:aQ CG:=by
 intro args m nx K K' hK h;unfold CG at h ⊢;repeat' split at h
 all_goals first | exact bq h | (simp only[*,if_true];done) | (simp only[*,if_true];exact hK _ _ _ h)
theorem F7:aQ oy:=by
 intro args m nx K K' hK h;unfold oy at h ⊢;repeat' split at h
 all_goals first | exact bq h | (simp only[*];done) | (simp only[*];exact hK _ _ _ h)
theorem LI:aQ vt:=by
 intro args m nx K K' hK h;unfold vt at h ⊢;repeat' split at h
 all_goals first | exact bq h | (simp only[*];done) | (simp only[*];exact hK _ _ _ h)
theorem LH:aQ ve:=by
 intro args m nx K K' hK h;unfold ve at h ⊢;repeat' split at h
 all_goals first | exact bq h | (simp only[*];done) | (simp only[*];exact hK _ _ _ h)
theorem Ir {P:Program}{t:TypeId}{a x:Option SV}{m:Mem}{nx:Nat}{K K':KL}(hK: ∀ v m nx,(K v m nx).holds->(K' v m nx).holds)(h:(ng P t a x m nx K).holds):(ng P t a x m nx K').holds:=by
 unfold ng at h ⊢;repeat' split at h
 all_goals first | exact bq h | exact hK _ _ _ h | exact⟨h.1,hK _ _ _ h.2⟩ | (simp only[*,if_true];done) | (simp only[*,if_true];exact hK _ _ _ h) | (simp only[*,if_true];exact⟨h.1,hK _ _ _ h.2⟩)
theorem TS:aQ Jv:=by
 intro args m nx K K' hK h;unfold Jv at h ⊢;split at h
 ·split at h
  ·split at h
   ·split at h
    ·rename_i hn;simp only[*,and_self,if_true];exact Ir (λ_ _ _=>hK _ _ _) h
    ·exact bq h
   ·exact bq h
  ·exact bq h
 ·exact bq h
noncomputable def gd:List (FuncId×PT):=[(113,rH),(247,jg),(235,Bk),(248,vb),
 (249,K5),(246,At),(86,CG),(85,oy),
 (87,vt),(133,ve),(134,Jv)]
theorem dU:bn G (λf=>aE f gd):=by
 unfold gd;apply bn.cons
 ·exact QD
 ·exact II
 apply bn.cons
 ·exact CV
 ·exact zI
 apply bn.cons
 ·exact Ww
 ·exact PA
 apply bn.cons
 ·exact Su
 ·exact LG
 apply bn.cons
 ·exact Wp
 ·exact IG _
 apply bn.cons
 ·exact OC
 ·exact IG _
 apply bn.cons
 ·exact Xn
 ·exact PB
 apply bn.cons
 ·exact MH
 ·exact F7
 apply bn.cons
 ·exact Tc
 ·exact LI
 apply bn.cons
 ·exact Sv
 ·exact LH
 apply bn.cons
 ·exact aar
 ·exact TS
 exact bn.nil
end Go.Proofs.YtoibaecagklkaaaGreatDoor
namespace Go.Proofs.YtoibaecagklkaaaGreatDoor.Sx
open Go Go.RowKit Go.WideShapes Go.ChangeShapes
section
variable {H : Type} {enc : TypeId × Value -> H} {P : Program}
theorem C4 {f:Func}{s:ChangeSpec}{apart fresh handsOn again:Bool}{W W':World}{args:Array Value}{v:Value}{ds gs:List (DataW H)}{before pa pv:List MemPlace}
  (hW:DataW.Whole enc P f.params.toList s.vars apart W args.toList ds gs before)
  (hres: ∀(b:Nat) (sp:Nat->Bool) (hd:Bool),V enc P W' b sp hd f.resultTypes.toList (v.resultList f.resultTypes.size) (s.fn H (ds++gs)).results [])
  (hargs: ∀ sp:Nat->Bool,(∀ p∈ before,sp p.block=A)->V enc P W' 0 sp A f.params.toList args.toList (s.fn H (ds++gs)).args pa)
  (hvars: ∀ sp:Nat->Bool,(∀ p∈ before,sp p.block=A)->DataW.TrodVars enc P W' sp s.vars (s.fn H (ds++gs)).vars pv)
  (hps:before=pa++pv) (hb:Below W.heap.size W W')
  (hok: ∀(j:Nat) (t:TypeId) (r:Value),f.resultTypes[j]?=D t->(v.resultList f.resultTypes.size)[j]?=D r->Value.okWide P W' .any 0 t r) :
  s.post enc P f apart fresh handsOn again W args v W':=by
 have hlt: ∀ p∈ before,p.block<W.heap.size:=λp hp=>hW.lt p hp;have hold: ∀ p∈ before,(λb=>decide (b<W.heap.size)) p.block=true:=λp hp=>by simpa using hlt p hp
 refine⟨ds,gs,before,[],pa,pv,hW,hres _ _ _,hargs _ hold,hvars _ hold,World.keptBut_mono (λp hp=>⟨hp,?_⟩) (hb.frame (· ∈ before)),λ_=> ?_⟩
 ·rw[hps,c8] at hp;exact Or.inr hp
 ·obtain⟨_,_,_,_,_,hz,hn⟩:=hW;refine⟨hok,_,_,([]++pa)++pv,⟨[]++pa,pv,trodAll_append (hargs _ (λ_ _=>rfl)) (hres _ _ _),hvars _ (λ_ _=>rfl),rfl,?_,?_⟩,?_⟩
  ·intro b off hp;have hin:MemPlace.cell b off∈ before:=by rw[hps];simpa using hp
   rw[hb.frozen (hlt _ hin)];exact hz b off hin
  ·intro ha;have:=hn ha;rw[hps] at this;simpa using this
  ·intro p hp _;rw[hps];simpa using hp
theorem tH (hl:laidOutB P=A){W W':World}(hb:Below W.heap.size W W'){sp:Nat->Bool}: ∀ {ts:List TypeId} {vs:List Value} {ds:List (DataW H)} {ps:List MemPlace},
  (∀ t∈ ts,P.readableRec t=A/\t<P.types.size)->V enc P W 0 (λ_=>A) A ts vs ds ps->(∀ x∈ ps,x.block<W.heap.size)->(∀ x∈ ps,sp x.block=A)->V enc P W' 0 sp A ts vs ds ps
 | [],[],[],ps,_,h,_,_=>h
 | t::ts,v::vs,d::ds,ps,ht,h,hlt,hsp=>by obtain⟨p,q,h1,h2,rfl⟩:=h;refine⟨p,q,?_,tH hl hb (λt h=>ht t (bf _ h)) h2 (λx hx=>hlt x (by simp[hx])) (λx hx=>hsp x (by simp[hx])),rfl⟩;exact WideElems.Trod_stays hl (ht t (c9 ..)).1 (ht t (c9 ..)).2 h1 (λx hx=>hb.same (hlt x (by simp[hx]))) (λx hx=>hsp x (by simp[hx]))
theorem zz {W:World}{b:Nat}{sp:Nat->Bool}{hd:Bool}: ∀ {ts:List TypeId} {vs:List Value} {ds:List (DataW H)} {ps:List MemPlace},V enc P W b sp hd ts vs ds ps->ds.length=ts.length/\vs.length=ts.length
 | [],[],[],_,_=>⟨rfl,rfl⟩
 | _::_,_::_,_::_,_,h=>by obtain⟨p,q,_,h2,_⟩:=h;have:=zz h2;simp[this.1,this.2]
 | [],[],_::_,_,h=>h.elim
 | [],_::_,_,_,h=>h.elim
 | _::_,[],_,_,h=>h.elim
 | _::_,_::_,[],_,h=>h.elim
end
theorem abt {P:Program}{W:World}{base:Nat}{t e:TypeId}{v:Value}{H:Type}{enc:TypeId×Value->H}{d:DataW H}{ps:List MemPlace}(ht:P.underlying t=D (.slice e))
  (hval:Value.okWide P W .any base t v) (hd:DataW.Trod enc P W 0 (λ_=>A) A t v d ps) :
  ∃(z:Bool) (b o n c:Nat),v=(SV.bS 0 (P.cellsOf e) z o 0 n c).val (λ_=>b)/\n<=maxLen/\((z&&Nat.beq n 0)=C->∃ cs ty fr,W.heap[b]?=D (.cells cs ty fr) /\
   ∀ i,i<n->∃(xs:List Value) (y:DataW H×List MemPlace) (m:Nat),xs.length=P.cellsOf e/\(∀ k,k<P.cellsOf e->cs[o+i*P.cellsOf e+k]?=xs[k]?)/\bO enc P W 0 (λ_=>A) A m e xs=D y):=by
 obtain⟨a0,n,c,rfl⟩:=okWide_slice ht hval;obtain⟨fuel,hf⟩:=hd;rcases DataW.trod_slice ht hf with ⟨h0,_⟩ | ⟨a,len,cap,elems,rest,m,_,hcs,_,hb,hlc,hmax,hlen,hel,_,_⟩
 ·simp only[Value.cells] at h0;have h1:a0=L/\n=0/\c=0:=by simpa using h0
  obtain⟨rfl,rfl,rfl⟩:=h1;exact⟨A,0,0,0,0,rfl,Nat.zero_le _,λh=>by cases h⟩
 ·simp only[Value.cells] at hcs;have h1:a0=D a/\n=len/\c=cap:=by simpa using hcs
  obtain⟨rfl,rfl,rfl⟩:=h1;have hhas:W.has P .any base a e c:=by simp only[Value.okWide,ht,Cell.okWide,Cell.ok] at hval;exact hval.2.2
  obtain⟨_,hspot,row,cells,hshape,_⟩:=hhas;obtain⟨nG,off,spot⟩:=a;simp only at hspot;subst hspot;have hcells: ∃ cs ty fr,W.heap[nG]?=D (.cells cs ty fr):=by
   unfold World.shape? at hshape;split at hshape
   ·rename_i cs ty fr h;exact⟨cs,ty,fr,h⟩
   ·cases hshape
  obtain⟨cs,ty,fr,hblk⟩:=hcells;refine⟨C,nG,off,n,c,by simp[SV.val],Nat.le_trans hlc hmax,λ_=>⟨cs,ty,fr,hblk,λi hi=> ?_⟩⟩;have h2:=hel i hi;rw[a! (by omega)] at h2;obtain⟨xs,hxs,hy⟩:=Option.bind_eq_some_iff.1 h2;obtain⟨_,hl2,hget⟩:=World.cells?_some hxs;refine⟨xs,_,m,hl2,λk hk=> ?_,hy⟩;have:=hget k hk;rw[← this,cF,cF,cell_of hblk]
def JI (cs:Array Value)(j:Nat):List UInt8:=match cs[j]? with
 | some (.string s)=>s.data.toList
 | _=>[]
theorem tI {P:Program}{W:World}{H:Type}{enc:TypeId×Value->H}{m:Nat}{t:TypeId}{x:Value}{y:DataW H×List MemPlace}(ht:P.underlying t=D .string)(h:bO enc P W 0 (λ_=>A) A m t [x]=D y)
  {cs:Array Value} {j:Nat} (hc:cs[j]?=D x):cs[j]?=D ((SV.str C (JI cs j)).val (λ_=>0))/\(JI cs j).length<=maxLen:=by
 obtain⟨s,hx,_,hw⟩:=DataW.trod_string ht h;injection hx with hx;subst hx;unfold JI;rw[hc];refine⟨by simp[SV.val],?_⟩;have he:s.data.toList.length=s.size:=Array.length_toList;show s.data.toList.length<=maxLen;rw[he];exact hw
end Go.Proofs.YtoibaecagklkaaaGreatDoor.Sx
namespace Go.Proofs.YtoibaecagklkaaaGreatDoor
open Go Sx
set_option maxRecDepth 20000
theorem bR:G.follows .mixedOrders=true:=by kernel_rfl
theorem TT:(G.funcs.all λfn=>!(fn.name== "runtime.NumGoroutine"))=true:=by kernel_rfl
theorem bl (f:FuncId)(fn:Func)(h:G.funcs[f]?=D fn):G.funcs[f]?=D fn/\(fn.name== "runtime.NumGoroutine")=false:=by refine⟨h,?_⟩;have:=Array.all_eq_true'.1 TT fn (Array.mem_of_getElem? h);simpa using this
noncomputable def cm:fJ:={cG:=λf=>aE f gd,fns:=λf=>G.funcs[f]?,bx:=λ_=>[],rounds:=100}
theorem tw:Sx.Good G cm:=.of bR dU bl
end Go.Proofs.YtoibaecagklkaaaGreatDoor
namespace Go.Proofs.YtoibaecagklkaaaGreatDoor.Sx
open Go
def GJ:SV->SV
 | .int k _ n=>.int k C n
 | .bool _ b=>.bool C b
 | .str _ s=>.str C s
 | v=>v
def CI:SV->SV
 | .agg cs=>.agg (cs.map GJ)
 | v=>GJ v
theorem MD (E:Nat->Nat)(v:SV):(GJ v).val E=v.val E:=by cases v<;>rfl
theorem zB (E:Nat->Nat): ∀ l:List SV,SV.vals E (l.map GJ)=SV.vals E l
 | []=>rfl
 | v::r=>by simp only[c7,SV.vals,MD,zB E r]
theorem ER (E:Nat->Nat)(v:SV):(CI v).val E=v.val E:=by cases v<;>first | rfl | simp only[CI,SV.val,zB]
theorem pX (E:Nat->Nat): ∀ l:List SV,SV.vals E (l.map CI)=SV.vals E l
 | []=>rfl
 | v::r=>by simp only[c7,SV.vals,ER,pX E r]
noncomputable def aY (spec:List SV->Option (Prop×SV)):PT:=λargs m nx K=>match spec (args.map CI)with
 | some (p,r)=>.and (.atom p) (K r m nx)
 | none=>.fail "arguments that nothing is said of"
def af (v r:SV):Prop:=∀ E,v.val E=r.val E
def svA (v r:SV):VC:=.eqv (af v r) (af v v) (λ_=>rfl)
theorem aR (spec:List SV->Option (Prop×SV)):aQ (aY spec):=by
 intro args m nx K K' hK h;unfold aY at h ⊢;split at h
 ·exact⟨h.1,hK _ _ _ h.2⟩
 ·exact h
theorem iJ {P:Program}{cfg:fJ}(hg:Good P cfg){f:FuncId}{fn:Func}(hf:P.funcs[f]?=D fn) (hn:(fn.name== "runtime.NumGoroutine")=C) (hb:fn.body.isSome=A) {n:Nat} {spec:List SV->Option (Prop×SV)}
  (h: ∀ args p r,spec args=D (p,r)->p->SV.fH 0 args=A/\r.wf 0=A/\aB (fG P (calling P cfg n) [] Ad (cfg.bx f) cfg.rounds fn args [] 0 (λv _ _=>.atom (af v r)))):az P f (aY spec):=by
 intro args m nx K hk hwf hargs Γ E w hs;unfold aY at hk;split at hk
 ·rename_i p r hr;obtain⟨hp,hk⟩:=hk;obtain⟨h1,h2,h3⟩:=h _ _ _ hr hp;have hc:=eV hg hf hn hb h3 rfl h1 (aL.none w hs.KU);rw[SV.sY h1 (λ_=>0) E,pX] at hc;refine fV hf hn hb (hc.mono ?_);rintro e w' ⟨v,rfl,E',sv,m',nx',_,_,g3,g4,g5⟩;refine⟨v,rfl,?_⟩;cases sv with
  | none=>exact g5.elim
  | some u =>have hu:af u r:=g5;refine⟨E,D r,m,nx,λ_ _=>rfl,Nat.le_refl _,λx hx=> ?_,hs.still g4.ext,hk⟩;injection hx with hx;subst hx;rw[g3 u rfl,hu E',SV.wG h2 E' E]
 ·exact hk.elim
end Go.Proofs.YtoibaecagklkaaaGreatDoor.Sx
namespace Go.Proofs.YtoibaecagklkaaaGreatDoor
open Go Sx
set_option maxRecDepth 20000
noncomputable def YW:fJ:={cm with rounds:=9}
theorem abf:Sx.Good G YW:=.of bR dU bl
def CW:Nat->Int->List UInt8
 | 0,_=>[]
 | k+1,n=>if 0<n then CW k (n / 256)++[J (n% 256).toNat] else []
def digits (n:Int):List UInt8:=CW 8 n
noncomputable def eD (cfg:fJ)(f:Nat)(fn:Func)(args:List SV)(R:SV->Prop):VC:=fG G (calling G cfg 20) [] Ad (cfg.bx f) cfg.rounds fn args [] 0 (λv _ _=>.atom (R v))
theorem U8 (n:Int)(R:SV->Prop):VC.holds (eD YW 117 aM [.int .u64 C n] R)=(((I (0<n)=A->∀(u8:Nat),1<=u8->(I (0<n / 256)=A->u8*1=u8*1/\∀(u7:Nat),2<=u7->(I (0<n / 256 / (256:Int))=A->u7*1=u7*1/\∀(u6:Nat),3<=u6->(I (0<n / 256 / (256:Int) / (256:Int))=A->u6*1=u6*1/\∀(u5:Nat),4<=u5->(I (0<n / 256 / (256:Int) / (256:Int) / (256:Int))=A->u5*1=u5*1/\∀(u4:Nat),5<=u4->(I (0<n / 256 / (256:Int) / (256:Int) / (256:Int) / (256:Int))=A->u4*1=u4*1/\∀(u3:Nat),6<=u3->(I (0<n / 256 / (256:Int) / (256:Int) / (256:Int) / (256:Int) / (256:Int))=A->u3*1=u3*1/\∀(u2:Nat),7<=u2->(I (0<n / 256 / (256:Int) / (256:Int) / (256:Int) / (256:Int) / (256:Int) / (256:Int))=A->u2*1=u2*1/\∀(u1:Nat),8<=u1->(I (0<n / 256 / (256:Int) / (256:Int) / (256:Int) / (256:Int) / (256:Int) / (256:Int) / (256:Int))=A->u1*1=u1*1/\∀(u0:Nat),9<=u0->False)/\(I (0<n / 256 / (256:Int) / (256:Int) / (256:Int) / (256:Int) / (256:Int) / (256:Int) / (256:Int))=C ->R (SV.str (C&&(C&&(C&&(C&&(C&&(C&&(C&&(C&&A)))))))) [J (n / 256 / (256:Int) / (256:Int) / (256:Int) / (256:Int) / (256:Int) / (256:Int)% (256:Int)).toNat,J (n / 256 / (256:Int) / (256:Int) / (256:Int) / (256:Int) / (256:Int)% (256:Int)).toNat,J (n / 256 / (256:Int) / (256:Int) / (256:Int) / (256:Int)% (256:Int)).toNat,J (n / 256 / (256:Int) / (256:Int) / (256:Int)% (256:Int)).toNat,J (n / 256 / (256:Int) / (256:Int)% (256:Int)).toNat,J (n / 256 / (256:Int)% (256:Int)).toNat,J (n / 256% (256:Int)).toNat,J (n% 256).toNat])))/\(I (0<n / 256 / (256:Int) / (256:Int) / (256:Int) / (256:Int) / (256:Int) / (256:Int))=C ->R (SV.str (C&&(C&&(C&&(C&&(C&&(C&&(C&&A))))))) [J (n / 256 / (256:Int) / (256:Int) / (256:Int) / (256:Int) / (256:Int)% (256:Int)).toNat,J (n / 256 / (256:Int) / (256:Int) / (256:Int) / (256:Int)% (256:Int)).toNat,J (n / 256 / (256:Int) / (256:Int) / (256:Int)% (256:Int)).toNat,J (n / 256 / (256:Int) / (256:Int)% (256:Int)).toNat,J (n / 256 / (256:Int)% (256:Int)).toNat,J (n / 256% (256:Int)).toNat,J (n% 256).toNat])))/\(I (0<n / 256 / (256:Int) / (256:Int) / (256:Int) / (256:Int) / (256:Int))=C->R (SV.str (C&&(C&&(C&&(C&&(C&&(C&&A)))))) [J (n / 256 / (256:Int) / (256:Int) / (256:Int) / (256:Int)% (256:Int)).toNat,J (n / 256 / (256:Int) / (256:Int) / (256:Int)% (256:Int)).toNat,J (n / 256 / (256:Int) / (256:Int)% (256:Int)).toNat,J (n / 256 / (256:Int)% (256:Int)).toNat,J (n / 256% (256:Int)).toNat,J (n% 256).toNat]))) /\(I (0<n / 256 / (256:Int) / (256:Int) / (256:Int) / (256:Int))=C->R (SV.str (C&&(C&&(C&&(C&&(C&&A))))) [J (n / 256 / (256:Int) / (256:Int) / (256:Int)% (256:Int)).toNat,J (n / 256 / (256:Int) / (256:Int)% (256:Int)).toNat,J (n / 256 / (256:Int)% (256:Int)).toNat,J (n / 256% (256:Int)).toNat,J (n% 256).toNat])))/\(I (0<n / 256 / (256:Int) / (256:Int) / (256:Int))=C->R (SV.str (C&&(C&&(C&&(C&&A)))) [J (n / 256 / (256:Int) / (256:Int)% (256:Int)).toNat,J (n / 256 / (256:Int)% (256:Int)).toNat,J (n / 256% (256:Int)).toNat,J (n% 256).toNat])))/\(I (0<n / 256 / (256:Int) / (256:Int))=C->R (SV.str (C&&(C&&(C&&A))) [J (n / 256 / (256:Int)% (256:Int)).toNat,J (n / 256% (256:Int)).toNat,J (n% 256).toNat])))/\(I (0<n / 256 / (256:Int))=C->R (SV.str (C&&(C&&A)) [J (n / 256% (256:Int)).toNat,J (n% 256).toNat]))) /\(I (0<n / 256)=C->R (SV.str (C&&A) [J (n% 256).toNat])))/\(I (0<n)=C->R (SV.str A [])))):=by kernel_rfl
theorem gQ {l:Bool}{a b:List UInt8}(h:a=b):af (.str l a) (.str C b):=λE=>by subst h;rfl
theorem Ss {k:Nat}{n:Int}(h:I (0<n)=C):CW k n=[]:=by
 have: ¬ (0<n):=by simpa using h
 cases k with
 | zero=>rfl
 | succ k=>simp[CW,this]
theorem Sr {k:Nat}{n:Int}(h:I (0<n)=A):CW (k+1) n=CW k (n / 256)++[J (n% 256).toNat]:=by
 have:0<n:=by simpa using h
 simp[CW,this]
theorem Fl {n:Int}(h0:0<=n)(h1:n<18446744073709551616):aB (eD YW 117 aM [.int .u64 C n] (λv=>af v (.str C (digits n)))):=by
 refine aB.of_eq (U8 n _) ?_;unfold digits
 repeat' first
  | apply And.intro
  | intro (_:_=_)
  | intro (c:Nat)
  | intro (_:_<=_)
 all_goals first
  | rfl
  | (apply gQ;simp only[Sr,Ss, *,List.nil_append,c6])
  | (exfalso;simp only[decide_eq_true_eq] at *;omega)
noncomputable def AN:List SV->Option (Prop×SV)
 | [.int .u64 C n]=>D (0<=n/\n<18446744073709551616,.str C (digits n))
 | _=>L
noncomputable def Hs:PT:=aY AN
theorem OO:az G 117 Hs:=by
 refine iJ abf (n:=20) (fn:=aM) Tryz.func117 (by kernel_rfl) (by kernel_rfl) ?_;intro args p r h hp;unfold AN at h;split at h
 ·rename_i n;injection h with h;injection h with h1 h2;subst h1;subst h2;exact⟨rfl,rfl,Fl hp.1 hp.2⟩
 ·cases h
noncomputable def Tm:List (FuncId×PT):=(117,Hs)::gd
theorem Ic:bn G (λf=>aE f Tm):=.cons OO (aR _) dU
noncomputable def ab1:fJ:={cm with cG:=λf=>aE f Tm}
end Go.Proofs.YtoibaecagklkaaaGreatDoor
namespace Go.Proofs.YtoibaecagklkaaaGreatDoor.Sx
open Go
inductive cL:Type 1 where
 | ret (v:SV)
 | new (v:Nat->SV) (B:SB)
 | all (α:Type) (f:α->cL)
 | req (p:Prop) (a:cL)
 | fork (b:Bool) (f:Bool->cL)
def cL.vc (m:Mem)(nx:Nat)(K:SV->Mem->Nat->VC):cL->VC
 | .ret v=>K v m nx
 | .new v B=>K (v nx) ((nx,B)::m) (nx+1)
 | .all α f=>.all α λx=>(f x).vc m nx K
 | .req p a=>.imp p (a.vc m nx K)
 | .fork b f=>Sx.fork b λb=>(f b).vc m nx K
def cL.Ok:cL->Prop
 | .ret v=>v.wf 0=A
 | .new v B=>B.wf 0=A/\B.ro=C/\(∀ k,(v k).wf (k+1)=A)/\∀(E E':Nat->Nat) k k',(B.no=C->E k=E' k')->(v k).val E=(v k').val E'
 | .all _α f=>∀ x,(f x).Ok
 | .req _ a=>a.Ok
 | .fork _ f=>∀ b,(f b).Ok
mutual
def SV.key:SV->Option Nat
 | .ptr k _ _=>D k
 | .slc k _ _ _ _=>D k
 | .aZ k _ _ _ _ _=>D k
 | .aN vs=>SV.keys vs
 | .agg vs=>SV.keys vs
 | .iface _ v=>v.key
 | _=>L
def SV.keys:List SV->Option Nat
 | []=>L
 | v::r=>match v.key with
   | some k=>D k
   | none=>SV.keys r
end
def cL.fit (v:SV)(m:Mem):cL->VC
 | .ret r=>.atom (af v r)
 | .new r B=>(match v.key with
   | some k=>(match m.get k with
     | some X=>.and (leA X B) (svA v (r k))
     | none=>.fail "no block")
   | none=>.fail "no key")
 | .all α f=>.ex α λx=>(f x).fit v m
 | .req p a=>.and (.atom p) (a.fit v m)
 | .fork b f=>Sx.fork b λb=>(f b).fit v m
noncomputable def cH (spec:List SV->Option (Prop×cL)):PT:=λargs m nx K=>match spec (args.map CI)with
 | some (p,a)=>.and (.atom p) (a.vc m nx K)
 | none=>.fail "arguments that nothing is said of"
theorem cL.wH {m:Mem}{nx:Nat}{K K':SV->Mem->Nat->VC}(hK: ∀ v m nx,(K v m nx).holds->(K' v m nx).holds): ∀ {a:cL},(a.vc m nx K).holds->(a.vc m nx K').holds
 | .ret _,h=>hK _ _ _ h
 | .new _ _,h=>hK _ _ _ h
 | .all _ _,h=>λx=>cL.wH hK (h x)
 | .req _ _,h=>λx=>cL.wH hK (h x)
 | .fork _ _,h=>cB.2 (cL.wH hK (cB.1 h))
theorem b9 (spec:List SV->Option (Prop×cL)):aQ (cH spec):=by
 intro args m nx K K' hK h;unfold cH at h ⊢;split at h
 ·exact⟨h.1,cL.wH hK h.2⟩
 ·exact h
theorem bz.le {E:Nat->Nat}{X B:SB}{o:Obj}(h:aa X B)(hn:B.no=C)(hb:bz E X o):bz E B o:=(h.old hn).2.1 E o hb
theorem aL.new {Γ E m nx w}(h:aL Γ E m nx w)(hw:Mem.wf nx m=A){E1:Nat->Nat}{m1:Mem}{nx1:Nat}{w':World}
  {gl gm} (h1:aL (bh.at w (λ_=>False) gl gm) E1 m1 nx1 w') {j:Nat} {X B:SB} (hX:m1.get j=D X) (hle:aa X B) (hw2:B.wf 0=A) (hr2:B.ro=C) :
  ∃ E',(∀ i,i<nx->E' i=E i)/\(B.no=C->E' nx=E1 j)/\aL Γ E' ((nx,B)::m) (nx+1) w':=by
 have hf:=h.still h1.ext;have hge: ∀ a,B.fR (E1 j) a->w.heap.size<=a:=λa ha=>by obtain⟨g1,_,g3⟩:=hle.2 _ a ha;exact(h1.jj j X a hX g1 (g3 hr2)).elim False.elim id
 refine⟨λi=>if i=nx then E1 j else E i,λi hi=>by simp[Nat.ne_of_lt hi],λ_=>by simp,?_⟩
 refine hf.Yh hw (λ_ _ h=>h) (λa ha=>⟨?_,λ_=>.inr (Nat.le_trans h.ext.size (hge a ha)),λi X hi hX=> ?_⟩) (λ_ _ _ _ _=>rfl) hf.ext (λ_ _=>rfl)
 ·obtain⟨g1,g2,_⟩:=hle.2 _ a ha;obtain⟨o,ho,hb⟩:=h1.iy j X a hX g1;exact⟨o,ho,(g2 E1 o hb).pure (SB.Ni hw2 a)⟩
 ·have:=hge a ha;have:=h.X3 hi hX;omega
theorem cL.told {Γ E m nx w}(h:aL Γ E m nx w)(hw:Mem.wf nx m=A){E1:Nat->Nat}{m1:Mem}{nx1:Nat}{w':World}
  {gl gm} (h1:aL (bh.at w (λ_=>False) gl gm) E1 m1 nx1 w') {v:SV} {K:SV->Mem->Nat->VC}: ∀ {a:cL},a.Ok->(a.fit v m1).holds->(a.vc m nx K).holds->bt (lift K) Γ E nx (v.val E1) w'
 | .ret r,hO,hf,hK=>⟨E,D r,m,nx,λ_ _=>rfl,Nat.le_refl _,λx hx=>by injection hx with hx;subst hx;have hf:af v r:=hf;rw[hf E1];exact SV.wG hO E1 E,h.still h1.ext,hK⟩
 | .new r B,hO,hf,hK=>by
   obtain⟨o1,o2,o3,o4⟩:=hO;simp only[cL.fit] at hf;split at hf
   ·rename_i k hk;split at hf
    ·rename_i X hX;obtain⟨f1,f2⟩:=hf;have f1:aa X B:=f1;have f2:af v (r k):=f2;obtain⟨E',e1,e2,e3⟩:=aL.new h hw h1 hX f1 o1 o2;refine⟨E',D (r nx),_,nx+1,e1,Nat.le_succ _,λx hx=> ?_,e3,hK⟩;injection hx with hx;subst hx;rw[f2 E1];exact o4 E1 E' k nx λhb=>(e2 hb).symm
    ·exact hf.elim
   ·exact hf.elim
 | .all _ f,hO,⟨x,hx⟩,hK=>cL.told h hw h1 (hO x) hx (hK x)
 | .req _ a,hO,hf,hK=>cL.told (a:=a) h hw h1 hO hf.2 (hK hf.1)
 | .fork _ _,hO,hf,hK=>cL.told h hw h1 (hO _) (cB.1 hf) (cB.1 hK)
theorem ew {P:Program}{f:FuncId}{fn:Func}(hf:P.funcs[f]?=D fn) (hn:(fn.name== "runtime.NumGoroutine")=C) (hb:fn.body.isSome=A) {n:Nat} {spec:List SV->Option (Prop×cL)}
  (h: ∀ args p a,spec args=D (p,a)->p->∃ cfg,Good P cfg/\SV.fH 0 args=A/\a.Ok/\aB (fG P (calling P cfg n) [] Ad (cfg.bx f) cfg.rounds fn args [] 0 (λv m _=>a.fit v m))):az P f (cH spec):=by
 intro args m nx K hk hwf hargs Γ E w hs;unfold cH at hk;split at hk
 ·rename_i p a hr;obtain⟨hp,hk⟩:=hk;obtain⟨cfg,hg,h1,h2,h3⟩:=h _ _ _ hr hp;have hc:=eV hg hf hn hb h3 rfl h1 (aL.none w hs.KU);rw[SV.sY h1 (λ_=>0) E,pX] at hc;refine fV hf hn hb (hc.mono ?_);rintro e w' ⟨v,rfl,E',sv,m',nx',_,_,g3,g4,g5⟩;refine⟨v,rfl,?_⟩;cases sv with
  | none=>exact g5.elim
  | some u=>rw[g3 u rfl];exact cL.told hs hwf g4 h2 g5 hk
 ·exact hk.elim
theorem SV.eZ {nx:Nat}: ∀ {a b:List SV},SV.fH nx a=A->SV.fH nx b=A->SV.fH nx (a++b)=A
 | [],_,_,h=>h
 | x::a,b,h,h'=>by simp only[SV.fH,ag] at h;simp only[c6,SV.fH,ag];exact⟨h.1,SV.eZ h.2 h'⟩
end Go.Proofs.YtoibaecagklkaaaGreatDoor.Sx
namespace Go.Proofs.YtoibaecagklkaaaGreatDoor
open Go Sx
set_option maxRecDepth 20000
def num (l:List UInt8):Int:=l.foldl (λa b=>a*256+(b.toNat:Int)) 0
def part (s:List UInt8)(i:Int):Int:=num ((s.drop 1).take (i - 1).toNat)
def jP (s:List UInt8)(to:Int):Bool:=I (to<=s.length)&& !decide (ai s 1=0)&&I (part s to<=1048576)&&I (55<part s to)
noncomputable def YL (s:List UInt8)(to:Int):aV :={α:=Int,pre:=λ_ i=>1<=i/\i<=to/\part s i<=1048576,kT:=λ_ i=>(to - i).toNat,fresh:=0,slots:=λ_ i=>[(6,.int .i64 C (part s i)),(7,.int .i64 C i)],mem:=λ_ _=>[]}
noncomputable def YY (s:List UInt8)(to:Int):fJ:={ab1 with bx:=λf=>if f=216 then [(7,always (YL s to))] else []}
noncomputable def hJ (cfg:fJ)(f:Nat)(fn:Func)(args:List SV)(a:cL):VC:=fG G (calling G cfg 20) [] Ad (cfg.bx f) cfg.rounds fn args [] 0 (λv m _=>a.fit v m)
def KQ (z:List SV):cL:=.all Int λat'=>.new (λk=>.aN (z++[.iface 290 (.ptr k A 0)])) (.cells [.int .i64 C at',.iface 30 (.int .i64 A 2)] 2 292)
def FO (s:List UInt8)(to:Int):cL:=.fork (jP s to) λb=>match b with
 | true=>.ret (.aN [.int .i64 C (part s to),.aK])
 | false=>KQ [.int .i64 A 0]
theorem Vb (s:List UInt8)(to:Int):VC.holds (hJ (YY s to) 216 a_ [.str C s,.int .i64 C to] (FO s to))=(((I ((s.length:Int)<to)=A->(jP s to=A->af (SV.aN [SV.int .i64 A 0,SV.iface 290 (SV.ptr 0 A 0)]) (SV.aN [SV.int .i64 C (part s to),SV.aK]))/\(jP s to=C->∃(u7:Int),aa (SB.cells [SV.int .i64 C (s.length:Int),SV.iface 30 (SV.int .i64 A 2)] 2 292) (SB.cells [SV.int .i64 C u7,SV.iface 30 (SV.int .i64 A 2)] 2 292)/\af (SV.aN [SV.int .i64 A 0,SV.iface 290 (SV.ptr 0 A 0)]) (SV.aN ([SV.int .i64 A 0]++[SV.iface 290 (SV.ptr 0 A 0)]))))/\(I ((s.length:Int)<to)=C->((0:Int)<=(1:Int)/\1<(s.length:Int))/\(I (ai s 1=0)=A->(jP s to=A->af (SV.aN [SV.int .i64 A 0,SV.iface 290 (SV.ptr 0 A 0)]) (SV.aN [SV.int .i64 C (part s to),SV.aK]))/\(jP s to=C->∃(u6:Int),aa (SB.cells [SV.int .i64 A 1,SV.iface 30 (SV.int .i64 A 2)] 2 292) (SB.cells [SV.int .i64 C u6,SV.iface 30 (SV.int .i64 A 2)] 2 292)/\af (SV.aN [SV.int .i64 A 0,SV.iface 290 (SV.ptr 0 A 0)]) (SV.aN ([SV.int .i64 A 0]++[SV.iface 290 (SV.ptr 0 A 0)]))))/\(I (ai s 1=0)=C->(∃(u5:Int),(1<=u5 /\u5<=to/\part s u5<=1048576)/\0=part s u5/\1=u5/\True)/\∀(u4:Int),1<=u4/\u4<=to/\part s u4<=1048576->(I (u4<to)=A->I6 (part s u4*256)/\(0<=u4/\u4<(s.length:Int))/\((-9223372036854775808:Int)<=ai s u4/\ai s u4<=9223372036854775807)/\(0<=part s u4*256/\part s u4*256<=(9223372036854775807:Int)/\0<=ai s u4/\ai s u4<=9223372036854775807)/\(I (1048576<bitsOf BinOp.or (part s u4*256) (ai s u4))=A->(jP s to=A->af (SV.aN [SV.int .i64 A 0,SV.iface 290 (SV.ptr ((0:Nat)) A 0)]) (SV.aN [SV.int .i64 C (part s to),SV.aK]))/\(jP s to=C->∃(u3:Int),aa (SB.cells [SV.int .i64 C u4,SV.iface 30 (SV.int .i64 A 2)] 2 292) (SB.cells [SV.int .i64 C u3,SV.iface 30 (SV.int .i64 A 2)] 2 292)/\af (SV.aN [SV.int .i64 A 0,SV.iface 290 (SV.ptr ((0:Nat)) A 0)]) (SV.aN ([SV.int .i64 A 0]++[SV.iface 290 (SV.ptr ((0:Nat)) A 0)]))))/\(I (1048576<bitsOf BinOp.or (part s u4*256) (ai s u4))=C ->I6 (u4+1)/\∃(u2:Int),((1<=u2/\u2<=to/\part s u2<=1048576)/\(to - u2).toNat<(to - u4).toNat)/\bitsOf BinOp.or (part s u4*256) (ai s u4)=part s u2/\u4+1=u2/\True))/\(I (u4<to)=C->(I (part s u4<=55)=A->(jP s to=A->af (SV.aN [SV.int .i64 A 0,SV.iface 290 (SV.ptr ((0:Nat)) A 0)]) (SV.aN [SV.int .i64 C (part s to),SV.aK]))/\(jP s to=C->∃(u1:Int),aa (SB.cells [SV.int .i64 A 1,SV.iface 30 (SV.int .i64 A 2)] 2 292) (SB.cells [SV.int .i64 C u1,SV.iface 30 (SV.int .i64 A 2)] 2 292)/\af (SV.aN [SV.int .i64 A 0,SV.iface 290 (SV.ptr ((0:Nat)) A 0)]) (SV.aN ([SV.int .i64 A 0]++[SV.iface 290 (SV.ptr ((0:Nat)) A 0)]))))/\(I (part s u4<=55)=C->(jP s to=A->af (SV.aN [SV.int .i64 C (part s u4),SV.aK]) (SV.aN [SV.int .i64 C (part s to),SV.aK]))/\(jP s to=C->∃(_:Int),False))))))):=by kernel_rfl
theorem eO (s:List UInt8)(i:Int):0<=ai s i/\ai s i<256:=by unfold ai;have:=(s.getD i.toNat 0).toNat_lt;omega
theorem nY (l:List UInt8)(b:UInt8):num (l++[b])=num l*256+(b.toNat:Int):=by simp[num]
theorem I1 (s:List UInt8):part s 1=0:=by simp[part,num]
theorem Er {s:List UInt8}{x:Int}(h:1<=x)(h2:x<s.length):part s (x+1)=part s x*256+ai s x:=by
 unfold part;have e:(x+1 - 1).toNat=(x - 1).toNat+1:=by omega
 have hx:(x - 1).toNat<(s.drop 1).length:=by simp;omega
 rw[e,List.take_add_one,a! hx];simp only[Option.toList,nY];have e2:ai s x=((s.drop 1)[(x - 1).toNat].toNat:Int):=by
  have:1+(x - 1).toNat=x.toNat:=by omega
  unfold ai;rw[List.getElem_drop,List.getD_eq_getElem?_getD,a! (by omega)];simp only[Option.getD_some,this]
 rw[e2]
theorem sI (s:List UInt8)(x:Int):0<=part s x:=by
 unfold part num;suffices ∀(l:List UInt8) (a:Int),0<=a->0<=l.foldl (λa b=>a*256+(b.toNat:Int)) a from this _ _ (Int.le_refl _)
 intro l;induction l with
 | nil=>exact λ_ h=>h
 | cons b r ih=>intro a h;exact ih _ (show 0<=a*256+(b.toNat:Int)by omega)
theorem Ep {s:List UInt8}{x:Int}(h:1<=x): ∀(n:Nat),x+n<=s.length->part s x<=part s (x+n)
 | 0,_=>by simp
 | n+1,hn=>by
   have h1:=Ep (s:=s) h n (by omega);have h2:=Er (s:=s) (x:=x+n) (by omega) (by omega);have h3:=eO s (x+n);have h4:=sI s (x+n);have:x+((n+1:Nat):Int)=x+n+1:=by omega
   rw[this,h2];omega
theorem WX {s:List UInt8}{x y:Int}(h:1<=x)(hy:y<=s.length)(hxy:x<=y):part s x<=part s y:=by
 have:=Ep (s:=s) h (y - x).toNat (by omega)
 rwa [show x+((y - x).toNat:Int)=y by omega] at this
theorem T8 {a b:Int}(ha:0<=a)(hb:0<=b)(hb2:b<256):bitsOf .or (a*256) b=a*256+b:=by
 obtain⟨a,rfl⟩:=c5 ha;obtain⟨b,rfl⟩:=c5 hb;have:((a:Int)*256)=((a*256:Nat):Int):=by omega
 rw[this];show((((a*256:Nat):Int).toNat ||| (b:Int).toNat:Nat):Int)=_;simp only[Int.toNat_natCast];have:=Nat.two_pow_add_eq_or_of_lt (i:=8) (b:=b) (by omega) a;rw[show(2:Nat)^8=256 from rfl,Nat.mul_comm] at this
 omega
theorem iz {s:List UInt8}{to:Int}:jP s to=A↔to<=s.length/\ai s 1≠0/\part s to<=1048576/\55<part s to:=by simp[jP,and_assoc]
theorem FP {s:List UInt8}{to:Int}(h2:2<=to)(h3:to<100):aB (hJ (YY s to) 216 a_ [.str C s,.int .i64 C to] (FO s to)):=by
 refine aB.of_eq (Vb s to) ?_;have F: ∀ {p:Prop},¬ (to<=s.length/\ai s 1≠0/\part s to<=1048576/\55<part s to)->jP s to=A->p:=λh e=>absurd (iz.1 e) h;refine⟨λa=>⟨F (by simp at a;omega),λ_=>by(first | exact⟨_,aa.cells (λ_=>rfl) rfl,λ_=>rfl⟩ | exact λ_=>rfl | trivial)⟩,λa=> ?_⟩
 simp only[decide_eq_false_iff_not,Int.not_lt] at a;refine⟨by omega,λb=>⟨F (by simp at b;simp[b]),λ_=>by(first | exact⟨_,aa.cells (λ_=>rfl) rfl,λ_=>rfl⟩ | exact λ_=>rfl | trivial)⟩,λb=> ?_⟩
 simp only[decide_eq_false_iff_not] at b;refine⟨⟨1,⟨by omega,by omega,by rw[I1];decide⟩,(I1 s).symm,rfl,trivial⟩,λx ⟨hx1,hx2,hx3⟩=> ?_⟩;have g1:=sI s x;have g2:=eO s x;rw[T8 g1 g2.1 g2.2];refine⟨λc=> ?_,λc=> ?_⟩
 ·simp only[decide_eq_true_eq] at c;have g3:=Er (s:=s) hx1 (by omega);rw[← g3];refine⟨by omega,by omega,by omega,by omega,λd=>⟨F ?_,λ_=>by(first | exact⟨_,aa.cells (λ_=>rfl) rfl,λ_=>rfl⟩ | exact λ_=>rfl | trivial)⟩,λd=>⟨by omega,x+1,⟨⟨by omega,by omega,by simpa using d⟩,by omega⟩,rfl,rfl,trivial⟩⟩
  simp only[decide_eq_true_eq] at d;have:=WX (s:=s) (x:=x+1) (by omega) a (by omega);omega
 ·simp only[decide_eq_false_iff_not] at c;obtain rfl:x=to:=by omega
  refine⟨λd=>⟨F (by simp at d;omega),λ_=>by(first | exact⟨_,aa.cells (λ_=>rfl) rfl,λ_=>rfl⟩ | exact λ_=>rfl | trivial)⟩,λd=>⟨λ_=>by(first | exact⟨_,aa.cells (λ_=>rfl) rfl,λ_=>rfl⟩ | exact λ_=>rfl | trivial),λe=> ?_⟩⟩
  simp only[decide_eq_false_iff_not] at d;rw[iz.2 ⟨a,b,hx3,by omega⟩] at e;cases e
def Bt:List SV->Option (Prop×cL)
 | [.str C s,.int .i64 C to]=>D (2<=to/\to<100,FO s to)
 | _=>L
noncomputable def Ia:PT:=cH Bt
theorem abh (s:List UInt8)(to:Int):Sx.Good G (YY s to):=.of bR Ic bl
theorem Dy {z:List SV}(hz:SV.fH 0 z=A):(KQ z).Ok:=by
 intro x;refine⟨rfl,rfl,λk=>SV.eZ (SV.iF (Nat.zero_le _) z hz) ?_,λE E' k k' h=> ?_⟩
 ·simp[SV.fH,SV.wf,Nat.blt_eq]
 ·have hk:E k=E' k':=h rfl;have hv:=SV.sY hz E E';simp only[SV.bA] at hv;simp[SV.val,SV.bA,hk,hv]
theorem O8:az G 216 Ia:=by
 refine ew (n:=20) (fn:=a_) Tryz.func216 (by kernel_rfl) (by kernel_rfl) ?_;intro args p a h hp;unfold Bt at h;split at h
 ·rename_i s to;injection h with h;injection h with h1 h2;subst h1;subst h2;refine⟨_,abh s to,rfl,λb=> ?_,FP hp.1 hp.2⟩;cases b
  ·exact Dy rfl
  ·exact rfl
 ·cases h
noncomputable def Tn:List (FuncId×PT):=(216,Ia)::Tm
theorem Ie:bn G (λf=>aE f Tn):=.cons O8 (b9 _) Ic
noncomputable def Rs:fJ:={cm with cG:=λf=>aE f Tn}
theorem X4:Sx.Good G Rs:=.of bR Ie bl
def lead (s:List UInt8):Int:=if ai s 0<192 then ai s 0 - 128 else ai s 0 - 192
def cutFrom (s:List UInt8):Int:=if ai s 0<128 then 0 else if 55<lead s then lead s - 54 else 1
def KB (s:List UInt8):Int:=if ai s 0<128 then 1 else if 55<lead s then part s (lead s - 54)else lead s
def bM (s:List UInt8):Bool:=I (s≠[])&&(I (ai s 0<128)||((!decide (55<lead s)||jP s (lead s - 54))&&I (KB s<=s.length - cutFrom s)&& !(I (ai s 0<192)&&I (lead s=1)&&I (ai s 1<128))))
def dj (s:List UInt8):Bool:=I (192<=ai s 0)
def ah (s:List UInt8):List UInt8:=(s.drop (cutFrom s).toNat).take (KB s).toNat
def aH (s:List UInt8):List UInt8:=s.drop (cutFrom s+KB s).toNat
def Y0 (s:List UInt8):cL:=.fork (bM s) λb=>match b with
 | true=>.ret (.aN [.bool C (dj s),.str C (ah s),.str C (aH s),.aK])
 | false=>KQ [.bool A C,.str A [],.str A []]
end Go.Proofs.YtoibaecagklkaaaGreatDoor
