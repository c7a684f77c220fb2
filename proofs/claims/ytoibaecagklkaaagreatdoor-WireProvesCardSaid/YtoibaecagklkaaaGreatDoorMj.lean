/- A part of the proof. -/
import Derived.Test.YtoibaecagklkaaaGreatDoorMi
import Derived.Laws.Externs
import Derived.ProofKit
import Derived.ChangeSame
open Bool renaming and_eq_true->ag,false->C,false_eq_true->an,true->A
open Decidable renaming decide->O
open Go.DataW renaming TrodAll->V,trod->b5
open Go.Extern.ReflectliteType renaming abiMethod->b6,assignableTo->Y,elem->b7,implements_->b9,method->Z,relation->T,toType->b_,typeOf->b!
open Go.Extern.ReflectliteValue renaming methodAny->cl,valueError->ct
open Go.Extern.Rtype renaming kind->az,noPackHeld->cx
open Go.Proofs.Tryz renaming f117->aO,f216->a_,prog->G
open Go.Result renaming andThen_ok->Q
open Go.Sem renaming run_bind->S,run_pure->cy
open Int renaming eq_ofNat_of_zero_le->cD,ofNat->L
open List renaming cons_append->c4,getElem?_eq_getElem->a!,map_cons->c5,mem_append->c6,mem_cons->M,mem_cons_of_mem->bf,mem_cons_self->c7,not_mem_nil->N
open Option renaming none->J,some->D
open UInt8 renaming ofNat->I
namespace Go.Proofs.YtoibaecagklkaaaGreatDoor
open Go Sx
variable {fn:Func}{f:FuncId}{n:Int}{s:f_}{m:Mem}{k nx t:Nat}{P:Program}{v:SV}{K:SV->Mem->Nat->VC}{W w w':World}
section
open Go Sx
theorem gq {e:Array Value->Sem Value}(hf:P.funcs[f]?=D fn) (h1:(fn.name== "runtime.NumGoroutine")=C) (h2:fn.body.isNone=A)
  (h3:Extern.findNext fn=J) (h4:Extern.find fn=D e) {args:Array Value} {v:Value}  (h:(e args).run P w=.ok v w'):(callFunc f args).run P w=.ok (.value v) w':=by
 rw[run_callFunc_extern hf h1 h2 h3 h4,h];rfl
abbrev oo:TypeId:=212
noncomputable abbrev yg (t:Nat):Value:=.pointer (D ⟨hB,t,J⟩)
noncomputable abbrev hd (t:Nat):SV:=.raw (yg t)
noncomputable abbrev tyV (t:Nat):SV:=.iface oo (.agg [hd t])
def oY {β:Type}(a:Nat):List (Nat×β)->Option β
 | []=>J
 | e::r=>if e.1=a then D e.2 else oY a r
theorem gz {β:Type}{a:Nat}{b:β}: ∀ {l:List (Nat×β)},oY a l=D b->(a,b)∈ l
 | [],h=>by cases h
 | e::r,h=>by
   unfold oY at h;split at h
   ·rename_i he;cases h;subst he;simp
   ·exact bf _ (gz h)
def KH {β:Type}(a b:Nat):List (Nat×Nat×β)->Option β
 | []=>J
 | e::r=>if e.1=a/\e.2.1=b then D e.2.2 else KH a b r
theorem tR {β:Type}{a b:Nat}{c:β}: ∀ {l:List (Nat×Nat×β)},KH a b l=D c->(a,b,c)∈ l
 | [],h=>by cases h
 | e::r,h=>by
   unfold KH at h;split at h
   ·rename_i he;cases h;obtain⟨rfl,rfl⟩:=he;simp
   ·exact bf _ (tR h)
noncomputable def De:SV->Option Nat
 | .raw (.pointer (D ⟨b,t,J⟩))=>if b=hB then D t else J
 | _=>J
theorem jR (h:De v=D t):v=hd t:=by
 unfold De at h;split at h
 ·rename_i b t';split at h
  ·rename_i e;cases h;subst e;rfl
  ·cases h
 ·cases h
noncomputable def s6:PT:=λargs m nx K=>match args with
 | [.iface t _]=>K (tyV t) m nx
 | _=>.fail "TypeOf"
noncomputable def jG:PT:=λargs m nx K=>match args with
 | [.agg [h]]=>(match De h with
   | some t=>(match oY t Ho with
     | some b=>K (.bool A b) m nx
     | none=>.fail "Comparable")
   | none=>.fail "Comparable")
 | _=>.fail "Comparable"
noncomputable def pO:PT:=λargs m nx K=>match args with
 | [.iface t v]=>(match oY t di,v.plain with
   | some k,A=>K (.agg [hd t,.ptr nx A 0,.int .u64 A (L (k+128))]) ((nx,.cells v.cells v.cells.length t)::m) (nx+1)
   | _,_=>.fail "ValueOf")
 | _=>.fail "ValueOf"
noncomputable def D5:PT:=λargs m nx K=>match args with
 | [.agg [h,.ptr _ A 0,.int .u64 _ n]]=>(match De h with
   | some t=>(match oY t di with
     | some k=>if n=L (k+128)then K (tyV t) m nx else .fail "Value.Type"
     | none=>.fail "Value.Type")
   | none=>.fail "Value.Type")
 | _=>.fail "Value.Type"
noncomputable def CH:PT:=λargs m nx K=>match args with
 | [h]=>(match De h with
   | some t=>(match oY t di with
     | some k=>K (.int .u8 A (L k)) m nx
     | none=>.fail "Kind")
   | none=>.fail "Kind")
 | _=>.fail "Kind"
noncomputable def wI:PT:=λargs m nx K=>match args with
 | [.agg [h]]=>(match De h with
   | some t=>(match oY t kS with
     | some e=>K (tyV e) m nx
     | none=>.fail "Elem")
   | none=>.fail "Elem")
 | _=>.fail "Elem"
noncomputable def Gk (tab:List (Nat×Nat×Bool)):PT:=λargs m nx K=>match args with
 | [.agg [h],.iface t (.agg [g])]=>(match De h,De g with
   | some a,D b=>(match KH a b tab with
     | some c=>if t=oo then K (.bool A c) m nx else .fail "a relation of types"
     | none=>.fail "a relation of types")
   | _,_=>.fail "a relation of types")
 | _=>.fail "a relation of types"
noncomputable def Bj (m:Mem):SV->Option (Nat×SV)
 | .agg [h,.ptr key A 0,.int .u64 _ n]=>(match De h,m.get key with
   | some t,D (.cells (.ptr k b o::_) _ _)=>(match oY t kS with
     | some _=>if n=150 then D (t,.ptr k b o)else J
     | none=>J)
   | _,_=>J)
 | _=>J
noncomputable def wX:PT:=λargs m nx K=>match args with
 | [v]=>(match Bj m v with
   | some _=>K (.bool A C) m nx
   | none=>.fail "IsNil")
 | _=>.fail "IsNil"
noncomputable def wJ:PT:=λargs m nx K=>match args with
 | [v]=>(match Bj m v with
   | some (t,p)=>(match oY t kS with
     | some e=>(match oY e di with
       | some k=>K (.agg [hd e,p,.int .u64 A (L (k+128+256))]) m nx
       | none=>.fail "Value.Elem")
     | none=>.fail "Value.Elem")
   | none=>.fail "Value.Elem")
 | _=>.fail "Value.Elem"
noncomputable def LR:PT:=λargs m nx K=>match args with
 | [.agg [h,p,.int .u64 _ n],.agg [g,.ptr key A 0,.int .u64 _ n']]=>(match De h,De g,m.get key with
   | some a,D b,D (.cells (v::_) _ _)=>(match KH a b DN,oY a di,oY b di with
     | some wrap,D k,D k'=>if n=L (k+128+256)/\n'=L (k'+128)then
        od G a (D p) (D (match wrap with | true=>.iface b v | false=>v)) m nx (λ_ m nx=>K (.aN []) m nx)else .fail "Value.Set"
     | _,_,_=>.fail "Value.Set")
   | _,_,_=>.fail "Value.Set")
 | _=>.fail "Value.Set"
noncomputable def BJ:PT:=Gk (yu++F4)
noncomputable def No:PT:=Gk HQ
theorem Km: ∀ p∈ di,∀ w,(az p.1).run G w=.ok p.2 w:=by
 intro p hp w;simp only[di,M,N,or_false] at hp
 repeat' first
  | (rcases hp with rfl | hp)
  | subst hp
  | kernel_rfl
theorem Vt: ∀ p∈ Ho,∀ w,((Z λt=>do cx "Comparable" t;pure (.bool (← typeInfo t).comparable)) #[.agg #[yg p.1]]).run G w=.ok (.bool p.2) w:=by
 intro p hp w;simp only[Ho,M,N,or_false] at hp
 repeat' first
  | (rcases hp with rfl | hp)
  | subst hp
  | kernel_rfl
theorem YC: ∀ p∈ di,∀(a:Addr) w,(cl (ct "reflectlite.Value.Type" 0) (λt _ _ _=>b_ t) #[.agg #[yg p.1,.pointer (D a),.int .u64 (L (p.2+128))]]).run G w
  = .ok (.iface oo (.agg #[yg p.1])) w:=by
 intro p hp a w;simp only[di,M,N,or_false] at hp
 repeat' first
  | (rcases hp with rfl | hp)
  | subst hp
  | kernel_rfl
theorem Js: ∀ p∈ di,∀ w,((b6 λt=>do pure (.int .u8 (L (← az t)))) #[yg p.1]).run G w=.ok (.int .u8 (L p.2)) w:=by
 intro p hp w;simp only[di,M,N,or_false] at hp
 repeat' first
  | (rcases hp with rfl | hp)
  | subst hp
  | kernel_rfl
theorem RZ: ∀ p∈ kS,∀ w,(Z b7 #[.agg #[yg p.1]]).run G w=.ok (.iface oo (.agg #[yg p.2])) w:=by
 intro p hp w;simp only[kS,M,N,or_false] at hp
 repeat' first
  | (rcases hp with rfl | hp)
  | subst hp
  | kernel_rfl
theorem Wl: ∀ p∈ HQ,∀ w,(T "Implements" b9 #[.agg #[yg p.1],.iface oo (.agg #[yg p.2.1])]).run G w=.ok (.bool p.2.2) w:=by
 intro p hp w;simp only[HQ,M,N,or_false] at hp
 repeat' first
  | (rcases hp with rfl | hp)
  | subst hp
  | kernel_rfl
theorem MH: ∀ p∈ yu,∀ w,(T "AssignableTo" Y #[.agg #[yg p.1],.iface oo (.agg #[yg p.2.1])]).run G w=.ok (.bool p.2.2) w:=by
 intro p hp w;simp only[yu,M,N,or_false] at hp
 repeat' first
  | (rcases hp with rfl | hp)
  | subst hp
  | kernel_rfl
noncomputable def Zc (t:Nat):Array (String×TypeId):=match G.underlying t with
 | some (.interface l)=>l
 | _=>#[]
noncomputable def ab6 (t:Nat):Array Method:=match G.info? t with
 | some i=>i.methods
 | none=>#[]
theorem aaK: ∀ p∈ F4,∀ w,(T "AssignableTo" Y #[.agg #[yg p.1],.iface oo (.agg #[yg p.2.1])]).run G w=.ok (.bool (C||(Instr.missingMethod (Zc p.2.1) (ab6 p.1)).isNone)) w:=by
 intro p hp w;simp only[F4,M,N,or_false] at hp
 repeat' first
  | (rcases hp with rfl | hp)
  | subst hp
  | kernel_rfl
theorem Xk: ∀ p∈ F4,Fx (Zc p.2.1) (ab6 p.1)=A/\p.2.2=false:=by
 intro p hp;simp only[F4,M,N,or_false] at hp
 repeat' first
  | (rcases hp with rfl | hp)
  | subst hp
  | exact⟨by kernel_rfl,rfl⟩
theorem aen: ∀ p∈ F4,∀ w,(T "AssignableTo" Y #[.agg #[yg p.1],.iface oo (.agg #[yg p.2.1])]).run G w=.ok (.bool p.2.2) w:=by intro p hp w;obtain⟨h1,h2⟩:=Xk p hp;obtain⟨m,hm⟩:=CJ h1;rw[aaK p hp w,h2,hm];rfl
theorem O3 (t:Nat)(v:Value)(w:World):(b! #[.iface t v]).run G w=.ok (.iface oo (.agg #[yg t])) w:=by kernel_rfl
end
section
open Go Sx
set_option maxRecDepth 20000
theorem bC {s:String}{α:Prop}(h:(VC.fail s).holds):α:=False.elim h
section
variable {K : SV -> Mem -> Nat -> VC} {Γ : aT} {E : Nat -> Nat} {nx : Nat} {m : Mem} {w : World}
theorem gG (h:(K v m nx).holds)(hs:aJ Γ E m nx w):bx (lift K) Γ E nx (v.val E) w :=⟨E,D v,m,nx,λ_ _=>rfl,Nat.le_refl _,λu hu=>by cases hu;rfl,hs,h⟩
end
theorem TS:ax G 113 s6:=by
 intro args m nx K h hw ha Γ E w hs;unfold s6 at h;split at h
 ·rename_i t v;simp only[SV.vals,SV.val];rw[gq (e:=b!) Tryz.func113 (by kernel_rfl) (by kernel_rfl) (by kernel_rfl) (by kernel_rfl) (O3 t _ w)];simp only[Out];exact gG (v:=tyV t) h hs
 ·exact bC h
set_option maxRecDepth 20000 in
theorem Ek:ax G 247 jG:=by
 intro args m nx K h hw ha Γ E w hs;unfold jG at h;split at h
 ·rename_i x;split at h
  ·rename_i t ht;have hx:=jR ht;split at h
   ·rename_i b hb;rw[hx];simp only[SV.vals,SV.val];rw[gq (e:=Z λt=>do cx "Comparable" t;pure (.bool (← typeInfo t).comparable)) Tryz.func247 (by kernel_rfl) (by kernel_rfl) (by kernel_rfl) (by kernel_rfl) (Vt _ (gz hb) w)]
    simp only[Out];exact gG (v:=.bool A b) h hs
   ·exact bC h
  ·exact bC h
 ·exact bC h
set_option maxRecDepth 20000 in
theorem aax:ax G 235 CH:=by
 intro args m nx K h hw ha Γ E w hs;unfold CH at h;split at h
 ·rename_i x;split at h
  ·rename_i t ht;have hx:=jR ht;split at h
   ·rename_i k hk;rw[hx];simp only[SV.vals,SV.val];rw[gq (e:=b6 λt=>do pure (.int .u8 (← az t))) Tryz.func235 (by kernel_rfl) (by kernel_rfl) (by kernel_rfl) (by kernel_rfl) (Js _ (gz hk) w)]
    simp only[Out];exact gG (v:=.int .u8 A (L k)) h hs
   ·exact bC h
  ·exact bC h
 ·exact bC h
set_option maxRecDepth 20000 in
theorem VB:ax G 248 wI:=by
 intro args m nx K h hw ha Γ E w hs;unfold wI at h;split at h
 ·rename_i x;split at h
  ·rename_i t ht;have hx:=jR ht;split at h
   ·rename_i e he;rw[hx];simp only[SV.vals,SV.val];rw[gq (e:=Z b7) Tryz.func248 (by kernel_rfl) (by kernel_rfl) (by kernel_rfl) (by kernel_rfl) (RZ _ (gz he) w)];simp only[Out];exact gG (v:=tyV e) h hs
   ·exact bC h
  ·exact bC h
 ·exact bC h
set_option maxRecDepth 20000 in
theorem aao:ax G 249 No:=by
 intro args m nx K h hw ha Γ E w hs;unfold No Gk at h;split at h
 ·rename_i x t y;split at h
  ·rename_i a b hx hy;have hx:=jR hx;have hy:=jR hy;split at h
   ·rename_i c hc;split at h
    ·rename_i e;subst e;rw[hx,hy];simp only[SV.vals,SV.val];rw[gq (e:=T "Implements" b9) Tryz.func249 (by kernel_rfl) (by kernel_rfl) (by kernel_rfl) (by kernel_rfl) (Wl _ (tR hc) w)];simp only[Out];exact gG (v:=.bool A c) h hs
    ·exact bC h
   ·exact bC h
  ·exact bC h
 ·exact bC h
set_option maxRecDepth 20000 in
theorem RH:ax G 246 BJ:=by
 intro args m nx K h hw ha Γ E w hs;unfold BJ Gk at h;split at h
 ·rename_i x t y;split at h
  ·rename_i a b hx hy;have hx:=jR hx;have hy:=jR hy;split at h
   ·rename_i c hc;split at h
    ·rename_i e;subst e;rw[hx,hy];simp only[SV.vals,SV.val];have hrun:(T "AssignableTo" Y #[.agg #[yg a],.iface oo (.agg #[yg b])]).run G w=.ok (.bool c) w:=by
      rcases c6.1 (tR hc)with h1 | h1
      ·exact MH _ h1 w
      ·exact aen _ h1 w
     rw[gq (e:=T "AssignableTo" Y) Tryz.func246 (by kernel_rfl) (by kernel_rfl) (by kernel_rfl) (by kernel_rfl) hrun];simp only[Out];exact gG (v:=.bool A c) h hs
    ·exact bC h
   ·exact bC h
  ·exact bC h
 ·exact bC h
set_option maxRecDepth 20000 in
theorem abi:ax G 86 D5:=by
 intro args m nx K h hw ha Γ E w hs;unfold D5 at h;split at h
 ·rename_i x key l n;split at h
  ·rename_i t ht;have hx:=jR ht;split at h
   ·rename_i k hk;split at h
    ·rename_i e;subst e;rw[hx];simp only[SV.vals,SV.val];rw[gq (e:=cl (ct "reflectlite.Value.Type" 0) (λt _ _ _=>b_ t)) Tryz.func86 (by kernel_rfl) (by kernel_rfl) (by kernel_rfl) (by kernel_rfl) (YC _ (gz hk) _ w)];simp only[Out];exact gG (v:=tyV t) h hs
    ·exact bC h
   ·exact bC h
  ·exact bC h
 ·exact bC h
end
section
open Go Sx Extern
theorem rlm (z:Sem Value)(f:TypeId->Addr->Nat->Nat->Sem Value)(v:Value) :
  ReflectliteValue.method z f #[v]=(do match ← ReflectliteValue.parts v with | none=>z | some (t,a,fl)=>f t a fl (fl% 32)):=rfl
theorem rls (v x:Value):ReflectliteValue.set #[v,x]=(do
  let (D (dst,a,fl),D (src,b,_)):=(← ReflectliteValue.parts v,← ReflectliteValue.parts x)
   | unsupported (.noEntry "extern/(internal/reflectlite.Value).Set.zeroValue")
  if fl / ReflectliteValue.flagAddr% 2==0 then unsupported (.noEntry "extern/(internal/reflectlite.Value).Set.unaddressable")
  let val ← loadVar src b
  if ← Rtype.directlyAssignable dst src then storeVar dst a val
  else if ← Rtype.implements dst src then
   if(← Rtype.kind src)==20 then
    match val with
    | .nilIface=>unsupported (.noEntry "extern/reflectlite: a nil value of one interface type handed on as a value of another")
    | _=>storeVar dst a val
   else storeVar dst a (.iface src val)
  else panicString ("reflectlite.Set: value of type " ++ (← Rtype.spelt src)++ " is not assignable to type " ++ (← Rtype.spelt dst))
  pure (.tuple #[])):=rfl
theorem Ng (t:Nat)(w:World):(Rtype.handle t).run G w=.ok (yg t) w:=by kernel_rfl
theorem Xd (h:(t,k)∈ di)(a:Addr)(fl:Nat)(w:World):(ReflectliteValue.mk t a fl).run G w=.ok (.agg #[yg t,.pointer (D a),.int .u64 (L (k+128+fl))]) w:=by have h1:=Km _ h w;simp only at h1;simp only[ReflectliteValue.mk,S,Ng,h1,Q,cy];rfl
theorem zq: ∀ p∈ di,∀(a:Addr) w,(ReflectliteValue.parts (.agg #[yg p.1,.pointer (D a),.int .u64 (L (p.2+128))])).run G w=.ok (D (p.1,a,p.2+128)) w:=by
 intro p hp a w;simp only[di,M,N,or_false] at hp
 repeat' first
  | (rcases hp with rfl | hp)
  | subst hp
  | kernel_rfl
theorem Od: ∀ p∈ di,∀(a:Addr) w,(ReflectliteValue.parts (.agg #[yg p.1,.pointer (D a),.int .u64 (L (p.2+128+256))])).run G w=.ok (D (p.1,a,p.2+128+256)) w:=by
 intro p hp a w;simp only[di,M,N,or_false] at hp
 repeat' first
  | (rcases hp with rfl | hp)
  | subst hp
  | kernel_rfl
theorem Lw: ∀ p∈ kS,(p.1,22)∈ di/\G.underlying p.1=D (.pointer p.2):=by
 intro p hp;simp only[kS,M,N,or_false] at hp
 repeat' first
  | (rcases hp with rfl | hp)
  | subst hp
  | exact⟨by simp[di],by kernel_rfl⟩
theorem elem?_run: ∀ p∈ kS,∀ w,(Rtype.elem? p.1).run G w=.ok (D p.2) w:=by
 intro p hp w;simp only[kS,M,N,or_false] at hp
 repeat' first
  | (rcases hp with rfl | hp)
  | subst hp
  | kernel_rfl
noncomputable def Lh (t:Nat):Bool:=match G.underlying t with
 | some d=>!fS d
 | none=>C
theorem Te: ∀ p∈ di,Lh p.1=true:=by
 intro p hp;simp only[di,M,N,or_false] at hp
 repeat' first
  | (rcases hp with rfl | hp)
  | subst hp
  | kernel_rfl
theorem Xx: ∀ p∈ di,∃ d,G.underlying p.1=D d/\fS d=false:=by
 intro p hp;have:=Te p hp;unfold Lh at this;split at this
 ·rename_i d hd;exact⟨d,hd,by simpa using this⟩
 ·cases this
theorem M1: ∀ p∈ DN,∀ w,(Rtype.directlyAssignable p.1 p.2.1).run G w=.ok (!p.2.2) w:=by
 intro p hp w;simp only[DN,M,N,or_false] at hp
 repeat' first
  | (rcases hp with rfl | hp)
  | subst hp
  | kernel_rfl
theorem Zp: ∀ p∈ DN,p.2.2=A->∀ w,(Rtype.implements p.1 p.2.1).run G w=.ok A w/\(p.2.1,20)∉ di:=by
 intro p hp hw w;simp only[DN,M,N,or_false] at hp
 repeat' first
  | (rcases hp with rfl | hp)
  | subst hp
  | cases hw
  | exact⟨by kernel_rfl,by simp[di]⟩
theorem sw (h:(t,k)∈ di){b o:Nat}{c:Array Value}{ty:TypeId}{fr:Nat×Nat}(hb:w.heap[b]?=D (.cells c ty fr)){v:Value}(hv:c[o]?=D v) :
  (loadVar t ⟨b,o,J⟩).run G w=.ok v w:=by
 obtain⟨d,h1,h2⟩:=Xx _ h;simp only[loadVar,S,cO h1,h2,Q,an,if_false,run_load,cell_of hb,hv]
set_option maxRecDepth 20000 in
theorem O9:ax G 85 pO:=by
 intro args m nx K h hw ha Γ E w hs;unfold pO at h;split at h
 ·rename_i t v;split at h
  ·rename_i k hk hp;have hm:=gz hk;simp only[SV.vals,SV.val]
   have hrun:((λargs=>ReflectliteValue.unpack (args.getD 0 (.tuple #[]))) #[Value.iface t (v.val E)]).run G w =
     .ok (.agg #[yg t,.pointer (D ⟨w.heap.size,0,J⟩),.int .u64 (L (k+128+0))]) {w with heap:=w.heap.push (.cells (v.val E).cells t)}:=by
    show(ReflectliteValue.unpack (Value.iface t (v.val E))).run G w=_;simp only[ReflectliteValue.unpack,S,vJ,Q,Xd hm]
   rw[gq (e:=λargs=>ReflectliteValue.unpack (args.getD 0 (.tuple #[]))) Tryz.func85 (by kernel_rfl) (by kernel_rfl) (by kernel_rfl) (by kernel_rfl) hrun];simp only[Out];simp only[SV.fH,SV.wf,Bool.and_true] at ha;refine bx.alloc hs hw (K:=lift K) (sv:=.agg [hd t,.ptr nx A 0,.int .u64 A (L (k+128))]) (oI ha) (xh (by rw[SV.fI hp])) (sy (E:=E) (by rw[SV.fI hp])) h ?_;simp[SV.val,SV.vals]
  ·exact bC h
 ·exact bC h
theorem Cu {p:SV}(h:Bj m v=D (t,p)): ∃ key l cs tot ty k b o e,v=.agg [hd t,.ptr key A 0,.int .u64 l 150]/\p=.ptr k b o/\m.get key=D (.cells (.ptr k b o::cs) tot ty)/\(t,e)∈ kS:=by
 unfold Bj at h;split at h
 ·rename_i x key l n;split at h
  ·rename_i t' k b o cs tot ty ht hk;split at h
   ·rename_i e he;split at h
    ·rename_i hn;cases h;subst hn;exact⟨key,l,cs,tot,ty,k,b,o,e,by rw[jR ht],rfl,hk,gz he⟩
    ·cases h
   ·cases h
  ·cases h
 ·cases h
set_option maxRecDepth 20000 in
theorem Wp:ax G 87 wX:=by
 intro args m nx K h hw ha Γ E w hs;unfold wX at h;split at h
 ·rename_i v;split at h
  ·rename_i tp htp;obtain⟨t,p⟩:=tp;obtain⟨key,l,cs,tot,ty,k,b,o,e,hv,hp,hk,he⟩:=Cu htp;obtain⟨ob,ho,c,fr,rfl,_,h2,_⟩:=hs.oB key _ hk rfl;have h0:=h2 0 _ rfl;obtain⟨hkt,hun⟩:=Lw _ he;have hrun:(ReflectliteValue.method (ReflectliteValue.valueError "reflectlite.Value.IsNil" 0) ReflectliteValue.isNil #[.agg #[yg t,.pointer (D ⟨E key,0,J⟩),.int .u64 150]]).run G w=.ok (.bool C) w:=by
    rw[rlm];have hp:=zq _ hkt ⟨E key,0,J⟩ w;have hl:=sw hkt ho h0;simp only[show L (22+128)=150 from rfl] at hp
    simp only[S,hp,Q,ReflectliteValue.isNil];simp[hl,SV.val]
   rw[hv];simp only[SV.vals,SV.val];rw[gq (e:=ReflectliteValue.method (ReflectliteValue.valueError "reflectlite.Value.IsNil" 0) ReflectliteValue.isNil) Tryz.func87 (by kernel_rfl) (by kernel_rfl) (by kernel_rfl) (by kernel_rfl) hrun];simp only[Out];exact gG (v:=.bool A C) h hs
  ·exact bC h
 ·exact bC h
set_option maxRecDepth 20000 in
theorem VD:ax G 133 wJ:=by
 intro args m nx K h hw ha Γ E w hs;unfold wJ at h;split at h
 ·rename_i v;split at h
  ·rename_i t p htp;obtain⟨key,l,cs,tot,ty,k,b,o,e0,hv,hp,hk,he0⟩:=Cu htp;split at h
   ·rename_i e he;have he:=gz he;split at h
    ·rename_i ke hke;have hke:=gz hke;obtain⟨ob,ho,c,fr,rfl,_,h2,_⟩:=hs.oB key _ hk rfl;have h0:=h2 0 _ rfl;obtain⟨hkt,hun⟩:=Lw _ he;have hrun:(ReflectliteValue.method (ReflectliteValue.valueError "reflectlite.Value.Elem" 0) ReflectliteValue.elem #[.agg #[yg t,.pointer (D ⟨E key,0,J⟩),.int .u64 150]]).run G w=.ok (.agg #[yg e,.pointer (D ⟨E k,o,J⟩),.int .u64 (L (ke+128+256))]) w:=by
      rw[rlm];have hp:=zq _ hkt ⟨E key,0,J⟩ w;have hl:=sw hkt ho h0;have hel:=elem?_run _ he w;have hmk:=Xd hke ⟨E k,o,J⟩ ReflectliteValue.flagAddr w;simp only at hel;simp only[show L (22+128)=150 from rfl] at hp
      simp only[S,hp,Q,ReflectliteValue.elem];simp[hl,SV.val,hel,hmk];rfl
     rw[hv];simp only[SV.vals,SV.val];rw[gq (e:=ReflectliteValue.method (ReflectliteValue.valueError "reflectlite.Value.Elem" 0) ReflectliteValue.elem) Tryz.func133 (by kernel_rfl) (by kernel_rfl) (by kernel_rfl) (by kernel_rfl) hrun];simp only[Out];subst hp;have:=gG (v:=.agg [hd e,.ptr k b o,.int .u64 A (L (ke+128+256))]) h hs;simpa [SV.val,SV.vals] using this
    ·exact bC h
   ·exact bC h
  ·exact bC h
 ·exact bC h
end
section
open Go Sx Extern
set_option maxRecDepth 20000
theorem aad: ∀ p∈ di,((p.2+128+256) / ReflectliteValue.flagAddr% 2==0)=false:=by
 intro p hp;simp only[di,M,N,or_false] at hp
 repeat' first
  | (rcases hp with rfl | hp)
  | subst hp
  | rfl
set_option maxRecDepth 20000 in
theorem I8 {t:TypeId}{p x:SV}{Γ:aT}{E:Nat->Nat}(h:(od G t (D p) (D x) m nx (λ_ m nx=>K (.aN []) m nx)).holds)(hs:aJ Γ E m nx w)(hw:Mem.wf nx m=A)
  (hp:p.wf nx=A) (hx:x.wf nx=A) {a:Addr} (ha:p.val E=.pointer (D a)) (_h0:a.spot=J) :
  ∃ w',(storeVar t a (x.val E)).run G w=.ok () w'/\bx (lift K) Γ E nx (.tuple #[]) w':=by
 have:=FR (P:=G) (Γ:=Γ) (m:=m) (nx:=nx) (σ:=λo=>match o with | .tmp 0=>D p | .tmp 1=>D x | _=>J) (dst:=J) (t:=t) (type:=0) (pos:= "") (after:=#[]) (guard:=J) (a:=.tmp 0) (x:=.tmp 1)
  (λ_ m nx=>K (.aN []) m nx) E w (λo=>match o with | .tmp 0=>p.val E | .tmp 1=>x.val E | _=>undef) h hs hw (λo v hv=>by
    simp only at hv;split at hv
    ·cases hv;exact hp
    ·cases hv;exact hx
    ·cases hv) (λo v hv=>by
    simp only at hv ⊢;split at hv
    ·cases hv;rfl
    ·cases hv;rfl
    ·cases hv)
 simp only[execOp,Instr.storeAt,ha,Instr.sureAddr,S,cy,Q] at this;generalize hr:(storeVar t a (x.val E)).run G w=r at this;cases r with
 | halt e w'=>cases e<;>simp[Result.andThen,Out] at this
 | ok u w' =>simp only[Q,Out] at this;obtain⟨E',sv,m',nx',g1,g2,g3,g4,g5⟩:=this;exact⟨w',rfl,E',D (.aN []),m',nx',g1,g2,λv hv=>by cases hv;rfl,g4,g5⟩
set_option maxRecDepth 20000 in
theorem aeF:ax G 134 LR:=by
 intro args m nx K h hw ha Γ E w hs;unfold LR at h;split at h
 ·rename_i x p l n y key l' n';split at h
  ·rename_i a b v cs tot ty hx hy hk;have hx:=jR hx;have hy:=jR hy;split at h
   ·rename_i wrap k k' hwr hka hkb;have hwr:=tR hwr;have hka:=gz hka;have hkb:=gz hkb;split at h
    ·rename_i hn;obtain⟨rfl,rfl⟩:=hn;obtain⟨ob,ho,c,fr,rfl,_,h2,_⟩:=hs.oB key _ hk rfl;have h0:=h2 0 _ rfl;have hvw:v.wf nx=true:=SV.uy (Mem.Jj hw hk) (i:=0) rfl;have hpw:p.wf nx=true:=by simp only[SV.fH,SV.wf,ag] at ha;exact ha.1.2.1
     have hpp: ∃ q,p.val E=.pointer (D q)/\q.spot=none:=by
      unfold od at h;split at h
      ·rename_i e _ _;cases e;exact⟨_,rfl,rfl⟩
      ·rename_i e _ _;cases e;exact⟨_,rfl,rfl⟩
      ·rename_i e _ _;cases e;exact⟨_,rfl,rfl⟩
      ·rename_i e _ _;cases e;exact⟨_,rfl,rfl⟩
      ·rename_i e _ _;cases e;exact⟨_,rfl,rfl⟩
      ·exact bC h
     obtain⟨q,hq,hsp⟩:=hpp;obtain⟨w',hst,haft⟩:=I8 h hs hw hpw (by cases wrap<;>exact hvw) hq hsp
     have hp1:=Od _ hka q w;have hp2:=zq _ hkb ⟨E key,0,J⟩ w;have hd:=M1 _ hwr w;have hl:=sw hkb ho h0;simp only at hp1 hp2 hd;have hflag:((k+128+256) / ReflectliteValue.flagAddr% 2==0)=false:=aad _ hka;have hrun:(ReflectliteValue.set #[.agg #[yg a,.pointer (D q),.int .u64 (L (k+128+256))],.agg #[yg b,.pointer (D ⟨E key,0,J⟩),.int .u64 (L (k'+128))]]).run G w=.ok (.tuple #[]) w':=by
      rw[rls];simp only[S,hp1,hp2,Q,hflag,an,if_false,hl,hd];cases wrap with
      | false =>
        simp only[Bool.not_false,if_true]
        try simp only at hst
        rw[S,hst];rfl
      | true =>
        obtain⟨hi,hne⟩:=Zp _ hwr rfl w;have hkk:=Km _ hkb w;simp only at hi hkk;have h20:(k'==20)=false:=by simp only[beq_eq_false_iff_ne,ne_eq];intro e;subst e;exact hne hkb
        simp only[Bool.not_true,an,if_false,S,hi,Q,if_true,hkk,h20];simp only[SV.val] at hst;rw[hst];rfl
     rw[hx,hy];simp only[SV.vals,SV.val,hq];rw[gq (e:=ReflectliteValue.set) Tryz.func134 (by kernel_rfl) (by kernel_rfl) (by kernel_rfl) (by kernel_rfl) hrun];exact haft
    ·exact bC h
   ·exact bC h
  ·exact bC h
 ·exact bC h
theorem K1:aQ s6:=by intro args m nx K K' hK h;unfold s6 at h ⊢;split at h;exact hK _ _ _ h;exact bC h
theorem A4:aQ jG:=by
 intro args m nx K K' hK h;unfold jG at h ⊢;repeat' split at h
 all_goals first | exact bC h | (simp only[*];done) | (simp only[*];exact hK _ _ _ h)
theorem S6:aQ CH:=by
 intro args m nx K K' hK h;unfold CH at h ⊢;repeat' split at h
 all_goals first | exact bC h | (simp only[*];done) | (simp only[*];exact hK _ _ _ h)
theorem NU:aQ wI:=by
 intro args m nx K K' hK h;unfold wI at h ⊢;repeat' split at h
 all_goals first | exact bC h | (simp only[*];done) | (simp only[*];exact hK _ _ _ h)
theorem KZ (tab:List (Nat×Nat×Bool)):aQ (Gk tab):=by
 intro args m nx K K' hK h;unfold Gk at h ⊢;repeat' split at h
 all_goals first | exact bC h | (simp only[*,if_true];done) | (simp only[*,if_true];exact hK _ _ _ h)
theorem S7:aQ D5:=by
 intro args m nx K K' hK h;unfold D5 at h ⊢;repeat' split at h
 all_goals first | exact bC h | (simp only[*,if_true];done) | (simp only[*,if_true];exact hK _ _ _ h)
theorem Ip:aQ pO:=by
 intro args m nx K K' hK h;unfold pO at h ⊢;repeat' split at h
 all_goals first | exact bC h | (simp only[*];done) | (simp only[*];exact hK _ _ _ h)
theorem NW:aQ wX:=by
 intro args m nx K K' hK h;unfold wX at h ⊢;repeat' split at h
 all_goals first | exact bC h | (simp only[*];done) | (simp only[*];exact hK _ _ _ h)
theorem NV:aQ wJ:=by
 intro args m nx K K' hK h;unfold wJ at h ⊢;repeat' split at h
 all_goals first | exact bC h | (simp only[*];done) | (simp only[*];exact hK _ _ _ h)
theorem KN {t:TypeId}{a x:Option SV}{K K':KL}(hK: ∀ v m nx,(K v m nx).holds->(K' v m nx).holds)(h:(od P t a x m nx K).holds):(od P t a x m nx K').holds:=by
 unfold od at h ⊢;repeat' split at h
 all_goals first | exact bC h | exact hK _ _ _ h | exact⟨h.1,hK _ _ _ h.2⟩ | (simp only[*,if_true];done) | (simp only[*,if_true];exact hK _ _ _ h) | (simp only[*,if_true];exact⟨h.1,hK _ _ _ h.2⟩)
theorem Xe:aQ LR:=by
 intro args m nx K K' hK h;unfold LR at h ⊢;split at h
 ·split at h
  ·split at h
   ·split at h
    ·rename_i hn;simp only[*,and_self,if_true];exact KN (λ_ _ _=>hK _ _ _) h
    ·exact bC h
   ·exact bC h
  ·exact bC h
 ·exact bC h
noncomputable def iD:List (FuncId×PT):=[(113,s6),(247,jG),(235,CH),(248,wI),
 (249,No),(246,BJ),(86,D5),(85,pO),
 (87,wX),(133,wJ),(134,LR)]
theorem fo:bp G (λf=>aD f iD):=by
 unfold iD;apply bp.cons
 ·exact TS
 ·exact K1
 apply bp.cons
 ·exact Ek
 ·exact A4
 apply bp.cons
 ·exact aax
 ·exact S6
 apply bp.cons
 ·exact VB
 ·exact NU
 apply bp.cons
 ·exact aao
 ·exact KZ _
 apply bp.cons
 ·exact RH
 ·exact KZ _
 apply bp.cons
 ·exact abi
 ·exact S7
 apply bp.cons
 ·exact O9
 ·exact Ip
 apply bp.cons
 ·exact Wp
 ·exact NW
 apply bp.cons
 ·exact VD
 ·exact NV
 apply bp.cons
 ·exact aeF
 ·exact Xe
 exact bp.nil
end
namespace Sx
open Go Go.RowKit Go.WideShapes Go.ChangeShapes
section
variable {H : Type} {enc : TypeId × Value -> H} {P : Program}
theorem EA {f:Func}{s:ChangeSpec}{apart fresh handsOn again:Bool}{W':World}{args:Array Value}{v:Value}{ds gs:List (DataW H)}{before pa pv:List MemPlace}
  (hW:DataW.Whole enc P f.params.toList s.vars apart W args.toList ds gs before)
  (hres: ∀(b:Nat) (sp:Nat->Bool) (hd:Bool),V enc P W' b sp hd f.resultTypes.toList (v.resultList f.resultTypes.size) (s.fn H (ds++gs)).results [])
  (hargs: ∀ sp:Nat->Bool,(∀ p∈ before,sp p.block=A)->V enc P W' 0 sp A f.params.toList args.toList (s.fn H (ds++gs)).args pa)
  (hvars: ∀ sp:Nat->Bool,(∀ p∈ before,sp p.block=A)->DataW.TrodVars enc P W' sp s.vars (s.fn H (ds++gs)).vars pv)
  (hps:before=pa++pv) (hb:Below W.heap.size W W')
  (hok: ∀(j:Nat) (t:TypeId) (r:Value),f.resultTypes[j]?=D t->(v.resultList f.resultTypes.size)[j]?=D r->Value.okWide P W' .any 0 t r) :
  s.post enc P f apart fresh handsOn again W args v W':=by
 have hlt: ∀ p∈ before,p.block<W.heap.size:=λp hp=>hW.lt p hp;have hold: ∀ p∈ before,(λb=>decide (b<W.heap.size)) p.block=true:=λp hp=>by simpa using hlt p hp
 refine⟨ds,gs,before,[],pa,pv,hW,hres _ _ _,hargs _ hold,hvars _ hold,World.keptBut_mono (λp hp=>⟨hp,?_⟩) (hb.frame (· ∈ before)),λ_=> ?_⟩
 ·rw[hps,c6] at hp;exact Or.inr hp
 ·obtain⟨_,_,_,_,_,hz,hn⟩:=hW;refine⟨hok,_,_,([]++pa)++pv,⟨[]++pa,pv,trodAll_append (hargs _ (λ_ _=>rfl)) (hres _ _ _),hvars _ (λ_ _=>rfl),rfl,?_,?_⟩,?_⟩
  ·intro b off hp;have hin:MemPlace.cell b off∈ before:=by rw[hps];simpa using hp
   rw[hb.frozen (hlt _ hin)];exact hz b off hin
  ·intro ha;have:=hn ha;rw[hps] at this;simpa using this
  ·intro p hp _;rw[hps];simpa using hp
theorem uX (hl:laidOutB P=A){W W':World}(hb:Below W.heap.size W W'){sp:Nat->Bool}: ∀ {ts:List TypeId} {vs:List Value} {ds:List (DataW H)} {ps:List MemPlace},
  (∀ t∈ ts,P.readableRec t=A/\t<P.types.size)->V enc P W 0 (λ_=>A) A ts vs ds ps->(∀ x∈ ps,x.block<W.heap.size)->(∀ x∈ ps,sp x.block=A)->V enc P W' 0 sp A ts vs ds ps
 | [],[],[],ps,_,h,_,_=>h
 | t::ts,v::vs,d::ds,ps,ht,h,hlt,hsp=>by obtain⟨p,q,h1,h2,rfl⟩:=h;refine⟨p,q,?_,uX hl hb (λt h=>ht t (bf _ h)) h2 (λx hx=>hlt x (by simp[hx])) (λx hx=>hsp x (by simp[hx])),rfl⟩;exact WideElems.Trod_stays hl (ht t (c7 ..)).1 (ht t (c7 ..)).2 h1 (λx hx=>hb.same (hlt x (by simp[hx]))) (λx hx=>hsp x (by simp[hx]))
theorem AQ {W:World}{b:Nat}{sp:Nat->Bool}{hd:Bool}: ∀ {ts:List TypeId} {vs:List Value} {ds:List (DataW H)} {ps:List MemPlace},V enc P W b sp hd ts vs ds ps->ds.length=ts.length/\vs.length=ts.length
 | [],[],[],_,_=>⟨rfl,rfl⟩
 | _::_,_::_,_::_,_,h=>by obtain⟨p,q,_,h2,_⟩:=h;have:=AQ h2;simp[this.1,this.2]
 | [],[],_::_,_,h=>h.elim
 | [],_::_,_,_,h=>h.elim
 | _::_,[],_,_,h=>h.elim
 | _::_,_::_,[],_,h=>h.elim
end
theorem afN {base:Nat}{t e:TypeId}{v:Value}{H:Type}{enc:TypeId×Value->H}{d:DataW H}{ps:List MemPlace}(ht:P.underlying t=D (.slice e))
  (hval:Value.okWide P W .any base t v) (hd:DataW.Trod enc P W 0 (λ_=>A) A t v d ps) :
  ∃(z:Bool) (b o n c:Nat),v=(SV.bE 0 (P.cellsOf e) z o 0 n c).val (λ_=>b)/\n<=maxLen/\((z&&Nat.beq n 0)=C->∃ cs ty fr,W.heap[b]?=D (.cells cs ty fr) /\
   ∀ i,i<n->∃(xs:List Value) (y:DataW H×List MemPlace) (m:Nat),xs.length=P.cellsOf e/\(∀ k,k<P.cellsOf e->cs[o+i*P.cellsOf e+k]?=xs[k]?)/\b5 enc P W 0 (λ_=>A) A m e xs=D y):=by
 obtain⟨a0,n,c,rfl⟩:=okWide_slice ht hval;obtain⟨fuel,hf⟩:=hd;rcases DataW.trod_slice ht hf with ⟨h0,_⟩ | ⟨a,len,cap,elems,rest,m,_,hcs,_,hb,hlc,hmax,hlen,hel,_,_⟩
 ·simp only[Value.cells] at h0;have h1:a0=J/\n=0/\c=0:=by simpa using h0
  obtain⟨rfl,rfl,rfl⟩:=h1;exact⟨A,0,0,0,0,rfl,Nat.zero_le _,λh=>by cases h⟩
 ·simp only[Value.cells] at hcs;have h1:a0=D a/\n=len/\c=cap:=by simpa using hcs
  obtain⟨rfl,rfl,rfl⟩:=h1;have hhas:W.has P .any base a e c:=by simp only[Value.okWide,ht,Cell.okWide,Cell.ok] at hval;exact hval.2.2
  obtain⟨_,hspot,row,cells,hshape,_⟩:=hhas;obtain⟨oB,off,spot⟩:=a;simp only at hspot;subst hspot;have hcells: ∃ cs ty fr,W.heap[oB]?=D (.cells cs ty fr):=by
   unfold World.shape? at hshape;split at hshape
   ·rename_i cs ty fr h;exact⟨cs,ty,fr,h⟩
   ·cases hshape
  obtain⟨cs,ty,fr,hblk⟩:=hcells;refine⟨C,oB,off,n,c,by simp[SV.val],Nat.le_trans hlc hmax,λ_=>⟨cs,ty,fr,hblk,λi hi=> ?_⟩⟩;have h2:=hel i hi;rw[a! (by omega)] at h2;obtain⟨xs,hxs,hy⟩:=Option.bind_eq_some_iff.1 h2;obtain⟨_,hl2,hget⟩:=World.cells?_some hxs;refine⟨xs,_,m,hl2,λk hk=> ?_,hy⟩;have:=hget k hk;rw[← this,cW,cW,cell_of hblk]
def L7 (cs:Array Value)(j:Nat):f_:=match cs[j]? with
 | some (.string s)=>s.data.toList
 | _=>[]
theorem uY {H:Type}{enc:TypeId×Value->H}{m:Nat}{t:TypeId}{x:Value}{y:DataW H×List MemPlace}(ht:P.underlying t=D .string)(h:b5 enc P W 0 (λ_=>A) A m t [x]=D y)
  {cs:Array Value} {j:Nat} (hc:cs[j]?=D x):cs[j]?=D ((SV.str C (L7 cs j)).val (λ_=>0))/\(L7 cs j).length<=maxLen:=by
 obtain⟨s,hx,_,hw⟩:=DataW.trod_string ht h;cases hx;unfold L7;rw[hc];refine⟨by simp[SV.val],?_⟩;have he:s.data.toList.length=s.size:=Array.length_toList;show s.data.toList.length<=maxLen;rw[he];exact hw
end Sx
section
open Go Sx
set_option maxRecDepth 20000
theorem bR:G.follows .mixedOrders=true:=by kernel_rfl
theorem Xf:(G.funcs.all λfn=>!(fn.name== "runtime.NumGoroutine"))=true:=by kernel_rfl
theorem bq (f:FuncId)(fn:Func)(h:G.funcs[f]?=D fn):G.funcs[f]?=D fn/\(fn.name== "runtime.NumGoroutine")=false:=by refine⟨h,?_⟩;have:=Array.all_eq_true'.1 Xf fn (Array.mem_of_getElem? h);simpa using this
noncomputable def cv:fD:={cT:=λf=>aD f iD,fns:=λf=>G.funcs[f]?,aW:=λ_=>[],rounds:=100}
theorem mU:Sx.Good G cv:=.of bR fo bq
end
namespace Sx
open Go
def Jd:SV->SV
 | .int k _ n=>.int k C n
 | .bool _ b=>.bool C b
 | .str _ s=>.str C s
 | v=>v
def AS:SV->SV
 | .agg cs=>.agg (cs.map Jd)
 | v=>Jd v
theorem O5 (E:Nat->Nat)(v:SV):(Jd v).val E=v.val E:=by cases v<;>rfl
theorem AT (E:Nat->Nat): ∀ l:List SV,SV.vals E (l.map Jd)=SV.vals E l
 | []=>rfl
 | v::r=>by simp only[c5,SV.vals,O5,AT E r]
theorem GC (E:Nat->Nat)(v:SV):(AS v).val E=v.val E:=by cases v<;>first | rfl | simp only[AS,SV.val,AT]
theorem kO (E:Nat->Nat): ∀ l:List SV,SV.vals E (l.map AS)=SV.vals E l
 | []=>rfl
 | v::r=>by simp only[c5,SV.vals,GC,kO E r]
noncomputable def bn (spec:List SV->Option (Prop×SV)):PT:=λargs m nx K=>match spec (args.map AS)with
 | some (p,r)=>.and (.atom p) (K r m nx)
 | none=>.fail "arguments that nothing is said of"
def ah (v r:SV):Prop:=∀ E,v.val E=r.val E
def svA (v r:SV):VC:=.eqv (ah v r) (ah v v) (λ_=>rfl)
theorem aS (spec:List SV->Option (Prop×SV)):aQ (bn spec):=by
 intro args m nx K K' hK h;unfold bn at h ⊢;split at h
 ·exact⟨h.1,hK _ _ _ h.2⟩
 ·exact h
theorem je {cfg:fD}(hg:Good P cfg)(hf:P.funcs[f]?=D fn) (hn:(fn.name== "runtime.NumGoroutine")=C) (hb:fn.body.isSome=A) {n:Nat} {spec:List SV->Option (Prop×SV)}
  (h: ∀ args p r,spec args=D (p,r)->p->SV.fH 0 args=A/\r.wf 0=A/\ay (fE P (calling P cfg n) [] wq (cfg.aW f) cfg.rounds fn args [] 0 (λv _ _=>.atom (ah v r)))):ax P f (bn spec):=by
 intro args m nx K hk hwf hargs Γ E w hs;unfold bn at hk;split at hk
 ·rename_i p r hr;obtain⟨hp,hk⟩:=hk;obtain⟨h1,h2,h3⟩:=h _ _ _ hr hp;have hc:=fy hg hf hn hb h3 rfl h1 (aJ.none w hs.Cl);rw[SV.mI h1 (λ_=>0) E,kO] at hc;refine fN hf hn hb (hc.mono ?_);rintro e w' ⟨v,rfl,E',sv,m',nx',_,_,g3,g4,g5⟩;refine⟨v,rfl,?_⟩;cases sv with
  | none=>exact g5.elim
  | some u =>have hu:ah u r:=g5;refine⟨E,D r,m,nx,λ_ _=>rfl,Nat.le_refl _,λx hx=> ?_,hs.still g4.ext,hk⟩;cases hx;rw[g3 u rfl,hu E',SV.x8 h2 E' E]
 ·exact hk.elim
end Sx
section
open Go Sx
set_option maxRecDepth 20000
noncomputable def ac4:fD:={cv with rounds:=9}
theorem afC:Sx.Good G ac4:=.of bR fo bq
def Em:Nat->Int->f_
 | 0,_=>[]
 | k+1,n=>if 0<n then Em k (n / 256)++[I (n% 256).toNat] else []
def digits (n:Int):f_:=Em 8 n
noncomputable def eZ (cfg:fD)(f:Nat)(fn:Func)(args:List SV)(R:SV->Prop):VC:=fE G (calling G cfg 20) [] wq (cfg.aW f) cfg.rounds fn args [] 0 (λv _ _=>.atom (R v))
theorem YI (n:Int)(R:SV->Prop):VC.holds (eZ ac4 117 aO [.int .u64 C n] R)=((Fk (0<n) (∀(a:Nat),1<=a->Fk (0<n / 256) (a*1=a*1/\∀(b:Nat),2<=b->Fk (0<n / 256 / (256:Int)) (b*1=b*1/\∀(c:Nat),3<=c->Fk (0<n / 256 / (256:Int) / (256:Int)) (c*1=c*1/\∀(d:Nat),4<=d->Fk (0<n / 256 / (256:Int) / (256:Int) / (256:Int)) (d*1=d*1/\∀(e:Nat),5<=e->Fk (0<n / 256 / (256:Int) / (256:Int) / (256:Int) / (256:Int)) (e*1=e*1/\∀(f:Nat),6<=f->Fk (0<n / 256 / (256:Int) / (256:Int) / (256:Int) / (256:Int) / (256:Int)) (f*1=f*1/\∀(g:Nat),7<=g->Fk (0<n / 256 / (256:Int) / (256:Int) / (256:Int) / (256:Int) / (256:Int) / (256:Int)) (g*1=g*1/\∀(h:Nat),8<=h->Fk (0<n / 256 / (256:Int) / (256:Int) / (256:Int) / (256:Int) / (256:Int) / (256:Int) / (256:Int)) (h*1=h*1/\∀(i:Nat),9<=i->False) (R (SV.str (C&&(C&&(C&&(C&&(C&&(C&&(C&&(C&&A)))))))) [I (n / 256 / (256:Int) / (256:Int) / (256:Int) / (256:Int) / (256:Int) / (256:Int)% (256:Int)).toNat,I (n / 256 / (256:Int) / (256:Int) / (256:Int) / (256:Int) / (256:Int)% (256:Int)).toNat,I (n / 256 / (256:Int) / (256:Int) / (256:Int) / (256:Int)% (256:Int)).toNat,I (n / 256 / (256:Int) / (256:Int) / (256:Int)% (256:Int)).toNat,I (n / 256 / (256:Int) / (256:Int)% (256:Int)).toNat,I (n / 256 / (256:Int)% (256:Int)).toNat,I (n / 256% (256:Int)).toNat,I (n% 256).toNat]))) (R (SV.str (C&&(C&&(C&&(C&&(C&&(C&&(C&&A))))))) [I (n / 256 / (256:Int) / (256:Int) / (256:Int) / (256:Int) / (256:Int)% (256:Int)).toNat,I (n / 256 / (256:Int) / (256:Int) / (256:Int) / (256:Int)% (256:Int)).toNat,I (n / 256 / (256:Int) / (256:Int) / (256:Int)% (256:Int)).toNat,I (n / 256 / (256:Int) / (256:Int)% (256:Int)).toNat,I (n / 256 / (256:Int)% (256:Int)).toNat,I (n / 256% (256:Int)).toNat,I (n% 256).toNat]))) (R (SV.str (C&&(C&&(C&&(C&&(C&&(C&&A)))))) [I (n / 256 / (256:Int) / (256:Int) / (256:Int) / (256:Int)% (256:Int)).toNat,I (n / 256 / (256:Int) / (256:Int) / (256:Int)% (256:Int)).toNat,I (n / 256 / (256:Int) / (256:Int)% (256:Int)).toNat,I (n / 256 / (256:Int)% (256:Int)).toNat,I (n / 256% (256:Int)).toNat,I (n% 256).toNat]))) (R (SV.str (C&&(C&&(C&&(C&&(C&&A))))) [I (n / 256 / (256:Int) / (256:Int) / (256:Int)% (256:Int)).toNat,I (n / 256 / (256:Int) / (256:Int)% (256:Int)).toNat,I (n / 256 / (256:Int)% (256:Int)).toNat,I (n / 256% (256:Int)).toNat,I (n% 256).toNat]))) (R (SV.str (C&&(C&&(C&&(C&&A)))) [I (n / 256 / (256:Int) / (256:Int)% (256:Int)).toNat,I (n / 256 / (256:Int)% (256:Int)).toNat,I (n / 256% (256:Int)).toNat,I (n% 256).toNat]))) (R (SV.str (C&&(C&&(C&&A))) [I (n / 256 / (256:Int)% (256:Int)).toNat,I (n / 256% (256:Int)).toNat,I (n% 256).toNat]))) (R (SV.str (C&&(C&&A)) [I (n / 256% (256:Int)).toNat,I (n% 256).toNat]))) (R (SV.str (C&&A) [I (n% 256).toNat]))) (R (SV.str A [])))):=by kernel_rfl
theorem iJ {l:Bool}{a b:f_}(h:a=b):ah (.str l a) (.str C b):=λE=>by subst h;rfl
theorem VA (h:O (0<n)=C):Em k n=[]:=by
 have: ¬ (0<n):=by simpa using h
 cases k with
 | zero=>rfl
 | succ k=>simp[Em,this]
theorem Vz (h:O (0<n)=A):Em (k+1) n=Em k (n / 256)++[I (n% 256).toNat]:=by
 have:0<n:=by simpa using h
 simp[Em,this]
theorem Ht (h0:0<=n)(h1:n<18446744073709551616):ay (eZ ac4 117 aO [.int .u64 C n] (λv=>ah v (.str C (digits n)))):=by
 refine ay.mS (YI n _) (by delta Fk;exact rfl) ?_;unfold digits
 repeat' first
  | apply And.intro
  | intro (_:_=_)
  | intro (c:Nat)
  | intro (_:_<=_)
 all_goals first
  | rfl
  | (apply iJ;simp only[Vz,VA, *,List.nil_append,c4])
  | (exfalso;simp only[p_] at *;omega)
noncomputable def B3:List SV->Option (Prop×SV)
 | [.int .u64 C n]=>D (0<=n/\n<18446744073709551616,.str C (digits n))
 | _=>J
noncomputable def JQ:PT:=bn B3
theorem RY:ax G 117 JQ:=by
 refine je afC (n:=20) Tryz.func117 (by kernel_rfl) (by kernel_rfl) ?_;intro args p r h hp;unfold B3 at h;split at h
 ·rename_i n;cases h;exact⟨rfl,rfl,Ht hp.1 hp.2⟩
 ·cases h
noncomputable def WE:List (FuncId×PT):=(117,JQ)::iD
theorem Kz:bp G (λf=>aD f WE):=.cons RY (aS _) fo
noncomputable def agr:fD:={cv with cT:=λf=>aD f WE}
end
namespace Sx
open Go
inductive cK:Type 1 where
 | ret (v:SV)
 | new (v:Nat->SV) (B:SB)
 | all (α:Type) (f:α->cK)
 | req (p:Prop) (a:cK)
 | fork (b:Bool) (f:Bool->cK)
def cK.vc (m:Mem)(nx:Nat)(K:SV->Mem->Nat->VC):cK->VC
 | .ret v=>K v m nx
 | .new v B=>K (v nx) ((nx,B)::m) (nx+1)
 | .all α f=>.all α λx=>(f x).vc m nx K
 | .req p a=>.imp p (a.vc m nx K)
 | .fork b f=>Sx.fork b λb=>(f b).vc m nx K
def cK.Ok:cK->Prop
 | .ret v=>v.wf 0=A
 | .new v B=>B.wf 0=A/\B.ro=C/\(∀ k,(v k).wf (k+1)=A)/\∀(E E':Nat->Nat) k k',(B.no=C->E k=E' k')->(v k).val E=(v k').val E'
 | .all _α f=>∀ x,(f x).Ok
 | .req _ a=>a.Ok
 | .fork _ f=>∀ b,(f b).Ok
mutual
def SV.key:SV->Option Nat
 | .ptr k _ _=>D k
 | .slc k _ _ _ _=>D k
 | .aX k _ _ _ _ _=>D k
 | .aN vs=>SV.keys vs
 | .agg vs=>SV.keys vs
 | .iface _ v=>v.key
 | _=>J
def SV.keys:List SV->Option Nat
 | []=>J
 | v::r=>match v.key with
   | some k=>D k
   | none=>SV.keys r
end
def cK.fit (v:SV)(m:Mem):cK->VC
 | .ret r=>.atom (ah v r)
 | .new r B=>(match v.key with
   | some k=>(match m.get k with
     | some X=>.and (leA X B) (svA v (r k))
     | none=>.fail "no block")
   | none=>.fail "no key")
 | .all α f=>.ex α λx=>(f x).fit v m
 | .req p a=>.and (.atom p) (a.fit v m)
 | .fork b f=>Sx.fork b λb=>(f b).fit v m
noncomputable def bY (spec:List SV->Option (Prop×cK)):PT:=λargs m nx K=>match spec (args.map AS)with
 | some (p,a)=>.and (.atom p) (a.vc m nx K)
 | none=>.fail "arguments that nothing is said of"
theorem cK.qS {K':SV->Mem->Nat->VC}(hK: ∀ v m nx,(K v m nx).holds->(K' v m nx).holds): ∀ {a:cK},(a.vc m nx K).holds->(a.vc m nx K').holds
 | .ret _,h=>hK _ _ _ h
 | .new _ _,h=>hK _ _ _ h
 | .all _ _,h=>λx=>cK.qS hK (h x)
 | .req _ _,h=>λx=>cK.qS hK (h x)
 | .fork _ _,h=>bP.2 (cK.qS hK (bP.1 h))
theorem bO (spec:List SV->Option (Prop×cK)):aQ (bY spec):=by
 intro args m nx K K' hK h;unfold bY at h ⊢;split at h
 ·exact⟨h.1,cK.qS hK h.2⟩
 ·exact h
theorem bK.le {E:Nat->Nat}{X B:SB}{o:Obj}(h:aa X B)(hn:B.no=C)(hb:bK E X o):bK E B o:=(h.old hn).2.1 E o hb
theorem aJ.new {Γ E m nx w}(h:aJ Γ E m nx w)(hw:Mem.wf nx m=A){E1:Nat->Nat}{m1:Mem}{nx1:Nat}
  {gl gm} (h1:aJ (aT.at w (λ_=>False) gl gm) E1 m1 nx1 w') {j:Nat} {X B:SB} (hX:m1.get j=D X) (hle:aa X B) (hw2:B.wf 0=A) (hr2:B.ro=C) :
  ∃ E',(∀ i,i<nx->E' i=E i)/\(B.no=C->E' nx=E1 j)/\aJ Γ E' ((nx,B)::m) (nx+1) w':=by
 have hf:=h.still h1.ext;have hge: ∀ a,B.gB (E1 j) a->w.heap.size<=a:=λa ha=>by obtain⟨g1,_,g3⟩:=hle.2 _ a ha;exact(h1.iT j X a hX g1 (g3 hr2)).elim False.elim id
 refine⟨λi=>if i=nx then E1 j else E i,λi hi=>by simp[Nat.ne_of_lt hi],λ_=>by simp,?_⟩
 refine hf.ach hw (λ_ _ h=>h) (λa ha=>⟨?_,λ_=>.inr (Nat.le_trans h.ext.size (hge a ha)),λi X hi hX=> ?_⟩) (λ_ _ _ _ _=>rfl) hf.ext (λ_ _=>rfl)
 ·obtain⟨g1,g2,_⟩:=hle.2 _ a ha;obtain⟨o,ho,hb⟩:=h1.hJ j X a hX g1;exact⟨o,ho,(g2 E1 o hb).pure (SB.PW hw2 a)⟩
 ·have:=hge a ha;have:=h.glt hi hX;omega
theorem cK.told {Γ E m nx w}(h:aJ Γ E m nx w)(hw:Mem.wf nx m=A){E1:Nat->Nat}{m1:Mem}{nx1:Nat}
  {gl gm} (h1:aJ (aT.at w (λ_=>False) gl gm) E1 m1 nx1 w')  : ∀ {a:cK},a.Ok->(a.fit v m1).holds->(a.vc m nx K).holds->bx (lift K) Γ E nx (v.val E1) w'
 | .ret r,hO,hf,hK=>⟨E,D r,m,nx,λ_ _=>rfl,Nat.le_refl _,λx hx=>by cases hx;have hf:ah v r:=hf;rw[hf E1];exact SV.x8 hO E1 E,h.still h1.ext,hK⟩
 | .new r B,hO,hf,hK=>by
   obtain⟨o1,o2,o3,o4⟩:=hO;simp only[cK.fit] at hf;split at hf
   ·rename_i k hk;split at hf
    ·rename_i X hX;obtain⟨f1,f2⟩:=hf;have f1:aa X B:=f1;have f2:ah v (r k):=f2;obtain⟨E',e1,e2,e3⟩:=aJ.new h hw h1 hX f1 o1 o2;refine⟨E',D (r nx),_,nx+1,e1,Nat.le_succ _,λx hx=> ?_,e3,hK⟩;cases hx;rw[f2 E1];exact o4 E1 E' k nx λhb=>(e2 hb).symm
    ·exact hf.elim
   ·exact hf.elim
 | .all _ f,hO,⟨x,hx⟩,hK=>cK.told h hw h1 (hO x) hx (hK x)
 | .req _ a,hO,hf,hK=>cK.told (a:=a) h hw h1 hO hf.2 (hK hf.1)
 | .fork _ _,hO,hf,hK=>cK.told h hw h1 (hO _) (bP.1 hf) (bP.1 hK)
theorem ee (hf:P.funcs[f]?=D fn) (hn:(fn.name== "runtime.NumGoroutine")=C) (hb:fn.body.isSome=A) {n:Nat} {spec:List SV->Option (Prop×cK)}
  (h: ∀ args p a,spec args=D (p,a)->p->∃ cfg,Good P cfg/\SV.fH 0 args=A/\a.Ok/\ay (fE P (calling P cfg n) [] wq (cfg.aW f) cfg.rounds fn args [] 0 (λv m _=>a.fit v m))):ax P f (bY spec):=by
 intro args m nx K hk hwf hargs Γ E w hs;unfold bY at hk;split at hk
 ·rename_i p a hr;obtain⟨hp,hk⟩:=hk;obtain⟨cfg,hg,h1,h2,h3⟩:=h _ _ _ hr hp;have hc:=fy hg hf hn hb h3 rfl h1 (aJ.none w hs.Cl);rw[SV.mI h1 (λ_=>0) E,kO] at hc;refine fN hf hn hb (hc.mono ?_);rintro e w' ⟨v,rfl,E',sv,m',nx',_,_,g3,g4,g5⟩;refine⟨v,rfl,?_⟩;cases sv with
  | none=>exact g5.elim
  | some u=>rw[g3 u rfl];exact cK.told hs hwf g4 h2 g5 hk
 ·exact hk.elim
theorem SV.e8 : ∀ {a b:List SV},SV.fH nx a=A->SV.fH nx b=A->SV.fH nx (a++b)=A
 | [],_,_,h=>h
 | x::a,b,h,h'=>by simp only[SV.fH,ag] at h;simp only[c4,SV.fH,ag];exact⟨h.1,SV.e8 h.2 h'⟩
end Sx
section
open Go Sx
set_option maxRecDepth 20000
def num (l:f_):Int:=l.foldl (λa b=>a*256+(b.toNat:Int)) 0
def part (s:f_)(i:Int):Int:=num ((s.drop 1).take (i - 1).toNat)
def oU (s:f_)(to:Int):Bool:=O (to<=s.length)&& !decide (ai s 1=0)&&O (part s to<=1048576)&&O (55<part s to)
noncomputable def acV (s:f_)(to:Int):aY :={α:=Int,pre:=λ_ i=>1<=i/\i<=to/\part s i<=1048576,kH:=λ_ i=>(to - i).toNat,fresh:=0,slots:=λ_ i=>[(6,.int .i64 C (part s i)),(7,.int .i64 C i)],mem:=λ_ _=>[]}
noncomputable def ac6 (s:f_)(to:Int):fD:={agr with aW:=λf=>if f=216 then [(7,always (acV s to))] else []}
noncomputable def gT (cfg:fD)(f:Nat)(fn:Func)(args:List SV)(a:cK):VC:=fE G (calling G cfg 20) [] wq (cfg.aW f) cfg.rounds fn args [] 0 (λv m _=>a.fit v m)
def Na (z:List SV):cK:=.all Int λat'=>.new (λk=>.aN (z++[.iface 290 (.ptr k A 0)])) (.cells [.int .i64 C at',.iface 30 (.int .i64 A 2)] 2 292)
def HZ (s:f_)(to:Int):cK:=.fork (oU s to) λb=>match b with
 | true=>.ret (.aN [.int .i64 C (part s to),.aC])
 | false=>Na [.int .i64 A 0]
theorem YN (s:f_)(to:Int):VC.holds (gT (ac6 s to) 216 a_ [.str C s,.int .i64 C to] (HZ s to))=((Fk ((s.length:Int)<to) (Bk (oU s to) (ah (SV.aN [SV.int .i64 A 0,SV.iface 290 (SV.ptr 0 A 0)]) (SV.aN [SV.int .i64 C (part s to),SV.aC])) (∃(d:Int),aa (SB.cells [SV.int .i64 C (s.length:Int),SV.iface 30 (SV.int .i64 A 2)] 2 292) (SB.cells [SV.int .i64 C d,SV.iface 30 (SV.int .i64 A 2)] 2 292)/\ah (SV.aN [SV.int .i64 A 0,SV.iface 290 (SV.ptr 0 A 0)]) (SV.aN ([SV.int .i64 A 0]++[SV.iface 290 (SV.ptr 0 A 0)])))) (((0:Int)<=(1:Int)/\1<(s.length:Int))/\Fk (ai s 1=0) (Bk (oU s to) (ah (SV.aN [SV.int .i64 A 0,SV.iface 290 (SV.ptr 0 A 0)]) (SV.aN [SV.int .i64 C (part s to),SV.aC])) (∃(e:Int),aa (SB.cells [SV.int .i64 A 1,SV.iface 30 (SV.int .i64 A 2)] 2 292) (SB.cells [SV.int .i64 C e,SV.iface 30 (SV.int .i64 A 2)] 2 292)/\ah (SV.aN [SV.int .i64 A 0,SV.iface 290 (SV.ptr 0 A 0)]) (SV.aN ([SV.int .i64 A 0]++[SV.iface 290 (SV.ptr 0 A 0)])))) ((∃(c:Int),(1<=c /\c<=to/\part s c<=1048576)/\0=part s c/\1=c/\True)/\∀(a:Int),1<=a/\a<=to/\part s a<=1048576->Fk (a<to) (I6 (part s a*256)/\(0<=a/\a<(s.length:Int))/\((-9223372036854775808:Int)<=ai s a/\ai s a<=9223372036854775807)/\(0<=part s a*256/\part s a*256<=(9223372036854775807:Int)/\0<=ai s a/\ai s a<=9223372036854775807)/\Fk (1048576<bitsOf BinOp.or (part s a*256) (ai s a)) (Bk (oU s to) (ah (SV.aN [SV.int .i64 A 0,SV.iface 290 (SV.ptr ((0:Nat)) A 0)]) (SV.aN [SV.int .i64 C (part s to),SV.aC])) (∃(f:Int),aa (SB.cells [SV.int .i64 C a,SV.iface 30 (SV.int .i64 A 2)] 2 292) (SB.cells [SV.int .i64 C f,SV.iface 30 (SV.int .i64 A 2)] 2 292)/\ah (SV.aN [SV.int .i64 A 0,SV.iface 290 (SV.ptr ((0:Nat)) A 0)]) (SV.aN ([SV.int .i64 A 0]++[SV.iface 290 (SV.ptr ((0:Nat)) A 0)])))) (I6 (a+1)/\∃(b:Int),((1<=b/\b<=to/\part s b<=1048576)/\(to - b).toNat<(to - a).toNat)/\bitsOf BinOp.or (part s a*256) (ai s a)=part s b/\a+1=b/\True)) (Fk (part s a<=55) (Bk (oU s to) (ah (SV.aN [SV.int .i64 A 0,SV.iface 290 (SV.ptr ((0:Nat)) A 0)]) (SV.aN [SV.int .i64 C (part s to),SV.aC])) (∃(g:Int),aa (SB.cells [SV.int .i64 A 1,SV.iface 30 (SV.int .i64 A 2)] 2 292) (SB.cells [SV.int .i64 C g,SV.iface 30 (SV.int .i64 A 2)] 2 292)/\ah (SV.aN [SV.int .i64 A 0,SV.iface 290 (SV.ptr ((0:Nat)) A 0)]) (SV.aN ([SV.int .i64 A 0]++[SV.iface 290 (SV.ptr ((0:Nat)) A 0)])))) (Bk (oU s to) (ah (SV.aN [SV.int .i64 C (part s a),SV.aC]) (SV.aN [SV.int .i64 C (part s to),SV.aC])) (∃(_:Int),False))))))):=by kernel_rfl
theorem dW (s:f_)(i:Int):0<=ai s i/\ai s i<256:=by unfold ai;have:=(s.getD i.toNat 0).toNat_lt;omega
theorem o8 (l:f_)(b:UInt8):num (l++[b])=num l*256+(b.toNat:Int):=by simp[num]
theorem Ll (s:f_):part s 1=0:=by simp[part,num]
theorem F9 {x:Int}(h:1<=x)(h2:x<s.length):part s (x+1)=part s x*256+ai s x:=by
 unfold part;have e:(x+1 - 1).toNat=(x - 1).toNat+1:=by omega
 have hx:(x - 1).toNat<(s.drop 1).length:=by simp;omega
 rw[e,List.take_add_one,a! hx];simp only[Option.toList,o8];have e2:ai s x=((s.drop 1)[(x - 1).toNat].toNat:Int):=by
  have:1+(x - 1).toNat=x.toNat:=by omega
  unfold ai;rw[List.getElem_drop,List.getD_eq_getElem?_getD,a! (by omega)];simp only[Option.getD_some,this]
 rw[e2]
theorem tX (s:f_)(x:Int):0<=part s x:=by
 unfold part num;suffices ∀(l:f_) (a:Int),0<=a->0<=l.foldl (λa b=>a*256+(b.toNat:Int)) a from this _ _ (Int.le_refl _)
 intro l;induction l with
 | nil=>exact λ_ h=>h
 | cons b r ih=>intro a h;exact ih _ (show 0<=a*256+(b.toNat:Int)by omega)
theorem F8 {s:f_}{x:Int}(h:1<=x): ∀(n:Nat),x+n<=s.length->part s x<=part s (x+n)
 | 0,_=>by simp
 | n+1,hn=>by
   have h1:=F8 (s:=s) h n (by omega);have h2:=F9 (s:=s) (x:=x+n) (by omega) (by omega);have h3:=dW s (x+n);have h4:=tX s (x+n);have:x+((n+1:Nat):Int)=x+n+1:=by omega
   rw[this,h2];omega
theorem aaU {x y:Int}(h:1<=x)(hy:y<=s.length)(hxy:x<=y):part s x<=part s y:=by
 have:=F8 (s:=s) h (y - x).toNat (by omega)
 rwa [show x+((y - x).toNat:Int)=y by omega] at this
theorem Xz {a b:Int}(ha:0<=a)(hb:0<=b)(hb2:b<256):bitsOf .or (a*256) b=a*256+b:=by
 obtain⟨a,rfl⟩:=cD ha;obtain⟨b,rfl⟩:=cD hb;have:((a:Int)*256)=((a*256:Nat):Int):=by omega
 rw[this];show((((a*256:Nat):Int).toNat ||| (b:Int).toNat:Nat):Int)=_;simp only[Int.toNat_natCast];have:=Nat.two_pow_add_eq_or_of_lt (i:=8) (b:=b) (by omega) a;rw[show(2:Nat)^8=256 from rfl,Nat.mul_comm] at this
 omega
theorem i4 {to:Int}:oU s to=A↔to<=s.length/\ai s 1≠0/\part s to<=1048576/\55<part s to:=by simp[oU,and_assoc]
theorem H6 {to:Int}(h2:2<=to)(h3:to<100):ay (gT (ac6 s to) 216 a_ [.str C s,.int .i64 C to] (HZ s to)):=by
 refine ay.mS (YN s to) (by delta Bk Fk;exact rfl) ?_;have F: ∀ {p:Prop},¬ (to<=s.length/\ai s 1≠0/\part s to<=1048576/\55<part s to)->oU s to=A->p:=λh e=>absurd (i4.1 e) h;refine⟨λa=>⟨F (by simp at a;omega),λ_=>by(first | exact⟨_,aa.cells (λ_=>rfl) rfl,λ_=>rfl⟩ | exact λ_=>rfl | trivial)⟩,λa=> ?_⟩
 simp only[q_,Int.not_lt] at a;refine⟨by omega,λb=>⟨F (by simp at b;simp[b]),λ_=>by(first | exact⟨_,aa.cells (λ_=>rfl) rfl,λ_=>rfl⟩ | exact λ_=>rfl | trivial)⟩,λb=> ?_⟩
 simp only[q_] at b;refine⟨⟨1,⟨by omega,by omega,by rw[Ll];decide⟩,(Ll s).symm,rfl,trivial⟩,λx ⟨hx1,hx2,hx3⟩=> ?_⟩;have g1:=tX s x;have g2:=dW s x;rw[Xz g1 g2.1 g2.2];refine⟨λc=> ?_,λc=> ?_⟩
 ·simp only[p_] at c;have g3:=F9 (s:=s) hx1 (by omega);rw[← g3];refine⟨by omega,by omega,by omega,by omega,λd=>⟨F ?_,λ_=>by(first | exact⟨_,aa.cells (λ_=>rfl) rfl,λ_=>rfl⟩ | exact λ_=>rfl | trivial)⟩,λd=>⟨by omega,x+1,⟨⟨by omega,by omega,by simpa using d⟩,by omega⟩,rfl,rfl,trivial⟩⟩
  simp only[p_] at d;have:=aaU (s:=s) (x:=x+1) (by omega) a (by omega);omega
 ·simp only[q_] at c;obtain rfl:x=to:=by omega
  refine⟨λd=>⟨F (by simp at d;omega),λ_=>by(first | exact⟨_,aa.cells (λ_=>rfl) rfl,λ_=>rfl⟩ | exact λ_=>rfl | trivial)⟩,λd=>⟨λ_=>by(first | exact⟨_,aa.cells (λ_=>rfl) rfl,λ_=>rfl⟩ | exact λ_=>rfl | trivial),λe=> ?_⟩⟩
  simp only[q_] at d;rw[i4.2 ⟨a,b,hx3,by omega⟩] at e;cases e
def CQ:List SV->Option (Prop×cK)
 | [.str C s,.int .i64 C to]=>D (2<=to/\to<100,HZ s to)
 | _=>J
noncomputable def Ky:PT:=bY CQ
theorem afE (s:f_)(to:Int):Sx.Good G (ac6 s to):=.of bR Kz bq
theorem Fa {z:List SV}(hz:SV.fH 0 z=A):(Na z).Ok:=by
 intro x;refine⟨rfl,rfl,λk=>SV.e8 (SV.ja (Nat.zero_le _) z hz) ?_,λE E' k k' h=> ?_⟩
 ·simp[SV.fH,SV.wf,Nat.blt_eq]
 ·have hk:E k=E' k':=h rfl;have hv:=SV.mI hz E E';simp only[SV.bM] at hv;simp[SV.val,SV.bM,hk,hv]
theorem SG:ax G 216 Ky:=by
 refine ee (n:=20) Tryz.func216 (by kernel_rfl) (by kernel_rfl) ?_;intro args p a h hp;unfold CQ at h;split at h
 ·rename_i s to;cases h;refine⟨_,afE s to,rfl,λb=> ?_,H6 hp.1 hp.2⟩;cases b
  ·exact Fa rfl
  ·exact rfl
 ·cases h
noncomputable def WG:List (FuncId×PT):=(216,Ky)::WE
theorem KA:bp G (λf=>aD f WG):=.cons SG (bO _) Kz
noncomputable def UK:fD:={cv with cT:=λf=>aD f WG}
theorem ab2:Sx.Good G UK:=.of bR KA bq
def lead (s:f_):Int:=if ai s 0<192 then ai s 0 - 128 else ai s 0 - 192
def cutFrom (s:f_):Int:=if ai s 0<128 then 0 else if 55<lead s then lead s - 54 else 1
def MX (s:f_):Int:=if ai s 0<128 then 1 else if 55<lead s then part s (lead s - 54)else lead s
def cw (s:f_):Bool:=O (s≠[])&&(O (ai s 0<128)||((!decide (55<lead s)||oU s (lead s - 54))&&O (MX s<=s.length - cutFrom s)&& !(O (ai s 0<192)&&O (lead s=1)&&O (ai s 1<128))))
def dn (s:f_):Bool:=O (192<=ai s 0)
def af (s:f_):f_:=(s.drop (cutFrom s).toNat).take (MX s).toNat
def aF (s:f_):f_:=s.drop (cutFrom s+MX s).toNat
def ac9 (s:f_):cK:=.fork (cw s) λb=>match b with
 | true=>.ret (.aN [.bool C (dn s),.str C (af s),.str C (aF s),.aC])
 | false=>Na [.bool A C,.str A [],.str A []]
end
end Go.Proofs.YtoibaecagklkaaaGreatDoor
