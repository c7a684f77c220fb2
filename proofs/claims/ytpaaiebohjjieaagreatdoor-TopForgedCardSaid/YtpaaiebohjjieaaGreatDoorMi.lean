/-
  Calls of the library that have no body: internal/reflectlite, as errors.Is and errors.As need it; by tables of types.
-/
import Derived.Test.YtpaaiebohjjieaaGreatDoorMa
import Derived.Test.YtpaaiebohjjieaaGreatDoorMh
import Derived.Laws.Externs
import Derived.ProofKit
import Derived.Below
import Derived.ChangeSame
namespace Go.Proofs.YtpaaiebohjjieaaGreatDoor
open Go Sx
theorem iK {P:Program}{f:FuncId}{fn:Func}{e:Array Value->Sem Value}(hf:P.funcs[f]?=some fn) (h1:(fn.name== "runtime.NumGoroutine")=false) (h2:fn.body.isNone=true)
  (h3:Extern.findNext fn=none) (h4:Extern.find fn=some e) {args:Array Value} {v:Value} {w w':World} (h:(e args).run P w=.ok v w'):(callFunc f args).run P w=.ok (.value v) w':=by
 rw[run_callFunc_extern hf h1 h2 h3 h4,h];rfl
abbrev tD:TypeId:=262
noncomputable abbrev DT (t:Nat):Value:=.pointer (some ⟨hB,t,none⟩)
noncomputable abbrev hd (t:Nat):SV:=.raw (DT t)
noncomputable abbrev tyV (t:Nat):SV:=.iface tD (.agg [hd t])
def ug {β:Type}(a:Nat):List (Nat×β)->Option β
 | []=>none
 | e::r=>if e.1=a then some e.2 else ug a r
theorem iM {β:Type}{a:Nat}{b:β}: ∀ {l:List (Nat×β)},ug a l=some b->(a,b)∈ l
 | [],h=>by cases h
 | e::r,h=>by
   unfold ug at h;split at h
   ·rename_i he;injection h with h;subst h;subst he;simp
   ·exact List.mem_cons_of_mem _ (iM h)
def SS {β:Type}(a b:Nat):List (Nat×Nat×β)->Option β
 | []=>none
 | e::r=>if e.1=a/\e.2.1=b then some e.2.2 else SS a b r
theorem zu {β:Type}{a b:Nat}{c:β}: ∀ {l:List (Nat×Nat×β)},SS a b l=some c->(a,b,c)∈ l
 | [],h=>by cases h
 | e::r,h=>by
   unfold SS at h;split at h
   ·rename_i he;injection h with h;subst h;obtain⟨rfl,rfl⟩:=he;simp
   ·exact List.mem_cons_of_mem _ (zu h)
noncomputable def JD:SV->Option Nat
 | .raw (.pointer (some ⟨b,t,none⟩))=>if b=hB then some t else none
 | _=>none
theorem nw {v:SV}{t:Nat}(h:JD v=some t):v=hd t:=by
 unfold JD at h;split at h
 ·rename_i b t';split at h
  ·rename_i e;injection h with h;subst h;subst e;rfl
  ·cases h
 ·cases h
noncomputable def yR:PT:=fun args m nx K=>match args with
 | [.iface t _]=>K (tyV t) m nx
 | _=>.fail "TypeOf"
noncomputable def nc:PT:=fun args m nx K=>match args with
 | [.agg [h]]=>(match JD h with
   | some t=>(match ug t Pe with
     | some b=>K (.bool true b) m nx
     | none=>.fail "Comparable")
   | none=>.fail "Comparable")
 | _=>.fail "Comparable"
noncomputable def u7:PT:=fun args m nx K=>match args with
 | [.iface t v]=>(match ug t dw,v.plain with
   | some k,true=>K (.agg [hd t,.ptr nx true 0,.int .u64 true (Int.ofNat (k+128))]) ((nx,.cells v.cells v.cells.length t)::m) (nx+1)
   | _,_=>.fail "ValueOf")
 | _=>.fail "ValueOf"
noncomputable def Le:PT:=fun args m nx K=>match args with
 | [.agg [h,.ptr _ true 0,.int .u64 _ n]]=>(match JD h with
   | some t=>(match ug t dw with
     | some k=>if n=Int.ofNat (k+128)then K (tyV t) m nx else .fail "Value.Type"
     | none=>.fail "Value.Type")
   | none=>.fail "Value.Type")
 | _=>.fail "Value.Type"
noncomputable def IZ:PT:=fun args m nx K=>match args with
 | [h]=>(match JD h with
   | some t=>(match ug t dw with
     | some k=>K (.int .u8 true (Int.ofNat k)) m nx
     | none=>.fail "Kind")
   | none=>.fail "Kind")
 | _=>.fail "Kind"
noncomputable def Cc:PT:=fun args m nx K=>match args with
 | [.agg [h]]=>(match JD h with
   | some t=>(match ug t oS with
     | some e=>K (tyV e) m nx
     | none=>.fail "Elem")
   | none=>.fail "Elem")
 | _=>.fail "Elem"
noncomputable def Og (tab:List (Nat×Nat×Bool)):PT:=fun args m nx K=>match args with
 | [.agg [h],.iface t (.agg [g])]=>(match JD h,JD g with
   | some a,some b=>(match SS a b tab with
     | some c=>if t=tD then K (.bool true c) m nx else .fail "a relation of types"
     | none=>.fail "a relation of types")
   | _,_=>.fail "a relation of types")
 | _=>.fail "a relation of types"
noncomputable def Hv (m:Mem):SV->Option (Nat×SV)
 | .agg [h,.ptr key true 0,.int .u64 _ n]=>(match JD h,m.get key with
   | some t,some (.cells (.ptr k b o::_) _ _)=>(match ug t oS with
     | some _=>if n=150 then some (t,.ptr k b o)else none
     | none=>none)
   | _,_=>none)
 | _=>none
noncomputable def Cr:PT:=fun args m nx K=>match args with
 | [v]=>(match Hv m v with
   | some _=>K (.bool true false) m nx
   | none=>.fail "IsNil")
 | _=>.fail "IsNil"
noncomputable def Cd:PT:=fun args m nx K=>match args with
 | [v]=>(match Hv m v with
   | some (t,p)=>(match ug t oS with
     | some e=>(match ug e dw with
       | some k=>K (.agg [hd e,p,.int .u64 true (Int.ofNat (k+128+256))]) m nx
       | none=>.fail "Value.Elem")
     | none=>.fail "Value.Elem")
   | none=>.fail "Value.Elem")
 | _=>.fail "Value.Elem"
noncomputable def UU:PT:=fun args m nx K=>match args with
 | [.agg [h,p,.int .u64 _ n],.agg [g,.ptr key true 0,.int .u64 _ n']]=>(match JD h,JD g,m.get key with
   | some a,some b,some (.cells (v::_) _ _)=>(match SS a b K1,ug a dw,ug b dw with
     | some wrap,some k,some k'=>if n=Int.ofNat (k+128+256)/\n'=Int.ofNat (k'+128)then
        tr Tryz.prog a (some p) (some (match wrap with | true=>.iface b v | false=>v)) m nx (fun _ m nx=>K (.bL []) m nx)else .fail "Value.Set"
     | _,_,_=>.fail "Value.Set")
   | _,_,_=>.fail "Value.Set")
 | _=>.fail "Value.Set"
noncomputable def HQ:PT:=Og (DY++Nn)
noncomputable def Wl:PT:=Og PW
theorem Sw: ∀ p∈ dw,∀ w,(Extern.Rtype.kind p.1).run Tryz.prog w=.ok p.2 w:=by
 intro p hp w;simp only[dw,List.mem_cons,List.not_mem_nil,or_false] at hp
 repeat' first
  | (rcases hp with rfl | hp)
  | subst hp
  | kernel_rfl
theorem aey: ∀ p∈ Pe,∀ w,((Extern.ReflectliteType.method fun t=>do Extern.Rtype.noPackHeld "Comparable" t;pure (.bool (← typeInfo t).comparable)) #[.agg #[DT p.1]]).run Tryz.prog w=.ok (.bool p.2) w:=by
 intro p hp w;simp only[Pe,List.mem_cons,List.not_mem_nil,or_false] at hp
 repeat' first
  | (rcases hp with rfl | hp)
  | subst hp
  | kernel_rfl
theorem aiN: ∀ p∈ dw,∀(a:Addr) w,(Extern.ReflectliteValue.methodAny (Extern.ReflectliteValue.valueError "reflectlite.Value.Type" 0) (fun t _ _ _=>Extern.ReflectliteType.toType t) #[.agg #[DT p.1,.pointer (some a),.int .u64 (Int.ofNat (p.2+128))]]).run Tryz.prog w
  = .ok (.iface tD (.agg #[DT p.1])) w:=by
 intro p hp a w;simp only[dw,List.mem_cons,List.not_mem_nil,or_false] at hp
 repeat' first
  | (rcases hp with rfl | hp)
  | subst hp
  | kernel_rfl
theorem Rq: ∀ p∈ dw,∀ w,((Extern.ReflectliteType.abiMethod fun t=>do pure (.int .u8 (Int.ofNat (← Extern.Rtype.kind t)))) #[DT p.1]).run Tryz.prog w=.ok (.int .u8 (Int.ofNat p.2)) w:=by
 intro p hp w;simp only[dw,List.mem_cons,List.not_mem_nil,or_false] at hp
 repeat' first
  | (rcases hp with rfl | hp)
  | subst hp
  | kernel_rfl
theorem aa9: ∀ p∈ oS,∀ w,(Extern.ReflectliteType.method Extern.ReflectliteType.elem #[.agg #[DT p.1]]).run Tryz.prog w=.ok (.iface tD (.agg #[DT p.2])) w:=by
 intro p hp w;simp only[oS,List.mem_cons,List.not_mem_nil,or_false] at hp
 repeat' first
  | (rcases hp with rfl | hp)
  | subst hp
  | kernel_rfl
theorem afg: ∀ p∈ PW,∀ w,(Extern.ReflectliteType.relation "Implements" Extern.ReflectliteType.implements_ #[.agg #[DT p.1],.iface tD (.agg #[DT p.2.1])]).run Tryz.prog w=.ok (.bool p.2.2) w:=by
 intro p hp w;simp only[PW,List.mem_cons,List.not_mem_nil,or_false] at hp
 repeat' first
  | (rcases hp with rfl | hp)
  | subst hp
  | kernel_rfl
theorem VA: ∀ p∈ DY,∀ w,(Extern.ReflectliteType.relation "AssignableTo" Extern.ReflectliteType.assignableTo #[.agg #[DT p.1],.iface tD (.agg #[DT p.2.1])]).run Tryz.prog w=.ok (.bool p.2.2) w:=by
 intro p hp w;simp only[DY,List.mem_cons,List.not_mem_nil,or_false] at hp
 repeat' first
  | (rcases hp with rfl | hp)
  | subst hp
  | kernel_rfl
noncomputable def ajj (t:Nat):Array (String×TypeId):=match Tryz.prog.underlying t with
 | some (.interface l)=>l
 | _=>#[]
noncomputable def amw (t:Nat):Array Method:=match Tryz.prog.info? t with
 | some i=>i.methods
 | none=>#[]
theorem akI: ∀ p∈ Nn,∀ w,(Extern.ReflectliteType.relation "AssignableTo" Extern.ReflectliteType.assignableTo #[.agg #[DT p.1],.iface tD (.agg #[DT p.2.1])]).run Tryz.prog w=.ok (.bool (false||(Instr.missingMethod (ajj p.2.1) (amw p.1)).isNone)) w:=by
 intro p hp w;simp only[Nn,List.mem_cons,List.not_mem_nil,or_false] at hp
 repeat' first
  | (rcases hp with rfl | hp)
  | subst hp
  | kernel_rfl
theorem agd: ∀ p∈ Nn,MJ (ajj p.2.1) (amw p.1)=true/\p.2.2=false:=by
 intro p hp;simp only[Nn,List.mem_cons,List.not_mem_nil,or_false] at hp
 repeat' first
  | (rcases hp with rfl | hp)
  | subst hp
  | exact⟨by kernel_rfl,rfl⟩
theorem aos: ∀ p∈ Nn,∀ w,(Extern.ReflectliteType.relation "AssignableTo" Extern.ReflectliteType.assignableTo #[.agg #[DT p.1],.iface tD (.agg #[DT p.2.1])]).run Tryz.prog w=.ok (.bool p.2.2) w:=by intro p hp w;obtain⟨h1,h2⟩:=agd p hp;obtain⟨m,hm⟩:=I1 h1;rw[akI p hp w,h2,hm];rfl
theorem XY (t:Nat)(v:Value)(w:World):(Extern.ReflectliteType.typeOf #[.iface t v]).run Tryz.prog w=.ok (.iface tD (.agg #[DT t])) w:=by kernel_rfl
end Go.Proofs.YtpaaiebohjjieaaGreatDoor
namespace Go.Proofs.YtpaaiebohjjieaaGreatDoor
open Go Sx
set_option maxRecDepth 20000
theorem bq {s:String}{α:Prop}(h:(VC.fail s).holds):α:=False.elim h
section
variable {K : SV -> Mem -> Nat -> VC} {Γ : aQ} {E : Nat -> Nat} {nx : Nat} {m : Mem} {w : World}
theorem jj {v:SV}(h:(K v m nx).holds)(hs:aG Γ E m nx w):aV (lift K) Γ E nx (v.val E) w :=⟨E,some v,m,nx,fun _ _=>rfl,Nat.le_refl _,fun u hu=>by injection hu with hu;subst hu;rfl,hs,h⟩
end
theorem acX:au Tryz.prog 91 yR:=by
 intro args m nx K h hw ha Γ E w hs;unfold yR at h;split at h
 ·rename_i t v;simp only[SV.vals,SV.val];rw[iK (e:=Extern.ReflectliteType.typeOf) Tryz.func91 (by kernel_rfl) (by kernel_rfl) (by kernel_rfl) (by kernel_rfl) (XY t _ w)];simp only[Out];exact jj (v:=tyV t) h hs
 ·exact bq h
set_option maxRecDepth 20000 in
theorem Lq:au Tryz.prog 393 nc:=by
 intro args m nx K h hw ha Γ E w hs;unfold nc at h;split at h
 ·rename_i x;split at h
  ·rename_i t ht;have hx:=nw ht;split at h
   ·rename_i b hb;rw[hx];simp only[SV.vals,SV.val];rw[iK (e:=Extern.ReflectliteType.method fun t=>do Extern.Rtype.noPackHeld "Comparable" t;pure (.bool (← typeInfo t).comparable)) Tryz.func393 (by kernel_rfl) (by kernel_rfl) (by kernel_rfl) (by kernel_rfl) (aey _ (iM hb) w)]
    simp only[Out];exact jj (v:=.bool true b) h hs
   ·exact bq h
  ·exact bq h
 ·exact bq h
set_option maxRecDepth 20000 in
theorem akx:au Tryz.prog 382 IZ:=by
 intro args m nx K h hw ha Γ E w hs;unfold IZ at h;split at h
 ·rename_i x;split at h
  ·rename_i t ht;have hx:=nw ht;split at h
   ·rename_i k hk;rw[hx];simp only[SV.vals,SV.val];rw[iK (e:=Extern.ReflectliteType.abiMethod fun t=>do pure (.int .u8 (← Extern.Rtype.kind t))) Tryz.func382 (by kernel_rfl) (by kernel_rfl) (by kernel_rfl) (by kernel_rfl) (Rq _ (iM hk) w)]
    simp only[Out];exact jj (v:=.int .u8 true (Int.ofNat k)) h hs
   ·exact bq h
  ·exact bq h
 ·exact bq h
set_option maxRecDepth 20000 in
theorem aeF:au Tryz.prog 394 Cc:=by
 intro args m nx K h hw ha Γ E w hs;unfold Cc at h;split at h
 ·rename_i x;split at h
  ·rename_i t ht;have hx:=nw ht;split at h
   ·rename_i e he;rw[hx];simp only[SV.vals,SV.val];rw[iK (e:=Extern.ReflectliteType.method Extern.ReflectliteType.elem) Tryz.func394 (by kernel_rfl) (by kernel_rfl) (by kernel_rfl) (by kernel_rfl) (aa9 _ (iM he) w)];simp only[Out];exact jj (v:=tyV e) h hs
   ·exact bq h
  ·exact bq h
 ·exact bq h
set_option maxRecDepth 20000 in
theorem ako:au Tryz.prog 395 Wl:=by
 intro args m nx K h hw ha Γ E w hs;unfold Wl Og at h;split at h
 ·rename_i x t y;split at h
  ·rename_i a b hx hy;have hx:=nw hx;have hy:=nw hy;split at h
   ·rename_i c hc;split at h
    ·rename_i e;subst e;rw[hx,hy];simp only[SV.vals,SV.val];rw[iK (e:=Extern.ReflectliteType.relation "Implements" Extern.ReflectliteType.implements_) Tryz.func395 (by kernel_rfl) (by kernel_rfl) (by kernel_rfl) (by kernel_rfl) (afg _ (zu hc) w)];simp only[Out];exact jj (v:=.bool true c) h hs
    ·exact bq h
   ·exact bq h
  ·exact bq h
 ·exact bq h
set_option maxRecDepth 20000 in
theorem aaU:au Tryz.prog 392 HQ:=by
 intro args m nx K h hw ha Γ E w hs;unfold HQ Og at h;split at h
 ·rename_i x t y;split at h
  ·rename_i a b hx hy;have hx:=nw hx;have hy:=nw hy;split at h
   ·rename_i c hc;split at h
    ·rename_i e;subst e;rw[hx,hy];simp only[SV.vals,SV.val];have hrun:(Extern.ReflectliteType.relation "AssignableTo" Extern.ReflectliteType.assignableTo #[.agg #[DT a],.iface tD (.agg #[DT b])]).run Tryz.prog w=.ok (.bool c) w:=by
      rcases List.mem_append.1 (zu hc)with h1 | h1
      ·exact VA _ h1 w
      ·exact aos _ h1 w
     rw[iK (e:=Extern.ReflectliteType.relation "AssignableTo" Extern.ReflectliteType.assignableTo) Tryz.func392 (by kernel_rfl) (by kernel_rfl) (by kernel_rfl) (by kernel_rfl) hrun];simp only[Out];exact jj (v:=.bool true c) h hs
    ·exact bq h
   ·exact bq h
  ·exact bq h
 ·exact bq h
set_option maxRecDepth 20000 in
theorem alE:au Tryz.prog 63 Le:=by
 intro args m nx K h hw ha Γ E w hs;unfold Le at h;split at h
 ·rename_i x key l n;split at h
  ·rename_i t ht;have hx:=nw ht;split at h
   ·rename_i k hk;split at h
    ·rename_i e;subst e;rw[hx];simp only[SV.vals,SV.val];rw[iK (e:=Extern.ReflectliteValue.methodAny (Extern.ReflectliteValue.valueError "reflectlite.Value.Type" 0) (fun t _ _ _=>Extern.ReflectliteType.toType t)) Tryz.func63 (by kernel_rfl) (by kernel_rfl) (by kernel_rfl) (by kernel_rfl) (aiN _ (iM hk) _ w)];simp only[Out];exact jj (v:=tyV t) h hs
    ·exact bq h
   ·exact bq h
  ·exact bq h
 ·exact bq h
end Go.Proofs.YtpaaiebohjjieaaGreatDoor
namespace Go.Proofs.YtpaaiebohjjieaaGreatDoor
open Go Sx Extern
theorem rlm (z:Sem Value)(f:TypeId->Addr->Nat->Nat->Sem Value)(v:Value) :
  ReflectliteValue.method z f #[v]=(do match ← ReflectliteValue.parts v with | none=>z | some (t,a,fl)=>f t a fl (fl% 32)):=rfl
theorem rls (v x:Value):ReflectliteValue.set #[v,x]=(do
  let (some (dst,a,fl),some (src,b,_)):=(← ReflectliteValue.parts v,← ReflectliteValue.parts x)
   | unsupported (.noEntry "extern/(internal/reflectlite.Value).Set.zeroValue")
  if fl / ReflectliteValue.flagAddr% 2==0 then unsupported (.noEntry "extern/(internal/reflectlite.Value).Set.unaddressable")
  let val ← loadVar src b
  if ← Rtype.directlyAssignable dst src then storeVar dst a val
  else if ← Rtype.implements dst src then
   if(← Rtype.kind src)==20 then
    match val with
    | .nilIface=>unsupported (.noEntry "extern/reflectlite: a nil value of one interface type handed on as a value of another")
    | _=>storeVar dst a val
   else storeVar dst a (.iface src val)
  else panicString ("reflectlite.Set: value of type " ++ (← Rtype.spelt src)++ " is not assignable to type " ++ (← Rtype.spelt dst))
  pure (.tuple #[])):=rfl
theorem We (t:Nat)(w:World):(Rtype.handle t).run Tryz.prog w=.ok (DT t) w:=by kernel_rfl
theorem af5 {t k:Nat}(h:(t,k)∈ dw)(a:Addr)(fl:Nat)(w:World):(ReflectliteValue.mk t a fl).run Tryz.prog w=.ok (.agg #[DT t,.pointer (some a),.int .u64 (Int.ofNat (k+128+fl))]) w:=by have h1:=Sw _ h w;simp only at h1;simp only[ReflectliteValue.mk,Sem.run_bind,We,h1,Result.andThen_ok,Sem.run_pure];rfl
theorem ER: ∀ p∈ dw,∀(a:Addr) w,(ReflectliteValue.parts (.agg #[DT p.1,.pointer (some a),.int .u64 (Int.ofNat (p.2+128))])).run Tryz.prog w=.ok (some (p.1,a,p.2+128)) w:=by
 intro p hp a w;simp only[dw,List.mem_cons,List.not_mem_nil,or_false] at hp
 repeat' first
  | (rcases hp with rfl | hp)
  | subst hp
  | kernel_rfl
theorem Xa: ∀ p∈ dw,∀(a:Addr) w,(ReflectliteValue.parts (.agg #[DT p.1,.pointer (some a),.int .u64 (Int.ofNat (p.2+128+256))])).run Tryz.prog w=.ok (some (p.1,a,p.2+128+256)) w:=by
 intro p hp a w;simp only[dw,List.mem_cons,List.not_mem_nil,or_false] at hp
 repeat' first
  | (rcases hp with rfl | hp)
  | subst hp
  | kernel_rfl
theorem TC: ∀ p∈ oS,(p.1,22)∈ dw/\Tryz.prog.underlying p.1=some (.pointer p.2):=by
 intro p hp;simp only[oS,List.mem_cons,List.not_mem_nil,or_false] at hp
 repeat' first
  | (rcases hp with rfl | hp)
  | subst hp
  | exact⟨by simp[dw],by kernel_rfl⟩
theorem elem?_run: ∀ p∈ oS,∀ w,(Rtype.elem? p.1).run Tryz.prog w=.ok (some p.2) w:=by
 intro p hp w;simp only[oS,List.mem_cons,List.not_mem_nil,or_false] at hp
 repeat' first
  | (rcases hp with rfl | hp)
  | subst hp
  | kernel_rfl
noncomputable def Tq (t:Nat):Bool:=match Tryz.prog.underlying t with
 | some d=>!iw d
 | none=>false
theorem acd: ∀ p∈ dw,Tq p.1=true:=by
 intro p hp;simp only[dw,List.mem_cons,List.not_mem_nil,or_false] at hp
 repeat' first
  | (rcases hp with rfl | hp)
  | subst hp
  | kernel_rfl
theorem agq: ∀ p∈ dw,∃ d,Tryz.prog.underlying p.1=some d/\iw d=false:=by
 intro p hp;have:=acd p hp;unfold Tq at this;split at this
 ·rename_i d hd;exact⟨d,hd,by simpa using this⟩
 ·cases this
theorem VW: ∀ p∈ K1,∀ w,(Rtype.directlyAssignable p.1 p.2.1).run Tryz.prog w=.ok (!p.2.2) w:=by
 intro p hp w;simp only[K1,List.mem_cons,List.not_mem_nil,or_false] at hp
 repeat' first
  | (rcases hp with rfl | hp)
  | subst hp
  | kernel_rfl
theorem ajw: ∀ p∈ K1,p.2.2=true->∀ w,(Rtype.implements p.1 p.2.1).run Tryz.prog w=.ok true w/\(p.2.1,20)∉ dw:=by
 intro p hp hw w;simp only[K1,List.mem_cons,List.not_mem_nil,or_false] at hp
 repeat' first
  | (rcases hp with rfl | hp)
  | subst hp
  | cases hw
  | exact⟨by kernel_rfl,by simp[dw]⟩
theorem xN {t k:Nat}(h:(t,k)∈ dw){b o:Nat}{c:Array Value}{ty:TypeId}{fr:Nat×Nat}{w:World}(hb:w.heap[b]?=some (.cells c ty fr)){v:Value}(hv:c[o]?=some v) :
  (loadVar t ⟨b,o,none⟩).run Tryz.prog w=.ok v w:=by
 obtain⟨d,h1,h2⟩:=agq _ h;simp only[loadVar,Sem.run_bind,cJ h1,h2,Result.andThen_ok,Bool.false_eq_true,if_false,run_load,cell_of hb,hv]
set_option maxRecDepth 20000 in
theorem X5:au Tryz.prog 62 u7:=by
 intro args m nx K h hw ha Γ E w hs;unfold u7 at h;split at h
 ·rename_i t v;split at h
  ·rename_i k hk hp;have hm:=iM hk;simp only[SV.vals,SV.val]
   have hrun:((fun args=>ReflectliteValue.unpack (args.getD 0 (.tuple #[]))) #[Value.iface t (v.val E)]).run Tryz.prog w =
     .ok (.agg #[DT t,.pointer (some ⟨w.heap.size,0,none⟩),.int .u64 (Int.ofNat (k+128+0))]) {w with heap:=w.heap.push (.cells (v.val E).cells t)}:=by
    show(ReflectliteValue.unpack (Value.iface t (v.val E))).run Tryz.prog w=_;simp only[ReflectliteValue.unpack,Sem.run_bind,Bt,Result.andThen_ok,af5 hm]
   rw[iK (e:=fun args=>ReflectliteValue.unpack (args.getD 0 (.tuple #[]))) Tryz.func62 (by kernel_rfl) (by kernel_rfl) (by kernel_rfl) (by kernel_rfl) hrun];simp only[Out];simp only[SV.gM,SV.wf,Bool.and_true] at ha;refine aV.alloc hs hw (K:=lift K) (sv:=.agg [hd t,.ptr nx true 0,.int .u64 true (Int.ofNat (k+128))]) (tP ha) (CB (by rw[SV.gX hp])) (xO (E:=E) (by rw[SV.gX hp])) h ?_;simp[SV.val,SV.vals]
  ·exact bq h
 ·exact bq h
theorem IL {m:Mem}{v p:SV}{t:Nat}(h:Hv m v=some (t,p)): ∃ key l cs tot ty k b o e,v=.agg [hd t,.ptr key true 0,.int .u64 l 150]/\p=.ptr k b o/\m.get key=some (.cells (.ptr k b o::cs) tot ty)/\(t,e)∈ oS:=by
 unfold Hv at h;split at h
 ·rename_i x key l n;split at h
  ·rename_i t' k b o cs tot ty ht hk;split at h
   ·rename_i e he;split at h
    ·rename_i hn;injection h with h;injection h with h1 h2;subst h1;subst h2;subst hn;exact⟨key,l,cs,tot,ty,k,b,o,e,by rw[nw ht],rfl,hk,iM he⟩
    ·cases h
   ·cases h
  ·cases h
 ·cases h
set_option maxRecDepth 20000 in
theorem afk:au Tryz.prog 64 Cr:=by
 intro args m nx K h hw ha Γ E w hs;unfold Cr at h;split at h
 ·rename_i v;split at h
  ·rename_i tp htp;obtain⟨t,p⟩:=tp;obtain⟨key,l,cs,tot,ty,k,b,o,e,hv,hp,hk,he⟩:=IL htp;obtain⟨ob,ho,c,fr,rfl,_,h2,_⟩:=hs.qD key _ hk rfl;have h0:=h2 0 _ rfl;obtain⟨hkt,hun⟩:=TC _ he;have hrun:(ReflectliteValue.method (ReflectliteValue.valueError "reflectlite.Value.IsNil" 0) ReflectliteValue.isNil #[.agg #[DT t,.pointer (some ⟨E key,0,none⟩),.int .u64 150]]).run Tryz.prog w=.ok (.bool false) w:=by
    rw[rlm];have hp:=ER _ hkt ⟨E key,0,none⟩ w;have hl:=xN hkt ho h0;simp only[show Int.ofNat (22+128)=150 from rfl] at hp
    simp only[Sem.run_bind,hp,Result.andThen_ok,ReflectliteValue.isNil];simp[hl,SV.val]
   rw[hv];simp only[SV.vals,SV.val];rw[iK (e:=ReflectliteValue.method (ReflectliteValue.valueError "reflectlite.Value.IsNil" 0) ReflectliteValue.isNil) Tryz.func64 (by kernel_rfl) (by kernel_rfl) (by kernel_rfl) (by kernel_rfl) hrun];simp only[Out];exact jj (v:=.bool true false) h hs
  ·exact bq h
 ·exact bq h
set_option maxRecDepth 20000 in
theorem aeG:au Tryz.prog 135 Cd:=by
 intro args m nx K h hw ha Γ E w hs;unfold Cd at h;split at h
 ·rename_i v;split at h
  ·rename_i t p htp;obtain⟨key,l,cs,tot,ty,k,b,o,e0,hv,hp,hk,he0⟩:=IL htp;split at h
   ·rename_i e he;have he:=iM he;split at h
    ·rename_i ke hke;have hke:=iM hke;obtain⟨ob,ho,c,fr,rfl,_,h2,_⟩:=hs.qD key _ hk rfl;have h0:=h2 0 _ rfl;obtain⟨hkt,hun⟩:=TC _ he;have hrun:(ReflectliteValue.method (ReflectliteValue.valueError "reflectlite.Value.Elem" 0) ReflectliteValue.elem #[.agg #[DT t,.pointer (some ⟨E key,0,none⟩),.int .u64 150]]).run Tryz.prog w=.ok (.agg #[DT e,.pointer (some ⟨E k,o,none⟩),.int .u64 (Int.ofNat (ke+128+256))]) w:=by
      rw[rlm];have hp:=ER _ hkt ⟨E key,0,none⟩ w;have hl:=xN hkt ho h0;have hel:=elem?_run _ he w;have hmk:=af5 hke ⟨E k,o,none⟩ ReflectliteValue.flagAddr w;simp only at hel;simp only[show Int.ofNat (22+128)=150 from rfl] at hp
      simp only[Sem.run_bind,hp,Result.andThen_ok,ReflectliteValue.elem];simp[hl,SV.val,hel,hmk];rfl
     rw[hv];simp only[SV.vals,SV.val];rw[iK (e:=ReflectliteValue.method (ReflectliteValue.valueError "reflectlite.Value.Elem" 0) ReflectliteValue.elem) Tryz.func135 (by kernel_rfl) (by kernel_rfl) (by kernel_rfl) (by kernel_rfl) hrun];simp only[Out];subst hp;have:=jj (v:=.agg [hd e,.ptr k b o,.int .u64 true (Int.ofNat (ke+128+256))]) h hs;simpa [SV.val,SV.vals] using this
    ·exact bq h
   ·exact bq h
  ·exact bq h
 ·exact bq h
end Go.Proofs.YtpaaiebohjjieaaGreatDoor
namespace Go.Proofs.YtpaaiebohjjieaaGreatDoor
open Go Sx Extern
set_option maxRecDepth 20000
theorem akc: ∀ p∈ dw,((p.2+128+256) / ReflectliteValue.flagAddr% 2==0)=false:=by
 intro p hp;simp only[dw,List.mem_cons,List.not_mem_nil,or_false] at hp
 repeat' first
  | (rcases hp with rfl | hp)
  | subst hp
  | rfl
set_option maxRecDepth 20000 in
theorem Q9 {t:TypeId}{p x:SV}{m:Mem}{nx:Nat}{K:SV->Mem->Nat->VC}{Γ:aQ}{E:Nat->Nat}{w:World}(h:(tr Tryz.prog t (some p) (some x) m nx (fun _ m nx=>K (.bL []) m nx)).holds)(hs:aG Γ E m nx w)(hw:Mem.wf nx m=true)
  (hp:p.wf nx=true) (hx:x.wf nx=true) {a:Addr} (ha:p.val E=.pointer (some a)) (_h0:a.spot=none) :
  ∃ w',(storeVar t a (x.val E)).run Tryz.prog w=.ok () w'/\aV (lift K) Γ E nx (.tuple #[]) w':=by
 have:=M9 (P:=Tryz.prog) (Γ:=Γ) (m:=m) (nx:=nx) (σ:=fun o=>match o with | .tmp 0=>some p | .tmp 1=>some x | _=>none) (dst:=none) (t:=t) (type:=0) (pos:= "") (after:=#[]) (guard:=none) (a:=.tmp 0) (x:=.tmp 1)
  (fun _ m nx=>K (.bL []) m nx) E w (fun o=>match o with | .tmp 0=>p.val E | .tmp 1=>x.val E | _=>undef) h hs hw (fun o v hv=>by
    simp only at hv;split at hv
    ·injection hv with hv;subst hv;exact hp
    ·injection hv with hv;subst hv;exact hx
    ·cases hv) (fun o v hv=>by
    simp only at hv ⊢;split at hv
    ·injection hv with hv;subst hv;rfl
    ·injection hv with hv;subst hv;rfl
    ·cases hv)
 simp only[execOp,Instr.storeAt,ha,Instr.sureAddr,Sem.run_bind,Sem.run_pure,Result.andThen_ok] at this;generalize hr:(storeVar t a (x.val E)).run Tryz.prog w=r at this;cases r with
 | halt e w'=>cases e<;>simp[Result.andThen,Out] at this
 | ok u w' =>simp only[Result.andThen_ok,Out] at this;obtain⟨E',sv,m',nx',g1,g2,g3,g4,g5⟩:=this;exact⟨w',rfl,E',some (.bL []),m',nx',g1,g2,fun v hv=>by injection hv with hv;subst hv;rfl,g4,g5⟩
set_option maxRecDepth 20000 in
theorem aoV:au Tryz.prog 136 UU:=by
 intro args m nx K h hw ha Γ E w hs;unfold UU at h;split at h
 ·rename_i x p l n y key l' n';split at h
  ·rename_i a b v cs tot ty hx hy hk;have hx:=nw hx;have hy:=nw hy;split at h
   ·rename_i wrap k k' hwr hka hkb;have hwr:=zu hwr;have hka:=iM hka;have hkb:=iM hkb;split at h
    ·rename_i hn;obtain⟨rfl,rfl⟩:=hn;obtain⟨ob,ho,c,fr,rfl,_,h2,_⟩:=hs.qD key _ hk rfl;have h0:=h2 0 _ rfl;have hvw:v.wf nx=true:=SV.zT (Mem.Rj hw hk) (i:=0) rfl;have hpw:p.wf nx=true:=by simp only[SV.gM,SV.wf,Bool.and_eq_true] at ha;exact ha.1.2.1
     have hpp: ∃ q,p.val E=.pointer (some q)/\q.spot=none:=by
      unfold tr at h;split at h
      ·rename_i e _ _;injection e with e;subst e;exact⟨_,rfl,rfl⟩
      ·rename_i e _ _;injection e with e;subst e;exact⟨_,rfl,rfl⟩
      ·rename_i e _ _;injection e with e;subst e;exact⟨_,rfl,rfl⟩
      ·rename_i e _ _;injection e with e;subst e;exact⟨_,rfl,rfl⟩
      ·rename_i e _ _;injection e with e;subst e;exact⟨_,rfl,rfl⟩
      ·exact bq h
     obtain⟨q,hq,hsp⟩:=hpp;obtain⟨w',hst,haft⟩:=Q9 h hs hw hpw (by cases wrap<;>exact hvw) hq hsp
     have hp1:=Xa _ hka q w;have hp2:=ER _ hkb ⟨E key,0,none⟩ w;have hd:=VW _ hwr w;have hl:=xN hkb ho h0;simp only at hp1 hp2 hd;have hflag:((k+128+256) / ReflectliteValue.flagAddr% 2==0)=false:=akc _ hka;have hrun:(ReflectliteValue.set #[.agg #[DT a,.pointer (some q),.int .u64 (Int.ofNat (k+128+256))],.agg #[DT b,.pointer (some ⟨E key,0,none⟩),.int .u64 (Int.ofNat (k'+128))]]).run Tryz.prog w=.ok (.tuple #[]) w':=by
      rw[rls];simp only[Sem.run_bind,hp1,hp2,Result.andThen_ok,hflag,Bool.false_eq_true,if_false,hl,hd];cases wrap with
      | false =>
        simp only[Bool.not_false,if_true]
        try simp only at hst
        rw[Sem.run_bind,hst];rfl
      | true =>
        obtain⟨hi,hne⟩:=ajw _ hwr rfl w;have hkk:=Sw _ hkb w;simp only at hi hkk;have h20:(k'==20)=false:=by simp only[beq_eq_false_iff_ne,ne_eq];intro e;subst e;exact hne hkb
        simp only[Bool.not_true,Bool.false_eq_true,if_false,Sem.run_bind,hi,Result.andThen_ok,if_true,hkk,h20];simp only[SV.val] at hst;rw[hst];rfl
     rw[hx,hy];simp only[SV.vals,SV.val,hq];rw[iK (e:=ReflectliteValue.set) Tryz.func136 (by kernel_rfl) (by kernel_rfl) (by kernel_rfl) (by kernel_rfl) hrun];exact haft
    ·exact bq h
   ·exact bq h
  ·exact bq h
 ·exact bq h
theorem Ta:aJ yR:=by intro args m nx K K' hK h;unfold yR at h ⊢;split at h;exact hK _ _ _ h;exact bq h
theorem G4:aJ nc:=by
 intro args m nx K K' hK h;unfold nc at h ⊢;repeat' split at h
 all_goals first | exact bq h | (simp only[*];done) | (simp only[*];exact hK _ _ _ h)
theorem abZ:aJ IZ:=by
 intro args m nx K K' hK h;unfold IZ at h ⊢;repeat' split at h
 all_goals first | exact bq h | (simp only[*];done) | (simp only[*];exact hK _ _ _ h)
theorem WT:aJ Cc:=by
 intro args m nx K K' hK h;unfold Cc at h ⊢;repeat' split at h
 all_goals first | exact bq h | (simp only[*];done) | (simp only[*];exact hK _ _ _ h)
theorem S9 (tab:List (Nat×Nat×Bool)):aJ (Og tab):=by
 intro args m nx K K' hK h;unfold Og at h ⊢;repeat' split at h
 all_goals first | exact bq h | (simp only[*,if_true];done) | (simp only[*,if_true];exact hK _ _ _ h)
theorem ab0:aJ Le:=by
 intro args m nx K K' hK h;unfold Le at h ⊢;repeat' split at h
 all_goals first | exact bq h | (simp only[*,if_true];done) | (simp only[*,if_true];exact hK _ _ _ h)
theorem Qq:aJ u7:=by
 intro args m nx K K' hK h;unfold u7 at h ⊢;repeat' split at h
 all_goals first | exact bq h | (simp only[*];done) | (simp only[*];exact hK _ _ _ h)
theorem WV:aJ Cr:=by
 intro args m nx K K' hK h;unfold Cr at h ⊢;repeat' split at h
 all_goals first | exact bq h | (simp only[*];done) | (simp only[*];exact hK _ _ _ h)
theorem WU:aJ Cd:=by
 intro args m nx K K' hK h;unfold Cd at h ⊢;repeat' split at h
 all_goals first | exact bq h | (simp only[*];done) | (simp only[*];exact hK _ _ _ h)
theorem SZ {P:Program}{t:TypeId}{a x:Option SV}{m:Mem}{nx:Nat}{K K':KL}(hK: ∀ v m nx,(K v m nx).holds->(K' v m nx).holds)(h:(tr P t a x m nx K).holds):(tr P t a x m nx K').holds:=by
 unfold tr at h ⊢;repeat' split at h
 all_goals first | exact bq h | exact hK _ _ _ h | exact⟨h.1,hK _ _ _ h.2⟩ | (simp only[*,if_true];done) | (simp only[*,if_true];exact hK _ _ _ h) | (simp only[*,if_true];exact⟨h.1,hK _ _ _ h.2⟩)
theorem af6:aJ UU:=by
 intro args m nx K K' hK h;unfold UU at h ⊢;split at h
 ·split at h
  ·split at h
   ·split at h
    ·rename_i hn;simp only[*,and_self,if_true];exact SZ (fun _ _ _=>hK _ _ _) h
    ·exact bq h
   ·exact bq h
  ·exact bq h
 ·exact bq h
noncomputable def kK:List (FuncId×PT):=[(91,yR),(393,nc),(382,IZ),(394,Cc),
 (395,Wl),(392,HQ),(63,Le),(62,u7),
 (64,Cr),(135,Cd),(136,UU)]
theorem fO:aU Tryz.prog (fun f=>aA f kK):=by
 unfold kK;apply aU.cons
 ·exact acX
 ·exact Ta
 apply aU.cons
 ·exact Lq
 ·exact G4
 apply aU.cons
 ·exact akx
 ·exact abZ
 apply aU.cons
 ·exact aeF
 ·exact WT
 apply aU.cons
 ·exact ako
 ·exact S9 _
 apply aU.cons
 ·exact aaU
 ·exact S9 _
 apply aU.cons
 ·exact alE
 ·exact ab0
 apply aU.cons
 ·exact X5
 ·exact Qq
 apply aU.cons
 ·exact afk
 ·exact WV
 apply aU.cons
 ·exact aeG
 ·exact WU
 apply aU.cons
 ·exact aoV
 ·exact af6
 exact aU.nil
end Go.Proofs.YtpaaiebohjjieaaGreatDoor
namespace Go.Proofs.YtpaaiebohjjieaaGreatDoor.Sx
open Go Go.RowKit Go.WideShapes Go.ChangeShapes
section
variable {H : Type} {enc : TypeId × Value -> H} {P : Program}
theorem LG {f:Func}{s:ChangeSpec}{apart fresh handsOn again:Bool}{W W':World}{args:Array Value}{v:Value}{ds gs:List (DataW H)}{before pa pv:List MemPlace}
  (hW:DataW.Whole enc P f.params.toList s.vars apart W args.toList ds gs before)
  (hres: ∀(b:Nat) (sp:Nat->Bool) (hd:Bool),DataW.TrodAll enc P W' b sp hd f.resultTypes.toList (v.resultList f.resultTypes.size) (s.fn H (ds++gs)).results [])
  (hargs: ∀ sp:Nat->Bool,(∀ p∈ before,sp p.block=true)->DataW.TrodAll enc P W' 0 sp true f.params.toList args.toList (s.fn H (ds++gs)).args pa)
  (hvars: ∀ sp:Nat->Bool,(∀ p∈ before,sp p.block=true)->DataW.TrodVars enc P W' sp s.vars (s.fn H (ds++gs)).vars pv)
  (hps:before=pa++pv) (hb:Below W.heap.size W W')
  (hok: ∀(j:Nat) (t:TypeId) (r:Value),f.resultTypes[j]?=some t->(v.resultList f.resultTypes.size)[j]?=some r->Value.okWide P W' .any 0 t r) :
  s.post enc P f apart fresh handsOn again W args v W':=by
 have hlt: ∀ p∈ before,p.block<W.heap.size:=fun p hp=>hW.lt p hp;have hold: ∀ p∈ before,(fun b=>decide (b<W.heap.size)) p.block=true:=fun p hp=>by simpa using hlt p hp
 refine⟨ds,gs,before,[],pa,pv,hW,hres _ _ _,hargs _ hold,hvars _ hold,World.keptBut_mono (fun p hp=>⟨hp,?_⟩) (hb.frame (· ∈ before)),fun _=> ?_⟩
 ·rw[hps,List.mem_append] at hp;exact Or.inr hp
 ·obtain⟨_,_,_,_,_,hz,hn⟩:=hW;refine⟨hok,_,_,([]++pa)++pv,⟨[]++pa,pv,trodAll_append (hargs _ (fun _ _=>rfl)) (hres _ _ _),hvars _ (fun _ _=>rfl),rfl,?_,?_⟩,?_⟩
  ·intro b off hp;have hin:MemPlace.cell b off∈ before:=by rw[hps];simpa using hp
   rw[hb.frozen (hlt _ hin)];exact hz b off hin
  ·intro ha;have:=hn ha;rw[hps] at this;simpa using this
  ·intro p hp _;rw[hps];simpa using hp
theorem AU (hl:laidOutB P=true){W W':World}(hb:Below W.heap.size W W'){sp:Nat->Bool}: ∀ {ts:List TypeId} {vs:List Value} {ds:List (DataW H)} {ps:List MemPlace},
  (∀ t∈ ts,P.readableRec t=true/\t<P.types.size)->DataW.TrodAll enc P W 0 (fun _=>true) true ts vs ds ps->(∀ x∈ ps,x.block<W.heap.size)->(∀ x∈ ps,sp x.block=true)->DataW.TrodAll enc P W' 0 sp true ts vs ds ps
 | [],[],[],ps,_,h,_,_=>h
 | t::ts,v::vs,d::ds,ps,ht,h,hlt,hsp=>by obtain⟨p,q,h1,h2,rfl⟩:=h;refine⟨p,q,?_,AU hl hb (fun t h=>ht t (List.mem_cons_of_mem _ h)) h2 (fun x hx=>hlt x (by simp[hx])) (fun x hx=>hsp x (by simp[hx])),rfl⟩;exact WideElems.Trod_stays hl (ht t (List.mem_cons_self ..)).1 (ht t (List.mem_cons_self ..)).2 h1 (fun x hx=>hb.same (hlt x (by simp[hx]))) (fun x hx=>hsp x (by simp[hx]))
theorem GR {W:World}{b:Nat}{sp:Nat->Bool}{hd:Bool}: ∀ {ts:List TypeId} {vs:List Value} {ds:List (DataW H)} {ps:List MemPlace},DataW.TrodAll enc P W b sp hd ts vs ds ps->ds.length=ts.length/\vs.length=ts.length
 | [],[],[],_,_=>⟨rfl,rfl⟩
 | _::_,_::_,_::_,_,h=>by obtain⟨p,q,_,h2,_⟩:=h;have:=GR h2;simp[this.1,this.2]
 | [],[],_::_,_,h=>h.elim
 | [],_::_,_,_,h=>h.elim
 | _::_,[],_,_,h=>h.elim
 | _::_,_::_,[],_,h=>h.elim
end
theorem aqb {P:Program}{W:World}{base:Nat}{t e:TypeId}{v:Value}{H:Type}{enc:TypeId×Value->H}{d:DataW H}{ps:List MemPlace}(ht:P.underlying t=some (.slice e))
  (hval:Value.okWide P W .any base t v) (hd:DataW.Trod enc P W 0 (fun _=>true) true t v d ps) :
  ∃(z:Bool) (b o n c:Nat),v=(SV.cC 0 (P.cellsOf e) z o 0 n c).val (fun _=>b)/\n<=maxLen/\((z&&Nat.beq n 0)=false->∃ cs ty fr,W.heap[b]?=some (.cells cs ty fr) /\
   ∀ i,i<n->∃(xs:List Value) (y:DataW H×List MemPlace) (m:Nat),xs.length=P.cellsOf e/\(∀ k,k<P.cellsOf e->cs[o+i*P.cellsOf e+k]?=xs[k]?)/\DataW.trod enc P W 0 (fun _=>true) true m e xs=some y):=by
 obtain⟨a0,n,c,rfl⟩:=okWide_slice ht hval;obtain⟨fuel,hf⟩:=hd;rcases DataW.trod_slice ht hf with ⟨h0,_⟩ | ⟨a,len,cap,elems,rest,m,_,hcs,_,hb,hlc,hmax,hlen,hel,_,_⟩
 ·simp only[Value.cells] at h0;have h1:a0=none/\n=0/\c=0:=by simpa using h0
  obtain⟨rfl,rfl,rfl⟩:=h1;exact⟨true,0,0,0,0,rfl,Nat.zero_le _,fun h=>by cases h⟩
 ·simp only[Value.cells] at hcs;have h1:a0=some a/\n=len/\c=cap:=by simpa using hcs
  obtain⟨rfl,rfl,rfl⟩:=h1;have hhas:W.has P .any base a e c:=by simp only[Value.okWide,ht,Cell.okWide,Cell.ok] at hval;exact hval.2.2
  obtain⟨_,hspot,row,cells,hshape,_⟩:=hhas;obtain⟨qD,off,spot⟩:=a;simp only at hspot;subst hspot;have hcells: ∃ cs ty fr,W.heap[qD]?=some (.cells cs ty fr):=by
   unfold World.shape? at hshape;split at hshape
   ·rename_i cs ty fr h;exact⟨cs,ty,fr,h⟩
   ·cases hshape
  obtain⟨cs,ty,fr,hblk⟩:=hcells;refine⟨false,qD,off,n,c,by simp[SV.val],Nat.le_trans hlc hmax,fun _=>⟨cs,ty,fr,hblk,fun i hi=> ?_⟩⟩;have h2:=hel i hi;rw[List.getElem?_eq_getElem (by omega)] at h2;obtain⟨xs,hxs,hy⟩:=Option.bind_eq_some_iff.1 h2;obtain⟨_,hl2,hget⟩:=World.cells?_some hxs;refine⟨xs,_,m,hl2,fun k hk=> ?_,hy⟩;have:=hget k hk;rw[← this,cN,cN,cell_of hblk]
def U7 (cs:Array Value)(j:Nat):List UInt8:=match cs[j]? with
 | some (.string s)=>s.data.toList
 | _=>[]
theorem AV {P:Program}{W:World}{H:Type}{enc:TypeId×Value->H}{m:Nat}{t:TypeId}{x:Value}{y:DataW H×List MemPlace}(ht:P.underlying t=some .string)(h:DataW.trod enc P W 0 (fun _=>true) true m t [x]=some y)
  {cs:Array Value} {j:Nat} (hc:cs[j]?=some x):cs[j]?=some ((SV.str false (U7 cs j)).val (fun _=>0))/\(U7 cs j).length<=maxLen:=by
 obtain⟨s,hx,_,hw⟩:=DataW.trod_string ht h;injection hx with hx;subst hx;unfold U7;rw[hc];refine⟨by simp[SV.val],?_⟩;have he:s.data.toList.length=s.size:=Array.length_toList;show s.data.toList.length<=maxLen;rw[he];exact hw
end Go.Proofs.YtpaaiebohjjieaaGreatDoor.Sx
namespace Go.Proofs.YtpaaiebohjjieaaGreatDoor
open Go Sx
set_option maxRecDepth 20000
theorem bO:Tryz.prog.follows .mixedOrders=true:=by kernel_rfl
theorem af7:(Tryz.prog.funcs.all fun fn=>!(fn.name== "runtime.NumGoroutine"))=true:=by kernel_rfl
theorem bt (f:FuncId)(fn:Func)(h:Tryz.prog.funcs[f]?=some fn):Tryz.prog.funcs[f]?=some fn/\(fn.name== "runtime.NumGoroutine")=false:=by refine⟨h,?_⟩;have:=Array.all_eq_true'.1 af7 fn (Array.mem_of_getElem? h);simpa using this
noncomputable def cF:gF:={cM:=fun f=>aA f kK,fns:=fun f=>Tryz.prog.funcs[f]?,aR:=fun _=>[],rounds:=100}
theorem sH:Sx.Good Tryz.prog cF:=.of bO fO bt
end Go.Proofs.YtpaaiebohjjieaaGreatDoor
namespace Go.Proofs.YtpaaiebohjjieaaGreatDoor.Sx
open Go
def Re:SV->SV
 | .int k _ n=>.int k false n
 | .bool _ b=>.bool false b
 | .str _ s=>.str false s
 | v=>v
def yS:SV->SV
 | .agg cs=>.agg (cs.map Re)
 | v=>Re v
theorem X1 (E:Nat->Nat)(v:SV):(Re v).val E=v.val E:=by cases v<;>rfl
theorem GU (E:Nat->Nat): ∀ l:List SV,SV.vals E (l.map Re)=SV.vals E l
 | []=>rfl
 | v::r=>by simp only[List.map_cons,SV.vals,X1,GU E r]
theorem OD (E:Nat->Nat)(v:SV):(yS v).val E=v.val E:=by cases v<;>first | rfl | simp only[yS,SV.val,GU]
theorem oM (E:Nat->Nat): ∀ l:List SV,SV.vals E (l.map yS)=SV.vals E l
 | []=>rfl
 | v::r=>by simp only[List.map_cons,SV.vals,OD,oM E r]
noncomputable def aT (spec:List SV->Option (Prop×SV)):PT:=fun args m nx K=>match spec (args.map yS)with
 | some (p,r)=>.and (.atom p) (K r m nx)
 | none=>.fail "arguments that nothing is said of"
def ah (v r:SV):Prop:=∀ E,v.val E=r.val E
def svA (v r:SV):VC:=.eqv (ah v r) (ah v v) (fun _=>rfl)
theorem aN (spec:List SV->Option (Prop×SV)):aJ (aT spec):=by
 intro args m nx K K' hK h;unfold aT at h ⊢;split at h
 ·exact⟨h.1,hK _ _ _ h.2⟩
 ·exact h
theorem kU {P:Program}{cfg:gF}(hg:Good P cfg){f:FuncId}{fn:Func}(hf:P.funcs[f]?=some fn) (hn:(fn.name== "runtime.NumGoroutine")=false) (hb:fn.body.isSome=true) {n:Nat} {spec:List SV->Option (Prop×SV)}
  (h: ∀ args p r,spec args=some (p,r)->p->SV.gM 0 args=true/\r.wf 0=true/\aq (gR P (calling P cfg n) [] Al (cfg.aR f) cfg.rounds fn args [] 0 (fun v _ _=>.atom (ah v r)))):au P f (aT spec):=by
 intro args m nx K hk hwf hargs Γ E w hs;unfold aT at hk;split at hk
 ·rename_i p r hr;obtain⟨hp,hk⟩:=hk;obtain⟨h1,h2,h3⟩:=h _ _ _ hr hp;have hc:=gG hg hf hn hb h3 rfl h1 (aG.none w hs.G2);rw[SV.oN h1 (fun _=>0) E,oM] at hc;refine ic hf hn hb (hc.mono ?_);rintro e w' ⟨v,rfl,E',sv,m',nx',_,_,g3,g4,g5⟩;refine⟨v,rfl,?_⟩;cases sv with
  | none=>exact g5.elim
  | some u =>have hu:ah u r:=g5;refine⟨E,some r,m,nx,fun _ _=>rfl,Nat.le_refl _,fun x hx=> ?_,hs.still g4.ext,hk⟩;injection hx with hx;subst hx;rw[g3 u rfl,hu E',SV.DP h2 E' E]
 ·exact hk.elim
end Go.Proofs.YtpaaiebohjjieaaGreatDoor.Sx
namespace Go.Proofs.YtpaaiebohjjieaaGreatDoor
open Go Sx
set_option maxRecDepth 20000
noncomputable def ang:gF:={cF with rounds:=9}
theorem apY:Sx.Good Tryz.prog ang:=.of bO fO bt
def Ls:Nat->Int->List UInt8
 | 0,_=>[]
 | k+1,n=>if 0<n then Ls k (n / 256)++[UInt8.ofNat (n% 256).toNat] else []
def digits (n:Int):List UInt8:=Ls 8 n
noncomputable def fS (cfg:gF)(f:Nat)(fn:Func)(args:List SV)(R:SV->Prop):VC:=gR Tryz.prog (calling Tryz.prog cfg 20) [] Al (cfg.aR f) cfg.rounds fn args [] 0 (fun v _ _=>.atom (R v))
section
variable (n m : Nat) (p q : Prop) (a b : Int) (x : Bool)
abbrev cn:=SV.str true List.nil
abbrev jc:=a% 256
abbrev eS:=UInt8.ofNat (Int.toNat (jc a))
abbrev iF:=a / 256
abbrev nK:=eS (iF a)
abbrev Ud:List UInt8:=[nK a,eS a]
abbrev ahY:List UInt8:=nK (iF (iF (iF a)))::nK (iF (iF a))::nK (iF a)::Ud a
abbrev TG:=iF (iF (iF a))
abbrev jV:=false&&x
abbrev fI:=jV true
abbrev yo:=iF (iF (TG a))
abbrev bf:=Fk (a<b) p q
abbrev Df:=jV (jV x)
abbrev aX:=n<=m->p
abbrev uO:=Df (Df x)
end
theorem aiT (n:Int)(R:SV->Prop):VC.holds (fS ang 149 Tryz.f149 [.int .u64 false n] R)=(bf (∀(a:Nat),aX 1 a (bf (Er (a*1)/\(∀(a:Nat),aX 2 a (bf (Er (a*1)/\(∀(a:Nat),aX 3 a (bf (Er (a*1)/\(∀(a:Nat),aX 4 a (bf (Er (a*1)/\(∀(a:Nat),aX 5 a (bf (Er (a*1)/\(∀(a:Nat),aX 6 a (bf (Er (a*1)/\(∀(a:Nat),aX 7 a (bf (Er (a*1)/\(∀(a:Nat),aX 8 a (bf (Er (a*1)/\(∀(a:Nat),aX 9 a False)) (R (SV.str (jV (Df (uO fI))) (nK (iF (yo n))::nK (yo n)::eS (yo n)::ahY n))) 0 (iF (iF (iF (yo n))))))) (R (SV.str (Df (uO fI)) (nK (yo n)::eS (yo n)::ahY n))) 0 (iF (iF (yo n)))))) (R (SV.str (jV (uO fI)) (eS (yo n)::ahY n))) 0 (iF (yo n))))) (R (SV.str (uO fI) (ahY n))) 0 (yo n)))) (R (SV.str (jV (Df fI)) (eS (TG n)::nK (iF n)::Ud n))) 0 (iF (TG n))))) (R (SV.str (Df fI) (nK (iF n)::Ud n))) 0 (TG n)))) (R (SV.str (jV fI) (Ud n))) 0 (iF (iF n))))) (R (SV.str fI [eS n])) 0 (iF n))) (R cn) 0 n):=by kernel_rfl
theorem kP {l:Bool}{a b:List UInt8}(h:a=b):ah (.str l a) (.str false b):=fun E=>by subst h;rfl
theorem aeE {k:Nat}{n:Int}(h:decide (0<n)=false):Ls k n=[]:=by
 have: ¬ (0<n):=by simpa using h
 cases k with
 | zero=>rfl
 | succ k=>simp[Ls,this]
theorem aeD {k:Nat}{n:Int}(h:decide (0<n)=true):Ls (k+1) n=Ls k (n / 256)++[UInt8.ofNat (n% 256).toNat]:=by
 have:0<n:=by simpa using h
 simp[Ls,this]
theorem Po {n:Int}(h0:0<=n)(h1:n<18446744073709551616):aq (fS ang 149 Tryz.f149 [.int .u64 false n] (fun v=>ah v (.str false (digits n)))):=by
 refine aq.j7 (aiT n _) (by delta Fk Er cn jc eS iF nK Ud ahY TG jV fI yo bf Df aX uO;exact rfl) ?_;unfold digits
 repeat' first
  | apply And.intro
  | intro (_:_=_)
  | intro (c:Nat)
  | intro (_:_<=_)
 all_goals first
  | rfl
  | (apply kP;simp only[aeD,aeE, *,List.nil_append,List.cons_append])
  | (exfalso;simp only[decide_eq_true_eq] at *;omega)
noncomputable def Ii:List SV->Option (Prop×SV)
 | [.int .u64 false n]=>some (0<=n/\n<18446744073709551616,.str false (digits n))
 | _=>none
noncomputable def RL:PT:=aT Ii
theorem aa8:au Tryz.prog 149 RL:=by
 refine kU apY (n:=20) (fn:=Tryz.f149) Tryz.func149 (by kernel_rfl) (by kernel_rfl) ?_;intro args p r h hp;unfold Ii at h;split at h
 ·rename_i n;injection h with h;injection h with h1 h2;subst h1;subst h2;exact⟨rfl,rfl,Po hp.1 hp.2⟩
 ·cases h
noncomputable def afA:List (FuncId×PT):=(149,RL)::kK
theorem SK:aU Tryz.prog (fun f=>aA f afA):=.cons aa8 (aN _) fO
noncomputable def aqX:gF:={cF with cM:=fun f=>aA f afA}
end Go.Proofs.YtpaaiebohjjieaaGreatDoor
namespace Go.Proofs.YtpaaiebohjjieaaGreatDoor.Sx
open Go
inductive b7:Type 1 where
 | ret (v:SV)
 | new (v:Nat->SV) (B:SB)
 | all (α:Type) (f:α->b7)
 | req (p:Prop) (a:b7)
 | fork (b:Bool) (f:Bool->b7)
def b7.vc (m:Mem)(nx:Nat)(K:SV->Mem->Nat->VC):b7->VC
 | .ret v=>K v m nx
 | .new v B=>K (v nx) ((nx,B)::m) (nx+1)
 | .all α f=>.all α fun x=>(f x).vc m nx K
 | .req p a=>.imp p (a.vc m nx K)
 | .fork b f=>Sx.fork b fun b=>(f b).vc m nx K
def b7.Ok:b7->Prop
 | .ret v=>v.wf 0=true
 | .new v B=>B.wf 0=true/\B.ro=false/\(∀ k,(v k).wf (k+1)=true)/\∀(E E':Nat->Nat) k k',(B.no=false->E k=E' k')->(v k).val E=(v k').val E'
 | .all _α f=>∀ x,(f x).Ok
 | .req _ a=>a.Ok
 | .fork _ f=>∀ b,(f b).Ok
mutual
def SV.key:SV->Option Nat
 | .ptr k _ _=>some k
 | .slc k _ _ _ _=>some k
 | .bI k _ _ _ _ _=>some k
 | .bL vs=>SV.keys vs
 | .agg vs=>SV.keys vs
 | .iface _ v=>v.key
 | _=>none
def SV.keys:List SV->Option Nat
 | []=>none
 | v::r=>match v.key with
   | some k=>some k
   | none=>SV.keys r
end
def b7.fit (v:SV)(m:Mem):b7->VC
 | .ret r=>.atom (ah v r)
 | .new r B=>(match v.key with
   | some k=>(match m.get k with
     | some X=>.and (leA X B) (svA v (r k))
     | none=>.fail "no block")
   | none=>.fail "no key")
 | .all α f=>.ex α fun x=>(f x).fit v m
 | .req p a=>.and (.atom p) (a.fit v m)
 | .fork b f=>Sx.fork b fun b=>(f b).fit v m
noncomputable def bW (spec:List SV->Option (Prop×b7)):PT:=fun args m nx K=>match spec (args.map yS)with
 | some (p,a)=>.and (.atom p) (a.vc m nx K)
 | none=>.fail "arguments that nothing is said of"
theorem b7.td {m:Mem}{nx:Nat}{K K':SV->Mem->Nat->VC}(hK: ∀ v m nx,(K v m nx).holds->(K' v m nx).holds): ∀ {a:b7},(a.vc m nx K).holds->(a.vc m nx K').holds
 | .ret _,h=>hK _ _ _ h
 | .new _ _,h=>hK _ _ _ h
 | .all _ _,h=>fun x=>b7.td hK (h x)
 | .req _ _,h=>fun x=>b7.td hK (h x)
 | .fork _ _,h=>dx.2 (b7.td hK (dx.1 h))
theorem bX (spec:List SV->Option (Prop×b7)):aJ (bW spec):=by
 intro args m nx K K' hK h;unfold bW at h ⊢;split at h
 ·exact⟨h.1,b7.td hK h.2⟩
 ·exact h
theorem bw.le {E:Nat->Nat}{X B:SB}{o:Obj}(h:af X B)(hn:B.no=false)(hb:bw E X o):bw E B o:=(h.old hn).2.1 E o hb
theorem aG.new {Γ E m nx w}(h:aG Γ E m nx w)(hw:Mem.wf nx m=true){E1:Nat->Nat}{m1:Mem}{nx1:Nat}{w':World}
  {gl gm} (h1:aG (aQ.at w (fun _=>False) gl gm) E1 m1 nx1 w') {j:Nat} {X B:SB} (hX:m1.get j=some X) (hle:af X B) (hw2:B.wf 0=true) (hr2:B.ro=false) :
  ∃ E',(∀ i,i<nx->E' i=E i)/\(B.no=false->E' nx=E1 j)/\aG Γ E' ((nx,B)::m) (nx+1) w':=by
 have hf:=h.still h1.ext;have hge: ∀ a,B.jD (E1 j) a->w.heap.size<=a:=fun a ha=>by obtain⟨g1,_,g3⟩:=hle.2 _ a ha;exact(h1.lE j X a hX g1 (g3 hr2)).elim False.elim id
 refine⟨fun i=>if i=nx then E1 j else E i,fun i hi=>by simp[Nat.ne_of_lt hi],fun _=>by simp,?_⟩
 refine hf.amE hw (fun _ _ h=>h) (fun a ha=>⟨?_,fun _=>.inr (Nat.le_trans h.ext.size (hge a ha)),fun i X hi hX=> ?_⟩) (fun _ _ _ _ _=>rfl) hf.ext (fun _ _=>rfl)
 ·obtain⟨g1,g2,_⟩:=hle.2 _ a ha;obtain⟨o,ho,hb⟩:=h1.jK j X a hX g1;exact⟨o,ho,(g2 E1 o hb).pure (SB.YC hw2 a)⟩
 ·have:=hge a ha;have:=h.glt hi hX;omega
theorem b7.told {Γ E m nx w}(h:aG Γ E m nx w)(hw:Mem.wf nx m=true){E1:Nat->Nat}{m1:Mem}{nx1:Nat}{w':World}
  {gl gm} (h1:aG (aQ.at w (fun _=>False) gl gm) E1 m1 nx1 w') {v:SV} {K:SV->Mem->Nat->VC}: ∀ {a:b7},a.Ok->(a.fit v m1).holds->(a.vc m nx K).holds->aV (lift K) Γ E nx (v.val E1) w'
 | .ret r,hO,hf,hK=>⟨E,some r,m,nx,fun _ _=>rfl,Nat.le_refl _,fun x hx=>by injection hx with hx;subst hx;have hf:ah v r:=hf;rw[hf E1];exact SV.DP hO E1 E,h.still h1.ext,hK⟩
 | .new r B,hO,hf,hK=>by
   obtain⟨o1,o2,o3,o4⟩:=hO;simp only[b7.fit] at hf;split at hf
   ·rename_i k hk;split at hf
    ·rename_i X hX;obtain⟨f1,f2⟩:=hf;have f1:af X B:=f1;have f2:ah v (r k):=f2;obtain⟨E',e1,e2,e3⟩:=aG.new h hw h1 hX f1 o1 o2;refine⟨E',some (r nx),_,nx+1,e1,Nat.le_succ _,fun x hx=> ?_,e3,hK⟩;injection hx with hx;subst hx;rw[f2 E1];exact o4 E1 E' k nx fun hb=>(e2 hb).symm
    ·exact hf.elim
   ·exact hf.elim
 | .all _ f,hO,⟨x,hx⟩,hK=>b7.told h hw h1 (hO x) hx (hK x)
 | .req _ a,hO,hf,hK=>b7.told (a:=a) h hw h1 hO hf.2 (hK hf.1)
 | .fork _ _,hO,hf,hK=>b7.told h hw h1 (hO _) (dx.1 hf) (dx.1 hK)
theorem fE {P:Program}{f:FuncId}{fn:Func}(hf:P.funcs[f]?=some fn) (hn:(fn.name== "runtime.NumGoroutine")=false) (hb:fn.body.isSome=true) {n:Nat} {spec:List SV->Option (Prop×b7)}
  (h: ∀ args p a,spec args=some (p,a)->p->∃ cfg,Good P cfg/\SV.gM 0 args=true/\a.Ok/\aq (gR P (calling P cfg n) [] Al (cfg.aR f) cfg.rounds fn args [] 0 (fun v m _=>a.fit v m))):au P f (bW spec):=by
 intro args m nx K hk hwf hargs Γ E w hs;unfold bW at hk;split at hk
 ·rename_i p a hr;obtain⟨hp,hk⟩:=hk;obtain⟨cfg,hg,h1,h2,h3⟩:=h _ _ _ hr hp;have hc:=gG hg hf hn hb h3 rfl h1 (aG.none w hs.G2);rw[SV.oN h1 (fun _=>0) E,oM] at hc;refine ic hf hn hb (hc.mono ?_);rintro e w' ⟨v,rfl,E',sv,m',nx',_,_,g3,g4,g5⟩;refine⟨v,rfl,?_⟩;cases sv with
  | none=>exact g5.elim
  | some u=>rw[g3 u rfl];exact b7.told hs hwf g4 h2 g5 hk
 ·exact hk.elim
theorem SV.ga {nx:Nat}: ∀ {a b:List SV},SV.gM nx a=true->SV.gM nx b=true->SV.gM nx (a++b)=true
 | [],_,_,h=>h
 | x::a,b,h,h'=>by simp only[SV.gM,Bool.and_eq_true] at h;simp only[List.cons_append,SV.gM,Bool.and_eq_true];exact⟨h.1,SV.ga h.2 h'⟩
end Go.Proofs.YtpaaiebohjjieaaGreatDoor.Sx
namespace Go.Proofs.YtpaaiebohjjieaaGreatDoor
open Go Sx
set_option maxRecDepth 20000
def num (l:List UInt8):Int:=l.foldl (fun a b=>a*256+(b.toNat:Int)) 0
def part (s:List UInt8)(i:Int):Int:=num ((s.drop 1).take (i - 1).toNat)
def uc (s:List UInt8)(to:Int):Bool:=decide (to<=s.length)&& !decide (ai s 1=0)&&decide (part s to<=1048576)&&decide (55<part s to)
noncomputable def am9 (s:List UInt8)(to:Int):bp :={α:=Int,pre:=fun _ i=>1<=i/\i<=to/\part s i<=1048576,sM:=fun _ i=>(to - i).toNat,fresh:=0,slots:=fun _ i=>[(6,.int .i64 false (part s i)),(7,.int .i64 false i)],mem:=fun _ _=>[]}
noncomputable def ani (s:List UInt8)(to:Int):gF:={aqX with aR:=fun f=>if f=251 then [(7,always (am9 s to))] else []}
noncomputable def jy (cfg:gF)(f:Nat)(fn:Func)(args:List SV)(a:b7):VC:=gR Tryz.prog (calling Tryz.prog cfg 20) [] Al (cfg.aR f) cfg.rounds fn args [] 0 (fun v m _=>a.fit v m)
def V6 (z:List SV):b7:=.all Int fun at'=>.new (fun k=>.bL (z++[.iface 434 (.ptr k true 0)])) (.cells [.int .i64 false at',.iface 25 (.int .i64 true 2)] 2 436)
def P9 (s:List UInt8)(to:Int):b7:=.fork (uc s to) fun b=>match b with
 | true=>.ret (.bL [.int .i64 false (part s to),.aZ])
 | false=>V6 [.int .i64 true 0]
section
variable (n m : Nat) (s : List UInt8) (p q r P Q : Prop) (a b : Int) (v w : SV) (B D : SB) (x : List SV) (y : TypeId)
abbrev aF:List SV:=v::w::x
abbrev bC:=SV.int IntKind.i64 false a
abbrev bx:=SV.int IntKind.i64 true a
abbrev JX:=aF (bC a) (SV.iface 25 (bx 2)) List.nil
abbrev QJ:List SV:=[SV.iface 25 (bx 2)]
abbrev bh:=NI (List.length s)
abbrev bP:=bh s
abbrev qg:List SV:=[SV.aZ]
abbrev F4:=SV.ptr 0 true 0
abbrev sW:=SV.iface y (SV.ptr n true m)
abbrev JV:List SV:=[sW (0+0) 0 434]
abbrev ak:=p/\q/\r
abbrev ZK:=ak (1<=a) (a<=b) (part s a<=1048576)
abbrev k6:List SV:=[bx 0]
abbrev jX:=SB.cells x 2 y
abbrev rO:=jX (JX a) 436
abbrev Az:List SV:=[SV.iface 434 F4]
abbrev cR:=SB.cells (v::x) n y
abbrev N1:=cR 2 (bx 1) QJ 436
abbrev cY:=SV.bL (v::x)
abbrev Kl:=cY (bC (part s a)) qg
abbrev aI:=ak p q (ak r P Q)
abbrev iS:=bitsOf BinOp.or a b
abbrev aL:=p/\ak q r P
abbrev eI:=a<=9223372036854775807
abbrev bH:=af (SB.cells x n y) B
abbrev gi:=ah (cY v x) w
abbrev cS:=Fk (a=b) p q
abbrev dG:=I6 a/\p
abbrev yu:=Int.toNat (a - b)
abbrev lV:=Ix a (bP s)
abbrev kG:=aL p q r True
abbrev pW:=af B D/\p
end
theorem aiX (s:List UInt8)(to:Int):VC.holds (jy (ani s to) 251 Tryz.f251 [.str false s,.int .i64 false to] (P9 s to))=(bf (Bk (uc s to) (gi (bx 0) (Kl s to) Az) (∃(a:Int),bH 2 (rO a) (bC (bP s)::QJ) 436/\gi (bx 0) (SV.bL (k6++Az)) Az)) (lV s 1/\cS (Bk (uc s to) (gi (bx 0) (Kl s to) Az) (∃(a:Int),pW (gi (bx 0) (SV.bL (k6++Az)) Az) N1 (rO a))) ((∃(a:Int),kG (ZK s a to) (0=part s a) (1=a))/\(∀(a:Int),ZK s a to->bf (aI (I6 (part s a*256)) (lV s a) (I6 (ai s a)) (aL (0<=part s a*256) (eI (part s a*256)) (0<=ai s a) (eI (ai s a))) (bf (Bk (uc s to) (gi (bx 0) (Kl s to) JV) (∃(b:Int),pW (gi (bx 0) (SV.bL (k6++JV)) JV) (rO a) (rO b))) (dG (∃(b:Int),kG (ZK s b to/\yu to b<yu to a) (iS (part s a*256) (ai s a)=part s b) (a+1=b)) (a+1)) 1048576 (iS (part s a*256) (ai s a)))) (Fk (part s a<=55) (Bk (uc s to) (gi (bx 0) (Kl s to) JV) (∃(a:Int),pW (gi (bx 0) (SV.bL (k6++JV)) JV) N1 (rO a))) (Bk (uc s to) (ah (Kl s a) (Kl s to)) (∃(_:Int),False))) a to)) (ai s 1) 0) (bP s) to):=by kernel_rfl
theorem eO (s:List UInt8)(i:Int):0<=ai s i/\ai s i<256:=by unfold ai;have:=(s.getD i.toNat 0).toNat_lt;omega
theorem uq (l:List UInt8)(b:UInt8):num (l++[b])=num l*256+(b.toNat:Int):=by simp[num]
theorem Tu (s:List UInt8):part s 1=0:=by simp[part,num]
theorem Ns {s:List UInt8}{x:Int}(h:1<=x)(h2:x<s.length):part s (x+1)=part s x*256+ai s x:=by
 unfold part;have e:(x+1 - 1).toNat=(x - 1).toNat+1:=by omega
 have hx:(x - 1).toNat<(s.drop 1).length:=by simp;omega
 rw[e,List.take_add_one,List.getElem?_eq_getElem hx];simp only[Option.toList,uq];have e2:ai s x=((s.drop 1)[(x - 1).toNat].toNat:Int):=by
  have:1+(x - 1).toNat=x.toNat:=by omega
  unfold ai;rw[List.getElem_drop,List.getD_eq_getElem?_getD,List.getElem?_eq_getElem (by omega)];simp only[Option.getD_some,this]
 rw[e2]
theorem zA (s:List UInt8)(x:Int):0<=part s x:=by
 unfold part num;suffices ∀(l:List UInt8) (a:Int),0<=a->0<=l.foldl (fun a b=>a*256+(b.toNat:Int)) a from this _ _ (Int.le_refl _)
 intro l;induction l with
 | nil=>exact fun _ h=>h
 | cons b r ih=>intro a h;exact ih _ (show 0<=a*256+(b.toNat:Int)by omega)
theorem Nr {s:List UInt8}{x:Int}(h:1<=x): ∀(n:Nat),x+n<=s.length->part s x<=part s (x+n)
 | 0,_=>by simp
 | n+1,hn=>by
   have h1:=Nr (s:=s) h n (by omega);have h2:=Ns (s:=s) (x:=x+n) (by omega) (by omega);have h3:=eO s (x+n);have h4:=zA s (x+n);have:x+((n+1:Nat):Int)=x+n+1:=by omega
   rw[this,h2];omega
theorem akR {s:List UInt8}{x y:Int}(h:1<=x)(hy:y<=s.length)(hxy:x<=y):part s x<=part s y:=by
 have:=Nr (s:=s) h (y - x).toNat (by omega)
 rwa [show x+((y - x).toNat:Int)=y by omega] at this
theorem ags {a b:Int}(ha:0<=a)(hb:0<=b)(hb2:b<256):bitsOf .or (a*256) b=a*256+b:=by
 obtain⟨a,rfl⟩:=Int.eq_ofNat_of_zero_le ha;obtain⟨b,rfl⟩:=Int.eq_ofNat_of_zero_le hb;have:((a:Int)*256)=((a*256:Nat):Int):=by omega
 rw[this];show((((a*256:Nat):Int).toNat ||| (b:Int).toNat:Nat):Int)=_;simp only[Int.toNat_natCast];have:=Nat.two_pow_add_eq_or_of_lt (i:=8) (b:=b) (by omega) a;rw[show(2:Nat)^8=256 from rfl,Nat.mul_comm] at this
 omega
theorem lI {s:List UInt8}{to:Int}:uc s to=true↔to<=s.length/\ai s 1≠0/\part s to<=1048576/\55<part s to:=by simp[uc,and_assoc]
theorem Qa {s:List UInt8}{to:Int}(h2:2<=to)(h3:to<100):aq (jy (ani s to) 251 Tryz.f251 [.str false s,.int .i64 false to] (P9 s to)):=by
 refine aq.j7 (aiX s to) (by delta Fk Bk I6 Ix NI bf aF bC bx JX QJ bh bP qg F4 sW JV ak ZK k6 jX rO Az cR N1 cY Kl aI iS aL eI bH gi cS dG yu lV kG pW;exact rfl) ?_;have F: ∀ {p:Prop},¬ (to<=s.length/\ai s 1≠0/\part s to<=1048576/\55<part s to)->uc s to=true->p:=fun h e=>absurd (lI.1 e) h;refine⟨fun a=>⟨F (by simp at a;omega),fun _=>by(first | exact⟨_,af.cells (fun _=>rfl) rfl,fun _=>rfl⟩ | exact fun _=>rfl | trivial)⟩,fun a=> ?_⟩
 simp only[decide_eq_false_iff_not,Int.not_lt] at a;refine⟨by omega,fun b=>⟨F (by simp at b;simp[b]),fun _=>by(first | exact⟨_,af.cells (fun _=>rfl) rfl,fun _=>rfl⟩ | exact fun _=>rfl | trivial)⟩,fun b=> ?_⟩
 simp only[decide_eq_false_iff_not] at b;refine⟨⟨1,⟨by omega,by omega,by rw[Tu];decide⟩,(Tu s).symm,rfl,trivial⟩,fun x ⟨hx1,hx2,hx3⟩=> ?_⟩;have g1:=zA s x;have g2:=eO s x;rw[ags g1 g2.1 g2.2];refine⟨fun c=> ?_,fun c=> ?_⟩
 ·simp only[decide_eq_true_eq] at c;have g3:=Ns (s:=s) hx1 (by omega);rw[← g3];refine⟨by omega,by omega,by omega,by omega,fun d=>⟨F ?_,fun _=>by(first | exact⟨_,af.cells (fun _=>rfl) rfl,fun _=>rfl⟩ | exact fun _=>rfl | trivial)⟩,fun d=>⟨by omega,x+1,⟨⟨by omega,by omega,by simpa using d⟩,by omega⟩,rfl,rfl,trivial⟩⟩
  simp only[decide_eq_true_eq] at d;have:=akR (s:=s) (x:=x+1) (by omega) a (by omega);omega
 ·simp only[decide_eq_false_iff_not] at c;obtain rfl:x=to:=by omega
  refine⟨fun d=>⟨F (by simp at d;omega),fun _=>by(first | exact⟨_,af.cells (fun _=>rfl) rfl,fun _=>rfl⟩ | exact fun _=>rfl | trivial)⟩,fun d=>⟨fun _=>by(first | exact⟨_,af.cells (fun _=>rfl) rfl,fun _=>rfl⟩ | exact fun _=>rfl | trivial),fun e=> ?_⟩⟩
  simp only[decide_eq_false_iff_not] at d;rw[lI.2 ⟨a,b,hx3,by omega⟩] at e;cases e
def I9:List SV->Option (Prop×b7)
 | [.str false s,.int .i64 false to]=>some (2<=to/\to<100,P9 s to)
 | _=>none
noncomputable def SI:PT:=bW I9
theorem ap0 (s:List UInt8)(to:Int):Sx.Good Tryz.prog (ani s to):=.of bO SK bt
theorem Ml {z:List SV}(hz:SV.gM 0 z=true):(V6 z).Ok:=by
 intro x;refine⟨rfl,rfl,fun k=>SV.ga (SV.l8 (Nat.zero_le _) z hz) ?_,fun E E' k k' h=> ?_⟩
 ·simp[SV.gM,SV.wf,Nat.blt_eq]
 ·have hk:E k=E' k':=h rfl;have hv:=SV.oN hz E E';simp only[SV.bA] at hv;simp[SV.val,SV.bA,hk,hv]
theorem abC:au Tryz.prog 251 SI:=by
 refine fE (n:=20) (fn:=Tryz.f251) Tryz.func251 (by kernel_rfl) (by kernel_rfl) ?_;intro args p a h hp;unfold I9 at h;split at h
 ·rename_i s to;injection h with h;injection h with h1 h2;subst h1;subst h2;refine⟨_,ap0 s to,rfl,fun b=> ?_,Qa hp.1 hp.2⟩;cases b
  ·exact Ml rfl
  ·exact rfl
 ·cases h
noncomputable def afB:List (FuncId×PT):=(251,SI)::afA
theorem SL:aU Tryz.prog (fun f=>aA f afB):=.cons abC (bX _) SK
noncomputable def adR:gF:={cF with cM:=fun f=>aA f afB}
theorem ams:Sx.Good Tryz.prog adR:=.of bO SL bt
def lead (s:List UInt8):Int:=if ai s 0<192 then ai s 0 - 128 else ai s 0 - 192
def cutFrom (s:List UInt8):Int:=if ai s 0<128 then 0 else if 55<lead s then lead s - 54 else 1
def VS (s:List UInt8):Int:=if ai s 0<128 then 1 else if 55<lead s then part s (lead s - 54)else lead s
def cA (s:List UInt8):Bool:=decide (s≠[])&&(decide (ai s 0<128)||((!decide (55<lead s)||uc s (lead s - 54))&&decide (VS s<=s.length - cutFrom s)&& !(decide (ai s 0<192)&&decide (lead s=1)&&decide (ai s 1<128))))
def dD (s:List UInt8):Bool:=decide (192<=ai s 0)
def aa (s:List UInt8):List UInt8:=(s.drop (cutFrom s).toNat).take (VS s).toNat
def aC (s:List UInt8):List UInt8:=s.drop (cutFrom s+VS s).toNat
def anl (s:List UInt8):b7:=.fork (cA s) fun b=>match b with
 | true=>.ret (.bL [.bool false (dD s),.str false (aa s),.str false (aC s),.aZ])
 | false=>V6 [.bool true false,.str true [],.str true []]
section
variable (s : List UInt8) (p q r P Q : Prop) (a b c d e : Int) (v w f : SV) (B : SB) (x : Bool) (y z : Option Operand) (g : Tmp)
abbrev fK:=SV.bool true false
abbrev iV:=ai s 0
abbrev N3:=jc (iV s - 128)
abbrev EY:=1+N3 s
abbrev EZ:=1+jc (iV s - 192)
abbrev C0:=jV false&&false
abbrev J2:=some (Operand.const (Value.int IntKind.i64 1))
abbrev C6:=EY s - 55+part s (EY s - 55)
abbrev wM:=EY s - 55
abbrev C':=EZ s - 55+part s (EZ s - 55)
abbrev yg:=EZ s - 55
abbrev oe:=ak (0<=a) (b<=c) p
abbrev pU:=oe (d<=e) a b c
abbrev jx:=Bk x (ah v w) p
abbrev ahq:=aI (I6 (EY s)) (pU 1 1 (EY s) (EY s) (bP s)) (I6 (EY s)) (pU (EY s) (EY s) (bP s) (bP s) (bP s)) (jx (∃(_:Int),False) v w (cA s))
abbrev Gr:=bP s<=bP s
abbrev ahH:=aI (I6 (C6 s)) (pU (wM s) (wM s) (C6 s) (C6 s) (bP s)) (I6 (C6 s)) (oe (Gr s) (C6 s) (C6 s) (bP s)) (jx (∃(_:Int),False) v w (cA s))
abbrev Ut:=jx (∃(a:Int),pW (ah v f) B (rO a)) v w (cA s)
abbrev ax:=SV.str false s
abbrev dM:=SV.bool false x
abbrev iG:=some (Operand.tmp g)
abbrev eX:=decide (a=b)
abbrev sX:=SV.str x (eK s y z a b)
abbrev gQ:=aL p q (r/\P) Q
abbrev rT:=a% 18446744073709551616
abbrev Ob:=Ix a 18446744073709551616
end
theorem ao8 (base n:Int)(R:SV->Prop):VC.holds (fS adR 78 Tryz.f78 [.int .u8 false base,.int .i64 false n] R)=(Fk (n<=55) (R (SV.str fI [eS (base+jc n)])) (ak (Ob (rT n)) (eI (1+bh (digits (rT n)))) (R (ax (cat [eS (jc (base+55)+jc (bh (digits (rT n))))] (digits (rT n))))))):=by kernel_rfl
theorem aqs (s:List UInt8):VC.holds (jy adR 195 Tryz.f195 [.str false s] (anl s))=((fun(a:SV)=>(fun(b:SV)=>(fun(c:SV)=>(fun(d:SV)=>(fun(e:SV)=>(fun(f:SB)=>Fk (s=[]) (jx (∃(b:Int),bH 2 (rO b) (bx 0::QJ) 436/\ah a c) a b (cA s)) (lV s 0/\bf (ak (ak ((0:Int)<=0) ((0:Int)<=1) (1<=bP s)) (oe (Gr s) 1 1 (bP s)) (Bk (cA s) (gi fK b (aF (sX s 0 1 (fI&&true) none J2) (sX s 1 (bP s) (fI&&false) J2 none) qg)) (∃(_:Int),False))) (lV s 0/\bf (ak (lV s 0) (I6 (N3 s)) (bf (gQ (I6 (EY s)) (I6 (wM s)) (2<=wM s) (wM s<100) (Bk (uc s (wM s)) (dG (bf (Ut s a b c f) (cS (lV s 1/\bf (jx (∃(b:Int),pW (ah a c) N1 (rO b)) a b (cA s)) (ahH s d b) (ai s 1) 128) (ahH s d b) (part s (wM s)) 1) (bP s - wM s) (part s (wM s))) (bP s - wM s)) (∀(d:Int),jx (∃(b:Int),pW (ah a c) (rO d) (rO b)) a b (cA s)))) (dG (bf (Ut s a b c f) (cS (lV s 1/\bf (jx (∃(b:Int),pW (ah a c) N1 (rO b)) a b (cA s)) (ahq s e b) (ai s 1) 128) (ahq s e b) (N3 s) 1) (bP s - 1) (N3 s)) (bP s - 1)) 55 (N3 s))) (ak (lV s 0) (I6 (jc (iV s - 192))) (bf (gQ (I6 (EZ s)) (I6 (yg s)) (2<=yg s) (yg s<100) (Bk (uc s (yg s)) (dG (bf (Ut s a b c f) (aI (I6 (C' s)) (pU (yg s) (yg s) (C' s) (C' s) (bP s)) (I6 (C' s)) (oe (Gr s) (C' s) (C' s) (bP s)) (Bk (cA s) (gi (SV.bool (true&&true) (decide (Er (192:Int)))) b (aF (sX s (yg s) (C' s) C0 (iG 70) (iG 73)) (sX s (C' s) (bP s) C0 (iG 78) none) qg)) (∃(_:Int),False))) (bP s - yg s) (part s (yg s))) (bP s - yg s)) (∀(d:Int),jx (∃(b:Int),pW (ah a c) (rO d) (rO b)) a b (cA s)))) (dG (bf (Ut s a b c f) (aI (I6 (EZ s)) (pU 1 1 (EZ s) (EZ s) (bP s)) (I6 (EZ s)) (oe (Gr s) (EZ s) (EZ s) (bP s)) (Bk (cA s) (gi (SV.bool (true&&true) (decide (Er (192:Int)))) b (aF (sX s 1 (EZ s) (fI&&false) (iG 70) (iG 73)) (sX s (EZ s) (bP s) C0 (iG 78) none) qg)) (∃(_:Int),False))) (bP s - 1) (jc (iV s - 192))) (bP s - 1)) 55 (jc (iV s - 192)))) (iV s) 192) (iV s) 128)) (cR 2 (bC (bP s)) QJ 436)) (cY (SV.bool (true&&true) (eX 128 192)) (aF (sX s 1 (EY s) (fI&&false) (iG 70) (iG 73)) (sX s (EY s) (bP s) C0 (iG 78) none) qg))) (cY (SV.bool (true&&true) (eX 128 192)) (aF (sX s (wM s) (C6 s) C0 (iG 70) (iG 73)) (sX s (C6 s) (bP s) C0 (iG 78) none) qg))) (SV.bL (fK::aF cn cn List.nil++Az))) (cY (dM (dD s)) (aF (ax (aa s)) (ax (aC s)) qg))) (cY fK (aF cn cn Az))):=by kernel_rfl
end Go.Proofs.YtpaaiebohjjieaaGreatDoor
