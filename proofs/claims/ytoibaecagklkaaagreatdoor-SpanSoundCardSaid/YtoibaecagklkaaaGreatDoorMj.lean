/-
  Calls of the library that have no body: internal/reflectlite, as errors.Is and errors.As need it; by tables of types.
-/
import Derived.Test.YtoibaecagklkaaaGreatDoorMa
import Derived.Test.YtoibaecagklkaaaGreatDoorMi
import Derived.Laws.Externs
import Derived.ProofKit
import Derived.Below
import Derived.ChangeSame
namespace Go.Proofs.YtoibaecagklkaaaGreatDoor
open Go Sx
theorem eH {P:Program}{f:FuncId}{fn:Func}{e:Array Value->Sem Value}(hf:P.funcs[f]?=some fn) (h1:(fn.name== "runtime.NumGoroutine")=false) (h2:fn.body.isNone=true)
  (h3:Extern.findNext fn=none) (h4:Extern.find fn=some e) {args:Array Value} {v:Value} {w w':World} (h:(e args).run P w=.ok v w'):(callFunc f args).run P w=.ok (.value v) w':=by
 rw[run_callFunc_extern hf h1 h2 h3 h4,h];rfl
abbrev lP:TypeId:=212
noncomputable abbrev uc (t:Nat):Value:=.pointer (some ⟨hB,t,none⟩)
noncomputable abbrev hd (t:Nat):SV:=.raw (uc t)
noncomputable abbrev Wp (t:Nat):SV:=.iface lP (.agg [hd t])
def mc {β:Type}(a:Nat):List (Nat×β)->Option β
 | []=>none
 | e::r=>if e.1=a then some e.2 else mc a r
theorem eI {β:Type}{a:Nat}{b:β}: ∀ {l:List (Nat×β)},mc a l=some b->(a,b)∈ l
 | [],h=>by cases h
 | e::r,h=>by
   unfold mc at h
   split at h
   ·rename_i he;injection h with h;subst h;subst he;simp
   ·exact List.mem_cons_of_mem _ (eI h)
def EA {β:Type}(a b:Nat):List (Nat×Nat×β)->Option β
 | []=>none
 | e::r=>if e.1=a/\e.2.1=b then some e.2.2 else EA a b r
theorem pT {β:Type}{a b:Nat}{c:β}: ∀ {l:List (Nat×Nat×β)},EA a b l=some c->(a,b,c)∈ l
 | [],h=>by cases h
 | e::r,h=>by
   unfold EA at h
   split at h
   ·rename_i he;injection h with h;subst h;obtain⟨rfl,rfl⟩:=he;simp
   ·exact List.mem_cons_of_mem _ (pT h)
noncomputable def Aj:SV->Option Nat
 | .raw (.pointer (some ⟨b,t,none⟩))=>if b=hB then some t else none
 | _=>none
theorem hG {v:SV}{t:Nat}(h:Aj v=some t):v=hd t:=by
 unfold Aj at h
 split at h
 ·rename_i b t'
  split at h
  ·rename_i e;injection h with h;subst h;subst e;rfl
  ·cases h
 ·cases h
noncomputable def oY:PT:=fun args m nx K=>match args with
 | [.iface t _]=>K (Wp t) m nx
 | _=>.fail "TypeOf"
noncomputable def gX:PT:=fun args m nx K=>match args with
 | [.agg [h]]=>(match Aj h with
   | some t=>(match mc t D7 with
     | some b=>K (.bool true b) m nx
     | none=>.fail "Comparable")
   | none=>.fail "Comparable")
 | _=>.fail "Comparable"
noncomputable def mh:PT:=fun args m nx K=>match args with
 | [.iface t v]=>(match mc t cz,v.plain with
   | some k,true=>K (.agg [hd t,.ptr nx true 0,.int .u64 true (Int.ofNat (k+128))]) ((nx,.cells v.cells v.cells.length t)::m) (nx+1)
   | _,_=>.fail "ValueOf")
 | _=>.fail "ValueOf"
noncomputable def xQ:PT:=fun args m nx K=>match args with
 | [.agg [h,.ptr _ true 0,.int .u64 _ n]]=>(match Aj h with
   | some t=>(match mc t cz with
     | some k=>if n=Int.ofNat (k+128)then K (Wp t) m nx else .fail "Value.Type"
     | none=>.fail "Value.Type")
   | none=>.fail "Value.Type")
 | _=>.fail "Value.Type"
noncomputable def yh:PT:=fun args m nx K=>match args with
 | [h]=>(match Aj h with
   | some t=>(match mc t cz with
     | some k=>K (.int .u8 true (Int.ofNat k)) m nx
     | none=>.fail "Kind")
   | none=>.fail "Kind")
 | _=>.fail "Kind"
noncomputable def tr:PT:=fun args m nx K=>match args with
 | [.agg [h]]=>(match Aj h with
   | some t=>(match mc t jb with
     | some e=>K (Wp e) m nx
     | none=>.fail "Elem")
   | none=>.fail "Elem")
 | _=>.fail "Elem"
noncomputable def Bk (tab:List (Nat×Nat×Bool)):PT:=fun args m nx K=>match args with
 | [.agg [h],.iface t (.agg [g])]=>(match Aj h,Aj g with
   | some a,some b=>(match EA a b tab with
     | some c=>if t=lP then K (.bool true c) m nx else .fail "a relation of types"
     | none=>.fail "a relation of types")
   | _,_=>.fail "a relation of types")
 | _=>.fail "a relation of types"
noncomputable def xh (m:Mem):SV->Option (Nat×SV)
 | .agg [h,.ptr key true 0,.int .u64 _ n]=>(match Aj h,m.get key with
   | some t,some (.cells (.ptr k b o::_) _ _)=>(match mc t jb with
     | some _=>if n=150 then some (t,.ptr k b o)else none
     | none=>none)
   | _,_=>none)
 | _=>none
noncomputable def tW:PT:=fun args m nx K=>match args with
 | [v]=>(match xh m v with
   | some _=>K (.bool true false) m nx
   | none=>.fail "IsNil")
 | _=>.fail "IsNil"
noncomputable def tK:PT:=fun args m nx K=>match args with
 | [v]=>(match xh m v with
   | some (t,p)=>(match mc t jb with
     | some e=>(match mc e cz with
       | some k=>K (.agg [hd e,p,.int .u64 true (Int.ofNat (k+128+256))]) m nx
       | none=>.fail "Value.Elem")
     | none=>.fail "Value.Elem")
   | none=>.fail "Value.Elem")
 | _=>.fail "Value.Elem"
noncomputable def FQ:PT:=fun args m nx K=>match args with
 | [.agg [h,p,.int .u64 _ n],.agg [g,.ptr key true 0,.int .u64 _ n']]=>(match Aj h,Aj g,m.get key with
   | some a,some b,some (.cells (v::_) _ _)=>(match EA a b y5,mc a cz,mc b cz with
     | some wrap,some k,some k'=>if n=Int.ofNat (k+128+256)/\n'=Int.ofNat (k'+128)then
        lH Tryz.prog a (some p) (some (match wrap with | true=>.iface b v | false=>v)) m nx (fun _ m nx=>K (.aL []) m nx)else .fail "Value.Set"
     | _,_,_=>.fail "Value.Set")
   | _,_,_=>.fail "Value.Set")
 | _=>.fail "Value.Set"
noncomputable def x3:PT:=Bk (vF++Bg)
noncomputable def Iu:PT:=Bk Dv
theorem FT: ∀ p∈ cz,∀ w,(Extern.Rtype.kind p.1).run Tryz.prog w=.ok p.2 w:=by
 intro p hp w
 simp only[cz,List.mem_cons,List.not_mem_nil,or_false] at hp
 repeat' first
  | (rcases hp with rfl | hp)
  | subst hp
  | kernel_rfl
theorem Oj: ∀ p∈ D7,∀ w,((Extern.ReflectliteType.method fun t=>do Extern.Rtype.noPackHeld "Comparable" t;pure (.bool (← typeInfo t).comparable)) #[.agg #[uc p.1]]).run Tryz.prog w=.ok (.bool p.2) w:=by
 intro p hp w
 simp only[D7,List.mem_cons,List.not_mem_nil,or_false] at hp
 repeat' first
  | (rcases hp with rfl | hp)
  | subst hp
  | kernel_rfl
theorem Q5: ∀ p∈ cz,∀(a:Addr) w,(Extern.ReflectliteValue.methodAny (Extern.ReflectliteValue.valueError "reflectlite.Value.Type" 0) (fun t _ _ _=>Extern.ReflectliteType.toType t) #[.agg #[uc p.1,.pointer (some a),.int .u64 (Int.ofNat (p.2+128))]]).run Tryz.prog w
  = .ok (.iface lP (.agg #[uc p.1])) w:=by
 intro p hp a w
 simp only[cz,List.mem_cons,List.not_mem_nil,or_false] at hp
 repeat' first
  | (rcases hp with rfl | hp)
  | subst hp
  | kernel_rfl
theorem Gw: ∀ p∈ cz,∀ w,((Extern.ReflectliteType.abiMethod fun t=>do pure (.int .u8 (Int.ofNat (← Extern.Rtype.kind t)))) #[uc p.1]).run Tryz.prog w=.ok (.int .u8 (Int.ofNat p.2)) w:=by
 intro p hp w
 simp only[cz,List.mem_cons,List.not_mem_nil,or_false] at hp
 repeat' first
  | (rcases hp with rfl | hp)
  | subst hp
  | kernel_rfl
theorem LG: ∀ p∈ jb,∀ w,(Extern.ReflectliteType.method Extern.ReflectliteType.elem #[.agg #[uc p.1]]).run Tryz.prog w=.ok (.iface lP (.agg #[uc p.2])) w:=by
 intro p hp w
 simp only[jb,List.mem_cons,List.not_mem_nil,or_false] at hp
 repeat' first
  | (rcases hp with rfl | hp)
  | subst hp
  | kernel_rfl
theorem QU: ∀ p∈ Dv,∀ w,(Extern.ReflectliteType.relation "Implements" Extern.ReflectliteType.implements_ #[.agg #[uc p.1],.iface lP (.agg #[uc p.2.1])]).run Tryz.prog w=.ok (.bool p.2.2) w:=by
 intro p hp w
 simp only[Dv,List.mem_cons,List.not_mem_nil,or_false] at hp
 repeat' first
  | (rcases hp with rfl | hp)
  | subst hp
  | kernel_rfl
theorem Jd: ∀ p∈ vF,∀ w,(Extern.ReflectliteType.relation "AssignableTo" Extern.ReflectliteType.assignableTo #[.agg #[uc p.1],.iface lP (.agg #[uc p.2.1])]).run Tryz.prog w=.ok (.bool p.2.2) w:=by
 intro p hp w
 simp only[vF,List.mem_cons,List.not_mem_nil,or_false] at hp
 repeat' first
  | (rcases hp with rfl | hp)
  | subst hp
  | kernel_rfl
noncomputable def Ol (t:Nat):Array (String×TypeId):=match Tryz.prog.underlying t with
 | some (.interface l)=>l
 | _=>#[]
noncomputable def TT (t:Nat):Array Method:=match Tryz.prog.info? t with
 | some i=>i.methods
 | none=>#[]
theorem RZ: ∀ p∈ Bg,∀ w,(Extern.ReflectliteType.relation "AssignableTo" Extern.ReflectliteType.assignableTo #[.agg #[uc p.1],.iface lP (.agg #[uc p.2.1])]).run Tryz.prog w=.ok (.bool (false||(Instr.missingMethod (Ol p.2.1) (TT p.1)).isNone)) w:=by
 intro p hp w
 simp only[Bg,List.mem_cons,List.not_mem_nil,or_false] at hp
 repeat' first
  | (rcases hp with rfl | hp)
  | subst hp
  | kernel_rfl
theorem OC: ∀ p∈ Bg,Bv (Ol p.2.1) (TT p.1)=true/\p.2.2=false:=by
 intro p hp
 simp only[Bg,List.mem_cons,List.not_mem_nil,or_false] at hp
 repeat' first
  | (rcases hp with rfl | hp)
  | subst hp
  | exact⟨by kernel_rfl,rfl⟩
theorem UF: ∀ p∈ Bg,∀ w,(Extern.ReflectliteType.relation "AssignableTo" Extern.ReflectliteType.assignableTo #[.agg #[uc p.1],.iface lP (.agg #[uc p.2.1])]).run Tryz.prog w=.ok (.bool p.2.2) w:=by
 intro p hp w
 obtain⟨h1,h2⟩:=OC p hp
 obtain⟨m,hm⟩:=xG h1
 rw[RZ p hp w,h2,hm]
 rfl
theorem Ih (t:Nat)(v:Value)(w:World):(Extern.ReflectliteType.typeOf #[.iface t v]).run Tryz.prog w=.ok (.iface lP (.agg #[uc t])) w:=by kernel_rfl
end Go.Proofs.YtoibaecagklkaaaGreatDoor
namespace Go.Proofs.YtoibaecagklkaaaGreatDoor
open Go Sx
set_option maxRecDepth 20000
theorem bf {s:String}{α:Prop}(h:(VC.fail s).holds):α:=False.elim h
section
variable {K : SV -> Mem -> Nat -> VC} {Γ : aY} {E : Nat -> Nat} {nx : Nat} {m : Mem} {w : World}
theorem eU {v:SV}(h:(K v m nx).holds)(hs:aJ Γ E m nx w):bg (lift K) Γ E nx (v.val E) w :=
 ⟨E,some v,m,nx,fun _ _=>rfl,Nat.le_refl _,fun u hu=>by injection hu with hu;subst hu;rfl,hs,h⟩
end
theorem LO:aB Tryz.prog 113 oY:=by
 intro args m nx K h hw ha Γ E w hs
 unfold oY at h
 split at h
 ·rename_i t v
  simp only[SV.vals,SV.val]
  rw[eH (e:=Extern.ReflectliteType.typeOf) Tryz.func113 (by kernel_rfl) (by kernel_rfl) (by kernel_rfl) (by kernel_rfl) (Ih t _ w)]
  simp only[Out]
  exact eU (v:=Wp t) h hs
 ·exact bf h
set_option maxRecDepth 20000 in
theorem AA:aB Tryz.prog 247 gX:=by
 intro args m nx K h hw ha Γ E w hs
 unfold gX at h
 split at h
 ·rename_i x
  split at h
  ·rename_i t ht
   have hx:=hG ht
   split at h
   ·rename_i b hb
    rw[hx];simp only[SV.vals,SV.val]
    rw[eH (e:=Extern.ReflectliteType.method fun t=>do Extern.Rtype.noPackHeld "Comparable" t;pure (.bool (← typeInfo t).comparable)) Tryz.func247 (by kernel_rfl) (by kernel_rfl) (by kernel_rfl) (by kernel_rfl) (Oj _ (eI hb) w)]
    simp only[Out]
    exact eU (v:=.bool true b) h hs
   ·exact bf h
  ·exact bf h
 ·exact bf h
set_option maxRecDepth 20000 in
theorem TD:aB Tryz.prog 235 yh:=by
 intro args m nx K h hw ha Γ E w hs
 unfold yh at h
 split at h
 ·rename_i x
  split at h
  ·rename_i t ht
   have hx:=hG ht
   split at h
   ·rename_i k hk
    rw[hx];simp only[SV.vals,SV.val]
    rw[eH (e:=Extern.ReflectliteType.abiMethod fun t=>do pure (.int .u8 (← Extern.Rtype.kind t))) Tryz.func235 (by kernel_rfl) (by kernel_rfl) (by kernel_rfl) (by kernel_rfl) (Gw _ (eI hk) w)]
    simp only[Out]
    exact eU (v:=.int .u8 true (Int.ofNat k)) h hs
   ·exact bf h
  ·exact bf h
 ·exact bf h
set_option maxRecDepth 20000 in
theorem Rv:aB Tryz.prog 248 tr:=by
 intro args m nx K h hw ha Γ E w hs
 unfold tr at h
 split at h
 ·rename_i x
  split at h
  ·rename_i t ht
   have hx:=hG ht
   split at h
   ·rename_i e he
    rw[hx];simp only[SV.vals,SV.val]
    rw[eH (e:=Extern.ReflectliteType.method Extern.ReflectliteType.elem) Tryz.func248 (by kernel_rfl) (by kernel_rfl) (by kernel_rfl) (by kernel_rfl) (LG _ (eI he) w)]
    simp only[Out]
    exact eU (v:=Wp e) h hs
   ·exact bf h
  ·exact bf h
 ·exact bf h
set_option maxRecDepth 20000 in
theorem S5:aB Tryz.prog 249 Iu:=by
 intro args m nx K h hw ha Γ E w hs
 unfold Iu Bk at h
 split at h
 ·rename_i x t y
  split at h
  ·rename_i a b hx hy
   have hx:=hG hx
   have hy:=hG hy
   split at h
   ·rename_i c hc
    split at h
    ·rename_i e;subst e
     rw[hx,hy];simp only[SV.vals,SV.val]
     rw[eH (e:=Extern.ReflectliteType.relation "Implements" Extern.ReflectliteType.implements_) Tryz.func249 (by kernel_rfl) (by kernel_rfl) (by kernel_rfl) (by kernel_rfl) (QU _ (pT hc) w)]
     simp only[Out]
     exact eU (v:=.bool true c) h hs
    ·exact bf h
   ·exact bf h
  ·exact bf h
 ·exact bf h
set_option maxRecDepth 20000 in
theorem Lz:aB Tryz.prog 246 x3:=by
 intro args m nx K h hw ha Γ E w hs
 unfold x3 Bk at h
 split at h
 ·rename_i x t y
  split at h
  ·rename_i a b hx hy
   have hx:=hG hx
   have hy:=hG hy
   split at h
   ·rename_i c hc
    split at h
    ·rename_i e;subst e
     rw[hx,hy];simp only[SV.vals,SV.val]
     have hrun:(Extern.ReflectliteType.relation "AssignableTo" Extern.ReflectliteType.assignableTo #[.agg #[uc a],.iface lP (.agg #[uc b])]).run Tryz.prog w=.ok (.bool c) w:=by
      rcases List.mem_append.1 (pT hc)with h1 | h1
      ·exact Jd _ h1 w
      ·exact UF _ h1 w
     rw[eH (e:=Extern.ReflectliteType.relation "AssignableTo" Extern.ReflectliteType.assignableTo) Tryz.func246 (by kernel_rfl) (by kernel_rfl) (by kernel_rfl) (by kernel_rfl) hrun]
     simp only[Out]
     exact eU (v:=.bool true c) h hs
    ·exact bf h
   ·exact bf h
  ·exact bf h
 ·exact bf h
set_option maxRecDepth 20000 in
theorem RN:aB Tryz.prog 86 xQ:=by
 intro args m nx K h hw ha Γ E w hs
 unfold xQ at h
 split at h
 ·rename_i x key l n
  split at h
  ·rename_i t ht
   have hx:=hG ht
   split at h
   ·rename_i k hk
    split at h
    ·rename_i e;subst e
     rw[hx];simp only[SV.vals,SV.val]
     rw[eH (e:=Extern.ReflectliteValue.methodAny (Extern.ReflectliteValue.valueError "reflectlite.Value.Type" 0) (fun t _ _ _=>Extern.ReflectliteType.toType t)) Tryz.func86 (by kernel_rfl) (by kernel_rfl) (by kernel_rfl) (by kernel_rfl) (Q5 _ (eI hk) _ w)]
     simp only[Out]
     exact eU (v:=Wp t) h hs
    ·exact bf h
   ·exact bf h
  ·exact bf h
 ·exact bf h
end Go.Proofs.YtoibaecagklkaaaGreatDoor
namespace Go.Proofs.YtoibaecagklkaaaGreatDoor
open Go Sx Extern
theorem XN (z:Sem Value)(f:TypeId->Addr->Nat->Nat->Sem Value)(v:Value) :
  ReflectliteValue.method z f #[v]=(do match ← ReflectliteValue.parts v with | none=>z | some (t,a,fl)=>f t a fl (fl% 32)):=rfl
theorem rls (v x:Value):ReflectliteValue.set #[v,x]=(do
  let (some (dst,a,fl),some (src,b,_)):=(← ReflectliteValue.parts v,← ReflectliteValue.parts x)
   | unsupported (.noEntry "extern/(internal/reflectlite.Value).Set.zeroValue")
  if fl / ReflectliteValue.flagAddr% 2==0 then unsupported (.noEntry "extern/(internal/reflectlite.Value).Set.unaddressable")
  let val ← loadVar src b
  if ← Rtype.directlyAssignable dst src then storeVar dst a val
  else if ← Rtype.implements dst src then
   if(← Rtype.kind src)==20 then
    match val with
    | .nilIface=>unsupported (.noEntry "extern/reflectlite: a nil value of one interface type handed on as a value of another")
    | _=>storeVar dst a val
   else storeVar dst a (.iface src val)
  else panicString ("reflectlite.Set: value of type " ++ (← Rtype.spelt src)++ " is not assignable to type " ++ (← Rtype.spelt dst))
  pure (.tuple #[])):=rfl
theorem HW (t:Nat)(w:World):(Rtype.handle t).run Tryz.prog w=.ok (uc t) w:=by kernel_rfl
theorem Rr {t k:Nat}(h:(t,k)∈ cz)(a:Addr)(fl:Nat)(w:World):(ReflectliteValue.mk t a fl).run Tryz.prog w=.ok (.agg #[uc t,.pointer (some a),.int .u64 (Int.ofNat (k+128+fl))]) w:=by
 have h1:=FT _ h w
 simp only at h1
 simp only[ReflectliteValue.mk,Sem.run_bind,HW,h1,Result.andThen_ok,Sem.run_pure]
 rfl
theorem uX: ∀ p∈ cz,∀(a:Addr) w,(ReflectliteValue.parts (.agg #[uc p.1,.pointer (some a),.int .u64 (Int.ofNat (p.2+128))])).run Tryz.prog w=.ok (some (p.1,a,p.2+128)) w:=by
 intro p hp a w
 simp only[cz,List.mem_cons,List.not_mem_nil,or_false] at hp
 repeat' first
  | (rcases hp with rfl | hp)
  | subst hp
  | kernel_rfl
theorem Je: ∀ p∈ cz,∀(a:Addr) w,(ReflectliteValue.parts (.agg #[uc p.1,.pointer (some a),.int .u64 (Int.ofNat (p.2+128+256))])).run Tryz.prog w=.ok (some (p.1,a,p.2+128+256)) w:=by
 intro p hp a w
 simp only[cz,List.mem_cons,List.not_mem_nil,or_false] at hp
 repeat' first
  | (rcases hp with rfl | hp)
  | subst hp
  | kernel_rfl
theorem ET: ∀ p∈ jb,(p.1,22)∈ cz/\Tryz.prog.underlying p.1=some (.pointer p.2):=by
 intro p hp
 simp only[jb,List.mem_cons,List.not_mem_nil,or_false] at hp
 repeat' first
  | (rcases hp with rfl | hp)
  | subst hp
  | exact⟨by simp[cz],by kernel_rfl⟩
theorem elem?_run: ∀ p∈ jb,∀ w,(Rtype.elem? p.1).run Tryz.prog w=.ok (some p.2) w:=by
 intro p hp w
 simp only[jb,List.mem_cons,List.not_mem_nil,or_false] at hp
 repeat' first
  | (rcases hp with rfl | hp)
  | subst hp
  | kernel_rfl
noncomputable def GF (t:Nat):Bool:=match Tryz.prog.underlying t with
 | some d=>!eB d
 | none=>false
theorem Lq: ∀ p∈ cz,GF p.1=true:=by
 intro p hp
 simp only[cz,List.mem_cons,List.not_mem_nil,or_false] at hp
 repeat' first
  | (rcases hp with rfl | hp)
  | subst hp
  | kernel_rfl
theorem M1: ∀ p∈ cz,∃ d,Tryz.prog.underlying p.1=some d/\eB d=false:=by
 intro p hp
 have:=Lq p hp
 unfold GF at this
 split at this
 ·rename_i d hd;exact⟨d,hd,by simpa using this⟩
 ·cases this
theorem Ho: ∀ p∈ y5,∀ w,(Rtype.directlyAssignable p.1 p.2.1).run Tryz.prog w=.ok (!p.2.2) w:=by
 intro p hp w
 simp only[y5,List.mem_cons,List.not_mem_nil,or_false] at hp
 repeat' first
  | (rcases hp with rfl | hp)
  | subst hp
  | kernel_rfl
theorem Q4: ∀ p∈ y5,p.2.2=true->∀ w,(Rtype.implements p.1 p.2.1).run Tryz.prog w=.ok true w/\(p.2.1,20)∉ cz:=by
 intro p hp hw w
 simp only[y5,List.mem_cons,List.not_mem_nil,or_false] at hp
 repeat' first
  | (rcases hp with rfl | hp)
  | subst hp
  | cases hw
  | exact⟨by kernel_rfl,by simp[cz]⟩
theorem pI {t k:Nat}(h:(t,k)∈ cz){b o:Nat}{c:Array Value}{ty:TypeId}{fr:Nat×Nat}{w:World}(hb:w.heap[b]?=some (.cells c ty fr)){v:Value}(hv:c[o]?=some v) :
  (loadVar t ⟨b,o,none⟩).run Tryz.prog w=.ok v w:=by
 obtain⟨d,h1,h2⟩:=M1 _ h
 simp only[loadVar,Sem.run_bind,bZ h1,h2,Result.andThen_ok,Bool.false_eq_true,if_false,run_load,cell_of hb,hv]
set_option maxRecDepth 20000 in
theorem HB:aB Tryz.prog 85 mh:=by
 intro args m nx K h hw ha Γ E w hs
 unfold mh at h
 split at h
 ·rename_i t v
  split at h
  ·rename_i k hk hp
   have hm:=eI hk
   simp only[SV.vals,SV.val]
   have hrun:((fun args=>ReflectliteValue.unpack (args.getD 0 (.tuple #[]))) #[Value.iface t (v.val E)]).run Tryz.prog w =
     .ok (.agg #[uc t,.pointer (some ⟨w.heap.size,0,none⟩),.int .u64 (Int.ofNat (k+128+0))]) {w with heap:=w.heap.push (.cells (v.val E).cells t)}:=by
    show(ReflectliteValue.unpack (Value.iface t (v.val E))).run Tryz.prog w=_
    simp only[ReflectliteValue.unpack,Sem.run_bind,rJ,Result.andThen_ok,Rr hm]
   rw[eH (e:=fun args=>ReflectliteValue.unpack (args.getD 0 (.tuple #[]))) Tryz.func85 (by kernel_rfl) (by kernel_rfl) (by kernel_rfl) (by kernel_rfl) hrun]
   simp only[Out]
   simp only[SV.ep,SV.wf,Bool.and_true] at ha
   refine bg.alloc hs hw (K:=lift K) (sv:=.agg [hd t,.ptr nx true 0,.int .u64 true (Int.ofNat (k+128))]) (mC ha) (tX (by rw[SV.dV hp])) (oa (E:=E) (by rw[SV.dV hp])) h ?_
   simp[SV.val,SV.vals]
  ·exact bf h
 ·exact bf h
theorem zj {m:Mem}{v p:SV}{t:Nat}(h:xh m v=some (t,p)): ∃ key l cs tot ty k b o e,v=.agg [hd t,.ptr key true 0,.int .u64 l 150]/\p=.ptr k b o/\m.get key=some (.cells (.ptr k b o::cs) tot ty)/\(t,e)∈ jb:=by
 unfold xh at h
 split at h
 ·rename_i x key l n
  split at h
  ·rename_i t' k b o cs tot ty ht hk
   split at h
   ·rename_i e he
    split at h
    ·rename_i hn
     injection h with h;injection h with h1 h2
     subst h1;subst h2;subst hn
     exact⟨key,l,cs,tot,ty,k,b,o,e,by rw[hG ht],rfl,hk,eI he⟩
    ·cases h
   ·cases h
  ·cases h
 ·cases h
set_option maxRecDepth 20000 in
theorem QH:aB Tryz.prog 87 tW:=by
 intro args m nx K h hw ha Γ E w hs
 unfold tW at h
 split at h
 ·rename_i v
  split at h
  ·rename_i tp htp
   obtain⟨t,p⟩:=tp
   obtain⟨key,l,cs,tot,ty,k,b,o,e,hv,hp,hk,he⟩:=zj htp
   obtain⟨ob,ho,c,fr,rfl,_,h2,_⟩:=hs.kO key _ hk rfl
   have h0:=h2 0 _ rfl
   obtain⟨hkt,hun⟩:=ET _ he
   have hrun:(ReflectliteValue.method (ReflectliteValue.valueError "reflectlite.Value.IsNil" 0) ReflectliteValue.isNil #[.agg #[uc t,.pointer (some ⟨E key,0,none⟩),.int .u64 150]]).run Tryz.prog w=.ok (.bool false) w:=by
    rw[XN]
    have hp:=uX _ hkt ⟨E key,0,none⟩ w
    have hl:=pI hkt ho h0
    simp only[show Int.ofNat (22+128)=150 from rfl] at hp
    simp only[Sem.run_bind,hp,Result.andThen_ok,ReflectliteValue.isNil]
    simp[hl,SV.val]
   rw[hv];simp only[SV.vals,SV.val]
   rw[eH (e:=ReflectliteValue.method (ReflectliteValue.valueError "reflectlite.Value.IsNil" 0) ReflectliteValue.isNil) Tryz.func87 (by kernel_rfl) (by kernel_rfl) (by kernel_rfl) (by kernel_rfl) hrun]
   simp only[Out]
   exact eU (v:=.bool true false) h hs
  ·exact bf h
 ·exact bf h
set_option maxRecDepth 20000 in
theorem Qi:aB Tryz.prog 133 tK:=by
 intro args m nx K h hw ha Γ E w hs
 unfold tK at h
 split at h
 ·rename_i v
  split at h
  ·rename_i t p htp
   obtain⟨key,l,cs,tot,ty,k,b,o,e0,hv,hp,hk,he0⟩:=zj htp
   split at h
   ·rename_i e he
    have he:=eI he
    split at h
    ·rename_i ke hke
     have hke:=eI hke
     obtain⟨ob,ho,c,fr,rfl,_,h2,_⟩:=hs.kO key _ hk rfl
     have h0:=h2 0 _ rfl
     obtain⟨hkt,hun⟩:=ET _ he
     have hrun:(ReflectliteValue.method (ReflectliteValue.valueError "reflectlite.Value.Elem" 0) ReflectliteValue.elem #[.agg #[uc t,.pointer (some ⟨E key,0,none⟩),.int .u64 150]]).run Tryz.prog w=.ok (.agg #[uc e,.pointer (some ⟨E k,o,none⟩),.int .u64 (Int.ofNat (ke+128+256))]) w:=by
      rw[XN]
      have hp:=uX _ hkt ⟨E key,0,none⟩ w
      have hl:=pI hkt ho h0
      have hel:=elem?_run _ he w
      have hmk:=Rr hke ⟨E k,o,none⟩ ReflectliteValue.flagAddr w
      simp only at hel
      simp only[show Int.ofNat (22+128)=150 from rfl] at hp
      simp only[Sem.run_bind,hp,Result.andThen_ok,ReflectliteValue.elem]
      simp[hl,SV.val,hel,hmk]
      rfl
     rw[hv];simp only[SV.vals,SV.val]
     rw[eH (e:=ReflectliteValue.method (ReflectliteValue.valueError "reflectlite.Value.Elem" 0) ReflectliteValue.elem) Tryz.func133 (by kernel_rfl) (by kernel_rfl) (by kernel_rfl) (by kernel_rfl) hrun]
     simp only[Out]
     subst hp
     have:=eU (v:=.agg [hd e,.ptr k b o,.int .u64 true (Int.ofNat (ke+128+256))]) h hs
     simpa [SV.val,SV.vals] using this
    ·exact bf h
   ·exact bf h
  ·exact bf h
 ·exact bf h
end Go.Proofs.YtoibaecagklkaaaGreatDoor
namespace Go.Proofs.YtoibaecagklkaaaGreatDoor
open Go Sx Extern
set_option maxRecDepth 20000
theorem SS: ∀ p∈ cz,((p.2+128+256) / ReflectliteValue.flagAddr% 2==0)=false:=by
 intro p hp
 simp only[cz,List.mem_cons,List.not_mem_nil,or_false] at hp
 repeat' first
  | (rcases hp with rfl | hp)
  | subst hp
  | rfl
set_option maxRecDepth 20000 in
theorem Dq {t:TypeId}{p x:SV}{m:Mem}{nx:Nat}{K:SV->Mem->Nat->VC}{Γ:aY}{E:Nat->Nat}{w:World}(h:(lH Tryz.prog t (some p) (some x) m nx (fun _ m nx=>K (.aL []) m nx)).holds)(hs:aJ Γ E m nx w)(hw:Mem.wf nx m=true)
  (hp:p.wf nx=true) (hx:x.wf nx=true) {a:Addr} (ha:p.val E=.pointer (some a)) (_h0:a.spot=none) :
  ∃ w',(storeVar t a (x.val E)).run Tryz.prog w=.ok () w'/\bg (lift K) Γ E nx (.tuple #[]) w':=by
 have:=Bp (P:=Tryz.prog) (Γ:=Γ) (m:=m) (nx:=nx) (σ:=fun o=>match o with | .tmp 0=>some p | .tmp 1=>some x | _=>none) (dst:=none) (t:=t) (type:=0) (pos:= "") (after:=#[]) (guard:=none) (a:=.tmp 0) (x:=.tmp 1)
  (fun _ m nx=>K (.aL []) m nx) E w (fun o=>match o with | .tmp 0=>p.val E | .tmp 1=>x.val E | _=>undef) h hs hw (fun o v hv=>by
    simp only at hv
    split at hv
    ·injection hv with hv;subst hv;exact hp
    ·injection hv with hv;subst hv;exact hx
    ·cases hv) (fun o v hv=>by
    simp only at hv ⊢
    split at hv
    ·injection hv with hv;subst hv;rfl
    ·injection hv with hv;subst hv;rfl
    ·cases hv)
 simp only[execOp,Instr.storeAt,ha,Instr.sureAddr,Sem.run_bind,Sem.run_pure,Result.andThen_ok] at this
 generalize hr:(storeVar t a (x.val E)).run Tryz.prog w=r at this
 cases r with
 | halt e w'=>cases e<;>simp[Result.andThen,Out] at this
 | ok u w' =>
   simp only[Result.andThen_ok,Out] at this
   obtain⟨E',sv,m',nx',g1,g2,g3,g4,g5⟩:=this
   exact⟨w',rfl,E',some (.aL []),m',nx',g1,g2,fun v hv=>by injection hv with hv;subst hv;rfl,g4,g5⟩
set_option maxRecDepth 20000 in
theorem U8:aB Tryz.prog 134 FQ:=by
 intro args m nx K h hw ha Γ E w hs
 unfold FQ at h
 split at h
 ·rename_i x p l n y key l' n'
  split at h
  ·rename_i a b v cs tot ty hx hy hk
   have hx:=hG hx
   have hy:=hG hy
   split at h
   ·rename_i wrap k k' hwr hka hkb
    have hwr:=pT hwr
    have hka:=eI hka
    have hkb:=eI hkb
    split at h
    ·rename_i hn
     obtain⟨rfl,rfl⟩:=hn
     obtain⟨ob,ho,c,fr,rfl,_,h2,_⟩:=hs.kO key _ hk rfl
     have h0:=h2 0 _ rfl
     have hvw:v.wf nx=true:=SV.qh (Mem.CR hw hk) (i:=0) rfl
     have hpw:p.wf nx=true:=by
      simp only[SV.ep,SV.wf,Bool.and_eq_true] at ha
      exact ha.1.2.1
     have hpp: ∃ q,p.val E=.pointer (some q)/\q.spot=none:=by
      unfold lH at h
      split at h
      ·rename_i e _ _;injection e with e;subst e;exact⟨_,rfl,rfl⟩
      ·rename_i e _ _;injection e with e;subst e;exact⟨_,rfl,rfl⟩
      ·rename_i e _ _;injection e with e;subst e;exact⟨_,rfl,rfl⟩
      ·rename_i e _ _;injection e with e;subst e;exact⟨_,rfl,rfl⟩
      ·rename_i e _ _;injection e with e;subst e;exact⟨_,rfl,rfl⟩
      ·exact bf h
     obtain⟨q,hq,hsp⟩:=hpp
     obtain⟨w',hst,haft⟩:=Dq h hs hw hpw (by cases wrap<;>exact hvw) hq hsp
     have hp1:=Je _ hka q w
     have hp2:=uX _ hkb ⟨E key,0,none⟩ w
     have hd:=Ho _ hwr w
     have hl:=pI hkb ho h0
     simp only at hp1 hp2 hd
     have hflag:((k+128+256) / ReflectliteValue.flagAddr% 2==0)=false:=SS _ hka
     have hrun:(ReflectliteValue.set #[.agg #[uc a,.pointer (some q),.int .u64 (Int.ofNat (k+128+256))],.agg #[uc b,.pointer (some ⟨E key,0,none⟩),.int .u64 (Int.ofNat (k'+128))]]).run Tryz.prog w=.ok (.tuple #[]) w':=by
      rw[rls]
      simp only[Sem.run_bind,hp1,hp2,Result.andThen_ok,hflag,Bool.false_eq_true,if_false,hl,hd]
      cases wrap with
      | false =>
        simp only[Bool.not_false,if_true]
        try simp only at hst
        rw[Sem.run_bind,hst]
        rfl
      | true =>
        obtain⟨hi,hne⟩:=Q4 _ hwr rfl w
        have hkk:=FT _ hkb w
        simp only at hi hkk
        have h20:(k'==20)=false:=by
         simp only[beq_eq_false_iff_ne,ne_eq]
         intro e;subst e;exact hne hkb
        simp only[Bool.not_true,Bool.false_eq_true,if_false,Sem.run_bind,hi,Result.andThen_ok,if_true,hkk,h20]
        simp only[SV.val] at hst
        rw[hst]
        rfl
     rw[hx,hy];simp only[SV.vals,SV.val,hq]
     rw[eH (e:=ReflectliteValue.set) Tryz.func134 (by kernel_rfl) (by kernel_rfl) (by kernel_rfl) (by kernel_rfl) hrun]
     exact haft
    ·exact bf h
   ·exact bf h
  ·exact bf h
 ·exact bf h
theorem F2:aR oY:=by
 intro args m nx K K' hK h;unfold oY at h ⊢;split at h;exact hK _ _ _ h;exact bf h
theorem wK:aR gX:=by
 intro args m nx K K' hK h;unfold gX at h ⊢;repeat' split at h
 all_goals first | exact bf h | (simp only[*];done) | (simp only[*];exact hK _ _ _ h)
theorem LQ:aR yh:=by
 intro args m nx K K' hK h;unfold yh at h ⊢;repeat' split at h
 all_goals first | exact bf h | (simp only[*];done) | (simp only[*];exact hK _ _ _ h)
theorem Iw:aR tr:=by
 intro args m nx K K' hK h;unfold tr at h ⊢;repeat' split at h
 all_goals first | exact bf h | (simp only[*];done) | (simp only[*];exact hK _ _ _ h)
theorem EB (tab:List (Nat×Nat×Bool)):aR (Bk tab):=by
 intro args m nx K K' hK h;unfold Bk at h ⊢;repeat' split at h
 all_goals first | exact bf h | (simp only[*,if_true];done) | (simp only[*,if_true];exact hK _ _ _ h)
theorem Ln:aR xQ:=by
 intro args m nx K K' hK h;unfold xQ at h ⊢;repeat' split at h
 all_goals first | exact bf h | (simp only[*,if_true];done) | (simp only[*,if_true];exact hK _ _ _ h)
theorem D9:aR mh:=by
 intro args m nx K K' hK h;unfold mh at h ⊢;repeat' split at h
 all_goals first | exact bf h | (simp only[*];done) | (simp only[*];exact hK _ _ _ h)
theorem HF:aR tW:=by
 intro args m nx K K' hK h;unfold tW at h ⊢;repeat' split at h
 all_goals first | exact bf h | (simp only[*];done) | (simp only[*];exact hK _ _ _ h)
theorem Ir:aR tK:=by
 intro args m nx K K' hK h;unfold tK at h ⊢;repeat' split at h
 all_goals first | exact bf h | (simp only[*];done) | (simp only[*];exact hK _ _ _ h)
theorem FK {P:Program}{t:TypeId}{a x:Option SV}{m:Mem}{nx:Nat}{K K':KL}(hK: ∀ v m nx,(K v m nx).holds->(K' v m nx).holds)(h:(lH P t a x m nx K).holds):(lH P t a x m nx K').holds:=by
 unfold lH at h ⊢;repeat' split at h
 all_goals first | exact bf h | exact hK _ _ _ h | exact⟨h.1,hK _ _ _ h.2⟩ | (simp only[*,if_true];done) | (simp only[*,if_true];exact hK _ _ _ h) | (simp only[*,if_true];exact⟨h.1,hK _ _ _ h.2⟩)
theorem PU:aR FQ:=by
 intro args m nx K K' hK h;unfold FQ at h ⊢
 split at h
 ·split at h
  ·split at h
   ·split at h
    ·rename_i hn
     simp only[*,and_self,if_true]
     exact FK (fun _ _ _=>hK _ _ _) h
    ·exact bf h
   ·exact bf h
  ·exact bf h
 ·exact bf h
noncomputable def e8:List (FuncId×PT):=[(113,oY),(247,gX),(235,yh),(248,tr),
 (249,Iu),(246,x3),(86,xQ),(85,mh),
 (87,tW),(133,tK),(134,FQ)]
theorem di:bl Tryz.prog (fun f=>aG f e8):=by
 unfold e8
 apply bl.cons
 ·exact LO
 ·exact F2
 apply bl.cons
 ·exact AA
 ·exact wK
 apply bl.cons
 ·exact TD
 ·exact LQ
 apply bl.cons
 ·exact Rv
 ·exact Iw
 apply bl.cons
 ·exact S5
 ·exact EB _
 apply bl.cons
 ·exact Lz
 ·exact EB _
 apply bl.cons
 ·exact RN
 ·exact Ln
 apply bl.cons
 ·exact HB
 ·exact D9
 apply bl.cons
 ·exact QH
 ·exact HF
 apply bl.cons
 ·exact Qi
 ·exact Ir
 apply bl.cons
 ·exact U8
 ·exact PU
 exact bl.nil
end Go.Proofs.YtoibaecagklkaaaGreatDoor
namespace Go.Proofs.YtoibaecagklkaaaGreatDoor.Sx
open Go Go.RowKit Go.WideShapes Go.ChangeShapes
section
variable {H : Type} {enc : TypeId × Value -> H} {P : Program}
theorem Am {f:Func}{s:ChangeSpec}{apart fresh handsOn again:Bool}{W W':World}{args:Array Value}{v:Value}{ds gs:List (DataW H)}{before pa pv:List MemPlace}
  (hW:DataW.Whole enc P f.params.toList s.vars apart W args.toList ds gs before)
  (hres: ∀(b:Nat) (sp:Nat->Bool) (hd:Bool),DataW.TrodAll enc P W' b sp hd f.resultTypes.toList (v.resultList f.resultTypes.size) (s.fn H (ds++gs)).results [])
  (hargs: ∀ sp:Nat->Bool,(∀ p∈ before,sp p.block=true)->DataW.TrodAll enc P W' 0 sp true f.params.toList args.toList (s.fn H (ds++gs)).args pa)
  (hvars: ∀ sp:Nat->Bool,(∀ p∈ before,sp p.block=true)->DataW.TrodVars enc P W' sp s.vars (s.fn H (ds++gs)).vars pv)
  (hps:before=pa++pv) (hb:Below W.heap.size W W')
  (hok: ∀(j:Nat) (t:TypeId) (r:Value),f.resultTypes[j]?=some t->(v.resultList f.resultTypes.size)[j]?=some r->Value.okWide P W' .any 0 t r) :
  s.post enc P f apart fresh handsOn again W args v W':=by
 have hlt: ∀ p∈ before,p.block<W.heap.size:=fun p hp=>hW.lt p hp
 have hold: ∀ p∈ before,(fun b=>decide (b<W.heap.size)) p.block=true:=fun p hp=>by simpa using hlt p hp
 refine⟨ds,gs,before,[],pa,pv,hW,hres _ _ _,hargs _ hold,hvars _ hold,World.keptBut_mono (fun p hp=>⟨hp,?_⟩) (hb.frame (· ∈ before)),fun _=> ?_⟩
 ·rw[hps,List.mem_append] at hp
  exact Or.inr hp
 ·obtain⟨_,_,_,_,_,hz,hn⟩:=hW
  refine⟨hok,_,_,([]++pa)++pv,⟨[]++pa,pv,trodAll_append (hargs _ (fun _ _=>rfl)) (hres _ _ _),hvars _ (fun _ _=>rfl),rfl,?_,?_⟩,?_⟩
  ·intro b off hp
   have hin:MemPlace.cell b off∈ before:=by rw[hps];simpa using hp
   rw[hb.frozen (hlt _ hin)]
   exact hz b off hin
  ·intro ha
   have:=hn ha
   rw[hps] at this
   simpa using this
  ·intro p hp _
   rw[hps]
   simpa using hp
theorem qQ (hl:laidOutB P=true){W W':World}(hb:Below W.heap.size W W'){sp:Nat->Bool}: ∀ {ts:List TypeId} {vs:List Value} {ds:List (DataW H)} {ps:List MemPlace},
  (∀ t∈ ts,P.readableRec t=true/\t<P.types.size)->DataW.TrodAll enc P W 0 (fun _=>true) true ts vs ds ps->(∀ x∈ ps,x.block<W.heap.size)->(∀ x∈ ps,sp x.block=true)->DataW.TrodAll enc P W' 0 sp true ts vs ds ps
 | [],[],[],ps,_,h,_,_=>h
 | t::ts,v::vs,d::ds,ps,ht,h,hlt,hsp=>by
   obtain⟨p,q,h1,h2,rfl⟩:=h
   refine⟨p,q,?_,qQ hl hb (fun t h=>ht t (List.mem_cons_of_mem _ h)) h2 (fun x hx=>hlt x (by simp[hx])) (fun x hx=>hsp x (by simp[hx])),rfl⟩
   exact WideElems.Trod_stays hl (ht t (List.mem_cons_self ..)).1 (ht t (List.mem_cons_self ..)).2 h1 (fun x hx=>hb.same (hlt x (by simp[hx]))) (fun x hx=>hsp x (by simp[hx]))
theorem vX {W:World}{b:Nat}{sp:Nat->Bool}{hd:Bool}: ∀ {ts:List TypeId} {vs:List Value} {ds:List (DataW H)} {ps:List MemPlace},DataW.TrodAll enc P W b sp hd ts vs ds ps->ds.length=ts.length/\vs.length=ts.length
 | [],[],[],_,_=>⟨rfl,rfl⟩
 | _::_,_::_,_::_,_,h=>by
   obtain⟨p,q,_,h2,_⟩:=h
   have:=vX h2
   simp[this.1,this.2]
 | [],[],_::_,_,h=>h.elim
 | [],_::_,_,_,h=>h.elim
 | _::_,[],_,_,h=>h.elim
 | _::_,_::_,[],_,h=>h.elim
end
theorem TS {P:Program}{W:World}{base:Nat}{t e:TypeId}{v:Value}{H:Type}{enc:TypeId×Value->H}{d:DataW H}{ps:List MemPlace}(ht:P.underlying t=some (.slice e))
  (hval:Value.okWide P W .any base t v) (hd:DataW.Trod enc P W 0 (fun _=>true) true t v d ps) :
  ∃(z:Bool) (b o n c:Nat),v=(SV.bP 0 (P.cellsOf e) z o 0 n c).val (fun _=>b)/\n<=maxLen/\((z&&Nat.beq n 0)=false->∃ cs ty fr,W.heap[b]?=some (.cells cs ty fr) /\
   ∀ i,i<n->∃(xs:List Value) (y:DataW H×List MemPlace) (m:Nat),xs.length=P.cellsOf e/\(∀ k,k<P.cellsOf e->cs[o+i*P.cellsOf e+k]?=xs[k]?)/\DataW.trod enc P W 0 (fun _=>true) true m e xs=some y):=by
 obtain⟨a0,n,c,rfl⟩:=okWide_slice ht hval
 obtain⟨fuel,hf⟩:=hd
 rcases DataW.trod_slice ht hf with ⟨h0,_⟩ | ⟨a,len,cap,elems,rest,m,_,hcs,_,hb,hlc,hmax,hlen,hel,_,_⟩
 ·simp only[Value.cells] at h0
  have h1:a0=none/\n=0/\c=0:=by simpa using h0
  obtain⟨rfl,rfl,rfl⟩:=h1
  exact⟨true,0,0,0,0,rfl,Nat.zero_le _,fun h=>by cases h⟩
 ·simp only[Value.cells] at hcs
  have h1:a0=some a/\n=len/\c=cap:=by simpa using hcs
  obtain⟨rfl,rfl,rfl⟩:=h1
  have hhas:W.has P .any base a e c:=by
   simp only[Value.okWide,ht,Cell.okWide,Cell.ok] at hval
   exact hval.2.2
  obtain⟨_,hspot,row,cells,hshape,_⟩:=hhas
  obtain⟨kO,off,spot⟩:=a
  simp only at hspot
  subst hspot
  have hcells: ∃ cs ty fr,W.heap[kO]?=some (.cells cs ty fr):=by
   unfold World.shape? at hshape
   split at hshape
   ·rename_i cs ty fr h;exact⟨cs,ty,fr,h⟩
   ·cases hshape
  obtain⟨cs,ty,fr,hblk⟩:=hcells
  refine⟨false,kO,off,n,c,by simp[SV.val],Nat.le_trans hlc hmax,fun _=>⟨cs,ty,fr,hblk,fun i hi=> ?_⟩⟩
  have h2:=hel i hi
  rw[List.getElem?_eq_getElem (by omega)] at h2
  obtain⟨xs,hxs,hy⟩:=Option.bind_eq_some_iff.1 h2
  obtain⟨_,hl2,hget⟩:=World.cells?_some hxs
  refine⟨xs,_,m,hl2,fun k hk=> ?_,hy⟩
  have:=hget k hk
  rw[← this,ck,ck,cell_of hblk]
def BJ (cs:Array Value)(j:Nat):List UInt8:=match cs[j]? with
 | some (.string s)=>s.data.toList
 | _=>[]
theorem lF {P:Program}{W:World}{H:Type}{enc:TypeId×Value->H}{m:Nat}{t:TypeId}{x:Value}{y:DataW H×List MemPlace}(ht:P.underlying t=some .string)(h:DataW.trod enc P W 0 (fun _=>true) true m t [x]=some y)
  {cs:Array Value} {j:Nat} (hc:cs[j]?=some x):cs[j]?=some ((SV.str false (BJ cs j)).val (fun _=>0))/\(BJ cs j).length<=maxLen:=by
 obtain⟨s,hx,_,hw⟩:=DataW.trod_string ht h
 injection hx with hx
 subst hx
 unfold BJ
 rw[hc]
 refine⟨by simp[SV.val],?_⟩
 have he:s.data.toList.length=s.size:=Array.length_toList
 show s.data.toList.length<=maxLen
 rw[he];exact hw
end Go.Proofs.YtoibaecagklkaaaGreatDoor.Sx
namespace Go.Proofs.YtoibaecagklkaaaGreatDoor
open Go Sx
set_option maxRecDepth 20000
theorem bS:Tryz.prog.follows .mixedOrders=true:=by kernel_rfl
theorem OG:(Tryz.prog.funcs.all fun fn=>!(fn.name== "runtime.NumGoroutine"))=true:=by kernel_rfl
theorem bt (f:FuncId)(fn:Func)(h:Tryz.prog.funcs[f]?=some fn):Tryz.prog.funcs[f]?=some fn/\(fn.name== "runtime.NumGoroutine")=false:=by
 refine⟨h,?_⟩
 have:=Array.all_eq_true'.1 OG fn (Array.mem_of_getElem? h)
 simpa using this
noncomputable def cg:ff:={cI:=fun f=>aG f e8,fns:=fun f=>Tryz.prog.funcs[f]?,br:=fun _=>[],rounds:=100}
theorem qX:Sx.Good Tryz.prog cg:=.of bS di bt
end Go.Proofs.YtoibaecagklkaaaGreatDoor
namespace Go.Proofs.YtoibaecagklkaaaGreatDoor.Sx
open Go
def Cu:SV->SV
 | .int k _ n=>.int k false n
 | .bool _ b=>.bool false b
 | .str _ s=>.str false s
 | v=>v
def yM:SV->SV
 | .agg cs=>.agg (cs.map Cu)
 | v=>Cu v
theorem I4 (E:Nat->Nat)(v:SV):(Cu v).val E=v.val E:=by cases v<;>rfl
theorem wG (E:Nat->Nat): ∀ l:List SV,SV.vals E (l.map Cu)=SV.vals E l
 | []=>rfl
 | v::r=>by simp only[List.map_cons,SV.vals,I4,wG E r]
theorem Ce (E:Nat->Nat)(v:SV):(yM v).val E=v.val E:=by
 cases v<;>first | rfl | simp only[yM,SV.val,wG]
theorem nE (E:Nat->Nat): ∀ l:List SV,SV.vals E (l.map yM)=SV.vals E l
 | []=>rfl
 | v::r=>by simp only[List.map_cons,SV.vals,Ce,nE E r]
noncomputable def aU (spec:List SV->Option (Prop×SV)):PT:=fun args m nx K=>match spec (args.map yM)with
 | some (p,r)=>.and (.atom p) (K r m nx)
 | none=>.fail "arguments that nothing is said of"
def af (v r:SV):Prop:=∀ E,v.val E=r.val E
def XD (v r:SV):VC:=.eqv (af v r) (af v v) (fun _=>rfl)
theorem aN (spec:List SV->Option (Prop×SV)):aR (aU spec):=by
 intro args m nx K K' hK h
 unfold aU at h ⊢
 split at h
 ·exact⟨h.1,hK _ _ _ h.2⟩
 ·exact h
theorem fX {P:Program}{cfg:ff}(hg:Good P cfg){f:FuncId}{fn:Func}(hf:P.funcs[f]?=some fn) (hn:(fn.name== "runtime.NumGoroutine")=false) (hb:fn.body.isSome=true) {n:Nat} {spec:List SV->Option (Prop×SV)}
  (h: ∀ args p r,spec args=some (p,r)->p->SV.ep 0 args=true/\r.wf 0=true/\aA (dR P (calling P cfg n) [] vL (cfg.br f) cfg.rounds fn args [] 0 (fun v _ _=>.atom (af v r)))):aB P f (aU spec):=by
 intro args m nx K hk hwf hargs Γ E w hs
 unfold aU at hk
 split at hk
 ·rename_i p r hr
  obtain⟨hp,hk⟩:=hk
  obtain⟨h1,h2,h3⟩:=h _ _ _ hr hp
  have hc:=de hg hf hn hb h3 rfl h1 (aJ.none w hs.Hi)
  rw[SV.qe h1 (fun _=>0) E,nE] at hc
  refine dZ hf hn hb (hc.mono ?_)
  rintro e w' ⟨v,rfl,E',sv,m',nx',_,_,g3,g4,g5⟩
  refine⟨v,rfl,?_⟩
  cases sv with
  | none=>exact g5.elim
  | some u =>
    have hu:af u r:=g5
    refine⟨E,some r,m,nx,fun _ _=>rfl,Nat.le_refl _,fun x hx=> ?_,hs.still g4.ext,hk⟩
    injection hx with hx;subst hx
    rw[g3 u rfl,hu E',SV.sN h2 E' E]
 ·exact hk.elim
end Go.Proofs.YtoibaecagklkaaaGreatDoor.Sx
namespace Go.Proofs.YtoibaecagklkaaaGreatDoor
open Go Sx
set_option maxRecDepth 20000
noncomputable def VP:ff:={cg with rounds:=9}
theorem WU:Sx.Good Tryz.prog VP:=.of bS di bt
def AF:Nat->Int->List UInt8
 | 0,_=>[]
 | k+1,n=>if 0<n then AF k (n / 256)++[UInt8.ofNat (n% 256).toNat] else []
def digits (n:Int):List UInt8:=AF 8 n
noncomputable def dm (cfg:ff)(f:Nat)(fn:Func)(args:List SV)(R:SV->Prop):VC:=dR Tryz.prog (calling Tryz.prog cfg 20) [] vL (cfg.br f) cfg.rounds fn args [] 0 (fun v _ _=>.atom (R v))
theorem PX (n:Int)(R:SV->Prop):VC.holds (dm VP 117 Tryz.f117 [.int .u64 false n] R)=(((decide (0<n)=true->∀(u8:Nat),1<=u8->(decide (0<n / 256)=true->u8*1=u8*1/\∀(u7:Nat),2<=u7->(decide (0<n / 256 / (256:Int))=true->u7*1=u7*1/\∀(u6:Nat),3<=u6->(decide (0<n / 256 / (256:Int) / (256:Int))=true->u6*1=u6*1/\∀(u5:Nat),4<=u5->(decide (0<n / 256 / (256:Int) / (256:Int) / (256:Int))=true->u5*1=u5*1/\∀(u4:Nat),5<=u4->(decide (0<n / 256 / (256:Int) / (256:Int) / (256:Int) / (256:Int))=true->u4*1=u4*1/\∀(u3:Nat),6<=u3->(decide (0<n / 256 / (256:Int) / (256:Int) / (256:Int) / (256:Int) / (256:Int))=true->u3*1=u3*1/\∀(u2:Nat),7<=u2->(decide (0<n / 256 / (256:Int) / (256:Int) / (256:Int) / (256:Int) / (256:Int) / (256:Int))=true->u2*1=u2*1/\∀(u1:Nat),8<=u1->(decide (0<n / 256 / (256:Int) / (256:Int) / (256:Int) / (256:Int) / (256:Int) / (256:Int) / (256:Int))=true->u1*1=u1*1/\∀(u0:Nat),9<=u0->False)/\(decide (0<n / 256 / (256:Int) / (256:Int) / (256:Int) / (256:Int) / (256:Int) / (256:Int) / (256:Int))=false ->R (SV.str (false&&(false&&(false&&(false&&(false&&(false&&(false&&(false&&true)))))))) [UInt8.ofNat (n / 256 / (256:Int) / (256:Int) / (256:Int) / (256:Int) / (256:Int) / (256:Int)% (256:Int)).toNat,UInt8.ofNat (n / 256 / (256:Int) / (256:Int) / (256:Int) / (256:Int) / (256:Int)% (256:Int)).toNat,UInt8.ofNat (n / 256 / (256:Int) / (256:Int) / (256:Int) / (256:Int)% (256:Int)).toNat,UInt8.ofNat (n / 256 / (256:Int) / (256:Int) / (256:Int)% (256:Int)).toNat,UInt8.ofNat (n / 256 / (256:Int) / (256:Int)% (256:Int)).toNat,UInt8.ofNat (n / 256 / (256:Int)% (256:Int)).toNat,UInt8.ofNat (n / 256% (256:Int)).toNat,UInt8.ofNat (n% 256).toNat])))/\(decide (0<n / 256 / (256:Int) / (256:Int) / (256:Int) / (256:Int) / (256:Int) / (256:Int))=false ->R (SV.str (false&&(false&&(false&&(false&&(false&&(false&&(false&&true))))))) [UInt8.ofNat (n / 256 / (256:Int) / (256:Int) / (256:Int) / (256:Int) / (256:Int)% (256:Int)).toNat,UInt8.ofNat (n / 256 / (256:Int) / (256:Int) / (256:Int) / (256:Int)% (256:Int)).toNat,UInt8.ofNat (n / 256 / (256:Int) / (256:Int) / (256:Int)% (256:Int)).toNat,UInt8.ofNat (n / 256 / (256:Int) / (256:Int)% (256:Int)).toNat,UInt8.ofNat (n / 256 / (256:Int)% (256:Int)).toNat,UInt8.ofNat (n / 256% (256:Int)).toNat,UInt8.ofNat (n% 256).toNat])))/\(decide (0<n / 256 / (256:Int) / (256:Int) / (256:Int) / (256:Int) / (256:Int))=false->R (SV.str (false&&(false&&(false&&(false&&(false&&(false&&true)))))) [UInt8.ofNat (n / 256 / (256:Int) / (256:Int) / (256:Int) / (256:Int)% (256:Int)).toNat,UInt8.ofNat (n / 256 / (256:Int) / (256:Int) / (256:Int)% (256:Int)).toNat,UInt8.ofNat (n / 256 / (256:Int) / (256:Int)% (256:Int)).toNat,UInt8.ofNat (n / 256 / (256:Int)% (256:Int)).toNat,UInt8.ofNat (n / 256% (256:Int)).toNat,UInt8.ofNat (n% 256).toNat]))) /\(decide (0<n / 256 / (256:Int) / (256:Int) / (256:Int) / (256:Int))=false->R (SV.str (false&&(false&&(false&&(false&&(false&&true))))) [UInt8.ofNat (n / 256 / (256:Int) / (256:Int) / (256:Int)% (256:Int)).toNat,UInt8.ofNat (n / 256 / (256:Int) / (256:Int)% (256:Int)).toNat,UInt8.ofNat (n / 256 / (256:Int)% (256:Int)).toNat,UInt8.ofNat (n / 256% (256:Int)).toNat,UInt8.ofNat (n% 256).toNat])))/\(decide (0<n / 256 / (256:Int) / (256:Int) / (256:Int))=false->R (SV.str (false&&(false&&(false&&(false&&true)))) [UInt8.ofNat (n / 256 / (256:Int) / (256:Int)% (256:Int)).toNat,UInt8.ofNat (n / 256 / (256:Int)% (256:Int)).toNat,UInt8.ofNat (n / 256% (256:Int)).toNat,UInt8.ofNat (n% 256).toNat])))/\(decide (0<n / 256 / (256:Int) / (256:Int))=false->R (SV.str (false&&(false&&(false&&true))) [UInt8.ofNat (n / 256 / (256:Int)% (256:Int)).toNat,UInt8.ofNat (n / 256% (256:Int)).toNat,UInt8.ofNat (n% 256).toNat])))/\(decide (0<n / 256 / (256:Int))=false->R (SV.str (false&&(false&&true)) [UInt8.ofNat (n / 256% (256:Int)).toNat,UInt8.ofNat (n% 256).toNat]))) /\(decide (0<n / 256)=false->R (SV.str (false&&true) [UInt8.ofNat (n% 256).toNat])))/\(decide (0<n)=false->R (SV.str true [])))):=by kernel_rfl
theorem fO {l:Bool}{a b:List UInt8}(h:a=b):af (.str l a) (.str false b):=fun E=>by subst h;rfl
theorem Qa {k:Nat}{n:Int}(h:decide (0<n)=false):AF k n=[]:=by
 have: ¬ (0<n):=by simpa using h
 cases k with
 | zero=>rfl
 | succ k=>simp[AF,this]
theorem On {k:Nat}{n:Int}(h:decide (0<n)=true):AF (k+1) n=AF k (n / 256)++[UInt8.ofNat (n% 256).toNat]:=by
 have:0<n:=by simpa using h
 simp[AF,this]
theorem CS {n:Int}(h0:0<=n)(h1:n<18446744073709551616):aA (dm VP 117 Tryz.f117 [.int .u64 false n] (fun v=>af v (.str false (digits n)))):=by
 refine aA.of_eq (PX n _) ?_
 unfold digits
 repeat' first
  | apply And.intro
  | intro (_:_=_)
  | intro (c:Nat)
  | intro (_:_<=_)
 all_goals first
  | rfl
  | (apply fO;simp only[On,Qa, *,List.nil_append,List.cons_append])
  | (exfalso;simp only[decide_eq_true_eq] at *;omega)
noncomputable def ym:List SV->Option (Prop×SV)
 | [.int .u64 false n]=>some (0<=n/\n<18446744073709551616,.str false (digits n))
 | _=>none
noncomputable def FU:PT:=aU ym
theorem L0:aB Tryz.prog 117 FU:=by
 refine fX WU (n:=20) (fn:=Tryz.f117) Tryz.func117 (by kernel_rfl) (by kernel_rfl) ?_
 intro args p r h hp
 unfold ym at h
 split at h
 ·rename_i n
  injection h with h;injection h with h1 h2;subst h1;subst h2
  exact⟨rfl,rfl,CS hp.1 hp.2⟩
 ·cases h
noncomputable def O1:List (FuncId×PT):=(117,FU)::e8
theorem FI:bl Tryz.prog (fun f=>aG f O1):=.cons L0 (aN _) di
noncomputable def Xu:ff:={cg with cI:=fun f=>aG f O1}
end Go.Proofs.YtoibaecagklkaaaGreatDoor
namespace Go.Proofs.YtoibaecagklkaaaGreatDoor.Sx
open Go
inductive c6:Type 1 where
 | ret (v:SV)
 | new (v:Nat->SV) (B:SB)
 | all (α:Type) (f:α->c6)
 | req (p:Prop) (a:c6)
 | fork (b:Bool) (f:Bool->c6)
def c6.vc (m:Mem)(nx:Nat)(K:SV->Mem->Nat->VC):c6->VC
 | .ret v=>K v m nx
 | .new v B=>K (v nx) ((nx,B)::m) (nx+1)
 | .all α f=>.all α fun x=>(f x).vc m nx K
 | .req p a=>.imp p (a.vc m nx K)
 | .fork b f=>Sx.fork b fun b=>(f b).vc m nx K
def c6.Ok:c6->Prop
 | .ret v=>v.wf 0=true
 | .new v B=>B.wf 0=true/\B.ro=false/\(∀ k,(v k).wf (k+1)=true)/\∀(E E':Nat->Nat) k k',(B.no=false->E k=E' k')->(v k).val E=(v k').val E'
 | .all _α f=>∀ x,(f x).Ok
 | .req _ a=>a.Ok
 | .fork _ f=>∀ b,(f b).Ok
mutual
def SV.key:SV->Option Nat
 | .ptr k _ _=>some k
 | .slc k _ _ _ _=>some k
 | .bw k _ _ _ _ _=>some k
 | .aL vs=>SV.keys vs
 | .agg vs=>SV.keys vs
 | .iface _ v=>v.key
 | _=>none
def SV.keys:List SV->Option Nat
 | []=>none
 | v::r=>match v.key with
   | some k=>some k
   | none=>SV.keys r
end
def c6.fit (v:SV)(m:Mem):c6->VC
 | .ret r=>.atom (af v r)
 | .new r B=>(match v.key with
   | some k=>(match m.get k with
     | some X=>.and (WY X B) (XD v (r k))
     | none=>.fail "no block")
   | none=>.fail "no key")
 | .all α f=>.ex α fun x=>(f x).fit v m
 | .req p a=>.and (.atom p) (a.fit v m)
 | .fork b f=>Sx.fork b fun b=>(f b).fit v m
noncomputable def cE (spec:List SV->Option (Prop×c6)):PT:=fun args m nx K=>match spec (args.map yM)with
 | some (p,a)=>.and (.atom p) (a.vc m nx K)
 | none=>.fail "arguments that nothing is said of"
theorem c6.tu {m:Mem}{nx:Nat}{K K':SV->Mem->Nat->VC}(hK: ∀ v m nx,(K v m nx).holds->(K' v m nx).holds): ∀ {a:c6},(a.vc m nx K).holds->(a.vc m nx K').holds
 | .ret _,h=>hK _ _ _ h
 | .new _ _,h=>hK _ _ _ h
 | .all _ _,h=>fun x=>c6.tu hK (h x)
 | .req _ _,h=>fun x=>c6.tu hK (h x)
 | .fork _ _,h=>dJ.2 (c6.tu hK (dJ.1 h))
theorem cj (spec:List SV->Option (Prop×c6)):aR (cE spec):=by
 intro args m nx K K' hK h
 unfold cE at h ⊢
 split at h
 ·exact⟨h.1,c6.tu hK h.2⟩
 ·exact h
theorem bn.le {E:Nat->Nat}{X B:SB}{o:Obj}(h:ah X B)(hn:B.no=false)(hb:bn E X o):bn E B o:=(h.old hn).2.1 E o hb
theorem aJ.new {Γ E m nx w}(h:aJ Γ E m nx w)(hw:Mem.wf nx m=true){E1:Nat->Nat}{m1:Mem}{nx1:Nat}{w':World}
  {gl gm} (h1:aJ (aY.at w (fun _=>False) gl gm) E1 m1 nx1 w') {j:Nat} {X B:SB} (hX:m1.get j=some X) (hle:ah X B) (hw2:B.wf 0=true) (hr2:B.ro=false) :
  ∃ E',(∀ i,i<nx->E' i=E i)/\(B.no=false->E' nx=E1 j)/\aJ Γ E' ((nx,B)::m) (nx+1) w':=by
 have hf:=h.still h1.ext
 have hge: ∀ a,B.eO (E1 j) a->w.heap.size<=a:=fun a ha=>by
  obtain⟨g1,_,g3⟩:=hle.2 _ a ha
  exact(h1.gW j X a hX g1 (g3 hr2)).elim False.elim id
 refine⟨fun i=>if i=nx then E1 j else E i,fun i hi=>by simp[Nat.ne_of_lt hi],fun _=>by simp,?_⟩
 refine hf.Qw hw (fun _ _ h=>h) (fun a ha=>⟨?_,fun _=>.inr (Nat.le_trans h.ext.size (hge a ha)),fun i X hi hX=> ?_⟩) (fun _ _ _ _ _=>rfl) hf.ext (fun _ _=>rfl)
 ·obtain⟨g1,g2,_⟩:=hle.2 _ a ha
  obtain⟨o,ho,hb⟩:=h1.gi j X a hX g1
  exact⟨o,ho,(g2 E1 o hb).pure (SB.FC hw2 a)⟩
 ·have:=hge a ha
  have:=h.Rz hi hX
  omega
theorem c6.told {Γ E m nx w}(h:aJ Γ E m nx w)(hw:Mem.wf nx m=true){E1:Nat->Nat}{m1:Mem}{nx1:Nat}{w':World}
  {gl gm} (h1:aJ (aY.at w (fun _=>False) gl gm) E1 m1 nx1 w') {v:SV} {K:SV->Mem->Nat->VC}: ∀ {a:c6},a.Ok->(a.fit v m1).holds->(a.vc m nx K).holds->bg (lift K) Γ E nx (v.val E1) w'
 | .ret r,hO,hf,hK=>⟨E,some r,m,nx,fun _ _=>rfl,Nat.le_refl _,fun x hx=>by
    injection hx with hx;subst hx
    have hf:af v r:=hf
    rw[hf E1];exact SV.sN hO E1 E,h.still h1.ext,hK⟩
 | .new r B,hO,hf,hK=>by
   obtain⟨o1,o2,o3,o4⟩:=hO
   simp only[c6.fit] at hf
   split at hf
   ·rename_i k hk
    split at hf
    ·rename_i X hX
     obtain⟨f1,f2⟩:=hf
     have f1:ah X B:=f1
     have f2:af v (r k):=f2
     obtain⟨E',e1,e2,e3⟩:=aJ.new h hw h1 hX f1 o1 o2
     refine⟨E',some (r nx),_,nx+1,e1,Nat.le_succ _,fun x hx=> ?_,e3,hK⟩
     injection hx with hx;subst hx
     rw[f2 E1]
     exact o4 E1 E' k nx fun hb=>(e2 hb).symm
    ·exact hf.elim
   ·exact hf.elim
 | .all _ f,hO,⟨x,hx⟩,hK=>c6.told h hw h1 (hO x) hx (hK x)
 | .req _ a,hO,hf,hK=>c6.told (a:=a) h hw h1 hO hf.2 (hK hf.1)
 | .fork _ _,hO,hf,hK=>c6.told h hw h1 (hO _) (dJ.1 hf) (dJ.1 hK)
theorem dA {P:Program}{f:FuncId}{fn:Func}(hf:P.funcs[f]?=some fn) (hn:(fn.name== "runtime.NumGoroutine")=false) (hb:fn.body.isSome=true) {n:Nat} {spec:List SV->Option (Prop×c6)}
  (h: ∀ args p a,spec args=some (p,a)->p->∃ cfg,Good P cfg/\SV.ep 0 args=true/\a.Ok/\aA (dR P (calling P cfg n) [] vL (cfg.br f) cfg.rounds fn args [] 0 (fun v m _=>a.fit v m))):aB P f (cE spec):=by
 intro args m nx K hk hwf hargs Γ E w hs
 unfold cE at hk
 split at hk
 ·rename_i p a hr
  obtain⟨hp,hk⟩:=hk
  obtain⟨cfg,hg,h1,h2,h3⟩:=h _ _ _ hr hp
  have hc:=de hg hf hn hb h3 rfl h1 (aJ.none w hs.Hi)
  rw[SV.qe h1 (fun _=>0) E,nE] at hc
  refine dZ hf hn hb (hc.mono ?_)
  rintro e w' ⟨v,rfl,E',sv,m',nx',_,_,g3,g4,g5⟩
  refine⟨v,rfl,?_⟩
  cases sv with
  | none=>exact g5.elim
  | some u=>rw[g3 u rfl];exact c6.told hs hwf g4 h2 g5 hk
 ·exact hk.elim
theorem SV.dK {nx:Nat}: ∀ {a b:List SV},SV.ep nx a=true->SV.ep nx b=true->SV.ep nx (a++b)=true
 | [],_,_,h=>h
 | x::a,b,h,h'=>by
   simp only[SV.ep,Bool.and_eq_true] at h
   simp only[List.cons_append,SV.ep,Bool.and_eq_true]
   exact⟨h.1,SV.dK h.2 h'⟩
end Go.Proofs.YtoibaecagklkaaaGreatDoor.Sx
namespace Go.Proofs.YtoibaecagklkaaaGreatDoor
open Go Sx
set_option maxRecDepth 20000
def num (l:List UInt8):Int:=l.foldl (fun a b=>a*256+(b.toNat:Int)) 0
def part (s:List UInt8)(i:Int):Int:=num ((s.drop 1).take (i - 1).toNat)
def iM (s:List UInt8)(to:Int):Bool:=decide (to<=s.length)&& !decide (ai s 1=0)&&decide (part s to<=1048576)&&decide (55<part s to)
noncomputable def Vf (s:List UInt8)(to:Int):bC :=
 {α:=Int,pre:=fun _ i=>1<=i/\i<=to/\part s i<=1048576,nY:=fun _ i=>(to - i).toNat,fresh:=0,slots:=fun _ i=>[(6,.int .i64 false (part s i)),(7,.int .i64 false i)],mem:=fun _ _=>[]}
noncomputable def VA (s:List UInt8)(to:Int):ff:={Xu with br:=fun f=>if f=216 then [(7,always (Vf s to))] else []}
noncomputable def fW (cfg:ff)(f:Nat)(fn:Func)(args:List SV)(a:c6):VC:=dR Tryz.prog (calling Tryz.prog cfg 20) [] vL (cfg.br f) cfg.rounds fn args [] 0 (fun v m _=>a.fit v m)
def Io (z:List SV):c6:=.all Int fun at'=>.new (fun k=>.aL (z++[.iface 290 (.ptr k true 0)])) (.cells [.int .i64 false at',.iface 30 (.int .i64 true 2)] 2 292)
def CE (s:List UInt8)(to:Int):c6:=.fork (iM s to) fun b=>match b with
 | true=>.ret (.aL [.int .i64 false (part s to),.aI])
 | false=>Io [.int .i64 true 0]
theorem Nv (s:List UInt8)(to:Int):VC.holds (fW (VA s to) 216 Tryz.f216 [.str false s,.int .i64 false to] (CE s to))=(((decide ((s.length:Int)<to)=true->(iM s to=true->af (SV.aL [SV.int .i64 true 0,SV.iface 290 (SV.ptr 0 true 0)]) (SV.aL [SV.int .i64 false (part s to),SV.aI]))/\(iM s to=false->∃(u7:Int),ah (SB.cells [SV.int .i64 false (s.length:Int),SV.iface 30 (SV.int .i64 true 2)] 2 292) (SB.cells [SV.int .i64 false u7,SV.iface 30 (SV.int .i64 true 2)] 2 292)/\af (SV.aL [SV.int .i64 true 0,SV.iface 290 (SV.ptr 0 true 0)]) (SV.aL ([SV.int .i64 true 0]++[SV.iface 290 (SV.ptr 0 true 0)]))))/\(decide ((s.length:Int)<to)=false->((0:Int)<=(1:Int)/\1<(s.length:Int))/\(decide (ai s 1=0)=true->(iM s to=true->af (SV.aL [SV.int .i64 true 0,SV.iface 290 (SV.ptr 0 true 0)]) (SV.aL [SV.int .i64 false (part s to),SV.aI]))/\(iM s to=false->∃(u6:Int),ah (SB.cells [SV.int .i64 true 1,SV.iface 30 (SV.int .i64 true 2)] 2 292) (SB.cells [SV.int .i64 false u6,SV.iface 30 (SV.int .i64 true 2)] 2 292)/\af (SV.aL [SV.int .i64 true 0,SV.iface 290 (SV.ptr 0 true 0)]) (SV.aL ([SV.int .i64 true 0]++[SV.iface 290 (SV.ptr 0 true 0)]))))/\(decide (ai s 1=0)=false->(∃(u5:Int),(1<=u5 /\u5<=to/\part s u5<=1048576)/\0=part s u5/\1=u5/\True)/\∀(u4:Int),1<=u4/\u4<=to/\part s u4<=1048576->(decide (u4<to)=true->((-9223372036854775808:Int)<=part s u4*256/\part s u4*256<=(9223372036854775807:Int))/\(0<=u4/\u4<(s.length:Int))/\((-9223372036854775808:Int)<=ai s u4/\ai s u4<=9223372036854775807)/\(0<=part s u4*256/\part s u4*256<=(9223372036854775807:Int)/\0<=ai s u4/\ai s u4<=9223372036854775807)/\(decide (1048576<bitsOf BinOp.or (part s u4*256) (ai s u4))=true->(iM s to=true->af (SV.aL [SV.int .i64 true 0,SV.iface 290 (SV.ptr ((0:Nat)+(0:Nat)) true 0)]) (SV.aL [SV.int .i64 false (part s to),SV.aI]))/\(iM s to=false->∃(u3:Int),ah (SB.cells [SV.int .i64 false u4,SV.iface 30 (SV.int .i64 true 2)] 2 292) (SB.cells [SV.int .i64 false u3,SV.iface 30 (SV.int .i64 true 2)] 2 292)/\af (SV.aL [SV.int .i64 true 0,SV.iface 290 (SV.ptr ((0:Nat)+(0:Nat)) true 0)]) (SV.aL ([SV.int .i64 true 0]++[SV.iface 290 (SV.ptr ((0:Nat)+(0:Nat)) true 0)]))))/\(decide (1048576<bitsOf BinOp.or (part s u4*256) (ai s u4))=false ->((-9223372036854775808:Int)<=u4+1/\u4+1<=(9223372036854775807:Int))/\∃(u2:Int),((1<=u2/\u2<=to/\part s u2<=1048576)/\(to - u2).toNat<(to - u4).toNat)/\bitsOf BinOp.or (part s u4*256) (ai s u4)=part s u2/\u4+1=u2/\True))/\(decide (u4<to)=false->(decide (part s u4<=55)=true->(iM s to=true->af (SV.aL [SV.int .i64 true 0,SV.iface 290 (SV.ptr ((0:Nat)+(0:Nat)) true 0)]) (SV.aL [SV.int .i64 false (part s to),SV.aI]))/\(iM s to=false->∃(u1:Int),ah (SB.cells [SV.int .i64 true 1,SV.iface 30 (SV.int .i64 true 2)] 2 292) (SB.cells [SV.int .i64 false u1,SV.iface 30 (SV.int .i64 true 2)] 2 292)/\af (SV.aL [SV.int .i64 true 0,SV.iface 290 (SV.ptr ((0:Nat)+(0:Nat)) true 0)]) (SV.aL ([SV.int .i64 true 0]++[SV.iface 290 (SV.ptr ((0:Nat)+(0:Nat)) true 0)]))))/\(decide (part s u4<=55)=false->(iM s to=true->af (SV.aL [SV.int .i64 false (part s u4),SV.aI]) (SV.aL [SV.int .i64 false (part s to),SV.aI]))/\(iM s to=false->∃(_:Int),False))))))):=by kernel_rfl
theorem dG (s:List UInt8)(i:Int):0<=ai s i/\ai s i<256:=by
 unfold ai;have:=(s.getD i.toNat 0).toNat_lt;omega
theorem mj (l:List UInt8)(b:UInt8):num (l++[b])=num l*256+(b.toNat:Int):=by simp[num]
theorem FR (s:List UInt8):part s 1=0:=by simp[part,num]
theorem BN {s:List UInt8}{x:Int}(h:1<=x)(h2:x<s.length):part s (x+1)=part s x*256+ai s x:=by
 unfold part
 have e:(x+1 - 1).toNat=(x - 1).toNat+1:=by omega
 have hx:(x - 1).toNat<(s.drop 1).length:=by simp;omega
 rw[e,List.take_add_one,List.getElem?_eq_getElem hx]
 simp only[Option.toList,mj]
 have e2:ai s x=((s.drop 1)[(x - 1).toNat].toNat:Int):=by
  have:1+(x - 1).toNat=x.toNat:=by omega
  unfold ai
  rw[List.getElem_drop,List.getD_eq_getElem?_getD,List.getElem?_eq_getElem (by omega)]
  simp only[Option.getD_some,this]
 rw[e2]
theorem pV (s:List UInt8)(x:Int):0<=part s x:=by
 unfold part num
 suffices ∀(l:List UInt8) (a:Int),0<=a->0<=l.foldl (fun a b=>a*256+(b.toNat:Int)) a from this _ _ (Int.le_refl _)
 intro l
 induction l with
 | nil=>exact fun _ h=>h
 | cons b r ih=>intro a h;exact ih _ (show 0<=a*256+(b.toNat:Int)by omega)
theorem BM {s:List UInt8}{x:Int}(h:1<=x): ∀(n:Nat),x+n<=s.length->part s x<=part s (x+n)
 | 0,_=>by simp
 | n+1,hn=>by
   have h1:=BM (s:=s) h n (by omega)
   have h2:=BN (s:=s) (x:=x+n) (by omega) (by omega)
   have h3:=dG s (x+n)
   have h4:=pV s (x+n)
   have:x+((n+1:Nat):Int)=x+n+1:=by omega
   rw[this,h2];omega
theorem Tx {s:List UInt8}{x y:Int}(h:1<=x)(hy:y<=s.length)(hxy:x<=y):part s x<=part s y:=by
 have:=BM (s:=s) h (y - x).toNat (by omega)
 rwa [show x+((y - x).toNat:Int)=y by omega] at this
theorem Ob {a b:Int}(ha:0<=a)(hb:0<=b)(hb2:b<256):bitsOf .or (a*256) b=a*256+b:=by
 obtain⟨a,rfl⟩:=Int.eq_ofNat_of_zero_le ha
 obtain⟨b,rfl⟩:=Int.eq_ofNat_of_zero_le hb
 have:((a:Int)*256)=((a*256:Nat):Int):=by omega
 rw[this]
 show((((a*256:Nat):Int).toNat ||| (b:Int).toNat:Nat):Int)=_
 simp only[Int.toNat_natCast]
 have:=Nat.two_pow_add_eq_or_of_lt (i:=8) (b:=b) (by omega) a
 rw[show(2:Nat)^8=256 from rfl,Nat.mul_comm] at this
 omega
theorem gj {s:List UInt8}{to:Int}:iM s to=true↔to<=s.length/\ai s 1≠0/\part s to<=1048576/\55<part s to:=by
 simp[iM,and_assoc]
theorem D8 {s:List UInt8}{to:Int}(h2:2<=to)(h3:to<100):aA (fW (VA s to) 216 Tryz.f216 [.str false s,.int .i64 false to] (CE s to)):=by
 refine aA.of_eq (Nv s to) ?_
 have F: ∀ {p:Prop},¬ (to<=s.length/\ai s 1≠0/\part s to<=1048576/\55<part s to)->iM s to=true->p:=fun h e=>absurd (gj.1 e) h
 refine⟨fun a=>⟨F (by simp at a;omega),fun _=>by(first | exact⟨_,ah.cells (fun _=>rfl) rfl,fun _=>rfl⟩ | exact fun _=>rfl | trivial)⟩,fun a=> ?_⟩
 simp only[decide_eq_false_iff_not,Int.not_lt] at a
 refine⟨by omega,fun b=>⟨F (by simp at b;simp[b]),fun _=>by(first | exact⟨_,ah.cells (fun _=>rfl) rfl,fun _=>rfl⟩ | exact fun _=>rfl | trivial)⟩,fun b=> ?_⟩
 simp only[decide_eq_false_iff_not] at b
 refine⟨⟨1,⟨by omega,by omega,by rw[FR];decide⟩,(FR s).symm,rfl,trivial⟩,fun x ⟨hx1,hx2,hx3⟩=> ?_⟩
 have g1:=pV s x
 have g2:=dG s x
 rw[Ob g1 g2.1 g2.2]
 refine⟨fun c=> ?_,fun c=> ?_⟩
 ·simp only[decide_eq_true_eq] at c
  have g3:=BN (s:=s) hx1 (by omega)
  rw[← g3]
  refine⟨by omega,by omega,by omega,by omega,fun d=>⟨F ?_,fun _=>by(first | exact⟨_,ah.cells (fun _=>rfl) rfl,fun _=>rfl⟩ | exact fun _=>rfl | trivial)⟩,fun d=>⟨by omega,x+1,⟨⟨by omega,by omega,by simpa using d⟩,by omega⟩,rfl,rfl,trivial⟩⟩
  simp only[decide_eq_true_eq] at d
  have:=Tx (s:=s) (x:=x+1) (by omega) a (by omega)
  omega
 ·simp only[decide_eq_false_iff_not] at c
  obtain rfl:x=to:=by omega
  refine⟨fun d=>⟨F (by simp at d;omega),fun _=>by(first | exact⟨_,ah.cells (fun _=>rfl) rfl,fun _=>rfl⟩ | exact fun _=>rfl | trivial)⟩,fun d=>⟨fun _=>by(first | exact⟨_,ah.cells (fun _=>rfl) rfl,fun _=>rfl⟩ | exact fun _=>rfl | trivial),fun e=> ?_⟩⟩
  simp only[decide_eq_false_iff_not] at d
  rw[gj.2 ⟨a,b,hx3,by omega⟩] at e
  cases e
def zz:List SV->Option (Prop×c6)
 | [.str false s,.int .i64 false to]=>some (2<=to/\to<100,CE s to)
 | _=>none
noncomputable def F7:PT:=cE zz
theorem W2 (s:List UInt8)(to:Int):Sx.Good Tryz.prog (VA s to):=.of bS FI bt
theorem Cm {z:List SV}(hz:SV.ep 0 z=true):(Io z).Ok:=by
 intro x
 refine⟨rfl,rfl,fun k=>SV.dK (SV.gq (Nat.zero_le _) z hz) ?_,fun E E' k k' h=> ?_⟩
 ·simp[SV.ep,SV.wf,Nat.blt_eq]
 ·have hk:E k=E' k':=h rfl
  have hv:=SV.qe hz E E'
  simp only[SV.bp] at hv
  simp[SV.val,SV.bp,hk,hv]
theorem Mo:aB Tryz.prog 216 F7:=by
 refine dA (n:=20) (fn:=Tryz.f216) Tryz.func216 (by kernel_rfl) (by kernel_rfl) ?_
 intro args p a h hp
 unfold zz at h
 split at h
 ·rename_i s to
  injection h with h;injection h with h1 h2;subst h1;subst h2
  refine⟨_,W2 s to,rfl,fun b=> ?_,D8 hp.1 hp.2⟩
  cases b
  ·exact Cm rfl
  ·exact rfl
 ·cases h
noncomputable def M3:List (FuncId×PT):=(216,F7)::O1
theorem Fe:bl Tryz.prog (fun f=>aG f M3):=.cons Mo (cj _) FI
noncomputable def PC:ff:={cg with cI:=fun f=>aG f M3}
theorem T4:Sx.Good Tryz.prog PC:=.of bS Fe bt
def lead (s:List UInt8):Int:=if ai s 0<192 then ai s 0 - 128 else ai s 0 - 192
def cutFrom (s:List UInt8):Int:=if ai s 0<128 then 0 else if 55<lead s then lead s - 54 else 1
def Hx (s:List UInt8):Int:=if ai s 0<128 then 1 else if 55<lead s then part s (lead s - 54)else lead s
def bE (s:List UInt8):Bool:=decide (s≠[])&&(decide (ai s 0<128)||((!decide (55<lead s)||iM s (lead s - 54))&&decide (Hx s<=s.length - cutFrom s)&& !(decide (ai s 0<192)&&decide (lead s=1)&&decide (ai s 1<128))))
def cQ (s:List UInt8):Bool:=decide (192<=ai s 0)
def aa (s:List UInt8):List UInt8:=(s.drop (cutFrom s).toNat).take (Hx s).toNat
def aE (s:List UInt8):List UInt8:=s.drop (cutFrom s+Hx s).toNat
def Uj (s:List UInt8):c6:=.fork (bE s) fun b=>match b with
 | true=>.ret (.aL [.bool false (cQ s),.str false (aa s),.str false (aE s),.aI])
 | false=>Io [.bool true false,.str true [],.str true []]
end Go.Proofs.YtoibaecagklkaaaGreatDoor
