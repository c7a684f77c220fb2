/-
  Calls of the library that have no body: internal/reflectlite, as errors.Is and errors.As need it; by tables of types.
-/
import Derived.Test.YtoalfimkkibpdaaGreatDoorMa
import Derived.Test.YtoalfimkkibpdaaGreatDoorMj
import Derived.Laws.Externs
import Derived.ProofKit
import Derived.Below
import Derived.ChangeSame
namespace Go.Proofs.YtoalfimkkibpdaaGreatDoor
open Go Sx
theorem extern_ok {P:Program} {f:FuncId} {fn:Func} {e:Array Value→Sem Value} (hf:P.funcs[f]?=some fn)(h1:(fn.name== "runtime.NumGoroutine")=false)(h2:fn.body.isNone=true)
  (h3:Extern.findNext fn=none) (h4:Extern.find fn=some e) {args:Array Value} {v:Value} {w w':World} (h:(e args).run P w=.ok v w'):(callFunc f args).run P w=.ok (.value v) w':=by
 rw[run_callFunc_extern hf h1 h2 h3 h4,h];rfl
abbrev rtypeT:TypeId:=201
noncomputable abbrev hdV (t:Nat):Value:=.pointer (some ⟨hB,t,none⟩)
noncomputable abbrev hd (t:Nat):SV:=.raw (hdV t)
noncomputable abbrev tyV (t:Nat):SV:=.iface rtypeT (.agg [hd t])
def look2 {β:Type} (a:Nat):List (Nat×β)→Option β
 | []=>none
 | e::r=>if e.1=a then some e.2 else look2 a r
theorem look2_mem {β:Type} {a:Nat} {b:β}: ∀ {l:List (Nat×β)},look2 a l=some b→(a,b)∈ l
 | [],h=>by cases h
 | e::r,h=>by
   unfold look2 at h
   split at h
   ·rename_i he;injection h with h;subst h;subst he;simp
   ·exact List.mem_cons_of_mem _ (look2_mem h)
def look3 {β:Type} (a b:Nat):List (Nat×Nat×β)→Option β
 | []=>none
 | e::r=>if e.1=a∧e.2.1=b then some e.2.2 else look3 a b r
theorem look3_mem {β:Type} {a b:Nat} {c:β}: ∀ {l:List (Nat×Nat×β)},look3 a b l=some c→(a,b,c)∈ l
 | [],h=>by cases h
 | e::r,h=>by
   unfold look3 at h
   split at h
   ·rename_i he;injection h with h;subst h;obtain⟨rfl,rfl⟩:=he;simp
   ·exact List.mem_cons_of_mem _ (look3_mem h)
noncomputable def ofHd:SV→Option Nat
 | .raw (.pointer (some ⟨b,t,none⟩))=>if b=hB then some t else none
 | _=>none
theorem ofHd_eq {v:SV} {t:Nat} (h:ofHd v=some t):v=hd t:=by
 unfold ofHd at h
 split at h
 ·rename_i b t'
  split at h
  ·rename_i e;injection h with h;subst h;subst e;rfl
  ·cases h
 ·cases h
noncomputable def typeOfPT:PT:=fun args m nx K=>match args with
 | [.iface t _]=>K (tyV t) m nx
 | _=>.fail "TypeOf"
noncomputable def comparablePT:PT:=fun args m nx K=>match args with
 | [.agg [h]]=>(match ofHd h with
   | some t=>(match look2 t compTab with
     | some b=>K (.bool true b) m nx
     | none=>.fail "Comparable")
   | none=>.fail "Comparable")
 | _=>.fail "Comparable"
noncomputable def valueOfPT:PT:=fun args m nx K=>match args with
 | [.iface t v]=>(match look2 t kindTab,v.plain with
   | some k,true=>K (.agg [hd t,.ptr nx true 0,.int .u64 true (Int.ofNat (k+128))]) ((nx,.cells v.cells v.cells.length t)::m) (nx+1)
   | _,_=>.fail "ValueOf")
 | _=>.fail "ValueOf"
noncomputable def typePT:PT:=fun args m nx K=>match args with
 | [.agg [h,.ptr _ true 0,.int .u64 _ n]]=>(match ofHd h with
   | some t=>(match look2 t kindTab with
     | some k=>if n=Int.ofNat (k+128)then K (tyV t) m nx else .fail "Value.Type"
     | none=>.fail "Value.Type")
   | none=>.fail "Value.Type")
 | _=>.fail "Value.Type"
noncomputable def kindPT:PT:=fun args m nx K=>match args with
 | [h]=>(match ofHd h with
   | some t=>(match look2 t kindTab with
     | some k=>K (.int .u8 true (Int.ofNat k)) m nx
     | none=>.fail "Kind")
   | none=>.fail "Kind")
 | _=>.fail "Kind"
noncomputable def elemTPT:PT:=fun args m nx K=>match args with
 | [.agg [h]]=>(match ofHd h with
   | some t=>(match look2 t elemTab with
     | some e=>K (tyV e) m nx
     | none=>.fail "Elem")
   | none=>.fail "Elem")
 | _=>.fail "Elem"
noncomputable def relPT (tab:List (Nat×Nat×Bool)):PT:=fun args m nx K=>match args with
 | [.agg [h],.iface t (.agg [g])]=>(match ofHd h,ofHd g with
   | some a,some b=>(match look3 a b tab with
     | some c=>if t=rtypeT then K (.bool true c) m nx else .fail "a relation of types"
     | none=>.fail "a relation of types")
   | _,_=>.fail "a relation of types")
 | _=>.fail "a relation of types"
noncomputable def heldPtr (m:Mem):SV→Option (Nat×SV)
 | .agg [h,.ptr key true 0,.int .u64 _ n]=>(match ofHd h,m.get key with
   | some t,some (.cells (.ptr k b o::_) _ _)=>(match look2 t elemTab with
     | some _=>if n=150 then some (t,.ptr k b o)else none
     | none=>none)
   | _,_=>none)
 | _=>none
noncomputable def isNilPT:PT:=fun args m nx K=>match args with
 | [v]=>(match heldPtr m v with
   | some _=>K (.bool true false) m nx
   | none=>.fail "IsNil")
 | _=>.fail "IsNil"
noncomputable def elemVPT:PT:=fun args m nx K=>match args with
 | [v]=>(match heldPtr m v with
   | some (t,p)=>(match look2 t elemTab with
     | some e=>(match look2 e kindTab with
       | some k=>K (.agg [hd e,p,.int .u64 true (Int.ofNat (k+128+256))]) m nx
       | none=>.fail "Value.Elem")
     | none=>.fail "Value.Elem")
   | none=>.fail "Value.Elem")
 | _=>.fail "Value.Elem"
noncomputable def setPT:PT:=fun args m nx K=>match args with
 | [.agg [h,p,.int .u64 _ n],.agg [g,.ptr key true 0,.int .u64 _ n']]=>(match ofHd h,ofHd g,m.get key with
   | some a,some b,some (.cells (v::_) _ _)=>(match look3 a b setTab,look2 a kindTab,look2 b kindTab with
     | some wrap,some k,some k'=>if n=Int.ofNat (k+128+256)∧n'=Int.ofNat (k'+128)then
        lstore Tryz.prog a (some p) (some (match wrap with | true=>.iface b v | false=>v)) m nx (fun _ m nx=>K (.tup []) m nx)else .fail "Value.Set"
     | _,_,_=>.fail "Value.Set")
   | _,_,_=>.fail "Value.Set")
 | _=>.fail "Value.Set"
noncomputable def assignPT:PT:=relPT (assignTab++noTab)
noncomputable def implPT:PT:=relPT implTab
theorem kind_run: ∀ p∈ kindTab,∀ w,(Extern.Rtype.kind p.1).run Tryz.prog w=.ok p.2 w:=by
 intro p hp w
 simp only[kindTab,List.mem_cons,List.not_mem_nil,or_false] at hp
 repeat' first
  | (rcases hp with rfl | hp)
  | subst hp
  | kernel_rfl
theorem comp_run: ∀ p∈ compTab,∀ w,((Extern.ReflectliteType.method fun t=>do Extern.Rtype.noPackHeld "Comparable" t;pure (.bool (← typeInfo t).comparable)) #[.agg #[hdV p.1]]).run Tryz.prog w=.ok (.bool p.2) w:=by
 intro p hp w
 simp only[compTab,List.mem_cons,List.not_mem_nil,or_false] at hp
 repeat' first
  | (rcases hp with rfl | hp)
  | subst hp
  | kernel_rfl
theorem type_run: ∀ p∈ kindTab,∀(a:Addr) w,(Extern.ReflectliteValue.methodAny (Extern.ReflectliteValue.valueError "reflectlite.Value.Type" 0) (fun t _ _ _=>Extern.ReflectliteType.toType t) #[.agg #[hdV p.1,.pointer (some a),.int .u64 (Int.ofNat (p.2+128))]]).run Tryz.prog w
  = .ok (.iface rtypeT (.agg #[hdV p.1])) w:=by
 intro p hp a w
 simp only[kindTab,List.mem_cons,List.not_mem_nil,or_false] at hp
 repeat' first
  | (rcases hp with rfl | hp)
  | subst hp
  | kernel_rfl
theorem abiKind_run: ∀ p∈ kindTab,∀ w,((Extern.ReflectliteType.abiMethod fun t=>do pure (.int .u8 (Int.ofNat (← Extern.Rtype.kind t)))) #[hdV p.1]).run Tryz.prog w=.ok (.int .u8 (Int.ofNat p.2)) w:=by
 intro p hp w
 simp only[kindTab,List.mem_cons,List.not_mem_nil,or_false] at hp
 repeat' first
  | (rcases hp with rfl | hp)
  | subst hp
  | kernel_rfl
theorem elemT_run: ∀ p∈ elemTab,∀ w,(Extern.ReflectliteType.method Extern.ReflectliteType.elem #[.agg #[hdV p.1]]).run Tryz.prog w=.ok (.iface rtypeT (.agg #[hdV p.2])) w:=by
 intro p hp w
 simp only[elemTab,List.mem_cons,List.not_mem_nil,or_false] at hp
 repeat' first
  | (rcases hp with rfl | hp)
  | subst hp
  | kernel_rfl
theorem impl_run: ∀ p∈ implTab,∀ w,(Extern.ReflectliteType.relation "Implements" Extern.ReflectliteType.implements_ #[.agg #[hdV p.1],.iface rtypeT (.agg #[hdV p.2.1])]).run Tryz.prog w=.ok (.bool p.2.2) w:=by
 intro p hp w
 simp only[implTab,List.mem_cons,List.not_mem_nil,or_false] at hp
 repeat' first
  | (rcases hp with rfl | hp)
  | subst hp
  | kernel_rfl
theorem assign_run: ∀ p∈ assignTab,∀ w,(Extern.ReflectliteType.relation "AssignableTo" Extern.ReflectliteType.assignableTo #[.agg #[hdV p.1],.iface rtypeT (.agg #[hdV p.2.1])]).run Tryz.prog w=.ok (.bool p.2.2) w:=by
 intro p hp w
 simp only[assignTab,List.mem_cons,List.not_mem_nil,or_false] at hp
 repeat' first
  | (rcases hp with rfl | hp)
  | subst hp
  | kernel_rfl
noncomputable def wantOf (t:Nat):Array (String×TypeId):=match Tryz.prog.underlying t with
 | some (.interface l)=>l
 | _=>#[]
noncomputable def gotOf (t:Nat):Array Method:=match Tryz.prog.info? t with
 | some i=>i.methods
 | none=>#[]
theorem no_run0: ∀ p∈ noTab,∀ w,(Extern.ReflectliteType.relation "AssignableTo" Extern.ReflectliteType.assignableTo #[.agg #[hdV p.1],.iface rtypeT (.agg #[hdV p.2.1])]).run Tryz.prog w=.ok (.bool (false||(Instr.missingMethod (wantOf p.2.1) (gotOf p.1)).isNone)) w:=by
 intro p hp w
 simp only[noTab,List.mem_cons,List.not_mem_nil,or_false] at hp
 repeat' first
  | (rcases hp with rfl | hp)
  | subst hp
  | kernel_rfl
theorem no_lacks: ∀ p∈ noTab,lacks (wantOf p.2.1) (gotOf p.1)=true∧p.2.2=false:=by
 intro p hp
 simp only[noTab,List.mem_cons,List.not_mem_nil,or_false] at hp
 repeat' first
  | (rcases hp with rfl | hp)
  | subst hp
  | exact⟨by kernel_rfl,rfl⟩
theorem no_run: ∀ p∈ noTab,∀ w,(Extern.ReflectliteType.relation "AssignableTo" Extern.ReflectliteType.assignableTo #[.agg #[hdV p.1],.iface rtypeT (.agg #[hdV p.2.1])]).run Tryz.prog w=.ok (.bool p.2.2) w:=by
 intro p hp w
 obtain⟨h1,h2⟩:=no_lacks p hp
 obtain⟨m,hm⟩:=lacks_true h1
 rw[no_run0 p hp w,h2,hm]
 rfl
theorem typeOf_run (t:Nat)(v:Value)(w:World):(Extern.ReflectliteType.typeOf #[.iface t v]).run Tryz.prog w=.ok (.iface rtypeT (.agg #[hdV t])) w:=by kernel_rfl
end Go.Proofs.YtoalfimkkibpdaaGreatDoor
namespace Go.Proofs.YtoalfimkkibpdaaGreatDoor
open Go Sx
set_option maxRecDepth 20000
theorem no_fail {s:String} {α:Prop} (h:(VC.fail s).holds):α:=False.elim h
section
variable {K : SV → Mem → Nat → VC} {Γ : Base} {E : Nat → Nat} {nx : Nat} {m : Mem} {w : World}
theorem after_same {v:SV} (h:(K v m nx).holds)(hs:SatM Γ E m nx w):After (lift K) Γ E nx (v.val E) w :=
 ⟨E,some v,m,nx,fun _ _=>rfl,Nat.le_refl _,fun u hu=>by injection hu with hu;subst hu;rfl,hs,h⟩
end
theorem typeOf_ok:CallOk Tryz.prog 105 typeOfPT:=by
 intro args m nx K h hw ha Γ E w hs
 unfold typeOfPT at h
 split at h
 ·rename_i t v
  simp only[SV.vals,SV.val]
  rw[extern_ok (e:=Extern.ReflectliteType.typeOf) Tryz.func105 (by kernel_rfl) (by kernel_rfl) (by kernel_rfl) (by kernel_rfl) (typeOf_run t _ w)]
  simp only[Out]
  exact after_same (v:=tyV t) h hs
 ·exact no_fail h
set_option maxRecDepth 20000 in
theorem comparable_ok:CallOk Tryz.prog 231 comparablePT:=by
 intro args m nx K h hw ha Γ E w hs
 unfold comparablePT at h
 split at h
 ·rename_i x
  split at h
  ·rename_i t ht
   have hx:=ofHd_eq ht
   split at h
   ·rename_i b hb
    rw[hx];simp only[SV.vals,SV.val]
    rw[extern_ok (e:=Extern.ReflectliteType.method fun t=>do Extern.Rtype.noPackHeld "Comparable" t;pure (.bool (← typeInfo t).comparable)) Tryz.func231 (by kernel_rfl) (by kernel_rfl) (by kernel_rfl) (by kernel_rfl) (comp_run _ (look2_mem hb) w)]
    simp only[Out]
    exact after_same (v:=.bool true b) h hs
   ·exact no_fail h
  ·exact no_fail h
 ·exact no_fail h
set_option maxRecDepth 20000 in
theorem kind_ok:CallOk Tryz.prog 218 kindPT:=by
 intro args m nx K h hw ha Γ E w hs
 unfold kindPT at h
 split at h
 ·rename_i x
  split at h
  ·rename_i t ht
   have hx:=ofHd_eq ht
   split at h
   ·rename_i k hk
    rw[hx];simp only[SV.vals,SV.val]
    rw[extern_ok (e:=Extern.ReflectliteType.abiMethod fun t=>do pure (.int .u8 (← Extern.Rtype.kind t))) Tryz.func218 (by kernel_rfl) (by kernel_rfl) (by kernel_rfl) (by kernel_rfl) (abiKind_run _ (look2_mem hk) w)]
    simp only[Out]
    exact after_same (v:=.int .u8 true (Int.ofNat k)) h hs
   ·exact no_fail h
  ·exact no_fail h
 ·exact no_fail h
set_option maxRecDepth 20000 in
theorem elemT_ok:CallOk Tryz.prog 232 elemTPT:=by
 intro args m nx K h hw ha Γ E w hs
 unfold elemTPT at h
 split at h
 ·rename_i x
  split at h
  ·rename_i t ht
   have hx:=ofHd_eq ht
   split at h
   ·rename_i e he
    rw[hx];simp only[SV.vals,SV.val]
    rw[extern_ok (e:=Extern.ReflectliteType.method Extern.ReflectliteType.elem) Tryz.func232 (by kernel_rfl) (by kernel_rfl) (by kernel_rfl) (by kernel_rfl) (elemT_run _ (look2_mem he) w)]
    simp only[Out]
    exact after_same (v:=tyV e) h hs
   ·exact no_fail h
  ·exact no_fail h
 ·exact no_fail h
set_option maxRecDepth 20000 in
theorem impl_ok:CallOk Tryz.prog 233 implPT:=by
 intro args m nx K h hw ha Γ E w hs
 unfold implPT relPT at h
 split at h
 ·rename_i x t y
  split at h
  ·rename_i a b hx hy
   have hx:=ofHd_eq hx
   have hy:=ofHd_eq hy
   split at h
   ·rename_i c hc
    split at h
    ·rename_i e;subst e
     rw[hx,hy];simp only[SV.vals,SV.val]
     rw[extern_ok (e:=Extern.ReflectliteType.relation "Implements" Extern.ReflectliteType.implements_) Tryz.func233 (by kernel_rfl) (by kernel_rfl) (by kernel_rfl) (by kernel_rfl) (impl_run _ (look3_mem hc) w)]
     simp only[Out]
     exact after_same (v:=.bool true c) h hs
    ·exact no_fail h
   ·exact no_fail h
  ·exact no_fail h
 ·exact no_fail h
set_option maxRecDepth 20000 in
theorem assign_ok:CallOk Tryz.prog 230 assignPT:=by
 intro args m nx K h hw ha Γ E w hs
 unfold assignPT relPT at h
 split at h
 ·rename_i x t y
  split at h
  ·rename_i a b hx hy
   have hx:=ofHd_eq hx
   have hy:=ofHd_eq hy
   split at h
   ·rename_i c hc
    split at h
    ·rename_i e;subst e
     rw[hx,hy];simp only[SV.vals,SV.val]
     have hrun:(Extern.ReflectliteType.relation "AssignableTo" Extern.ReflectliteType.assignableTo #[.agg #[hdV a],.iface rtypeT (.agg #[hdV b])]).run Tryz.prog w=.ok (.bool c) w:=by
      rcases List.mem_append.1 (look3_mem hc)with h1 | h1
      ·exact assign_run _ h1 w
      ·exact no_run _ h1 w
     rw[extern_ok (e:=Extern.ReflectliteType.relation "AssignableTo" Extern.ReflectliteType.assignableTo) Tryz.func230 (by kernel_rfl) (by kernel_rfl) (by kernel_rfl) (by kernel_rfl) hrun]
     simp only[Out]
     exact after_same (v:=.bool true c) h hs
    ·exact no_fail h
   ·exact no_fail h
  ·exact no_fail h
 ·exact no_fail h
set_option maxRecDepth 20000 in
theorem type_ok:CallOk Tryz.prog 75 typePT:=by
 intro args m nx K h hw ha Γ E w hs
 unfold typePT at h
 split at h
 ·rename_i x key l n
  split at h
  ·rename_i t ht
   have hx:=ofHd_eq ht
   split at h
   ·rename_i k hk
    split at h
    ·rename_i e;subst e
     rw[hx];simp only[SV.vals,SV.val]
     rw[extern_ok (e:=Extern.ReflectliteValue.methodAny (Extern.ReflectliteValue.valueError "reflectlite.Value.Type" 0) (fun t _ _ _=>Extern.ReflectliteType.toType t)) Tryz.func75 (by kernel_rfl) (by kernel_rfl) (by kernel_rfl) (by kernel_rfl) (type_run _ (look2_mem hk) _ w)]
     simp only[Out]
     exact after_same (v:=tyV t) h hs
    ·exact no_fail h
   ·exact no_fail h
  ·exact no_fail h
 ·exact no_fail h
end Go.Proofs.YtoalfimkkibpdaaGreatDoor
namespace Go.Proofs.YtoalfimkkibpdaaGreatDoor
open Go Sx Extern
theorem rlm (z:Sem Value)(f:TypeId→Addr→Nat→Nat→Sem Value)(v:Value) :
  ReflectliteValue.method z f #[v]=(do match ← ReflectliteValue.parts v with | none=>z | some (t,a,fl)=>f t a fl (fl% 32)):=rfl
theorem rls (v x:Value):ReflectliteValue.set #[v,x]=(do
  let (some (dst,a,fl),some (src,b,_)):=(← ReflectliteValue.parts v,← ReflectliteValue.parts x)
   | unsupported (.noEntry "extern/(internal/reflectlite.Value).Set.zeroValue")
  if fl / ReflectliteValue.flagAddr% 2==0 then unsupported (.noEntry "extern/(internal/reflectlite.Value).Set.unaddressable")
  let val ← loadVar src b
  if ← Rtype.directlyAssignable dst src then storeVar dst a val
  else if ← Rtype.implements dst src then
   if(← Rtype.kind src)==20 then
    match val with
    | .nilIface=>unsupported (.noEntry "extern/reflectlite: a nil value of one interface type handed on as a value of another")
    | _=>storeVar dst a val
   else storeVar dst a (.iface src val)
  else panicString ("reflectlite.Set: value of type " ++ (← Rtype.spelt src)++ " is not assignable to type " ++ (← Rtype.spelt dst))
  pure (.tuple #[])):=rfl
theorem handle_run (t:Nat)(w:World):(Rtype.handle t).run Tryz.prog w=.ok (hdV t) w:=by kernel_rfl
theorem mk_run {t k:Nat} (h:(t,k)∈ kindTab)(a:Addr)(fl:Nat)(w:World):(ReflectliteValue.mk t a fl).run Tryz.prog w=.ok (.agg #[hdV t,.pointer (some a),.int .u64 (Int.ofNat (k+128+fl))]) w:=by
 have h1:=kind_run _ h w
 simp only at h1
 simp only[ReflectliteValue.mk,Sem.run_bind,handle_run,h1,Result.andThen_ok,Sem.run_pure]
 rfl
theorem parts_run: ∀ p∈ kindTab,∀(a:Addr) w,(ReflectliteValue.parts (.agg #[hdV p.1,.pointer (some a),.int .u64 (Int.ofNat (p.2+128))])).run Tryz.prog w=.ok (some (p.1,a,p.2+128)) w:=by
 intro p hp a w
 simp only[kindTab,List.mem_cons,List.not_mem_nil,or_false] at hp
 repeat' first
  | (rcases hp with rfl | hp)
  | subst hp
  | kernel_rfl
theorem parts_run2: ∀ p∈ kindTab,∀(a:Addr) w,(ReflectliteValue.parts (.agg #[hdV p.1,.pointer (some a),.int .u64 (Int.ofNat (p.2+128+256))])).run Tryz.prog w=.ok (some (p.1,a,p.2+128+256)) w:=by
 intro p hp a w
 simp only[kindTab,List.mem_cons,List.not_mem_nil,or_false] at hp
 repeat' first
  | (rcases hp with rfl | hp)
  | subst hp
  | kernel_rfl
theorem ptr_kind: ∀ p∈ elemTab,(p.1,22)∈ kindTab∧Tryz.prog.underlying p.1=some (.pointer p.2):=by
 intro p hp
 simp only[elemTab,List.mem_cons,List.not_mem_nil,or_false] at hp
 repeat' first
  | (rcases hp with rfl | hp)
  | subst hp
  | exact⟨by simp[kindTab],by kernel_rfl⟩
theorem elem?_run: ∀ p∈ elemTab,∀ w,(Rtype.elem? p.1).run Tryz.prog w=.ok (some p.2) w:=by
 intro p hp w
 simp only[elemTab,List.mem_cons,List.not_mem_nil,or_false] at hp
 repeat' first
  | (rcases hp with rfl | hp)
  | subst hp
  | kernel_rfl
noncomputable def oneCellB (t:Nat):Bool:=match Tryz.prog.underlying t with
 | some d=>!isAggD d
 | none=>false
theorem one_cell0: ∀ p∈ kindTab,oneCellB p.1=true:=by
 intro p hp
 simp only[kindTab,List.mem_cons,List.not_mem_nil,or_false] at hp
 repeat' first
  | (rcases hp with rfl | hp)
  | subst hp
  | kernel_rfl
theorem one_cell: ∀ p∈ kindTab,∃ d,Tryz.prog.underlying p.1=some d∧isAggD d=false:=by
 intro p hp
 have:=one_cell0 p hp
 unfold oneCellB at this
 split at this
 ·rename_i d hd;exact⟨d,hd,by simpa using this⟩
 ·cases this
theorem direct_run: ∀ p∈ setTab,∀ w,(Rtype.directlyAssignable p.1 p.2.1).run Tryz.prog w=.ok (!p.2.2) w:=by
 intro p hp w
 simp only[setTab,List.mem_cons,List.not_mem_nil,or_false] at hp
 repeat' first
  | (rcases hp with rfl | hp)
  | subst hp
  | kernel_rfl
theorem wrap_run: ∀ p∈ setTab,p.2.2=true→∀ w,(Rtype.implements p.1 p.2.1).run Tryz.prog w=.ok true w∧(p.2.1,20)∉ kindTab:=by
 intro p hp hw w
 simp only[setTab,List.mem_cons,List.not_mem_nil,or_false] at hp
 repeat' first
  | (rcases hp with rfl | hp)
  | subst hp
  | cases hw
  | exact⟨by kernel_rfl,by simp[kindTab]⟩
theorem loadVar_run {t k:Nat} (h:(t,k)∈ kindTab) {b o:Nat} {c:Array Value} {ty:TypeId} {fr:Nat×Nat} {w:World} (hb:w.heap[b]?=some (.cells c ty fr)) {v:Value} (hv:c[o]?=some v) :
  (loadVar t ⟨b,o,none⟩).run Tryz.prog w=.ok v w:=by
 obtain⟨d,h1,h2⟩:=one_cell _ h
 simp only[loadVar,Sem.run_bind,run_isAgg h1,h2,Result.andThen_ok,Bool.false_eq_true,if_false,run_load,cell_of hb,hv]
set_option maxRecDepth 20000 in
theorem valueOf_ok:CallOk Tryz.prog 74 valueOfPT:=by
 intro args m nx K h hw ha Γ E w hs
 unfold valueOfPT at h
 split at h
 ·rename_i t v
  split at h
  ·rename_i k hk hp
   have hm:=look2_mem hk
   simp only[SV.vals,SV.val]
   have hrun:((fun args=>ReflectliteValue.unpack (args.getD 0 (.tuple #[]))) #[Value.iface t (v.val E)]).run Tryz.prog w =
     .ok (.agg #[hdV t,.pointer (some ⟨w.heap.size,0,none⟩),.int .u64 (Int.ofNat (k+128+0))]) {w with heap:=w.heap.push (.cells (v.val E).cells t)}:=by
    show(ReflectliteValue.unpack (Value.iface t (v.val E))).run Tryz.prog w=_
    simp only[ReflectliteValue.unpack,Sem.run_bind,newVar_run,Result.andThen_ok,mk_run hm]
   rw[extern_ok (e:=fun args=>ReflectliteValue.unpack (args.getD 0 (.tuple #[]))) Tryz.func74 (by kernel_rfl) (by kernel_rfl) (by kernel_rfl) (by kernel_rfl) hrun]
   simp only[Out]
   simp only[SV.wfs,SV.wf,Bool.and_true] at ha
   refine After.alloc hs hw (K:=lift K) (sv:=.agg [hd t,.ptr nx true 0,.int .u64 true (Int.ofNat (k+128))]) (cells_wf ha) (map_get (by rw[SV.cells_val hp])) (map_size (E:=E) (by rw[SV.cells_val hp])) h ?_
   simp[SV.val,SV.vals]
  ·exact no_fail h
 ·exact no_fail h
theorem heldPtr_eq {m:Mem} {v p:SV} {t:Nat} (h:heldPtr m v=some (t,p)): ∃ key l cs tot ty k b o e,v=.agg [hd t,.ptr key true 0,.int .u64 l 150]∧p=.ptr k b o∧m.get key=some (.cells (.ptr k b o::cs) tot ty)∧(t,e)∈ elemTab:=by
 unfold heldPtr at h
 split at h
 ·rename_i x key l n
  split at h
  ·rename_i t' k b o cs tot ty ht hk
   split at h
   ·rename_i e he
    split at h
    ·rename_i hn
     injection h with h;injection h with h1 h2
     subst h1;subst h2;subst hn
     exact⟨key,l,cs,tot,ty,k,b,o,e,by rw[ofHd_eq ht],rfl,hk,look2_mem he⟩
    ·cases h
   ·cases h
  ·cases h
 ·cases h
set_option maxRecDepth 20000 in
theorem isNil_ok:CallOk Tryz.prog 76 isNilPT:=by
 intro args m nx K h hw ha Γ E w hs
 unfold isNilPT at h
 split at h
 ·rename_i v
  split at h
  ·rename_i tp htp
   obtain⟨t,p⟩:=tp
   obtain⟨key,l,cs,tot,ty,k,b,o,e,hv,hp,hk,he⟩:=heldPtr_eq htp
   obtain⟨ob,ho,c,fr,rfl,_,h2,_⟩:=hs.blk key _ hk rfl
   have h0:=h2 0 _ rfl
   obtain⟨hkt,hun⟩:=ptr_kind _ he
   have hrun:(ReflectliteValue.method (ReflectliteValue.valueError "reflectlite.Value.IsNil" 0) ReflectliteValue.isNil #[.agg #[hdV t,.pointer (some ⟨E key,0,none⟩),.int .u64 150]]).run Tryz.prog w=.ok (.bool false) w:=by
    rw[rlm]
    have hp:=parts_run _ hkt ⟨E key,0,none⟩ w
    have hl:=loadVar_run hkt ho h0
    simp only[show Int.ofNat (22+128)=150 from rfl] at hp
    simp only[Sem.run_bind,hp,Result.andThen_ok,ReflectliteValue.isNil]
    simp[hl,SV.val]
   rw[hv];simp only[SV.vals,SV.val]
   rw[extern_ok (e:=ReflectliteValue.method (ReflectliteValue.valueError "reflectlite.Value.IsNil" 0) ReflectliteValue.isNil) Tryz.func76 (by kernel_rfl) (by kernel_rfl) (by kernel_rfl) (by kernel_rfl) hrun]
   simp only[Out]
   exact after_same (v:=.bool true false) h hs
  ·exact no_fail h
 ·exact no_fail h
set_option maxRecDepth 20000 in
theorem elemV_ok:CallOk Tryz.prog 116 elemVPT:=by
 intro args m nx K h hw ha Γ E w hs
 unfold elemVPT at h
 split at h
 ·rename_i v
  split at h
  ·rename_i t p htp
   obtain⟨key,l,cs,tot,ty,k,b,o,e0,hv,hp,hk,he0⟩:=heldPtr_eq htp
   split at h
   ·rename_i e he
    have he:=look2_mem he
    split at h
    ·rename_i ke hke
     have hke:=look2_mem hke
     obtain⟨ob,ho,c,fr,rfl,_,h2,_⟩:=hs.blk key _ hk rfl
     have h0:=h2 0 _ rfl
     obtain⟨hkt,hun⟩:=ptr_kind _ he
     have hrun:(ReflectliteValue.method (ReflectliteValue.valueError "reflectlite.Value.Elem" 0) ReflectliteValue.elem #[.agg #[hdV t,.pointer (some ⟨E key,0,none⟩),.int .u64 150]]).run Tryz.prog w=.ok (.agg #[hdV e,.pointer (some ⟨E k,o,none⟩),.int .u64 (Int.ofNat (ke+128+256))]) w:=by
      rw[rlm]
      have hp:=parts_run _ hkt ⟨E key,0,none⟩ w
      have hl:=loadVar_run hkt ho h0
      have hel:=elem?_run _ he w
      have hmk:=mk_run hke ⟨E k,o,none⟩ ReflectliteValue.flagAddr w
      simp only at hel
      simp only[show Int.ofNat (22+128)=150 from rfl] at hp
      simp only[Sem.run_bind,hp,Result.andThen_ok,ReflectliteValue.elem]
      simp[hl,SV.val,hel,hmk]
      rfl
     rw[hv];simp only[SV.vals,SV.val]
     rw[extern_ok (e:=ReflectliteValue.method (ReflectliteValue.valueError "reflectlite.Value.Elem" 0) ReflectliteValue.elem) Tryz.func116 (by kernel_rfl) (by kernel_rfl) (by kernel_rfl) (by kernel_rfl) hrun]
     simp only[Out]
     subst hp
     have:=after_same (v:=.agg [hd e,.ptr k b o,.int .u64 true (Int.ofNat (ke+128+256))]) h hs
     simpa [SV.val,SV.vals] using this
    ·exact no_fail h
   ·exact no_fail h
  ·exact no_fail h
 ·exact no_fail h
end Go.Proofs.YtoalfimkkibpdaaGreatDoor
namespace Go.Proofs.YtoalfimkkibpdaaGreatDoor
open Go Sx Extern
set_option maxRecDepth 20000
theorem flag_ok: ∀ p∈ kindTab,((p.2+128+256) / ReflectliteValue.flagAddr% 2==0)=false:=by
 intro p hp
 simp only[kindTab,List.mem_cons,List.not_mem_nil,or_false] at hp
 repeat' first
  | (rcases hp with rfl | hp)
  | subst hp
  | rfl
set_option maxRecDepth 20000 in
theorem storeVar_out {t:TypeId} {p x:SV} {m:Mem} {nx:Nat} {K:SV→Mem→Nat→VC} {Γ:Base} {E:Nat→Nat} {w:World} (h:(lstore Tryz.prog t (some p) (some x) m nx (fun _ m nx=>K (.tup []) m nx)).holds)(hs:SatM Γ E m nx w)(hw:Mem.wf nx m=true)
  (hp:p.wf nx=true) (hx:x.wf nx=true) {a:Addr} (ha:p.val E=.pointer (some a)) (_h0:a.spot=none) :
  ∃ w',(storeVar t a (x.val E)).run Tryz.prog w=.ok () w'∧After (lift K) Γ E nx (.tuple #[]) w':=by
 have:=lstore_ok (P:=Tryz.prog) (Γ:=Γ) (m:=m) (nx:=nx) (σ:=fun o=>match o with | .tmp 0=>some p | .tmp 1=>some x | _=>none) (dst:=none) (t:=t) (type:=0) (pos:= "") (after:=#[]) (guard:=none) (a:=.tmp 0) (x:=.tmp 1)
  (fun _ m nx=>K (.tup []) m nx) E w (fun o=>match o with | .tmp 0=>p.val E | .tmp 1=>x.val E | _=>undef) h hs hw (fun o v hv=>by
    simp only at hv
    split at hv
    ·injection hv with hv;subst hv;exact hp
    ·injection hv with hv;subst hv;exact hx
    ·cases hv) (fun o v hv=>by
    simp only at hv ⊢
    split at hv
    ·injection hv with hv;subst hv;rfl
    ·injection hv with hv;subst hv;rfl
    ·cases hv)
 simp only[execOp,Instr.storeAt,ha,Instr.sureAddr,Sem.run_bind,Sem.run_pure,Result.andThen_ok] at this
 generalize hr:(storeVar t a (x.val E)).run Tryz.prog w=r at this
 cases r with
 | halt e w'=>cases e<;>simp[Result.andThen,Out] at this
 | ok u w' =>
   simp only[Result.andThen_ok,Out] at this
   obtain⟨E',sv,m',nx',g1,g2,g3,g4,g5⟩:=this
   exact⟨w',rfl,E',some (.tup []),m',nx',g1,g2,fun v hv=>by injection hv with hv;subst hv;rfl,g4,g5⟩
set_option maxRecDepth 20000 in
theorem set_ok:CallOk Tryz.prog 117 setPT:=by
 intro args m nx K h hw ha Γ E w hs
 unfold setPT at h
 split at h
 ·rename_i x p l n y key l' n'
  split at h
  ·rename_i a b v cs tot ty hx hy hk
   have hx:=ofHd_eq hx
   have hy:=ofHd_eq hy
   split at h
   ·rename_i wrap k k' hwr hka hkb
    have hwr:=look3_mem hwr
    have hka:=look2_mem hka
    have hkb:=look2_mem hkb
    split at h
    ·rename_i hn
     obtain⟨rfl,rfl⟩:=hn
     obtain⟨ob,ho,c,fr,rfl,_,h2,_⟩:=hs.blk key _ hk rfl
     have h0:=h2 0 _ rfl
     have hvw:v.wf nx=true:=SV.wfs_get (Mem.wf_get hw hk) (i:=0) rfl
     have hpw:p.wf nx=true:=by
      simp only[SV.wfs,SV.wf,Bool.and_eq_true] at ha
      exact ha.1.2.1
     have hpp: ∃ q,p.val E=.pointer (some q)∧q.spot=none:=by
      unfold lstore at h
      split at h
      ·rename_i e _ _;injection e with e;subst e;exact⟨_,rfl,rfl⟩
      ·rename_i e _ _;injection e with e;subst e;exact⟨_,rfl,rfl⟩
      ·rename_i e _ _;injection e with e;subst e;exact⟨_,rfl,rfl⟩
      ·rename_i e _ _;injection e with e;subst e;exact⟨_,rfl,rfl⟩
      ·exact no_fail h
     obtain⟨q,hq,hsp⟩:=hpp
     obtain⟨w',hst,haft⟩:=storeVar_out h hs hw hpw (by cases wrap<;>exact hvw) hq hsp
     have hp1:=parts_run2 _ hka q w
     have hp2:=parts_run _ hkb ⟨E key,0,none⟩ w
     have hd:=direct_run _ hwr w
     have hl:=loadVar_run hkb ho h0
     simp only at hp1 hp2 hd
     have hflag:((k+128+256) / ReflectliteValue.flagAddr% 2==0)=false:=flag_ok _ hka
     have hrun:(ReflectliteValue.set #[.agg #[hdV a,.pointer (some q),.int .u64 (Int.ofNat (k+128+256))],.agg #[hdV b,.pointer (some ⟨E key,0,none⟩),.int .u64 (Int.ofNat (k'+128))]]).run Tryz.prog w=.ok (.tuple #[]) w':=by
      rw[rls]
      simp only[Sem.run_bind,hp1,hp2,Result.andThen_ok,hflag,Bool.false_eq_true,if_false,hl,hd]
      cases wrap with
      | false =>
        simp only[Bool.not_false,if_true]
        try simp only at hst
        rw[Sem.run_bind,hst]
        rfl
      | true =>
        obtain⟨hi,hne⟩:=wrap_run _ hwr rfl w
        have hkk:=kind_run _ hkb w
        simp only at hi hkk
        have h20:(k'==20)=false:=by
         simp only[beq_eq_false_iff_ne,ne_eq]
         intro e;subst e;exact hne hkb
        simp only[Bool.not_true,Bool.false_eq_true,if_false,Sem.run_bind,hi,Result.andThen_ok,if_true,hkk,h20]
        simp only[SV.val] at hst
        rw[hst]
        rfl
     rw[hx,hy];simp only[SV.vals,SV.val,hq]
     rw[extern_ok (e:=ReflectliteValue.set) Tryz.func117 (by kernel_rfl) (by kernel_rfl) (by kernel_rfl) (by kernel_rfl) hrun]
     exact haft
    ·exact no_fail h
   ·exact no_fail h
  ·exact no_fail h
 ·exact no_fail h
theorem mono_typeOf:MonoPT typeOfPT:=by
 intro args m nx K K' hK h;unfold typeOfPT at h ⊢;split at h;exact hK _ _ _ h;exact no_fail h
theorem mono_comparable:MonoPT comparablePT:=by
 intro args m nx K K' hK h;unfold comparablePT at h ⊢;repeat' split at h
 all_goals first | exact no_fail h | (simp only[*];done) | (simp only[*];exact hK _ _ _ h)
theorem mono_kind:MonoPT kindPT:=by
 intro args m nx K K' hK h;unfold kindPT at h ⊢;repeat' split at h
 all_goals first | exact no_fail h | (simp only[*];done) | (simp only[*];exact hK _ _ _ h)
theorem mono_elemT:MonoPT elemTPT:=by
 intro args m nx K K' hK h;unfold elemTPT at h ⊢;repeat' split at h
 all_goals first | exact no_fail h | (simp only[*];done) | (simp only[*];exact hK _ _ _ h)
theorem mono_rel (tab:List (Nat×Nat×Bool)):MonoPT (relPT tab):=by
 intro args m nx K K' hK h;unfold relPT at h ⊢;repeat' split at h
 all_goals first | exact no_fail h | (simp only[*,if_true];done) | (simp only[*,if_true];exact hK _ _ _ h)
theorem mono_type:MonoPT typePT:=by
 intro args m nx K K' hK h;unfold typePT at h ⊢;repeat' split at h
 all_goals first | exact no_fail h | (simp only[*,if_true];done) | (simp only[*,if_true];exact hK _ _ _ h)
theorem mono_valueOf:MonoPT valueOfPT:=by
 intro args m nx K K' hK h;unfold valueOfPT at h ⊢;repeat' split at h
 all_goals first | exact no_fail h | (simp only[*];done) | (simp only[*];exact hK _ _ _ h)
theorem mono_isNil:MonoPT isNilPT:=by
 intro args m nx K K' hK h;unfold isNilPT at h ⊢;repeat' split at h
 all_goals first | exact no_fail h | (simp only[*];done) | (simp only[*];exact hK _ _ _ h)
theorem mono_elemV:MonoPT elemVPT:=by
 intro args m nx K K' hK h;unfold elemVPT at h ⊢;repeat' split at h
 all_goals first | exact no_fail h | (simp only[*];done) | (simp only[*];exact hK _ _ _ h)
theorem lstore_mono {P:Program} {t:TypeId} {a x:Option SV} {m:Mem} {nx:Nat} {K K':KL} (hK: ∀ v m nx,(K v m nx).holds→(K' v m nx).holds)(h:(lstore P t a x m nx K).holds):(lstore P t a x m nx K').holds:=by
 unfold lstore at h ⊢;repeat' split at h
 all_goals first | exact no_fail h | exact hK _ _ _ h | exact⟨h.1,hK _ _ _ h.2⟩ | (simp only[*,if_true];done) | (simp only[*,if_true];exact hK _ _ _ h) | (simp only[*,if_true];exact⟨h.1,hK _ _ _ h.2⟩)
theorem mono_set:MonoPT setPT:=by
 intro args m nx K K' hK h;unfold setPT at h ⊢
 split at h
 ·split at h
  ·split at h
   ·split at h
    ·rename_i hn
     simp only[*,and_self,if_true]
     exact lstore_mono (fun _ _ _=>hK _ _ _) h
    ·exact no_fail h
   ·exact no_fail h
  ·exact no_fail h
 ·exact no_fail h
noncomputable def reflList:List (FuncId×PT):=[(105,typeOfPT),(231,comparablePT),(218,kindPT),(232,elemTPT),
 (233,implPT),(230,assignPT),(75,typePT),(74,valueOfPT),
 (76,isNilPT),(116,elemVPT),(117,setPT)]
theorem reflList_ok:SummOk Tryz.prog (fun f=>lookPT f reflList):=by
 unfold reflList
 apply SummOk.cons
 ·exact typeOf_ok
 ·exact mono_typeOf
 apply SummOk.cons
 ·exact comparable_ok
 ·exact mono_comparable
 apply SummOk.cons
 ·exact kind_ok
 ·exact mono_kind
 apply SummOk.cons
 ·exact elemT_ok
 ·exact mono_elemT
 apply SummOk.cons
 ·exact impl_ok
 ·exact mono_rel _
 apply SummOk.cons
 ·exact assign_ok
 ·exact mono_rel _
 apply SummOk.cons
 ·exact type_ok
 ·exact mono_type
 apply SummOk.cons
 ·exact valueOf_ok
 ·exact mono_valueOf
 apply SummOk.cons
 ·exact isNil_ok
 ·exact mono_isNil
 apply SummOk.cons
 ·exact elemV_ok
 ·exact mono_elemV
 apply SummOk.cons
 ·exact set_ok
 ·exact mono_set
 exact SummOk.nil
end Go.Proofs.YtoalfimkkibpdaaGreatDoor
namespace Go.Proofs.YtoalfimkkibpdaaGreatDoor.Sx
open Go Go.RowKit Go.WideShapes Go.ChangeShapes
section
variable {H : Type} {enc : TypeId × Value → H} {P : Program}
theorem post_of_below {f:Func} {s:ChangeSpec} {apart fresh handsOn again:Bool} {W W':World} {args:Array Value} {v:Value} {ds gs:List (DataW H)} {before pa pv:List MemPlace}
  (hW:DataW.Whole enc P f.params.toList s.vars apart W args.toList ds gs before)
  (hres: ∀(b:Nat) (sp:Nat→Bool) (hd:Bool),DataW.TrodAll enc P W' b sp hd f.resultTypes.toList (v.resultList f.resultTypes.size) (s.fn H (ds++gs)).results [])
  (hargs: ∀ sp:Nat→Bool,(∀ p∈ before,sp p.block=true)→DataW.TrodAll enc P W' 0 sp true f.params.toList args.toList (s.fn H (ds++gs)).args pa)
  (hvars: ∀ sp:Nat→Bool,(∀ p∈ before,sp p.block=true)→DataW.TrodVars enc P W' sp s.vars (s.fn H (ds++gs)).vars pv)
  (hps:before=pa++pv) (hb:Below W.heap.size W W')
  (hok: ∀(j:Nat) (t:TypeId) (r:Value),f.resultTypes[j]?=some t→(v.resultList f.resultTypes.size)[j]?=some r→Value.okWide P W' .any 0 t r) :
  s.post enc P f apart fresh handsOn again W args v W':=by
 have hlt: ∀ p∈ before,p.block<W.heap.size:=fun p hp=>hW.lt p hp
 have hold: ∀ p∈ before,(fun b=>decide (b<W.heap.size)) p.block=true:=fun p hp=>by simpa using hlt p hp
 refine⟨ds,gs,before,[],pa,pv,hW,hres _ _ _,hargs _ hold,hvars _ hold,World.keptBut_mono (fun p hp=>⟨hp,?_⟩) (hb.frame (· ∈ before)),fun _=> ?_⟩
 ·rw[hps,List.mem_append] at hp
  exact Or.inr hp
 ·obtain⟨_,_,_,_,_,hz,hn⟩:=hW
  refine⟨hok,_,_,([]++pa)++pv,⟨[]++pa,pv,trodAll_append (hargs _ (fun _ _=>rfl)) (hres _ _ _),hvars _ (fun _ _=>rfl),rfl,?_,?_⟩,?_⟩
  ·intro b off hp
   have hin:MemPlace.cell b off∈ before:=by rw[hps];simpa using hp
   rw[hb.frozen (hlt _ hin)]
   exact hz b off hin
  ·intro ha
   have:=hn ha
   rw[hps] at this
   simpa using this
  ·intro p hp _
   rw[hps]
   simpa using hp
theorem trodAll_stays (hl:laidOutB P=true) {W W':World} (hb:Below W.heap.size W W') {sp:Nat→Bool}: ∀ {ts:List TypeId} {vs:List Value} {ds:List (DataW H)} {ps:List MemPlace},
  (∀ t∈ ts,P.readableRec t=true∧t<P.types.size)→DataW.TrodAll enc P W 0 (fun _=>true) true ts vs ds ps→(∀ x∈ ps,x.block<W.heap.size)→(∀ x∈ ps,sp x.block=true)→DataW.TrodAll enc P W' 0 sp true ts vs ds ps
 | [],[],[],ps,_,h,_,_=>h
 | t::ts,v::vs,d::ds,ps,ht,h,hlt,hsp=>by
   obtain⟨p,q,h1,h2,rfl⟩:=h
   refine⟨p,q,?_,trodAll_stays hl hb (fun t h=>ht t (List.mem_cons_of_mem _ h)) h2 (fun x hx=>hlt x (by simp[hx])) (fun x hx=>hsp x (by simp[hx])),rfl⟩
   exact WideElems.Trod_stays hl (ht t (List.mem_cons_self ..)).1 (ht t (List.mem_cons_self ..)).2 h1 (fun x hx=>hb.same (hlt x (by simp[hx]))) (fun x hx=>hsp x (by simp[hx]))
theorem trodAll_len {W:World} {b:Nat} {sp:Nat→Bool} {hd:Bool}: ∀ {ts:List TypeId} {vs:List Value} {ds:List (DataW H)} {ps:List MemPlace},DataW.TrodAll enc P W b sp hd ts vs ds ps→ds.length=ts.length∧vs.length=ts.length
 | [],[],[],_,_=>⟨rfl,rfl⟩
 | _::_,_::_,_::_,_,h=>by
   obtain⟨p,q,_,h2,_⟩:=h
   have:=trodAll_len h2
   simp[this.1,this.2]
 | [],[],_::_,_,h=>h.elim
 | [],_::_,_,_,h=>h.elim
 | _::_,[],_,_,h=>h.elim
 | _::_,_::_,[],_,h=>h.elim
end
theorem mapOk {P:Program} {W:World} {base:Nat} {t e:TypeId} {v:Value} {H:Type} {enc:TypeId×Value→H} {d:DataW H} {ps:List MemPlace} (ht:P.underlying t=some (.slice e))
  (hval:Value.okWide P W .any base t v) (hd:DataW.Trod enc P W 0 (fun _=>true) true t v d ps) :
  ∃(z:Bool) (b o n c:Nat),v=(SV.vslc 0 (P.cellsOf e) z o 0 n c).val (fun _=>b)∧n≤maxLen∧((z&&Nat.beq n 0)=false→∃ cs ty fr,W.heap[b]?=some (.cells cs ty fr) ∧
   ∀ i,i<n→∃(xs:List Value) (y:DataW H×List MemPlace) (m:Nat),xs.length=P.cellsOf e∧(∀ k,k<P.cellsOf e→cs[o+i*P.cellsOf e+k]?=xs[k]?)∧DataW.trod enc P W 0 (fun _=>true) true m e xs=some y):=by
 obtain⟨a0,n,c,rfl⟩:=okWide_slice ht hval
 obtain⟨fuel,hf⟩:=hd
 rcases DataW.trod_slice ht hf with ⟨h0,_⟩ | ⟨a,len,cap,elems,rest,m,_,hcs,_,hb,hlc,hmax,hlen,hel,_,_⟩
 ·simp only[Value.cells] at h0
  have h1:a0=none∧n=0∧c=0:=by simpa using h0
  obtain⟨rfl,rfl,rfl⟩:=h1
  exact⟨true,0,0,0,0,rfl,Nat.zero_le _,fun h=>by cases h⟩
 ·simp only[Value.cells] at hcs
  have h1:a0=some a∧n=len∧c=cap:=by simpa using hcs
  obtain⟨rfl,rfl,rfl⟩:=h1
  have hhas:W.has P .any base a e c:=by
   simp only[Value.okWide,ht,Cell.okWide,Cell.ok] at hval
   exact hval.2.2
  obtain⟨_,hspot,row,cells,hshape,_⟩:=hhas
  obtain⟨blk,off,spot⟩:=a
  simp only at hspot
  subst hspot
  have hcells: ∃ cs ty fr,W.heap[blk]?=some (.cells cs ty fr):=by
   unfold World.shape? at hshape
   split at hshape
   ·rename_i cs ty fr h;exact⟨cs,ty,fr,h⟩
   ·cases hshape
  obtain⟨cs,ty,fr,hblk⟩:=hcells
  refine⟨false,blk,off,n,c,by simp[SV.val],Nat.le_trans hlc hmax,fun _=>⟨cs,ty,fr,hblk,fun i hi=> ?_⟩⟩
  have h2:=hel i hi
  rw[List.getElem?_eq_getElem (by omega)] at h2
  obtain⟨xs,hxs,hy⟩:=Option.bind_eq_some_iff.1 h2
  obtain⟨_,hl2,hget⟩:=World.cells?_some hxs
  refine⟨xs,_,m,hl2,fun k hk=> ?_,hy⟩
  have:=hget k hk
  rw[← this,add_none,add_none,cell_of hblk]
def strAt (cs:Array Value)(j:Nat):List UInt8:=match cs[j]? with
 | some (.string s)=>s.data.toList
 | _=>[]
theorem trod_str_cell {P:Program} {W:World} {H:Type} {enc:TypeId×Value→H} {m:Nat} {t:TypeId} {x:Value} {y:DataW H×List MemPlace} (ht:P.underlying t=some .string)(h:DataW.trod enc P W 0 (fun _=>true) true m t [x]=some y)
  {cs:Array Value} {j:Nat} (hc:cs[j]?=some x):cs[j]?=some ((SV.str false (strAt cs j)).val (fun _=>0))∧(strAt cs j).length≤maxLen:=by
 obtain⟨s,hx,_,hw⟩:=DataW.trod_string ht h
 injection hx with hx
 subst hx
 unfold strAt
 rw[hc]
 refine⟨by simp[SV.val],?_⟩
 have he:s.data.toList.length=s.size:=Array.length_toList
 show s.data.toList.length≤maxLen
 rw[he];exact hw
end Go.Proofs.YtoalfimkkibpdaaGreatDoor.Sx
namespace Go.Proofs.YtoalfimkkibpdaaGreatDoor
open Go Sx
set_option maxRecDepth 20000
theorem mixes:Tryz.prog.follows .mixedOrders=true:=by kernel_rfl
theorem names_ok:(Tryz.prog.funcs.all fun fn=>!(fn.name== "runtime.NumGoroutine"))=true:=by kernel_rfl
theorem fns_ok (f:FuncId)(fn:Func)(h:Tryz.prog.funcs[f]?=some fn):Tryz.prog.funcs[f]?=some fn∧(fn.name== "runtime.NumGoroutine")=false:=by
 refine⟨h,?_⟩
 have:=Array.all_eq_true'.1 names_ok fn (Array.mem_of_getElem? h)
 simpa using this
noncomputable def cfg0:Cfg:={summ:=fun f=>lookPT f reflList,fns:=fun f=>Tryz.prog.funcs[f]?,anns:=fun _=>[],rounds:=100}
theorem good0:Sx.Good Tryz.prog cfg0:=⟨mixes,reflList_ok,fns_ok⟩
end Go.Proofs.YtoalfimkkibpdaaGreatDoor
namespace Go.Proofs.YtoalfimkkibpdaaGreatDoor.Sx
open Go
def unlit1:SV→SV
 | .int k _ n=>.int k false n
 | .bool _ b=>.bool false b
 | .str _ s=>.str false s
 | v=>v
def unlit:SV→SV
 | .agg cs=>.agg (cs.map unlit1)
 | v=>unlit1 v
theorem unlit1_val (E:Nat→Nat)(v:SV):(unlit1 v).val E=v.val E:=by cases v<;>rfl
theorem unlit1_vals (E:Nat→Nat): ∀ l:List SV,SV.vals E (l.map unlit1)=SV.vals E l
 | []=>rfl
 | v::r=>by simp only[List.map_cons,SV.vals,unlit1_val,unlit1_vals E r]
theorem unlit_val (E:Nat→Nat)(v:SV):(unlit v).val E=v.val E:=by
 cases v<;>first | rfl | simp only[unlit,SV.val,unlit1_vals]
theorem unlit_vals (E:Nat→Nat): ∀ l:List SV,SV.vals E (l.map unlit)=SV.vals E l
 | []=>rfl
 | v::r=>by simp only[List.map_cons,SV.vals,unlit_val,unlit_vals E r]
noncomputable def purePT (spec:List SV→Option (Prop×SV)):PT:=fun args m nx K=>match spec (args.map unlit)with
 | some (p,r)=>.and (.atom p) (K r m nx)
 | none=>.fail "arguments that nothing is said of"
def sameVal (v r:SV):Prop:=∀ E,v.val E=r.val E
theorem purePT_mono (spec:List SV→Option (Prop×SV)):MonoPT (purePT spec):=by
 intro args m nx K K' hK h
 unfold purePT at h ⊢
 split at h
 ·exact⟨h.1,hK _ _ _ h.2⟩
 ·exact h
theorem pure_ok {P:Program} {cfg:Cfg} (hg:Good P cfg) {f:FuncId} {fn:Func} (hf:P.funcs[f]?=some fn)(hn:(fn.name== "runtime.NumGoroutine")=false)(hb:fn.body.isSome=true) {n:Nat} {spec:List SV→Option (Prop×SV)}
  (h: ∀ args p r,spec args=some (p,r)→p→SV.wfs 0 args=true∧r.wf 0=true∧Holds (runFn P (calling P cfg n) [] noP (cfg.anns f) cfg.rounds fn args [] 0 (fun v _ _=>.atom (sameVal v r)))):CallOk P f (purePT spec):=by
 intro args m nx K hk hwf hargs Γ E w hs
 unfold purePT at hk
 split at hk
 ·rename_i p r hr
  obtain⟨hp,hk⟩:=hk
  obtain⟨h1,h2,h3⟩:=h _ _ _ hr hp
  have hc:=calls_of_holds hg hf hn hb h3 rfl h1 (SatM.none w hs.glob)
  rw[SV.vals_pure h1 (fun _=>0) E,unlit_vals] at hc
  refine out_of_calls hf hn hb (hc.mono ?_)
  rintro e w' ⟨v,rfl,E',sv,m',nx',_,_,g3,g4,g5⟩
  refine⟨v,rfl,?_⟩
  cases sv with
  | none=>exact g5.elim
  | some u =>
    have hu:sameVal u r:=g5
    refine⟨E,some r,m,nx,fun _ _=>rfl,Nat.le_refl _,fun x hx=> ?_,hs.still g4.ext,hk⟩
    injection hx with hx;subst hx
    rw[g3 u rfl,hu E',SV.val_pure h2 E' E]
 ·exact hk.elim
end Go.Proofs.YtoalfimkkibpdaaGreatDoor.Sx
namespace Go.Proofs.YtoalfimkkibpdaaGreatDoor
open Go Sx
set_option maxRecDepth 20000
noncomputable def cfgD:Cfg:={cfg0 with rounds:=9}
theorem goodD:Sx.Good Tryz.prog cfgD:=⟨mixes,reflList_ok,fns_ok⟩
def dig:Nat→Int→List UInt8
 | 0,_=>[]
 | k+1,n=>if 0<n then dig k (n / 256)++[UInt8.ofNat (n% 256).toNat] else []
def digits (n:Int):List UInt8:=dig 8 n
noncomputable def runP (cfg:Cfg)(f:Nat)(fn:Func)(args:List SV)(R:SV→Prop):VC:=runFn Tryz.prog (calling Tryz.prog cfg 20) [] noP (cfg.anns f) cfg.rounds fn args [] 0 (fun v _ _=>.atom (R v))
end Go.Proofs.YtoalfimkkibpdaaGreatDoor
namespace Go.Proofs.YtoalfimkkibpdaaGreatDoor
open Go Sx
set_option maxRecDepth 20000
theorem vcDigits (n:Int)(R:SV→Prop):VC.holds (runP cfgD 60 Tryz.f60 [.int .u64 false n] R)=(((decide (0<n)=true→∀(u8:Nat),1≤u8→(decide (0<n / 256)=true→u8*1=u8*1∧∀(u7:Nat),2≤u7→(decide (0<n / 256 / (256:Int))=true→u7*1=u7*1∧∀(u6:Nat),3≤u6→(decide (0<n / 256 / (256:Int) / (256:Int))=true→u6*1=u6*1∧∀(u5:Nat),4≤u5→(decide (0<n / 256 / (256:Int) / (256:Int) / (256:Int))=true→u5*1=u5*1∧∀(u4:Nat),5≤u4→(decide (0<n / 256 / (256:Int) / (256:Int) / (256:Int) / (256:Int))=true→u4*1=u4*1∧∀(u3:Nat),6≤u3→(decide (0<n / 256 / (256:Int) / (256:Int) / (256:Int) / (256:Int) / (256:Int))=true→u3*1=u3*1∧∀(u2:Nat),7≤u2→(decide (0<n / 256 / (256:Int) / (256:Int) / (256:Int) / (256:Int) / (256:Int) / (256:Int))=true→u2*1=u2*1∧∀(u1:Nat),8≤u1→(decide (0<n / 256 / (256:Int) / (256:Int) / (256:Int) / (256:Int) / (256:Int) / (256:Int) / (256:Int))=true→u1*1=u1*1∧∀(u0:Nat),9≤u0→False)∧(decide (0<n / 256 / (256:Int) / (256:Int) / (256:Int) / (256:Int) / (256:Int) / (256:Int) / (256:Int))=false →R (SV.str (false&&(false&&(false&&(false&&(false&&(false&&(false&&(false&&true)))))))) [UInt8.ofNat (n / 256 / (256:Int) / (256:Int) / (256:Int) / (256:Int) / (256:Int) / (256:Int)% (256:Int)).toNat,UInt8.ofNat (n / 256 / (256:Int) / (256:Int) / (256:Int) / (256:Int) / (256:Int)% (256:Int)).toNat,UInt8.ofNat (n / 256 / (256:Int) / (256:Int) / (256:Int) / (256:Int)% (256:Int)).toNat,UInt8.ofNat (n / 256 / (256:Int) / (256:Int) / (256:Int)% (256:Int)).toNat,UInt8.ofNat (n / 256 / (256:Int) / (256:Int)% (256:Int)).toNat,UInt8.ofNat (n / 256 / (256:Int)% (256:Int)).toNat,UInt8.ofNat (n / 256% (256:Int)).toNat,UInt8.ofNat (n% 256).toNat])))∧(decide (0<n / 256 / (256:Int) / (256:Int) / (256:Int) / (256:Int) / (256:Int) / (256:Int))=false →R (SV.str (false&&(false&&(false&&(false&&(false&&(false&&(false&&true))))))) [UInt8.ofNat (n / 256 / (256:Int) / (256:Int) / (256:Int) / (256:Int) / (256:Int)% (256:Int)).toNat,UInt8.ofNat (n / 256 / (256:Int) / (256:Int) / (256:Int) / (256:Int)% (256:Int)).toNat,UInt8.ofNat (n / 256 / (256:Int) / (256:Int) / (256:Int)% (256:Int)).toNat,UInt8.ofNat (n / 256 / (256:Int) / (256:Int)% (256:Int)).toNat,UInt8.ofNat (n / 256 / (256:Int)% (256:Int)).toNat,UInt8.ofNat (n / 256% (256:Int)).toNat,UInt8.ofNat (n% 256).toNat])))∧(decide (0<n / 256 / (256:Int) / (256:Int) / (256:Int) / (256:Int) / (256:Int))=false→R (SV.str (false&&(false&&(false&&(false&&(false&&(false&&true)))))) [UInt8.ofNat (n / 256 / (256:Int) / (256:Int) / (256:Int) / (256:Int)% (256:Int)).toNat,UInt8.ofNat (n / 256 / (256:Int) / (256:Int) / (256:Int)% (256:Int)).toNat,UInt8.ofNat (n / 256 / (256:Int) / (256:Int)% (256:Int)).toNat,UInt8.ofNat (n / 256 / (256:Int)% (256:Int)).toNat,UInt8.ofNat (n / 256% (256:Int)).toNat,UInt8.ofNat (n% 256).toNat]))) ∧(decide (0<n / 256 / (256:Int) / (256:Int) / (256:Int) / (256:Int))=false→R (SV.str (false&&(false&&(false&&(false&&(false&&true))))) [UInt8.ofNat (n / 256 / (256:Int) / (256:Int) / (256:Int)% (256:Int)).toNat,UInt8.ofNat (n / 256 / (256:Int) / (256:Int)% (256:Int)).toNat,UInt8.ofNat (n / 256 / (256:Int)% (256:Int)).toNat,UInt8.ofNat (n / 256% (256:Int)).toNat,UInt8.ofNat (n% 256).toNat])))∧(decide (0<n / 256 / (256:Int) / (256:Int) / (256:Int))=false→R (SV.str (false&&(false&&(false&&(false&&true)))) [UInt8.ofNat (n / 256 / (256:Int) / (256:Int)% (256:Int)).toNat,UInt8.ofNat (n / 256 / (256:Int)% (256:Int)).toNat,UInt8.ofNat (n / 256% (256:Int)).toNat,UInt8.ofNat (n% 256).toNat])))∧(decide (0<n / 256 / (256:Int) / (256:Int))=false→R (SV.str (false&&(false&&(false&&true))) [UInt8.ofNat (n / 256 / (256:Int)% (256:Int)).toNat,UInt8.ofNat (n / 256% (256:Int)).toNat,UInt8.ofNat (n% 256).toNat])))∧(decide (0<n / 256 / (256:Int))=false→R (SV.str (false&&(false&&true)) [UInt8.ofNat (n / 256% (256:Int)).toNat,UInt8.ofNat (n% 256).toNat]))) ∧(decide (0<n / 256)=false→R (SV.str (false&&true) [UInt8.ofNat (n% 256).toNat])))∧(decide (0<n)=false→R (SV.str true [])))):=by kernel_rfl
end Go.Proofs.YtoalfimkkibpdaaGreatDoor
namespace Go.Proofs.YtoalfimkkibpdaaGreatDoor
open Go Sx
set_option maxRecDepth 20000
theorem str_same {l:Bool} {a b:List UInt8} (h:a=b):sameVal (.str l a) (.str false b):=fun E=>by subst h;rfl
theorem dig_stop {k:Nat} {n:Int} (h:decide (0<n)=false):dig k n=[]:=by
 have: ¬ (0<n):=by simpa using h
 cases k with
 | zero=>rfl
 | succ k=>simp[dig,this]
theorem dig_step {k:Nat} {n:Int} (h:decide (0<n)=true):dig (k+1) n=dig k (n / 256)++[UInt8.ofNat (n% 256).toNat]:=by
 have:0<n:=by simpa using h
 simp[dig,this]
theorem digits_holds {n:Int} (h0:0≤n)(h1:n<18446744073709551616):Holds (runP cfgD 60 Tryz.f60 [.int .u64 false n] (fun v=>sameVal v (.str false (digits n)))):=by
 refine Holds.of_eq (vcDigits n _) ?_
 unfold digits
 repeat' first
  | apply And.intro
  | intro (_:_=_)
  | intro (c:Nat)
  | intro (_:_≤_)
 all_goals first
  | rfl
  | (apply str_same;simp only[dig_step,dig_stop, *,List.nil_append,List.cons_append])
  | (exfalso;simp only[decide_eq_true_eq] at *;omega)
noncomputable def digitsSpec:List SV→Option (Prop×SV)
 | [.int .u64 false n]=>some (0≤n∧n<18446744073709551616,.str false (digits n))
 | _=>none
noncomputable def digitsPT:PT:=purePT digitsSpec
theorem digits_ok:CallOk Tryz.prog 60 digitsPT:=by
 refine pure_ok goodD (n:=20) (fn:=Tryz.f60) Tryz.func60 (by kernel_rfl) (by kernel_rfl) ?_
 intro args p r h hp
 unfold digitsSpec at h
 split at h
 ·rename_i n
  injection h with h;injection h with h1 h2;subst h1;subst h2
  exact⟨rfl,rfl,digits_holds hp.1 hp.2⟩
 ·cases h
end Go.Proofs.YtoalfimkkibpdaaGreatDoor
namespace Go.Proofs.YtoalfimkkibpdaaGreatDoor
open Go Sx
set_option maxRecDepth 20000
noncomputable def list1:List (FuncId×PT):=(60,digitsPT)::reflList
theorem list1_ok:SummOk Tryz.prog (fun f=>lookPT f list1):=.cons digits_ok (purePT_mono _) reflList_ok
noncomputable def cfg1:Cfg:={cfg0 with summ:=fun f=>lookPT f list1}
end Go.Proofs.YtoalfimkkibpdaaGreatDoor
namespace Go.Proofs.YtoalfimkkibpdaaGreatDoor.Sx
open Go
inductive Ans:Type 1 where
 | ret (v:SV)
 | new (v:Nat→SV) (B:SB)
 | all (α:Type) (f:α→Ans)
 | req (p:Prop) (a:Ans)
 | fork (b:Bool) (f:Bool→Ans)
def Ans.vc (m:Mem)(nx:Nat)(K:SV→Mem→Nat→VC):Ans→VC
 | .ret v=>K v m nx
 | .new v B=>K (v nx) ((nx,B)::m) (nx+1)
 | .all α f=>.all α fun x=>(f x).vc m nx K
 | .req p a=>.imp p (a.vc m nx K)
 | .fork b f=>Sx.fork b fun b=>(f b).vc m nx K
def Ans.Ok:Ans→Prop
 | .ret v=>v.wf 0=true
 | .new v B=>B.wf 0=true∧B.ro=false∧(∀ k,(v k).wf (k+1)=true)∧∀(E E':Nat→Nat) k k',(B.no=false→E k=E' k')→(v k).val E=(v k').val E'
 | .all _α f=>∀ x,(f x).Ok
 | .req _ a=>a.Ok
 | .fork _ f=>∀ b,(f b).Ok
mutual
def SV.key:SV→Option Nat
 | .ptr k _ _=>some k
 | .slc k _ _ _ _=>some k
 | .rslc k _ _ _ _ _=>some k
 | .tup vs=>SV.keys vs
 | .agg vs=>SV.keys vs
 | .iface _ v=>v.key
 | _=>none
def SV.keys:List SV→Option Nat
 | []=>none
 | v::r=>match v.key with
   | some k=>some k
   | none=>SV.keys r
end
def Ans.fit (v:SV)(m:Mem):Ans→VC
 | .ret r=>.atom (sameVal v r)
 | .new r B=>(match v.key with
   | some k=>(match m.get k with
     | some X=>.and (.atom (SBle X B)) (.atom (sameVal v (r k)))
     | none=>.fail "no block")
   | none=>.fail "no key")
 | .all α f=>.ex α fun x=>(f x).fit v m
 | .req p a=>.and (.atom p) (a.fit v m)
 | .fork b f=>Sx.fork b fun b=>(f b).fit v m
noncomputable def ansPT (spec:List SV→Option (Prop×Ans)):PT:=fun args m nx K=>match spec (args.map unlit)with
 | some (p,a)=>.and (.atom p) (a.vc m nx K)
 | none=>.fail "arguments that nothing is said of"
theorem Ans.vc_mono {m:Mem} {nx:Nat} {K K':SV→Mem→Nat→VC} (hK: ∀ v m nx,(K v m nx).holds→(K' v m nx).holds): ∀ {a:Ans},(a.vc m nx K).holds→(a.vc m nx K').holds
 | .ret _,h=>hK _ _ _ h
 | .new _ _,h=>hK _ _ _ h
 | .all _ _,h=>fun x=>Ans.vc_mono hK (h x)
 | .req _ _,h=>fun x=>Ans.vc_mono hK (h x)
 | .fork _ _,h=>fork_iff.2 (Ans.vc_mono hK (fork_iff.1 h))
theorem ansPT_mono (spec:List SV→Option (Prop×Ans)):MonoPT (ansPT spec):=by
 intro args m nx K K' hK h
 unfold ansPT at h ⊢
 split at h
 ·exact⟨h.1,Ans.vc_mono hK h.2⟩
 ·exact h
theorem BlkOk.le {E:Nat→Nat} {X B:SB} {o:Obj} (h:SBle X B)(hn:B.no=false)(hb:BlkOk E X o):BlkOk E B o:=(h hn).2.1 E o hb
theorem SatM.new {Γ E m nx w} (h:SatM Γ E m nx w)(hw:Mem.wf nx m=true) {E1:Nat→Nat} {m1:Mem} {nx1:Nat} {w':World}
  {gl gm} (h1:SatM (Base.at w (fun _=>False) gl gm) E1 m1 nx1 w') {j:Nat} {X B:SB} (hX:m1.get j=some X) (hle:SBle X B) (hw2:B.wf 0=true) (hr2:B.ro=false) :
  ∃ E',(∀ i,i<nx→E' i=E i)∧(B.no=false→E' nx=E1 j)∧SatM Γ E' ((nx,B)::m) (nx+1) w':=by
 have hf:=h.still h1.ext
 have hlt: ∀ i X,m.get i=some X→X.no=false→E i<w.heap.size:=fun i X hi hX=>by
  obtain⟨o,ho,_⟩:=h.blk i X hi hX
  exact(Array.getElem?_eq_some_iff.1 ho).1
 cases hno:B.no with
 | true =>
   refine⟨fun i=>if i=nx then w.heap.size else E i,fun i hi=>by simp[Nat.ne_of_lt hi],(fun h=>by cases h),?_⟩
   exact hf.push hw (fun _ _ h=>h) (fun i X hi hX=>Nat.ne_of_lt (hlt i X hi hX)) (fun _ _ _=>rfl) hf.ext (fun hx=>by rw[hno] at hx;cases hx) (fun D hD=>Nat.ne_of_lt (Array.getElem?_eq_some_iff.1 (h.kp D hD)).1) (fun hx=>by rw[hno] at hx;cases hx)
 | false =>
   obtain⟨g1,g2,g3⟩:=hle hno
   obtain⟨o,ho,hb⟩:=h1.blk j X hX g1
   have hge:w.heap.size≤E1 j:=by
    rcases h1.own j X hX g1 (g3 hr2)with e | e
    ·exact e.elim
    ·exact e
   refine⟨fun i=>if i=nx then E1 j else E i,fun i hi=>by simp[Nat.ne_of_lt hi],fun _=>by simp,?_⟩
   refine hf.push hw (fun _ _ h=>h) (fun i X hi hX e=> ?_) (fun _ _ _=>rfl) hf.ext (fun _ _=>.inr (Nat.le_trans h.ext.size hge)) (fun D hD=>Nat.ne_of_lt (Nat.lt_of_lt_of_le (Array.getElem?_eq_some_iff.1 (h.kp D hD)).1 hge)) (fun _=>⟨o,ho,(g2 E1 o hb).pure hw2⟩)
   have:=hlt i X hi hX
   omega
theorem Ans.told {Γ E m nx w} (h:SatM Γ E m nx w)(hw:Mem.wf nx m=true) {E1:Nat→Nat} {m1:Mem} {nx1:Nat} {w':World}
  {gl gm} (h1:SatM (Base.at w (fun _=>False) gl gm) E1 m1 nx1 w') {v:SV} {K:SV→Mem→Nat→VC}: ∀ {a:Ans},a.Ok→(a.fit v m1).holds→(a.vc m nx K).holds→After (lift K) Γ E nx (v.val E1) w'
 | .ret r,hO,hf,hK=>⟨E,some r,m,nx,fun _ _=>rfl,Nat.le_refl _,fun x hx=>by
    injection hx with hx;subst hx
    have hf:sameVal v r:=hf
    rw[hf E1];exact SV.val_pure hO E1 E,h.still h1.ext,hK⟩
 | .new r B,hO,hf,hK=>by
   obtain⟨o1,o2,o3,o4⟩:=hO
   simp only[Ans.fit] at hf
   split at hf
   ·rename_i k hk
    split at hf
    ·rename_i X hX
     obtain⟨f1,f2⟩:=hf
     have f1:SBle X B:=f1
     have f2:sameVal v (r k):=f2
     obtain⟨E',e1,e2,e3⟩:=SatM.new h hw h1 hX f1 o1 o2
     refine⟨E',some (r nx),_,nx+1,e1,Nat.le_succ _,fun x hx=> ?_,e3,hK⟩
     injection hx with hx;subst hx
     rw[f2 E1]
     exact o4 E1 E' k nx fun hb=>(e2 hb).symm
    ·exact hf.elim
   ·exact hf.elim
 | .all _ f,hO,⟨x,hx⟩,hK=>Ans.told h hw h1 (hO x) hx (hK x)
 | .req _ a,hO,hf,hK=>Ans.told (a:=a) h hw h1 hO hf.2 (hK hf.1)
 | .fork _ _,hO,hf,hK=>Ans.told h hw h1 (hO _) (fork_iff.1 hf) (fork_iff.1 hK)
theorem ans_ok {P:Program} {f:FuncId} {fn:Func} (hf:P.funcs[f]?=some fn)(hn:(fn.name== "runtime.NumGoroutine")=false)(hb:fn.body.isSome=true) {n:Nat} {spec:List SV→Option (Prop×Ans)}
  (h: ∀ args p a,spec args=some (p,a)→p→∃ cfg,Good P cfg∧SV.wfs 0 args=true∧a.Ok∧Holds (runFn P (calling P cfg n) [] noP (cfg.anns f) cfg.rounds fn args [] 0 (fun v m _=>a.fit v m))):CallOk P f (ansPT spec):=by
 intro args m nx K hk hwf hargs Γ E w hs
 unfold ansPT at hk
 split at hk
 ·rename_i p a hr
  obtain⟨hp,hk⟩:=hk
  obtain⟨cfg,hg,h1,h2,h3⟩:=h _ _ _ hr hp
  have hc:=calls_of_holds hg hf hn hb h3 rfl h1 (SatM.none w hs.glob)
  rw[SV.vals_pure h1 (fun _=>0) E,unlit_vals] at hc
  refine out_of_calls hf hn hb (hc.mono ?_)
  rintro e w' ⟨v,rfl,E',sv,m',nx',_,_,g3,g4,g5⟩
  refine⟨v,rfl,?_⟩
  cases sv with
  | none=>exact g5.elim
  | some u=>rw[g3 u rfl];exact Ans.told hs hwf g4 h2 g5 hk
 ·exact hk.elim
theorem SV.wfs_append {nx:Nat}: ∀ {a b:List SV},SV.wfs nx a=true→SV.wfs nx b=true→SV.wfs nx (a++b)=true
 | [],_,_,h=>h
 | x::a,b,h,h'=>by
   simp only[SV.wfs,Bool.and_eq_true] at h
   simp only[List.cons_append,SV.wfs,Bool.and_eq_true]
   exact⟨h.1,SV.wfs_append h.2 h'⟩
end Go.Proofs.YtoalfimkkibpdaaGreatDoor.Sx
namespace Go.Proofs.YtoalfimkkibpdaaGreatDoor
open Go Sx
set_option maxRecDepth 20000
def num (l:List UInt8):Int:=l.foldl (fun a b=>a*256+(b.toNat:Int)) 0
def part (s:List UInt8)(i:Int):Int:=num ((s.drop 1).take (i - 1).toNat)
def lenB (s:List UInt8)(to:Int):Bool:=decide (to≤s.length)&& !decide (byteAt s 1=0)&&decide (part s to≤1048576)&&decide (55<part s to)
noncomputable def annLen (s:List UInt8)(to:Int):LoopAnn :=
 {α:=Int,pre:=fun _ i=>1≤i∧i≤to∧part s i≤1048576,mea:=fun _ i=>(to - i).toNat,fresh:=0,slots:=fun _ i=>[(6,.int .i64 false (part s i)),(7,.int .i64 false i)],mem:=fun _ _=>[]}
noncomputable def cfgL (s:List UInt8)(to:Int):Cfg:={cfg1 with anns:=fun f=>if f=181 then [(7,always (annLen s to))] else []}
noncomputable def runA (cfg:Cfg)(f:Nat)(fn:Func)(args:List SV)(a:Ans):VC:=runFn Tryz.prog (calling Tryz.prog cfg 20) [] noP (cfg.anns f) cfg.rounds fn args [] 0 (fun v m _=>a.fit v m)
def faultA (z:List SV):Ans:=.all Int fun at'=>.new (fun k=>.tup (z++[.iface 272 (.ptr k true 0)])) (.cells [.int .i64 false at',.iface 27 (.int .i64 true 2)] 2 274)
def lengthA (s:List UInt8)(to:Int):Ans:=.fork (lenB s to) fun b=>match b with
 | true=>.ret (.tup [.int .i64 false (part s to),.niliface])
 | false=>faultA [.int .i64 true 0]
end Go.Proofs.YtoalfimkkibpdaaGreatDoor
namespace Go.Proofs.YtoalfimkkibpdaaGreatDoor
open Go Sx
set_option maxRecDepth 20000
theorem vcLength (s:List UInt8)(to:Int):VC.holds (runA (cfgL s to) 181 Tryz.f181 [.str false s,.int .i64 false to] (lengthA s to))=(((decide ((s.length:Int)<to)=true→(lenB s to=true→sameVal (SV.tup [SV.int .i64 true 0,SV.iface 272 (SV.ptr 0 true 0)]) (SV.tup [SV.int .i64 false (part s to),SV.niliface]))∧(lenB s to=false→∃(u7:Int),SBle (SB.cells [SV.int .i64 false (s.length:Int),SV.iface 27 (SV.int .i64 true 2)] 2 274) (SB.cells [SV.int .i64 false u7,SV.iface 27 (SV.int .i64 true 2)] 2 274)∧sameVal (SV.tup [SV.int .i64 true 0,SV.iface 272 (SV.ptr 0 true 0)]) (SV.tup ([SV.int .i64 true 0]++[SV.iface 272 (SV.ptr 0 true 0)]))))∧(decide ((s.length:Int)<to)=false→((0:Int)≤(1:Int)∧1<(s.length:Int))∧(decide (byteAt s 1=0)=true→(lenB s to=true→sameVal (SV.tup [SV.int .i64 true 0,SV.iface 272 (SV.ptr 0 true 0)]) (SV.tup [SV.int .i64 false (part s to),SV.niliface]))∧(lenB s to=false→∃(u6:Int),SBle (SB.cells [SV.int .i64 true 1,SV.iface 27 (SV.int .i64 true 2)] 2 274) (SB.cells [SV.int .i64 false u6,SV.iface 27 (SV.int .i64 true 2)] 2 274)∧sameVal (SV.tup [SV.int .i64 true 0,SV.iface 272 (SV.ptr 0 true 0)]) (SV.tup ([SV.int .i64 true 0]++[SV.iface 272 (SV.ptr 0 true 0)]))))∧(decide (byteAt s 1=0)=false→(∃(u5:Int),(1≤u5 ∧u5≤to∧part s u5≤1048576)∧0=part s u5∧1=u5∧True)∧∀(u4:Int),1≤u4∧u4≤to∧part s u4≤1048576→(decide (u4<to)=true→((-9223372036854775808:Int)≤part s u4*256∧part s u4*256≤(9223372036854775807:Int))∧(0≤u4∧u4<(s.length:Int))∧((-9223372036854775808:Int)≤byteAt s u4∧byteAt s u4≤9223372036854775807)∧(0≤part s u4*256∧part s u4*256≤(9223372036854775807:Int)∧0≤byteAt s u4∧byteAt s u4≤9223372036854775807)∧(decide (1048576<bitsOf BinOp.or (part s u4*256) (byteAt s u4))=true→(lenB s to=true→sameVal (SV.tup [SV.int .i64 true 0,SV.iface 272 (SV.ptr ((0:Nat)+(0:Nat)) true 0)]) (SV.tup [SV.int .i64 false (part s to),SV.niliface]))∧(lenB s to=false→∃(u3:Int),SBle (SB.cells [SV.int .i64 false u4,SV.iface 27 (SV.int .i64 true 2)] 2 274) (SB.cells [SV.int .i64 false u3,SV.iface 27 (SV.int .i64 true 2)] 2 274)∧sameVal (SV.tup [SV.int .i64 true 0,SV.iface 272 (SV.ptr ((0:Nat)+(0:Nat)) true 0)]) (SV.tup ([SV.int .i64 true 0]++[SV.iface 272 (SV.ptr ((0:Nat)+(0:Nat)) true 0)]))))∧(decide (1048576<bitsOf BinOp.or (part s u4*256) (byteAt s u4))=false →((-9223372036854775808:Int)≤u4+1∧u4+1≤(9223372036854775807:Int))∧∃(u2:Int),((1≤u2∧u2≤to∧part s u2≤1048576)∧(to - u2).toNat<(to - u4).toNat)∧bitsOf BinOp.or (part s u4*256) (byteAt s u4)=part s u2∧u4+1=u2∧True))∧(decide (u4<to)=false→(decide (part s u4≤55)=true→(lenB s to=true→sameVal (SV.tup [SV.int .i64 true 0,SV.iface 272 (SV.ptr ((0:Nat)+(0:Nat)) true 0)]) (SV.tup [SV.int .i64 false (part s to),SV.niliface]))∧(lenB s to=false→∃(u1:Int),SBle (SB.cells [SV.int .i64 true 1,SV.iface 27 (SV.int .i64 true 2)] 2 274) (SB.cells [SV.int .i64 false u1,SV.iface 27 (SV.int .i64 true 2)] 2 274)∧sameVal (SV.tup [SV.int .i64 true 0,SV.iface 272 (SV.ptr ((0:Nat)+(0:Nat)) true 0)]) (SV.tup ([SV.int .i64 true 0]++[SV.iface 272 (SV.ptr ((0:Nat)+(0:Nat)) true 0)]))))∧(decide (part s u4≤55)=false→(lenB s to=true→sameVal (SV.tup [SV.int .i64 false (part s u4),SV.niliface]) (SV.tup [SV.int .i64 false (part s to),SV.niliface]))∧(lenB s to=false→∃(_u0:Int),False))))))):=by kernel_rfl
end Go.Proofs.YtoalfimkkibpdaaGreatDoor
namespace Go.Proofs.YtoalfimkkibpdaaGreatDoor
open Go Sx
set_option maxRecDepth 20000
theorem byteAt_lt (s:List UInt8)(i:Int):0≤byteAt s i∧byteAt s i<256:=by
 unfold byteAt;have:=(s.getD i.toNat 0).toNat_lt;omega
theorem num_snoc (l:List UInt8)(b:UInt8):num (l++[b])=num l*256+(b.toNat:Int):=by simp[num]
theorem part_one (s:List UInt8):part s 1=0:=by simp[part,num]
theorem part_succ {s:List UInt8} {x:Int} (h:1≤x)(h2:x<s.length):part s (x+1)=part s x*256+byteAt s x:=by
 unfold part
 have e:(x+1 - 1).toNat=(x - 1).toNat+1:=by omega
 have hx:(x - 1).toNat<(s.drop 1).length:=by simp;omega
 rw[e,List.take_add_one,List.getElem?_eq_getElem hx]
 simp only[Option.toList,num_snoc]
 have e2:byteAt s x=((s.drop 1)[(x - 1).toNat].toNat:Int):=by
  have:1+(x - 1).toNat=x.toNat:=by omega
  unfold byteAt
  rw[List.getElem_drop,List.getD_eq_getElem?_getD,List.getElem?_eq_getElem (by omega)]
  simp only[Option.getD_some,this]
 rw[e2]
theorem part_nn (s:List UInt8)(x:Int):0≤part s x:=by
 unfold part num
 suffices ∀(l:List UInt8) (a:Int),0≤a→0≤l.foldl (fun a b=>a*256+(b.toNat:Int)) a from this _ _ (Int.le_refl _)
 intro l
 induction l with
 | nil=>exact fun _ h=>h
 | cons b r ih=>intro a h;exact ih _ (show 0≤a*256+(b.toNat:Int)by omega)
theorem part_mono {s:List UInt8} {x:Int} (h:1≤x): ∀(n:Nat),x+n≤s.length→part s x≤part s (x+n)
 | 0,_=>by simp
 | n+1,hn=>by
   have h1:=part_mono (s:=s) h n (by omega)
   have h2:=part_succ (s:=s) (x:=x+n) (by omega) (by omega)
   have h3:=byteAt_lt s (x+n)
   have h4:=part_nn s (x+n)
   have:x+((n+1:Nat):Int)=x+n+1:=by omega
   rw[this,h2];omega
theorem part_le {s:List UInt8} {x y:Int} (h:1≤x)(hy:y≤s.length)(hxy:x≤y):part s x≤part s y:=by
 have:=part_mono (s:=s) h (y - x).toNat (by omega)
 rwa [show x+((y - x).toNat:Int)=y by omega] at this
theorem or_256 {a b:Int} (ha:0≤a)(hb:0≤b)(hb2:b<256):bitsOf .or (a*256) b=a*256+b:=by
 obtain⟨a,rfl⟩:=Int.eq_ofNat_of_zero_le ha
 obtain⟨b,rfl⟩:=Int.eq_ofNat_of_zero_le hb
 have:((a:Int)*256)=((a*256:Nat):Int):=by omega
 rw[this]
 show((((a*256:Nat):Int).toNat ||| (b:Int).toNat:Nat):Int)=_
 simp only[Int.toNat_natCast]
 have:=Nat.two_pow_add_eq_or_of_lt (i:=8) (b:=b) (by omega) a
 rw[show(2:Nat)^8=256 from rfl,Nat.mul_comm] at this
 omega
theorem lenB_iff {s:List UInt8} {to:Int}:lenB s to=true↔to≤s.length∧byteAt s 1≠0∧part s to≤1048576∧55<part s to:=by
 simp[lenB,and_assoc]
theorem length_holds {s:List UInt8} {to:Int} (h2:2≤to)(h3:to<100):Holds (runA (cfgL s to) 181 Tryz.f181 [.str false s,.int .i64 false to] (lengthA s to)):=by
 refine Holds.of_eq (vcLength s to) ?_
 have F: ∀ {p:Prop},¬ (to≤s.length∧byteAt s 1≠0∧part s to≤1048576∧55<part s to)→lenB s to=true→p:=fun h e=>absurd (lenB_iff.1 e) h
 refine⟨fun a=>⟨F (by simp at a;omega),fun _=>by(first | exact⟨_,SBle.cells (fun _=>rfl) rfl,fun _=>rfl⟩ | exact fun _=>rfl | trivial)⟩,fun a=> ?_⟩
 simp only[decide_eq_false_iff_not,Int.not_lt] at a
 refine⟨by omega,fun b=>⟨F (by simp at b;simp[b]),fun _=>by(first | exact⟨_,SBle.cells (fun _=>rfl) rfl,fun _=>rfl⟩ | exact fun _=>rfl | trivial)⟩,fun b=> ?_⟩
 simp only[decide_eq_false_iff_not] at b
 refine⟨⟨1,⟨by omega,by omega,by rw[part_one];decide⟩,(part_one s).symm,rfl,trivial⟩,fun x ⟨hx1,hx2,hx3⟩=> ?_⟩
 have g1:=part_nn s x
 have g2:=byteAt_lt s x
 rw[or_256 g1 g2.1 g2.2]
 refine⟨fun c=> ?_,fun c=> ?_⟩
 ·simp only[decide_eq_true_eq] at c
  have g3:=part_succ (s:=s) hx1 (by omega)
  rw[← g3]
  refine⟨by omega,by omega,by omega,by omega,fun d=>⟨F ?_,fun _=>by(first | exact⟨_,SBle.cells (fun _=>rfl) rfl,fun _=>rfl⟩ | exact fun _=>rfl | trivial)⟩,fun d=>⟨by omega,x+1,⟨⟨by omega,by omega,by simpa using d⟩,by omega⟩,rfl,rfl,trivial⟩⟩
  simp only[decide_eq_true_eq] at d
  have:=part_le (s:=s) (x:=x+1) (by omega) a (by omega)
  omega
 ·simp only[decide_eq_false_iff_not] at c
  obtain rfl:x=to:=by omega
  refine⟨fun d=>⟨F (by simp at d;omega),fun _=>by(first | exact⟨_,SBle.cells (fun _=>rfl) rfl,fun _=>rfl⟩ | exact fun _=>rfl | trivial)⟩,fun d=>⟨fun _=>by(first | exact⟨_,SBle.cells (fun _=>rfl) rfl,fun _=>rfl⟩ | exact fun _=>rfl | trivial),fun e=> ?_⟩⟩
  simp only[decide_eq_false_iff_not] at d
  rw[lenB_iff.2 ⟨a,b,hx3,by omega⟩] at e
  cases e
def lengthSpec:List SV→Option (Prop×Ans)
 | [.str false s,.int .i64 false to]=>some (2≤to∧to<100,lengthA s to)
 | _=>none
noncomputable def lengthPT:PT:=ansPT lengthSpec
theorem goodL (s:List UInt8)(to:Int):Sx.Good Tryz.prog (cfgL s to):=⟨mixes,list1_ok,fns_ok⟩
theorem faultA_ok {z:List SV} (hz:SV.wfs 0 z=true):(faultA z).Ok:=by
 intro x
 refine⟨rfl,rfl,fun k=>SV.wfs_append (SV.wfs_mono (Nat.zero_le _) z hz) ?_,fun E E' k k' h=> ?_⟩
 ·simp[SV.wfs,SV.wf,Nat.blt_eq]
 ·have hk:E k=E' k':=h rfl
  have hv:=SV.vals_pure hz E E'
  simp only[SV.vals_eq] at hv
  simp[SV.val,SV.vals_eq,hk,hv]
theorem length_ok:CallOk Tryz.prog 181 lengthPT:=by
 refine ans_ok (n:=20) (fn:=Tryz.f181) Tryz.func181 (by kernel_rfl) (by kernel_rfl) ?_
 intro args p a h hp
 unfold lengthSpec at h
 split at h
 ·rename_i s to
  injection h with h;injection h with h1 h2;subst h1;subst h2
  refine⟨_,goodL s to,rfl,fun b=> ?_,length_holds hp.1 hp.2⟩
  cases b
  ·exact faultA_ok rfl
  ·exact rfl
 ·cases h
end Go.Proofs.YtoalfimkkibpdaaGreatDoor
namespace Go.Proofs.YtoalfimkkibpdaaGreatDoor
open Go Sx
set_option maxRecDepth 20000
noncomputable def list2:List (FuncId×PT):=(181,lengthPT)::list1
theorem list2_ok:SummOk Tryz.prog (fun f=>lookPT f list2):=.cons length_ok (ansPT_mono _) list1_ok
noncomputable def cfg2:Cfg:={cfg0 with summ:=fun f=>lookPT f list2}
theorem good2:Sx.Good Tryz.prog cfg2:=⟨mixes,list2_ok,fns_ok⟩
def lead (s:List UInt8):Int:=if byteAt s 0<192 then byteAt s 0 - 128 else byteAt s 0 - 192
def cutFrom (s:List UInt8):Int:=if byteAt s 0<128 then 0 else if 55<lead s then lead s - 54 else 1
def cutN (s:List UInt8):Int:=if byteAt s 0<128 then 1 else if 55<lead s then part s (lead s - 54)else lead s
def cutB (s:List UInt8):Bool:=decide (s≠[])&&(decide (byteAt s 0<128)||((!decide (55<lead s)||lenB s (lead s - 54))&&decide (cutN s≤s.length - cutFrom s)&& !(decide (byteAt s 0<192)&&decide (lead s=1)&&decide (byteAt s 1<128))))
def cutL (s:List UInt8):Bool:=decide (192≤byteAt s 0)
def cutIn (s:List UInt8):List UInt8:=(s.drop (cutFrom s).toNat).take (cutN s).toNat
def cutRest (s:List UInt8):List UInt8:=s.drop (cutFrom s+cutN s).toNat
def cutA (s:List UInt8):Ans:=.fork (cutB s) fun b=>match b with
 | true=>.ret (.tup [.bool false (cutL s),.str false (cutIn s),.str false (cutRest s),.niliface])
 | false=>faultA [.bool true false,.str true [],.str true []]
end Go.Proofs.YtoalfimkkibpdaaGreatDoor
