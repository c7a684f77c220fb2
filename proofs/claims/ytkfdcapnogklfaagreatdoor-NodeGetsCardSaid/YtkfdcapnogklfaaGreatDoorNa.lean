/-
  Rlp: which types are asked of internal/reflectlite.
-/
import Derived.Test.YtkfdcapnogklfaaGreatDoorProg
import Derived.Test.YtkfdcapnogklfaaGreatDoorMf
import Derived.Laws.Externs
namespace Go.Proofs.YtkfdcapnogklfaaGreatDoor
open Go
def hB : Nat := 3
noncomputable def kindTab : List (Nat × Nat) := [(28, 2), (112, 22), (115, 20), (117, 22), (118, 22)]
noncomputable def elemTab : List (Nat × Nat) := [(117, 115), (118, 28)]
noncomputable def compTab : List (Nat × Bool) := [(28, true)]
noncomputable def implTab : List (Nat × Nat × Bool) := [(28, 85, true)]
noncomputable def assignTab : List (Nat × Nat × Bool) := [(28, 28, true),
  (112, 28, false), (112, 115, true)]
noncomputable def noTab : List (Nat × Nat × Bool) := [(28, 115, false)]
noncomputable def setTab : List (Nat × Nat × Bool) := [(28, 28, false), (115, 112, true)]
end Go.Proofs.YtkfdcapnogklfaaGreatDoor
/-
  Calls of the library that have no body: internal/reflectlite, as errors.Is and errors.As need it; by tables of types.
-/
namespace Go.Proofs.YtkfdcapnogklfaaGreatDoor
open Go Sx
theorem extern_ok {P : Program} {f : FuncId} {fn : Func} {e : Array Value → Sem Value} (hf : P.funcs[f]? = some fn) (h1 : (fn.name == "runtime.NumGoroutine") = false) (h2 : fn.body.isNone = true)
    (h3 : Extern.findNext fn = none) (h4 : Extern.find fn = some e) {args : Array Value} {v : Value} {w w' : World} (h : (e args).run P w = .ok v w') : (callFunc f args).run P w = .ok (.value v) w' := by
  rw [run_callFunc_extern hf h1 h2 h3 h4, h]; rfl
abbrev rtypeT : TypeId := 126
noncomputable abbrev hdV (t : Nat) : Value := .pointer (some ⟨hB, t, none⟩)
noncomputable abbrev hd (t : Nat) : SV := .raw (hdV t)
noncomputable abbrev tyV (t : Nat) : SV := .iface rtypeT (.agg [hd t])
def look2 {β : Type} (a : Nat) : List (Nat × β) → Option β
  | [] => none
  | e :: r => if e.1 = a then some e.2 else look2 a r
theorem look2_mem {β : Type} {a : Nat} {b : β} : ∀ {l : List (Nat × β)}, look2 a l = some b → (a, b) ∈ l
  | [], h => by cases h
  | e :: r, h => by
    unfold look2 at h
    split at h
    · rename_i he; injection h with h; subst h; subst he; simp
    · exact List.mem_cons_of_mem _ (look2_mem h)
def look3 {β : Type} (a b : Nat) : List (Nat × Nat × β) → Option β
  | [] => none
  | e :: r => if e.1 = a ∧ e.2.1 = b then some e.2.2 else look3 a b r
theorem look3_mem {β : Type} {a b : Nat} {c : β} : ∀ {l : List (Nat × Nat × β)}, look3 a b l = some c → (a, b, c) ∈ l
  | [], h => by cases h
  | e :: r, h => by
    unfold look3 at h
    split at h
    · rename_i he; injection h with h; subst h; obtain ⟨rfl, rfl⟩ := he; simp
    · exact List.mem_cons_of_mem _ (look3_mem h)
noncomputable def ofHd : SV → Option Nat
  | .raw (.pointer (some ⟨b, t, none⟩)) => if b = hB then some t else none
  | _ => none
theorem ofHd_eq {v : SV} {t : Nat} (h : ofHd v = some t) : v = hd t := by
  unfold ofHd at h
  split at h
  · rename_i b t'
    split at h
    · rename_i e; injection h with h; subst h; subst e; rfl
    · cases h
  · cases h
/-! ### What they mean -/
noncomputable def typeOfPT : PT := fun args m nx K => match args with
  | [.iface t _] => K (tyV t) m nx
  | _ => .fail "TypeOf"
noncomputable def comparablePT : PT := fun args m nx K => match args with
  | [.agg [h]] => (match ofHd h with
    | some t => (match look2 t compTab with
      | some b => K (.bool true b) m nx
      | none => .fail "Comparable")
    | none => .fail "Comparable")
  | _ => .fail "Comparable"
noncomputable def valueOfPT : PT := fun args m nx K => match args with
  | [.iface t v] => (match look2 t kindTab, v.plain with
    | some k, true => K (.agg [hd t, .ptr nx true 0, .int .u64 true (Int.ofNat (k + 128))]) ((nx, .cells v.cells v.cells.length t) :: m) (nx + 1)
    | _, _ => .fail "ValueOf")
  | _ => .fail "ValueOf"
noncomputable def typePT : PT := fun args m nx K => match args with
  | [.agg [h, .ptr _ true 0, .int .u64 _ n]] => (match ofHd h with
    | some t => (match look2 t kindTab with
      | some k => if n = Int.ofNat (k + 128) then K (tyV t) m nx else .fail "Value.Type"
      | none => .fail "Value.Type")
    | none => .fail "Value.Type")
  | _ => .fail "Value.Type"
noncomputable def kindPT : PT := fun args m nx K => match args with
  | [h] => (match ofHd h with
    | some t => (match look2 t kindTab with
      | some k => K (.int .u8 true (Int.ofNat k)) m nx
      | none => .fail "Kind")
    | none => .fail "Kind")
  | _ => .fail "Kind"
noncomputable def elemTPT : PT := fun args m nx K => match args with
  | [.agg [h]] => (match ofHd h with
    | some t => (match look2 t elemTab with
      | some e => K (tyV e) m nx
      | none => .fail "Elem")
    | none => .fail "Elem")
  | _ => .fail "Elem"
noncomputable def relPT (tab : List (Nat × Nat × Bool)) : PT := fun args m nx K => match args with
  | [.agg [h], .iface t (.agg [g])] => (match ofHd h, ofHd g with
    | some a, some b => (match look3 a b tab with
      | some c => if t = rtypeT then K (.bool true c) m nx else .fail "a relation of types"
      | none => .fail "a relation of types")
    | _, _ => .fail "a relation of types")
  | _ => .fail "a relation of types"
noncomputable def heldPtr (m : Mem) : SV → Option (Nat × SV)
  | .agg [h, .ptr key true 0, .int .u64 _ n] => (match ofHd h, m.get key with
    | some t, some (.cells (.ptr k b o :: _) _ _) => (match look2 t elemTab with
      | some _ => if n = 150 then some (t, .ptr k b o) else none
      | none => none)
    | _, _ => none)
  | _ => none
noncomputable def isNilPT : PT := fun args m nx K => match args with
  | [v] => (match heldPtr m v with
    | some _ => K (.bool true false) m nx
    | none => .fail "IsNil")
  | _ => .fail "IsNil"
noncomputable def elemVPT : PT := fun args m nx K => match args with
  | [v] => (match heldPtr m v with
    | some (t, p) => (match look2 t elemTab with
      | some e => (match look2 e kindTab with
        | some k => K (.agg [hd e, p, .int .u64 true (Int.ofNat (k + 128 + 256))]) m nx
        | none => .fail "Value.Elem")
      | none => .fail "Value.Elem")
    | none => .fail "Value.Elem")
  | _ => .fail "Value.Elem"
noncomputable def setPT : PT := fun args m nx K => match args with
  | [.agg [h, p, .int .u64 _ n], .agg [g, .ptr key true 0, .int .u64 _ n']] => (match ofHd h, ofHd g, m.get key with
    | some a, some b, some (.cells (v :: _) _ _) => (match look3 a b setTab, look2 a kindTab, look2 b kindTab with
      | some wrap, some k, some k' => if n = Int.ofNat (k + 128 + 256) ∧ n' = Int.ofNat (k' + 128) then
          lstore Tryz.prog a (some p) (some (match wrap with | true => .iface b v | false => v)) m nx (fun _ m nx => K (.tup []) m nx) else .fail "Value.Set"
      | _, _, _ => .fail "Value.Set")
    | _, _, _ => .fail "Value.Set")
  | _ => .fail "Value.Set"
noncomputable def assignPT : PT := relPT (assignTab ++ noTab)
noncomputable def implPT : PT := relPT implTab
/-! ### The tables are right -/
theorem kind_run : ∀ p ∈ kindTab, ∀ w, (Extern.Rtype.kind p.1).run Tryz.prog w = .ok p.2 w := by
  intro p hp w
  simp only [kindTab, List.mem_cons, List.not_mem_nil, or_false] at hp
  repeat' first
    | (rcases hp with rfl | hp)
    | subst hp
    | kernel_rfl
theorem comp_run : ∀ p ∈ compTab, ∀ w, ((Extern.ReflectliteType.method fun t => do Extern.Rtype.noPackHeld "Comparable" t; pure (.bool (← typeInfo t).comparable)) #[.agg #[hdV p.1]]).run Tryz.prog w = .ok (.bool p.2) w := by
  intro p hp w
  simp only [compTab, List.mem_cons, List.not_mem_nil, or_false] at hp
  repeat' first
    | (rcases hp with rfl | hp)
    | subst hp
    | kernel_rfl
theorem type_run : ∀ p ∈ kindTab, ∀ (a : Addr) w, (Extern.ReflectliteValue.methodAny (Extern.ReflectliteValue.valueError "reflectlite.Value.Type" 0) (fun t _ _ _ => Extern.ReflectliteType.toType t) #[.agg #[hdV p.1, .pointer (some a), .int .u64 (Int.ofNat (p.2 + 128))]]).run Tryz.prog w
    = .ok (.iface rtypeT (.agg #[hdV p.1])) w := by
  intro p hp a w
  simp only [kindTab, List.mem_cons, List.not_mem_nil, or_false] at hp
  repeat' first
    | (rcases hp with rfl | hp)
    | subst hp
    | kernel_rfl
theorem abiKind_run : ∀ p ∈ kindTab, ∀ w, ((Extern.ReflectliteType.abiMethod fun t => do pure (.int .u8 (Int.ofNat (← Extern.Rtype.kind t)))) #[hdV p.1]).run Tryz.prog w = .ok (.int .u8 (Int.ofNat p.2)) w := by
  intro p hp w
  simp only [kindTab, List.mem_cons, List.not_mem_nil, or_false] at hp
  repeat' first
    | (rcases hp with rfl | hp)
    | subst hp
    | kernel_rfl
theorem elemT_run : ∀ p ∈ elemTab, ∀ w, (Extern.ReflectliteType.method Extern.ReflectliteType.elem #[.agg #[hdV p.1]]).run Tryz.prog w = .ok (.iface rtypeT (.agg #[hdV p.2])) w := by
  intro p hp w
  simp only [elemTab, List.mem_cons, List.not_mem_nil, or_false] at hp
  repeat' first
    | (rcases hp with rfl | hp)
    | subst hp
    | kernel_rfl
theorem impl_run : ∀ p ∈ implTab, ∀ w, (Extern.ReflectliteType.relation "Implements" Extern.ReflectliteType.implements_ #[.agg #[hdV p.1], .iface rtypeT (.agg #[hdV p.2.1])]).run Tryz.prog w = .ok (.bool p.2.2) w := by
  intro p hp w
  simp only [implTab, List.mem_cons, List.not_mem_nil, or_false] at hp
  repeat' first
    | (rcases hp with rfl | hp)
    | subst hp
    | kernel_rfl
theorem assign_run : ∀ p ∈ assignTab, ∀ w, (Extern.ReflectliteType.relation "AssignableTo" Extern.ReflectliteType.assignableTo #[.agg #[hdV p.1], .iface rtypeT (.agg #[hdV p.2.1])]).run Tryz.prog w = .ok (.bool p.2.2) w := by
  intro p hp w
  simp only [assignTab, List.mem_cons, List.not_mem_nil, or_false] at hp
  repeat' first
    | (rcases hp with rfl | hp)
    | subst hp
    | kernel_rfl
noncomputable def wantOf (t : Nat) : Array (String × TypeId) := match Tryz.prog.underlying t with
  | some (.interface l) => l
  | _ => #[]
noncomputable def gotOf (t : Nat) : Array Method := match Tryz.prog.info? t with
  | some i => i.methods
  | none => #[]
theorem no_run0 : ∀ p ∈ noTab, ∀ w, (Extern.ReflectliteType.relation "AssignableTo" Extern.ReflectliteType.assignableTo #[.agg #[hdV p.1], .iface rtypeT (.agg #[hdV p.2.1])]).run Tryz.prog w = .ok (.bool (false || (Instr.missingMethod (wantOf p.2.1) (gotOf p.1)).isNone)) w := by
  intro p hp w
  simp only [noTab, List.mem_cons, List.not_mem_nil, or_false] at hp
  repeat' first
    | (rcases hp with rfl | hp)
    | subst hp
    | kernel_rfl
theorem no_lacks : ∀ p ∈ noTab, lacks (wantOf p.2.1) (gotOf p.1) = true ∧ p.2.2 = false := by
  intro p hp
  simp only [noTab, List.mem_cons, List.not_mem_nil, or_false] at hp
  repeat' first
    | (rcases hp with rfl | hp)
    | subst hp
    | exact ⟨by kernel_rfl, rfl⟩
theorem no_run : ∀ p ∈ noTab, ∀ w, (Extern.ReflectliteType.relation "AssignableTo" Extern.ReflectliteType.assignableTo #[.agg #[hdV p.1], .iface rtypeT (.agg #[hdV p.2.1])]).run Tryz.prog w = .ok (.bool p.2.2) w := by
  intro p hp w
  obtain ⟨h1, h2⟩ := no_lacks p hp
  obtain ⟨m, hm⟩ := lacks_true h1
  rw [no_run0 p hp w, h2, hm]
  rfl
theorem typeOf_run (t : Nat) (v : Value) (w : World) : (Extern.ReflectliteType.typeOf #[.iface t v]).run Tryz.prog w = .ok (.iface rtypeT (.agg #[hdV t])) w := by kernel_rfl
end Go.Proofs.YtkfdcapnogklfaaGreatDoor
