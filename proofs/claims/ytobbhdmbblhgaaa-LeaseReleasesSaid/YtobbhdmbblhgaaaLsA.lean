/-
  Lease: the executor's set-up for this program: calls of the library that have no body.
-/
import Derived.Test.YtobbhdmbblhgaaaSxT
import Derived.Test.YtobbhdmbblhgaaaRows
import Derived.Laws.Externs
namespace Go.Proofs.Ytobbhdmbblhgaaa
open Go Sx

/-- A call of a function without a body. -/
theorem extern_ok {P : Program} {f : FuncId} {fn : Func} {e : Array Value → Sem Value} (hf : P.funcs[f]? = some fn) (h1 : (fn.name == "runtime.NumGoroutine") = false) (h2 : fn.body.isNone = true)
    (h3 : Extern.findNext fn = none) (h4 : Extern.find fn = some e) {args : Array Value} {v : Value} {w : World} (h : (e args).run P w = .ok v w) : (callFunc f args).run P w = .ok (.value v) w := by
  rw [run_callFunc_extern hf h1 h2 h3 h4, h]; rfl
abbrev errnoT : TypeId := 27
abbrev rtypeT : TypeId := 80
noncomputable def typeOfPT : PT := fun args m nx K => match args with
  | [.iface t _] => if t = errnoT then K (.iface rtypeT (.agg [.raw (.pointer (some ⟨Try.prog.globals.size, errnoT, none⟩))])) m nx else .fail "TypeOf"
  | _ => .fail "TypeOf"
noncomputable def comparablePT : PT := fun args m nx K => match args with
  | [.agg [.raw (.pointer (some ⟨b, t, none⟩))]] => if b = Try.prog.globals.size ∧ t = errnoT then K (.bool true true) m nx else .fail "Comparable"
  | _ => .fail "Comparable"
theorem typeOf_run (v : Value) (w : World) : (Extern.ReflectliteType.typeOf #[.iface errnoT v]).run Try.prog w = .ok (.iface rtypeT (.agg #[.pointer (some ⟨Try.prog.globals.size, errnoT, none⟩)])) w := by kernel_rfl
theorem comparable_run (w : World) : ((Extern.ReflectliteType.method fun t => do Extern.Rtype.noPackHeld "Comparable" t; pure (.bool (← typeInfo t).comparable)) #[.agg #[.pointer (some ⟨Try.prog.globals.size, errnoT, none⟩)]]).run Try.prog w = .ok (.bool true) w := by kernel_rfl
theorem typeOf_ok : CallOk Try.prog 27 typeOfPT := by
  intro args m nx K h hw ha w0 M0 E w hs
  unfold typeOfPT at h
  split at h
  · rename_i t v
    split at h
    · rename_i e; subst e
      simp only [SV.vals, SV.val]
      rw [extern_ok (e := Extern.ReflectliteType.typeOf) Try.func27 (by kernel_rfl) (by kernel_rfl) (by kernel_rfl) (by kernel_rfl) (typeOf_run _ w)]
      exact ⟨E, some _, m, nx, fun _ _ => rfl, Nat.le_refl _, fun u hu => by injection hu with hu; subst hu; simp [SV.val, SV.vals], hs, h⟩
    · exact h.elim
  · exact h.elim
theorem comparable_ok : CallOk Try.prog 50 comparablePT := by
  intro args m nx K h hw ha w0 M0 E w hs
  unfold comparablePT at h
  split at h
  · rename_i b t
    split at h
    · rename_i e; obtain ⟨rfl, rfl⟩ := e
      simp only [SV.vals, SV.val]
      rw [extern_ok (e := Extern.ReflectliteType.method fun t => do Extern.Rtype.noPackHeld "Comparable" t; pure (.bool (← typeInfo t).comparable)) Try.func50 (by kernel_rfl) (by kernel_rfl) (by kernel_rfl) (by kernel_rfl) (comparable_run w)]
      exact ⟨E, some _, m, nx, fun _ _ => rfl, Nat.le_refl _, fun u hu => by injection hu with hu; subst hu; rfl, hs, h⟩
    · exact h.elim
  · exact h.elim
theorem typeOf_mono : MonoPT typeOfPT := by
  intro args m nx K K' hK h
  unfold typeOfPT at h ⊢
  split at h
  · split at h
    · rename_i e; rw [if_pos e]; exact hK _ _ _ h
    · exact h.elim
  · exact h.elim
theorem comparable_mono : MonoPT comparablePT := by
  intro args m nx K K' hK h
  unfold comparablePT at h ⊢
  split at h
  · split at h
    · rename_i e; rw [if_pos e]; exact hK _ _ _ h
    · exact h.elim
  · exact h.elim
noncomputable def baseList : List (FuncId × PT) := [(27, typeOfPT), (50, comparablePT)]
noncomputable def baseSumm (f : FuncId) : Option PT := lookPT f baseList
theorem baseSumm_ok : SummOk Try.prog baseSumm := .cons typeOf_ok typeOf_mono (.cons comparable_ok comparable_mono .nil)
theorem mixes : Try.prog.follows .mixedOrders = true := by kernel_rfl
theorem names_ok : (Try.prog.funcs.all fun fn => !(fn.name == "runtime.NumGoroutine")) = true := by kernel_rfl
theorem fns_ok (f : FuncId) (fn : Func) (h : Try.prog.funcs[f]? = some fn) : Try.prog.funcs[f]? = some fn ∧ (fn.name == "runtime.NumGoroutine") = false := by
  refine ⟨h, ?_⟩
  have := Array.all_eq_true'.1 names_ok fn (Array.mem_of_getElem? h)
  simpa using this
/-- The set-up: bodies from the program; the two calls without a body. -/
noncomputable def cfg0 : Cfg := { summ := baseSumm, fns := fun f => Try.prog.funcs[f]?, anns := fun _ => [], rounds := 100 }
theorem good0 : Good Try.prog cfg0 := ⟨mixes, baseSumm_ok, fns_ok⟩
end Go.Proofs.Ytobbhdmbblhgaaa
