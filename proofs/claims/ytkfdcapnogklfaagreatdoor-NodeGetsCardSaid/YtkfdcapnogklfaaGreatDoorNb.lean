/-
  Calls of the library that have no body: internal/reflectlite: that they serve.
-/
import Derived.Test.YtkfdcapnogklfaaGreatDoorNa
namespace Go.Proofs.YtkfdcapnogklfaaGreatDoor
open Go Sx
set_option maxRecDepth 20000
/-! ### They serve -/
theorem no_fail {s : String} {α : Prop} (h : (VC.fail s).holds) : α := False.elim h
section
variable {K : SV → Mem → Nat → VC} {Γ : Base} {E : Nat → Nat} {nx : Nat} {m : Mem} {w : World}
theorem after_same {v : SV} (h : (K v m nx).holds) (hs : SatM Γ E m nx w) : After (lift K) Γ E nx (v.val E) w :=
  ⟨E, some v, m, nx, fun _ _ => rfl, Nat.le_refl _, fun u hu => by injection hu with hu; subst hu; rfl, hs, h⟩
end
theorem typeOf_ok : CallOk Tryz.prog 90 typeOfPT := by
  intro args m nx K h hw ha Γ E w hs
  unfold typeOfPT at h
  split at h
  · rename_i t v
    simp only [SV.vals, SV.val]
    rw [extern_ok (e := Extern.ReflectliteType.typeOf) Tryz.func90 (by kernel_rfl) (by kernel_rfl) (by kernel_rfl) (by kernel_rfl) (typeOf_run t _ w)]
    simp only [Out]
    exact after_same (v := tyV t) h hs
  · exact no_fail h
set_option maxRecDepth 20000 in
theorem comparable_ok : CallOk Tryz.prog 135 comparablePT := by
  intro args m nx K h hw ha Γ E w hs
  unfold comparablePT at h
  split at h
  · rename_i x
    split at h
    · rename_i t ht
      have hx := ofHd_eq ht
      split at h
      · rename_i b hb
        rw [hx]; simp only [SV.vals, SV.val]
        rw [extern_ok (e := Extern.ReflectliteType.method fun t => do Extern.Rtype.noPackHeld "Comparable" t; pure (.bool (← typeInfo t).comparable)) Tryz.func135 (by kernel_rfl) (by kernel_rfl) (by kernel_rfl) (by kernel_rfl) (comp_run _ (look2_mem hb) w)]
        simp only [Out]
        exact after_same (v := .bool true b) h hs
      · exact no_fail h
    · exact no_fail h
  · exact no_fail h
set_option maxRecDepth 20000 in
theorem kind_ok : CallOk Tryz.prog 125 kindPT := by
  intro args m nx K h hw ha Γ E w hs
  unfold kindPT at h
  split at h
  · rename_i x
    split at h
    · rename_i t ht
      have hx := ofHd_eq ht
      split at h
      · rename_i k hk
        rw [hx]; simp only [SV.vals, SV.val]
        rw [extern_ok (e := Extern.ReflectliteType.abiMethod fun t => do pure (.int .u8 (← Extern.Rtype.kind t))) Tryz.func125 (by kernel_rfl) (by kernel_rfl) (by kernel_rfl) (by kernel_rfl) (abiKind_run _ (look2_mem hk) w)]
        simp only [Out]
        exact after_same (v := .int .u8 true (Int.ofNat k)) h hs
      · exact no_fail h
    · exact no_fail h
  · exact no_fail h
set_option maxRecDepth 20000 in
theorem elemT_ok : CallOk Tryz.prog 136 elemTPT := by
  intro args m nx K h hw ha Γ E w hs
  unfold elemTPT at h
  split at h
  · rename_i x
    split at h
    · rename_i t ht
      have hx := ofHd_eq ht
      split at h
      · rename_i e he
        rw [hx]; simp only [SV.vals, SV.val]
        rw [extern_ok (e := Extern.ReflectliteType.method Extern.ReflectliteType.elem) Tryz.func136 (by kernel_rfl) (by kernel_rfl) (by kernel_rfl) (by kernel_rfl) (elemT_run _ (look2_mem he) w)]
        simp only [Out]
        exact after_same (v := tyV e) h hs
      · exact no_fail h
    · exact no_fail h
  · exact no_fail h
set_option maxRecDepth 20000 in
theorem impl_ok : CallOk Tryz.prog 137 implPT := by
  intro args m nx K h hw ha Γ E w hs
  unfold implPT relPT at h
  split at h
  · rename_i x t y
    split at h
    · rename_i a b hx hy
      have hx := ofHd_eq hx
      have hy := ofHd_eq hy
      split at h
      · rename_i c hc
        split at h
        · rename_i e; subst e
          rw [hx, hy]; simp only [SV.vals, SV.val]
          rw [extern_ok (e := Extern.ReflectliteType.relation "Implements" Extern.ReflectliteType.implements_) Tryz.func137 (by kernel_rfl) (by kernel_rfl) (by kernel_rfl) (by kernel_rfl) (impl_run _ (look3_mem hc) w)]
          simp only [Out]
          exact after_same (v := .bool true c) h hs
        · exact no_fail h
      · exact no_fail h
    · exact no_fail h
  · exact no_fail h
set_option maxRecDepth 20000 in
theorem assign_ok : CallOk Tryz.prog 134 assignPT := by
  intro args m nx K h hw ha Γ E w hs
  unfold assignPT relPT at h
  split at h
  · rename_i x t y
    split at h
    · rename_i a b hx hy
      have hx := ofHd_eq hx
      have hy := ofHd_eq hy
      split at h
      · rename_i c hc
        split at h
        · rename_i e; subst e
          rw [hx, hy]; simp only [SV.vals, SV.val]
          have hrun : (Extern.ReflectliteType.relation "AssignableTo" Extern.ReflectliteType.assignableTo #[.agg #[hdV a], .iface rtypeT (.agg #[hdV b])]).run Tryz.prog w = .ok (.bool c) w := by
            rcases List.mem_append.1 (look3_mem hc) with h1 | h1
            · exact assign_run _ h1 w
            · exact no_run _ h1 w
          rw [extern_ok (e := Extern.ReflectliteType.relation "AssignableTo" Extern.ReflectliteType.assignableTo) Tryz.func134 (by kernel_rfl) (by kernel_rfl) (by kernel_rfl) (by kernel_rfl) hrun]
          simp only [Out]
          exact after_same (v := .bool true c) h hs
        · exact no_fail h
      · exact no_fail h
    · exact no_fail h
  · exact no_fail h
set_option maxRecDepth 20000 in
theorem type_ok : CallOk Tryz.prog 102 typePT := by
  intro args m nx K h hw ha Γ E w hs
  unfold typePT at h
  split at h
  · rename_i x key l n
    split at h
    · rename_i t ht
      have hx := ofHd_eq ht
      split at h
      · rename_i k hk
        split at h
        · rename_i e; subst e
          rw [hx]; simp only [SV.vals, SV.val]
          rw [extern_ok (e := Extern.ReflectliteValue.methodAny (Extern.ReflectliteValue.valueError "reflectlite.Value.Type" 0) (fun t _ _ _ => Extern.ReflectliteType.toType t)) Tryz.func102 (by kernel_rfl) (by kernel_rfl) (by kernel_rfl) (by kernel_rfl) (type_run _ (look2_mem hk) _ w)]
          simp only [Out]
          exact after_same (v := tyV t) h hs
        · exact no_fail h
      · exact no_fail h
    · exact no_fail h
  · exact no_fail h
end Go.Proofs.YtkfdcapnogklfaaGreatDoor
