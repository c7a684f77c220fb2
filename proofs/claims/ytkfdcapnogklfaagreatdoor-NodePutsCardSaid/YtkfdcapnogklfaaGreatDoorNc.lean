/-
  Calls of the library that have no body: internal/reflectlite: those that reach memory; all of them in one list.
-/
import Derived.Test.YtkfdcapnogklfaaGreatDoorNb
namespace Go.Proofs.YtkfdcapnogklfaaGreatDoor
open Go Sx Extern
theorem rlm (z : Sem Value) (f : TypeId → Addr → Nat → Nat → Sem Value) (v : Value) :
    ReflectliteValue.method z f #[v] = (do match ← ReflectliteValue.parts v with | none => z | some (t, a, fl) => f t a fl (fl % 32)) := rfl
theorem rls (v x : Value) : ReflectliteValue.set #[v, x] = (do
    let (some (dst, a, fl), some (src, b, _)) := (← ReflectliteValue.parts v, ← ReflectliteValue.parts x)
      | unsupported (.noEntry "extern/(internal/reflectlite.Value).Set.zeroValue")
    if fl / ReflectliteValue.flagAddr % 2 == 0 then unsupported (.noEntry "extern/(internal/reflectlite.Value).Set.unaddressable")
    let val ← loadVar src b
    if ← Rtype.directlyAssignable dst src then storeVar dst a val
    else if ← Rtype.implements dst src then
      if (← Rtype.kind src) == 20 then
        match val with
        | .nilIface => unsupported (.noEntry "extern/reflectlite: a nil value of one interface type handed on as a value of another")
        | _ => storeVar dst a val
      else storeVar dst a (.iface src val)
    else panicString ("reflectlite.Set: value of type " ++ (← Rtype.spelt src) ++ " is not assignable to type " ++ (← Rtype.spelt dst))
    pure (.tuple #[])) := rfl
theorem handle_run (t : Nat) (w : World) : (Rtype.handle t).run Tryz.prog w = .ok (hdV t) w := by kernel_rfl
theorem mk_run {t k : Nat} (h : (t, k) ∈ kindTab) (a : Addr) (fl : Nat) (w : World) : (ReflectliteValue.mk t a fl).run Tryz.prog w = .ok (.agg #[hdV t, .pointer (some a), .int .u64 (Int.ofNat (k + 128 + fl))]) w := by
  have h1 := kind_run _ h w
  simp only at h1
  simp only [ReflectliteValue.mk, Sem.run_bind, handle_run, h1, Result.andThen_ok, Sem.run_pure]
  rfl
theorem parts_run : ∀ p ∈ kindTab, ∀ (a : Addr) w, (ReflectliteValue.parts (.agg #[hdV p.1, .pointer (some a), .int .u64 (Int.ofNat (p.2 + 128))])).run Tryz.prog w = .ok (some (p.1, a, p.2 + 128)) w := by
  intro p hp a w
  simp only [kindTab, List.mem_cons, List.not_mem_nil, or_false] at hp
  repeat' first
    | (rcases hp with rfl | hp)
    | subst hp
    | kernel_rfl
theorem parts_run2 : ∀ p ∈ kindTab, ∀ (a : Addr) w, (ReflectliteValue.parts (.agg #[hdV p.1, .pointer (some a), .int .u64 (Int.ofNat (p.2 + 128 + 256))])).run Tryz.prog w = .ok (some (p.1, a, p.2 + 128 + 256)) w := by
  intro p hp a w
  simp only [kindTab, List.mem_cons, List.not_mem_nil, or_false] at hp
  repeat' first
    | (rcases hp with rfl | hp)
    | subst hp
    | kernel_rfl
theorem ptr_kind : ∀ p ∈ elemTab, (p.1, 22) ∈ kindTab ∧ Tryz.prog.underlying p.1 = some (.pointer p.2) := by
  intro p hp
  simp only [elemTab, List.mem_cons, List.not_mem_nil, or_false] at hp
  repeat' first
    | (rcases hp with rfl | hp)
    | subst hp
    | exact ⟨by simp [kindTab], by kernel_rfl⟩
theorem elem?_run : ∀ p ∈ elemTab, ∀ w, (Rtype.elem? p.1).run Tryz.prog w = .ok (some p.2) w := by
  intro p hp w
  simp only [elemTab, List.mem_cons, List.not_mem_nil, or_false] at hp
  repeat' first
    | (rcases hp with rfl | hp)
    | subst hp
    | kernel_rfl
noncomputable def oneCellB (t : Nat) : Bool := match Tryz.prog.underlying t with
  | some d => !isAggD d
  | none => false
theorem one_cell0 : ∀ p ∈ kindTab, oneCellB p.1 = true := by
  intro p hp
  simp only [kindTab, List.mem_cons, List.not_mem_nil, or_false] at hp
  repeat' first
    | (rcases hp with rfl | hp)
    | subst hp
    | kernel_rfl
theorem one_cell : ∀ p ∈ kindTab, ∃ d, Tryz.prog.underlying p.1 = some d ∧ isAggD d = false := by
  intro p hp
  have := one_cell0 p hp
  unfold oneCellB at this
  split at this
  · rename_i d hd; exact ⟨d, hd, by simpa using this⟩
  · cases this
theorem direct_run : ∀ p ∈ setTab, ∀ w, (Rtype.directlyAssignable p.1 p.2.1).run Tryz.prog w = .ok (!p.2.2) w := by
  intro p hp w
  simp only [setTab, List.mem_cons, List.not_mem_nil, or_false] at hp
  repeat' first
    | (rcases hp with rfl | hp)
    | subst hp
    | kernel_rfl
theorem wrap_run : ∀ p ∈ setTab, p.2.2 = true → ∀ w, (Rtype.implements p.1 p.2.1).run Tryz.prog w = .ok true w ∧ (p.2.1, 20) ∉ kindTab := by
  intro p hp hw w
  simp only [setTab, List.mem_cons, List.not_mem_nil, or_false] at hp
  repeat' first
    | (rcases hp with rfl | hp)
    | subst hp
    | cases hw
    | exact ⟨by kernel_rfl, by simp [kindTab]⟩
theorem loadVar_run {t k : Nat} (h : (t, k) ∈ kindTab) {b o : Nat} {c : Array Value} {ty : TypeId} {fr : Nat × Nat} {w : World} (hb : w.heap[b]? = some (.cells c ty fr)) {v : Value} (hv : c[o]? = some v) :
    (loadVar t ⟨b, o, none⟩).run Tryz.prog w = .ok v w := by
  obtain ⟨d, h1, h2⟩ := one_cell _ h
  simp only [loadVar, Sem.run_bind, run_isAgg h1, h2, Result.andThen_ok, Bool.false_eq_true, if_false, run_load, cell_of hb, hv]
set_option maxRecDepth 20000 in
theorem valueOf_ok : CallOk Tryz.prog 101 valueOfPT := by
  intro args m nx K h hw ha Γ E w hs
  unfold valueOfPT at h
  split at h
  · rename_i t v
    split at h
    · rename_i k hk hp
      have hm := look2_mem hk
      simp only [SV.vals, SV.val]
      have hrun : ((fun args => ReflectliteValue.unpack (args.getD 0 (.tuple #[]))) #[Value.iface t (v.val E)]).run Tryz.prog w =
          .ok (.agg #[hdV t, .pointer (some ⟨w.heap.size, 0, none⟩), .int .u64 (Int.ofNat (k + 128 + 0))]) { w with heap := w.heap.push (.cells (v.val E).cells t) } := by
        show (ReflectliteValue.unpack (Value.iface t (v.val E))).run Tryz.prog w = _
        simp only [ReflectliteValue.unpack, Sem.run_bind, newVar_run, Result.andThen_ok, mk_run hm]
      rw [extern_ok (e := fun args => ReflectliteValue.unpack (args.getD 0 (.tuple #[]))) Tryz.func101 (by kernel_rfl) (by kernel_rfl) (by kernel_rfl) (by kernel_rfl) hrun]
      simp only [Out]
      simp only [SV.wfs, SV.wf, Bool.and_true] at ha
      refine After.alloc hs hw (K := lift K) (sv := .agg [hd t, .ptr nx true 0, .int .u64 true (Int.ofNat (k + 128))]) (cells_wf ha) (map_get (by rw [SV.cells_val hp])) (map_size (E := E) (by rw [SV.cells_val hp])) h ?_
      simp [SV.val, SV.vals]
    · exact no_fail h
  · exact no_fail h
theorem heldPtr_eq {m : Mem} {v p : SV} {t : Nat} (h : heldPtr m v = some (t, p)) : ∃ key l cs tot ty k b o e, v = .agg [hd t, .ptr key true 0, .int .u64 l 150] ∧ p = .ptr k b o ∧ m.get key = some (.cells (.ptr k b o :: cs) tot ty) ∧ (t, e) ∈ elemTab := by
  unfold heldPtr at h
  split at h
  · rename_i x key l n
    split at h
    · rename_i t' k b o cs tot ty ht hk
      split at h
      · rename_i e he
        split at h
        · rename_i hn
          injection h with h; injection h with h1 h2
          subst h1; subst h2; subst hn
          exact ⟨key, l, cs, tot, ty, k, b, o, e, by rw [ofHd_eq ht], rfl, hk, look2_mem he⟩
        · cases h
      · cases h
    · cases h
  · cases h
set_option maxRecDepth 20000 in
theorem isNil_ok : CallOk Tryz.prog 103 isNilPT := by
  intro args m nx K h hw ha Γ E w hs
  unfold isNilPT at h
  split at h
  · rename_i v
    split at h
    · rename_i tp htp
      obtain ⟨t, p⟩ := tp
      obtain ⟨key, l, cs, tot, ty, k, b, o, e, hv, hp, hk, he⟩ := heldPtr_eq htp
      obtain ⟨ob, ho, c, fr, rfl, _, h2, _⟩ := hs.blk key _ hk rfl
      have h0 := h2 0 _ rfl
      obtain ⟨hkt, hun⟩ := ptr_kind _ he
      have hrun : (ReflectliteValue.method (ReflectliteValue.valueError "reflectlite.Value.IsNil" 0) ReflectliteValue.isNil #[.agg #[hdV t, .pointer (some ⟨E key, 0, none⟩), .int .u64 150]]).run Tryz.prog w = .ok (.bool false) w := by
        rw [rlm]
        have hp := parts_run _ hkt ⟨E key, 0, none⟩ w
        have hl := loadVar_run hkt ho h0
        simp only [show Int.ofNat (22 + 128) = 150 from rfl] at hp
        simp only [Sem.run_bind, hp, Result.andThen_ok, ReflectliteValue.isNil]
        simp [hl, SV.val]
      rw [hv]; simp only [SV.vals, SV.val]
      rw [extern_ok (e := ReflectliteValue.method (ReflectliteValue.valueError "reflectlite.Value.IsNil" 0) ReflectliteValue.isNil) Tryz.func103 (by kernel_rfl) (by kernel_rfl) (by kernel_rfl) (by kernel_rfl) hrun]
      simp only [Out]
      exact after_same (v := .bool true false) h hs
    · exact no_fail h
  · exact no_fail h
set_option maxRecDepth 20000 in
theorem elemV_ok : CallOk Tryz.prog 107 elemVPT := by
  intro args m nx K h hw ha Γ E w hs
  unfold elemVPT at h
  split at h
  · rename_i v
    split at h
    · rename_i t p htp
      obtain ⟨key, l, cs, tot, ty, k, b, o, e0, hv, hp, hk, he0⟩ := heldPtr_eq htp
      split at h
      · rename_i e he
        have he := look2_mem he
        split at h
        · rename_i ke hke
          have hke := look2_mem hke
          obtain ⟨ob, ho, c, fr, rfl, _, h2, _⟩ := hs.blk key _ hk rfl
          have h0 := h2 0 _ rfl
          obtain ⟨hkt, hun⟩ := ptr_kind _ he
          have hrun : (ReflectliteValue.method (ReflectliteValue.valueError "reflectlite.Value.Elem" 0) ReflectliteValue.elem #[.agg #[hdV t, .pointer (some ⟨E key, 0, none⟩), .int .u64 150]]).run Tryz.prog w = .ok (.agg #[hdV e, .pointer (some ⟨E k, o, none⟩), .int .u64 (Int.ofNat (ke + 128 + 256))]) w := by
            rw [rlm]
            have hp := parts_run _ hkt ⟨E key, 0, none⟩ w
            have hl := loadVar_run hkt ho h0
            have hel := elem?_run _ he w
            have hmk := mk_run hke ⟨E k, o, none⟩ ReflectliteValue.flagAddr w
            simp only at hel
            simp only [show Int.ofNat (22 + 128) = 150 from rfl] at hp
            simp only [Sem.run_bind, hp, Result.andThen_ok, ReflectliteValue.elem]
            simp [hl, SV.val, hel, hmk]
            rfl
          rw [hv]; simp only [SV.vals, SV.val]
          rw [extern_ok (e := ReflectliteValue.method (ReflectliteValue.valueError "reflectlite.Value.Elem" 0) ReflectliteValue.elem) Tryz.func107 (by kernel_rfl) (by kernel_rfl) (by kernel_rfl) (by kernel_rfl) hrun]
          simp only [Out]
          subst hp
          have := after_same (v := .agg [hd e, .ptr k b o, .int .u64 true (Int.ofNat (ke + 128 + 256))]) h hs
          simpa [SV.val, SV.vals] using this
        · exact no_fail h
      · exact no_fail h
    · exact no_fail h
  · exact no_fail h
end Go.Proofs.YtkfdcapnogklfaaGreatDoor
