/-
  Calls of the library that have no body: internal/reflectlite: Value.Set; all of them in one list.
-/
import Derived.Test.YtkfdcapnogklfaaGreatDoorNc
namespace Go.Proofs.YtkfdcapnogklfaaGreatDoor
open Go Sx Extern
set_option maxRecDepth 20000
theorem flag_ok : ∀ p ∈ kindTab, ((p.2 + 128 + 256) / ReflectliteValue.flagAddr % 2 == 0) = false := by
  intro p hp
  simp only [kindTab, List.mem_cons, List.not_mem_nil, or_false] at hp
  repeat' first
    | (rcases hp with rfl | hp)
    | subst hp
    | rfl
set_option maxRecDepth 20000 in
theorem storeVar_out {t : TypeId} {p x : SV} {m : Mem} {nx : Nat} {K : SV → Mem → Nat → VC} {Γ : Base} {E : Nat → Nat} {w : World} (h : (lstore Tryz.prog t (some p) (some x) m nx (fun _ m nx => K (.tup []) m nx)).holds) (hs : SatM Γ E m nx w) (hw : Mem.wf nx m = true)
    (hp : p.wf nx = true) (hx : x.wf nx = true) {a : Addr} (ha : p.val E = .pointer (some a)) (_h0 : a.spot = none) :
    ∃ w', (storeVar t a (x.val E)).run Tryz.prog w = .ok () w' ∧ After (lift K) Γ E nx (.tuple #[]) w' := by
  have := lstore_ok (P := Tryz.prog) (Γ := Γ) (m := m) (nx := nx) (σ := fun o => match o with | .tmp 0 => some p | .tmp 1 => some x | _ => none) (dst := none) (t := t) (type := 0) (pos := "") (after := #[]) (guard := none) (a := .tmp 0) (x := .tmp 1)
    (fun _ m nx => K (.tup []) m nx) E w (fun o => match o with | .tmp 0 => p.val E | .tmp 1 => x.val E | _ => undef) h hs hw (fun o v hv => by
      simp only at hv
      split at hv
      · injection hv with hv; subst hv; exact hp
      · injection hv with hv; subst hv; exact hx
      · cases hv) (fun o v hv => by
      simp only at hv ⊢
      split at hv
      · injection hv with hv; subst hv; rfl
      · injection hv with hv; subst hv; rfl
      · cases hv)
  simp only [execOp, Instr.storeAt, ha, Instr.sureAddr, Sem.run_bind, Sem.run_pure, Result.andThen_ok] at this
  generalize hr : (storeVar t a (x.val E)).run Tryz.prog w = r at this
  cases r with
  | halt e w' => simp [Result.andThen, Out] at this
  | ok u w' =>
    simp only [Result.andThen_ok, Out] at this
    obtain ⟨E', sv, m', nx', g1, g2, g3, g4, g5⟩ := this
    exact ⟨w', rfl, E', some (.tup []), m', nx', g1, g2, fun v hv => by injection hv with hv; subst hv; rfl, g4, g5⟩
set_option maxRecDepth 20000 in
theorem set_ok : CallOk Tryz.prog 108 setPT := by
  intro args m nx K h hw ha Γ E w hs
  unfold setPT at h
  split at h
  · rename_i x p l n y key l' n'
    split at h
    · rename_i a b v cs tot ty hx hy hk
      have hx := ofHd_eq hx
      have hy := ofHd_eq hy
      split at h
      · rename_i wrap k k' hwr hka hkb
        have hwr := look3_mem hwr
        have hka := look2_mem hka
        have hkb := look2_mem hkb
        split at h
        · rename_i hn
          obtain ⟨rfl, rfl⟩ := hn
          obtain ⟨ob, ho, c, fr, rfl, _, h2, _⟩ := hs.blk key _ hk rfl
          have h0 := h2 0 _ rfl
          have hvw : v.wf nx = true := SV.wfs_get (Mem.wf_get hw hk) (i := 0) rfl
          have hpw : p.wf nx = true := by
            simp only [SV.wfs, SV.wf, Bool.and_eq_true] at ha
            exact ha.1.2.1
          have hpp : ∃ q, p.val E = .pointer (some q) ∧ q.spot = none := by
            unfold lstore at h
            split at h
            · rename_i e _ _; injection e with e; subst e; exact ⟨_, rfl, rfl⟩
            · rename_i e _ _; injection e with e; subst e; exact ⟨_, rfl, rfl⟩
            · rename_i e _ _; injection e with e; subst e; exact ⟨_, rfl, rfl⟩
            · rename_i e _ _; injection e with e; subst e; exact ⟨_, rfl, rfl⟩
            · exact no_fail h
          obtain ⟨q, hq, hsp⟩ := hpp
          obtain ⟨w', hst, haft⟩ := storeVar_out h hs hw hpw (by cases wrap <;> exact hvw) hq hsp
          have hp1 := parts_run2 _ hka q w
          have hp2 := parts_run _ hkb ⟨E key, 0, none⟩ w
          have hd := direct_run _ hwr w
          have hl := loadVar_run hkb ho h0
          simp only at hp1 hp2 hd
          have hflag : ((k + 128 + 256) / ReflectliteValue.flagAddr % 2 == 0) = false := flag_ok _ hka
          have hrun : (ReflectliteValue.set #[.agg #[hdV a, .pointer (some q), .int .u64 (Int.ofNat (k + 128 + 256))], .agg #[hdV b, .pointer (some ⟨E key, 0, none⟩), .int .u64 (Int.ofNat (k' + 128))]]).run Tryz.prog w = .ok (.tuple #[]) w' := by
            rw [rls]
            simp only [Sem.run_bind, hp1, hp2, Result.andThen_ok, hflag, Bool.false_eq_true, if_false, hl, hd]
            cases wrap with
            | false =>
              simp only [Bool.not_false, if_true]
              try simp only at hst
              rw [Sem.run_bind, hst]
              rfl
            | true =>
              obtain ⟨hi, hne⟩ := wrap_run _ hwr rfl w
              have hkk := kind_run _ hkb w
              simp only at hi hkk
              have h20 : (k' == 20) = false := by
                simp only [beq_eq_false_iff_ne, ne_eq]
                intro e; subst e; exact hne hkb
              simp only [Bool.not_true, Bool.false_eq_true, if_false, Sem.run_bind, hi, Result.andThen_ok, if_true, hkk, h20]
              simp only [SV.val] at hst
              rw [hst]
              rfl
          rw [hx, hy]; simp only [SV.vals, SV.val, hq]
          rw [extern_ok (e := ReflectliteValue.set) Tryz.func108 (by kernel_rfl) (by kernel_rfl) (by kernel_rfl) (by kernel_rfl) hrun]
          exact haft
        · exact no_fail h
      · exact no_fail h
    · exact no_fail h
  · exact no_fail h
/-! ### Monotone -/
theorem mono_typeOf : MonoPT typeOfPT := by
  intro args m nx K K' hK h; unfold typeOfPT at h ⊢; split at h; exact hK _ _ _ h; exact no_fail h
theorem mono_comparable : MonoPT comparablePT := by
  intro args m nx K K' hK h; unfold comparablePT at h ⊢; repeat' split at h
  all_goals first | exact no_fail h | (simp only [*]; done) | (simp only [*]; exact hK _ _ _ h)
theorem mono_kind : MonoPT kindPT := by
  intro args m nx K K' hK h; unfold kindPT at h ⊢; repeat' split at h
  all_goals first | exact no_fail h | (simp only [*]; done) | (simp only [*]; exact hK _ _ _ h)
theorem mono_elemT : MonoPT elemTPT := by
  intro args m nx K K' hK h; unfold elemTPT at h ⊢; repeat' split at h
  all_goals first | exact no_fail h | (simp only [*]; done) | (simp only [*]; exact hK _ _ _ h)
theorem mono_rel (tab : List (Nat × Nat × Bool)) : MonoPT (relPT tab) := by
  intro args m nx K K' hK h; unfold relPT at h ⊢; repeat' split at h
  all_goals first | exact no_fail h | (simp only [*, if_true]; done) | (simp only [*, if_true]; exact hK _ _ _ h)
theorem mono_type : MonoPT typePT := by
  intro args m nx K K' hK h; unfold typePT at h ⊢; repeat' split at h
  all_goals first | exact no_fail h | (simp only [*, if_true]; done) | (simp only [*, if_true]; exact hK _ _ _ h)
theorem mono_valueOf : MonoPT valueOfPT := by
  intro args m nx K K' hK h; unfold valueOfPT at h ⊢; repeat' split at h
  all_goals first | exact no_fail h | (simp only [*]; done) | (simp only [*]; exact hK _ _ _ h)
theorem mono_isNil : MonoPT isNilPT := by
  intro args m nx K K' hK h; unfold isNilPT at h ⊢; repeat' split at h
  all_goals first | exact no_fail h | (simp only [*]; done) | (simp only [*]; exact hK _ _ _ h)
theorem mono_elemV : MonoPT elemVPT := by
  intro args m nx K K' hK h; unfold elemVPT at h ⊢; repeat' split at h
  all_goals first | exact no_fail h | (simp only [*]; done) | (simp only [*]; exact hK _ _ _ h)
theorem lstore_mono {P : Program} {t : TypeId} {a x : Option SV} {m : Mem} {nx : Nat} {K K' : KL} (hK : ∀ v m nx, (K v m nx).holds → (K' v m nx).holds) (h : (lstore P t a x m nx K).holds) : (lstore P t a x m nx K').holds := by
  unfold lstore at h ⊢; repeat' split at h
  all_goals first | exact no_fail h | exact hK _ _ _ h | exact ⟨h.1, hK _ _ _ h.2⟩ | (simp only [*, if_true]; done) | (simp only [*, if_true]; exact hK _ _ _ h) | (simp only [*, if_true]; exact ⟨h.1, hK _ _ _ h.2⟩)
theorem mono_set : MonoPT setPT := by
  intro args m nx K K' hK h; unfold setPT at h ⊢
  split at h
  · split at h
    · split at h
      · split at h
        · rename_i hn
          simp only [*, and_self, if_true]
          exact lstore_mono (fun _ _ _ => hK _ _ _) h
        · exact no_fail h
      · exact no_fail h
    · exact no_fail h
  · exact no_fail h
noncomputable def reflList : List (FuncId × PT) := [(90, typeOfPT), (135, comparablePT), (125, kindPT), (136, elemTPT),
  (137, implPT), (134, assignPT), (102, typePT), (101, valueOfPT),
  (103, isNilPT), (107, elemVPT), (108, setPT)]
theorem reflList_ok : SummOk Tryz.prog (fun f => lookPT f reflList) := by
  unfold reflList
  apply SummOk.cons
  · exact typeOf_ok
  · exact mono_typeOf
  apply SummOk.cons
  · exact comparable_ok
  · exact mono_comparable
  apply SummOk.cons
  · exact kind_ok
  · exact mono_kind
  apply SummOk.cons
  · exact elemT_ok
  · exact mono_elemT
  apply SummOk.cons
  · exact impl_ok
  · exact mono_rel _
  apply SummOk.cons
  · exact assign_ok
  · exact mono_rel _
  apply SummOk.cons
  · exact type_ok
  · exact mono_type
  apply SummOk.cons
  · exact valueOf_ok
  · exact mono_valueOf
  apply SummOk.cons
  · exact isNil_ok
  · exact mono_isNil
  apply SummOk.cons
  · exact elemV_ok
  · exact mono_elemV
  apply SummOk.cons
  · exact set_ok
  · exact mono_set
  exact SummOk.nil
end Go.Proofs.YtkfdcapnogklfaaGreatDoor
