/-
  Lease: summaries of the methods; a run of 'do'.
-/
import Derived.Test.YtobbhdmbblhgaaaLsW4
namespace Go.Proofs.Ytobbhdmbblhgaaa
open Go Sx

theorem tbPT_ok' {f : FuncId} {fn : Func} (hf : Try.prog.funcs[f]? = some fn) (hn : (fn.name == "runtime.NumGoroutine") = false) (hb : fn.body.isSome = true) {sp : List SV → Option (Tb → Prop × SV × Tb)}
    (H : ∀ xs g T, sp xs = some g → T.Ok → (g T).1 → ∃ xs' id, SV.wfs 0 xs' = true ∧ (∀ E, SV.vals E xs' = SV.vals E xs) ∧ (g T).2.1.wf 0 = true ∧ Holds (runT f fn T id xs' (postK (MPost (g T).2.1 (g T).2.2)))) : CallOk Try.prog f (tbPT sp) := by
  intro args m nx K h hw ha w0 M0 E w hs
  unfold tbPT at h
  split at h
  · rename_i k xs
    split at h
    · rename_i g hg
      split at h
      · rename_i B hk
        obtain ⟨T, h1, ⟨h2, h3⟩, h4⟩ := h
        obtain ⟨xs', id, c1, c2, c3, c4⟩ := H xs g T hg h2 h3
        have he : SV.vals E (.ptr k true 0 :: xs) = SV.vals E (.ptr k true 0 :: xs') := by simp only [SV.vals]; rw [c2]
        rw [he]
        refine tb_call (T' := (g T).2.2) (sv := (g T).2.1) (id := id) hf hn hb c1 c3 ?_ hs hk (SBle.trans h1 (lit_le T false true)) h4
        exact runFn_mono (fun f => (callOf_ok (goodL T id) 30).2 f) _ _ _ _ _ (fun v m nx hh => by
          unfold postK at hh ⊢
          split at hh
          · exact ⟨hh.val, hh.tb⟩
          · exact hh.elim) c4.out
      · exact h.elim
    · exact h.elim
  · exact h.elim
theorem rowPT_ok' {f : FuncId} {fn : Func} (hf : Try.prog.funcs[f]? = some fn) (hn : (fn.name == "runtime.NumGoroutine") = false) (hb : fn.body.isSome = true) {sp : List SV → Option (Tb → Prop × Bool × List Sl × Tb)}
    (H : ∀ xs g T, sp xs = some g → T.Ok → (g T).1 → ∃ xs', SV.wfs 0 xs' = true ∧ (∀ E, SV.vals E xs' = SV.vals E xs) ∧ ∃ cfg K0, Good Try.prog cfg ∧ Holds (runC cfg f fn T xs' K0) ∧ ∀ v m nx, (K0 v m nx).holds → GivesRow (g T).2.1 (g T).2.2.1 (g T).2.2.2 v m) : CallOk Try.prog f (rowPT sp) := by
  intro args m nx K h hw ha w0 M0 E w hs
  unfold rowPT at h
  split at h
  · rename_i k xs
    split at h
    · rename_i g hg
      split at h
      · rename_i B hk
        obtain ⟨T, h1, ⟨h2, h3⟩, h4⟩ := h
        obtain ⟨xs', c1, c0, cfg, K0, c2, c3, c4⟩ := H xs g T hg h2 h3
        have he : SV.vals E (.ptr k true 0 :: xs) = SV.vals E (.ptr k true 0 :: xs') := by simp only [SV.vals]; rw [c0]
        rw [he]
        exact gives_call hf hn hb c2 c1 c3.out c4 hs hw hk (SBle.trans h1 (lit_le T false true)) h4
      · exact h.elim
    · exact h.elim
  · exact h.elim
/-- The cells of a table of which nothing is known. -/
def slotAt (l : List Sl) (i : Nat) : Sl := l.getD i Sl.zero
def Tb.svO (T : Tb) : List SV :=
  [iv T.most, iv T.term] ++ ((slotAt T.ss 0).sv ++ ((slotAt T.ss 1).sv ++ ((slotAt T.ss 2).sv ++ ((slotAt T.ss 3).sv ++ [iv T.ss.length, iv T.opened, iv T.e0, iv T.e1, iv T.e2, iv T.e3, iv T.e4, iv T.e5, iv T.e6, iv T.e7, iv T.ends]))))
def Tb.sbO (T : Tb) : SB := .cells T.svO 49 tableT
theorem Tb.sbO_eq (T : Tb) : T.sbO = T.sb false := by
  have : T.svO = T.sv false := by
    obtain ⟨most, term, ss, opened, e0, e1, e2, e3, e4, e5, e6, e7, ends⟩ := T
    match ss with
    | [] => rfl
    | [a] => rfl
    | [a, b] => rfl
    | [a, b, c] => rfl
    | a :: b :: c :: d :: r => rfl
  unfold Tb.sbO Tb.sb
  rw [this]
noncomputable def tbPTO (sp : List SV → Option (Tb → Prop × SV × Tb)) : PT := fun args m nx K => match args with
  | .ptr k true 0 :: xs => (match sp xs with
    | some g => (match m.get k with
      | some B => .ex Tb fun T => .and (.atom (SBle B T.sbO)) (.and (.atom (T.Ok ∧ (g T).1)) (K (g T).2.1 (m.put k (g T).2.2.sbO) nx))
      | none => .fail "no such table")
    | none => .fail "a call's arguments")
  | _ => .fail "a call's table"
theorem tbPTO_eq (sp : List SV → Option (Tb → Prop × SV × Tb)) : tbPTO sp = tbPT sp := by
  unfold tbPTO
  rw [show Tb.sbO = (fun T => T.sb false) from funext Tb.sbO_eq]
  rfl
noncomputable def rowPTO (sp : List SV → Option (Tb → Prop × Bool × List Sl × Tb)) : PT := fun args m nx K => match args with
  | .ptr k true 0 :: xs => (match sp xs with
    | some g => (match m.get k with
      | some B => .ex Tb fun T => .and (.atom (SBle B T.sbO)) (.and (.atom (T.Ok ∧ (g T).1)) (.all Nat fun c => .imp ((g T).2.2.1.length ≤ c)
          (K (.rslc nx 4 (g T).2.1 0 (g T).2.2.1.length c) ((nx, .rows (g T).2.1 (g T).2.2.1.length (sessCols (g T).2.2.1) false (c * 4) sessT) :: m.put k (g T).2.2.2.sbO) (nx + 1))))
      | none => .fail "no such table")
    | none => .fail "a call's arguments")
  | _ => .fail "a call's table"
theorem rowPTO_eq (sp : List SV → Option (Tb → Prop × Bool × List Sl × Tb)) : rowPTO sp = rowPT sp := by
  unfold rowPTO
  rw [show Tb.sbO = (fun T => T.sb false) from funext Tb.sbO_eq]
  rfl
theorem tbPTO_mono {sp : List SV → Option (Tb → Prop × SV × Tb)} : MonoPT (tbPTO sp) := by rw [tbPTO_eq]; exact tbPT_mono
theorem rowPTO_mono {sp : List SV → Option (Tb → Prop × Bool × List Sl × Tb)} : MonoPT (rowPTO sp) := by rw [rowPTO_eq]; exact rowPT_mono
def noArgs {α : Type _} (g : α) : List SV → Option α
  | [] => some g
  | _ => none
def oneArg {α : Type _} (g : Int → α) : List SV → Option α
  | [.int .i64 _ a] => some (g a)
  | _ => none
def storeArgs {α : Type _} (g : Int → Int → List UInt8 → α) : List SV → Option α
  | [.int .i64 _ a, .int .i64 _ b, .str _ t] => some (g a b t)
  | _ => none
theorem two_some {g : Int → Int → Tb → Prop × SV × Tb} {xs : List SV} {r : Tb → Prop × SV × Tb} (h : two g xs = some r) : ∃ a b, r = g a b ∧ (SV.wfs 0 [iv a, iv b] = true ∧ ∀ E, SV.vals E [iv a, iv b] = SV.vals E xs) := by
  unfold two at h
  split at h
  · injection h with h; exact ⟨_, _, h.symm, rfl, fun E => rfl⟩
  · cases h
theorem three_some {g : Int → Int → Int → Tb → Prop × SV × Tb} {xs : List SV} {r : Tb → Prop × SV × Tb} (h : three g xs = some r) : ∃ a b c, r = g a b c ∧ (SV.wfs 0 [iv a, iv b, iv c] = true ∧ ∀ E, SV.vals E [iv a, iv b, iv c] = SV.vals E xs) := by
  unfold three at h
  split at h
  · injection h with h; exact ⟨_, _, _, h.symm, rfl, fun E => rfl⟩
  · cases h
theorem noArgs_some {α : Type _} {g r : α} {xs : List SV} (h : noArgs g xs = some r) : r = g ∧ xs = [] := by
  unfold noArgs at h
  split at h
  · injection h with h; exact ⟨h.symm, rfl⟩
  · cases h
theorem oneArg_some {α : Type _} {g : Int → α} {r : α} {xs : List SV} (h : oneArg g xs = some r) : ∃ a, r = g a ∧ (SV.wfs 0 [iv a] = true ∧ ∀ E, SV.vals E [iv a] = SV.vals E xs) := by
  unfold oneArg at h
  split at h
  · injection h with h; exact ⟨_, h.symm, rfl, fun E => rfl⟩
  · cases h
theorem storeArgs_some {α : Type _} {g : Int → Int → List UInt8 → α} {r : α} {xs : List SV} (h : storeArgs g xs = some r) : ∃ a b t, r = g a b t ∧ (SV.wfs 0 [iv a, iv b, .str false t] = true ∧ ∀ E, SV.vals E [iv a, iv b, .str false t] = SV.vals E xs) := by
  unfold storeArgs at h
  split at h
  · injection h with h; exact ⟨_, _, _, h.symm, rfl, fun E => rfl⟩
  · cases h
theorem open_ok : CallOk Try.prog 20 (tbPTO (two openS)) := by
  rw [tbPTO_eq]
  refine tbPT_ok' Try.func20 (by kernel_rfl) (by kernel_rfl) fun xs g T hg hT hp => ?_
  obtain ⟨a, b, rfl, h1, h2⟩ := two_some hg
  obtain ⟨i, h⟩ := open_holds hT a b hp
  exact ⟨_, i, h1, h2, rfl, h⟩
theorem find_ok : CallOk Try.prog 14 (tbPTO (two findS)) := by
  rw [tbPTO_eq]
  refine tbPT_ok' Try.func14 (by kernel_rfl) (by kernel_rfl) fun xs g T hg hT hp => ?_
  obtain ⟨a, b, rfl, h1, h2⟩ := two_some hg
  obtain ⟨i, h⟩ := find_holds hT a b
  exact ⟨_, i, h1, h2, rfl, h⟩
theorem renew_ok : CallOk Try.prog 15 (tbPTO (two renewS)) := by
  rw [tbPTO_eq]
  refine tbPT_ok' Try.func15 (by kernel_rfl) (by kernel_rfl) fun xs g T hg hT hp => ?_
  obtain ⟨a, b, rfl, h1, h2⟩ := two_some hg
  obtain ⟨i, h⟩ := renew_holds hT a b hp
  exact ⟨_, i, h1, h2, rfl, h⟩
theorem repin_ok : CallOk Try.prog 21 (tbPTO (three repinS)) := by
  rw [tbPTO_eq]
  refine tbPT_ok' Try.func21 (by kernel_rfl) (by kernel_rfl) fun xs g T hg hT hp => ?_
  obtain ⟨a, b, c, rfl, h1, h2⟩ := three_some hg
  obtain ⟨i, h⟩ := repin_holds hT a b c
  exact ⟨_, i, h1, h2, rfl, h⟩
theorem release_ok : CallOk Try.prog 17 (tbPTO (two releaseS)) := by
  rw [tbPTO_eq]
  refine tbPT_ok' Try.func17 (by kernel_rfl) (by kernel_rfl) fun xs g T hg hT hp => ?_
  obtain ⟨a, b, rfl, h1, h2⟩ := two_some hg
  obtain ⟨i, h⟩ := release_holds hT a b
  exact ⟨_, i, h1, h2, rfl, h⟩
theorem store_ok : CallOk Try.prog 19 (tbPTO (storeArgs storeS)) := by
  rw [tbPTO_eq]
  refine tbPT_ok' Try.func19 (by kernel_rfl) (by kernel_rfl) fun xs g T hg hT hp => ?_
  obtain ⟨a, b, t, rfl, h1, h2⟩ := storeArgs_some hg
  obtain ⟨i, h⟩ := store_holds hT a b t
  exact ⟨_, i, h1, h2, rfl, h⟩
theorem replay_ok : CallOk Try.prog 18 (tbPTO (two replayS)) := by
  rw [tbPTO_eq]
  refine tbPT_ok' Try.func18 (by kernel_rfl) (by kernel_rfl) fun xs g T hg hT hp => ?_
  obtain ⟨a, b, rfl, h1, h2⟩ := two_some hg
  obtain ⟨i, h⟩ := replay_holds hT a b
  exact ⟨_, i, h1, h2, rfl, h⟩
theorem kept_ok : CallOk Try.prog 12 (tbPTO (noArgs keptS)) := by
  rw [tbPTO_eq]
  refine tbPT_ok' Try.func12 (by kernel_rfl) (by kernel_rfl) fun xs g T hg hT hp => ?_
  obtain ⟨rfl, rfl⟩ := noArgs_some hg
  obtain ⟨i, h⟩ := kept_holds hT
  exact ⟨_, i, rfl, fun _ => rfl, rfl, h⟩
theorem expire_ok : CallOk Try.prog 13 (rowPTO (oneArg expireS)) := by
  rw [rowPTO_eq]
  refine rowPT_ok' Try.func13 (by kernel_rfl) (by kernel_rfl) fun xs g T hg hT hp => ?_
  obtain ⟨a, rfl, h1, h2⟩ := oneArg_some hg
  exact ⟨_, h1, h2, cfgE T a, _, goodE T a, expire_holds hT a, fun v m nx h => rowK2_gives h⟩
theorem all_ok : CallOk Try.prog 11 (rowPTO (noArgs allS)) := by
  rw [rowPTO_eq]
  refine rowPT_ok' Try.func11 (by kernel_rfl) (by kernel_rfl) fun xs g T hg hT hp => ?_
  obtain ⟨rfl, rfl⟩ := noArgs_some hg
  exact ⟨_, rfl, fun _ => rfl, cfgL T 0, _, goodL T 0, all_holds hT, fun v m nx h => rowK_gives h⟩
/-- All summaries so far. -/
noncomputable def listM : List (FuncId × PT) := (20, tbPTO (two openS)) :: (14, tbPTO (two findS)) :: (15, tbPTO (two renewS)) :: (21, tbPTO (three repinS)) :: (17, tbPTO (two releaseS)) :: (19, tbPTO (storeArgs storeS)) :: (18, tbPTO (two replayS)) :: (12, tbPTO (noArgs keptS)) :: (13, rowPTO (oneArg expireS)) :: (11, rowPTO (noArgs allS)) :: (7, worksPT) :: (9, fewPT) :: (16, samePT) :: baseList
noncomputable def summM (f : FuncId) : Option PT := lookPT f listM
theorem summM_ok : SummOk Try.prog summM := .cons open_ok tbPTO_mono (.cons find_ok tbPTO_mono (.cons renew_ok tbPTO_mono (.cons repin_ok tbPTO_mono (.cons release_ok tbPTO_mono (.cons store_ok tbPTO_mono (.cons replay_ok tbPTO_mono (.cons kept_ok tbPTO_mono (.cons expire_ok rowPTO_mono (.cons all_ok rowPTO_mono (.cons works_ok works_mono (.cons few_ok few_mono (.cons same_ok same_mono baseSumm_ok))))))))))))
noncomputable def cfgM : Cfg := { summ := summM, fns := fun f => Try.prog.funcs[f]?, anns := fun _ => [], rounds := 10 }
theorem goodM : Good Try.prog cfgM := ⟨mixes, summM_ok, fns_ok⟩

/-! ### do -/
structure To where
  e : Int
  n : Int
  text : List UInt8
  s : Sl
  all : List Sl
noncomputable def toldK (post : Int → Int → List UInt8 → Sl → Option (Nat × Nat × SB) → SB → Prop) : SV → Mem → Nat → VC := fun v m _ => match m.get 0 with
  | some B0 => (match v with
    | .agg [.int .i64 _ e, .int .i64 _ n, .str _ t, .int .i64 _ a, .int .i64 _ b, .int .i64 _ d, .int .i64 _ l, .nilslc] => .atom (post e n t ⟨a, b, d, l, 0, [], 0, [], 0⟩ none B0)
    | .agg [.int .i64 _ e, .int .i64 _ n, .str _ t, .int .i64 _ a, .int .i64 _ b, .int .i64 _ d, .int .i64 _ l, .rslc (j + 1) 4 true 0 n' c] => (match m.get (j + 1) with
      | some B => .atom (post e n t ⟨a, b, d, l, 0, [], 0, [], 0⟩ (some (n', c, B)) B0)
      | none => .fail "told: no block")
    | _ => .fail "told")
  | none => .fail "no table"
noncomputable def doVC (T : Tb) (a : Ac) (post : Int → Int → List UInt8 → Sl → Option (Nat × Nat × SB) → SB → Prop) : VC :=
  runFn Try.prog (callOf Try.prog cfgM 30) (cfgM.anns 10) cfgM.rounds Try.f10 [.ptr 0 true 0, .agg [iv a.k, iv a.id, iv a.block, iv a.clock, iv a.seq, .str false a.text]] [(0, T.sbO)] 1 (toldK post)
end Go.Proofs.Ytobbhdmbblhgaaa
