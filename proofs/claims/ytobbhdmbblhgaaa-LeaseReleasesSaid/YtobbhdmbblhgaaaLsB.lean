/-
  Lease: contracts of calls on a table, from runs on a table alone.
-/
import Derived.Test.YtobbhdmbblhgaaaLsA
import Derived.Test.YtobbhdmbblhgaaaLsM
namespace Go.Proofs.Ytobbhdmbblhgaaa
open Go Sx

/-- Where 'live' looks through what has ended. -/
noncomputable def annEnds (T : Tb) (id : Int) : LoopAnn :=
  { α := Nat, pre := fun _ i => (i : Int) ≤ min T.ends 8 ∧ ∀ j : Nat, j < i → sel T.ring j ≠ id, mea := fun _ i => 8 - i, fresh := 0, slots := fun _ i => [(24, .int .i64 false i)], mem := fun _ _ => [] }
noncomputable def cfgL (T : Tb) (id : Int) : Cfg := { summ := baseSumm, fns := fun f => Try.prog.funcs[f]?, anns := fun f => if f = 23 then [(4, always (annEnds T id))] else [], rounds := 100 }
theorem goodL (T : Tb) (id : Int) : Good Try.prog (cfgL T id) := ⟨mixes, baseSumm_ok, fns_ok⟩
/-- A run of a method on a table. -/
noncomputable def runC (cfg : Cfg) (f : FuncId) (fn : Func) (T : Tb) (xs : List SV) (K : SV → Mem → Nat → VC) : VC :=
  runFn Try.prog (callOf Try.prog cfg 30) (cfg.anns f) cfg.rounds fn (.ptr 0 true 0 :: xs) [(0, T.sb true)] 1 K
noncomputable def runT (f : FuncId) (fn : Func) (T : Tb) (id : Int) (xs : List SV) (K : SV → Mem → Nat → VC) : VC := runC (cfgL T id) f fn T xs K

theorem Sx.SatM.pick {w0 : World} {M0 : Nat → Prop} {E : Nat → Nat} {m : Mem} {nx : Nat} {w : World} (h : SatM w0 M0 E m nx w) {j : Nat} {X Y : SB} (hX : m.get j = some X) (hle : SBle X Y) (hn : Y.no = false) (hy : Y.wf 0 = true) :
    ∃ o, w.heap[E j]? = some o ∧ BlkOk E Y o := by
  obtain ⟨h1, h2, _⟩ := hle hn
  obtain ⟨o, ho, hb⟩ := h.blk j X hX h1
  exact ⟨o, ho, h2 E o hb⟩
/-- One block serves for another one. -/
theorem Sx.SatM.swap {w0 : World} {M0 : Nat → Prop} {E : Nat → Nat} {m : Mem} {nx : Nat} {w : World} (h : SatM w0 M0 E m nx w) {j : Nat} {X Y : SB} (hX : m.get j = some X) (hle : SBle X Y) : SatM w0 M0 E (m.put j Y) nx w := by
  refine ⟨fun i Z hi hz => ?_, fun i i' Z Z' hi hz hi' hz' e => ?_, fun i Z hi => ?_, fun i Z hi hz hr => ?_, h.ext⟩
  · rcases Mem.get_put hi with ⟨rfl, rfl, _⟩ | ⟨_, hi⟩
    · obtain ⟨h1, h2, _⟩ := hle hz
      obtain ⟨o, ho, hb⟩ := h.blk i X hX h1
      exact ⟨o, ho, h2 E o hb⟩
    · exact h.blk i Z hi hz
  · rcases Mem.get_put hi with ⟨e1, e3, _⟩ | ⟨_, hi1⟩ <;> rcases Mem.get_put hi' with ⟨e2, e4, _⟩ | ⟨_, hi2⟩
    · exact e1.trans e2.symm
    · subst e1; subst e3; exact h.inj _ _ _ _ hX (hle hz).1 hi2 hz' e
    · subst e2; subst e4; exact h.inj _ _ _ _ hi1 hz hX (hle hz').1 e
    · exact h.inj _ _ _ _ hi1 hz hi2 hz' e
  · rcases Mem.get_put hi with ⟨rfl, _, _⟩ | ⟨_, hi⟩
    · exact h.lt _ _ hX
    · exact h.lt _ _ hi
  · rcases Mem.get_put hi with ⟨rfl, rfl, _⟩ | ⟨_, hi⟩
    · obtain ⟨h1, _, h3⟩ := hle hz
      exact h.own _ _ hX h1 (h3 hr)
    · exact h.own _ _ hi hz hr

theorem ofTb_get {m : Mem} {x : Tb × Int} (h : ofTb m = some x) : ∃ X, m.get 0 = some X ∧ ofBlk X = some x := by
  unfold ofTb at h
  split at h
  · rename_i B hB; exact ⟨B, hB, h⟩
  · cases h
section
variable {f : FuncId} {fn : Func} (hf : Try.prog.funcs[f]? = some fn) (hn : (fn.name == "runtime.NumGoroutine") = false) (hb : fn.body.isSome = true)
include hf hn hb
theorem tb_call {T T' : Tb} {id : Int} {xs : List SV} (hx : SV.wfs 0 xs = true) {sv : SV} (hsv : sv.wf 0 = true)
    (h : (runT f fn T id xs (postK fun v x => (∀ E, v.val E = sv.val E) ∧ IsTb x T')).holds)
    {m : Mem} {nx : Nat} {K : SV → Mem → Nat → VC} {w0 : World} {M0 : Nat → Prop} {E : Nat → Nat} {w : World} (hs : SatM w0 M0 E m nx w) {k : Nat} {B : SB} (hk : m.get k = some B) (hB : SBle B (T.sb true))
    (hK : (K sv (m.put k (T'.sb false)) nx).holds) : Out Try.prog (After (lift K) w0 M0 E nx) ((callFunc f (SV.vals E (.ptr k true 0 :: xs)).toArray).run Try.prog w) := by
  obtain ⟨hno, _, hro⟩ := hB rfl
  have h1 := hs.one hk hB rfl (T.wf_sb true)
  have hc := calls_of_run (goodL T id) hf hn hb h (by simp only [Mem.wf, Bool.and_true]; exact SV.wfs_mono (Nat.zero_le _) _ (T.wf_sb true)) (by simp only [SV.wfs, Bool.and_eq_true]; exact ⟨rfl, SV.wfs_mono (Nat.zero_le _) _ hx⟩) h1
  have hargs : SV.vals (fun _ => E k) (.ptr 0 true 0 :: xs) = SV.vals E (.ptr k true 0 :: xs) := by simp only [SV.vals, SV.val]; rw [SV.vals_pure hx]
  rw [hargs] at hc
  refine out_of_calls hf hn hb (Calls.mono hc ?_)
  rintro e w' ⟨v, rfl, E1, u, m1, nx1, g1, g2, g3, g4, g5⟩
  refine ⟨v, rfl, ?_⟩
  cases u with
  | none => exact g5.elim
  | some u =>
    simp only [lift, postK] at g5
    cases hx1 : ofTb m1 with
    | none => rw [hx1] at g5; exact g5.elim
    | some x =>
      rw [hx1] at g5
      obtain ⟨g5, g6⟩ := g5
      obtain ⟨X, hX, hXx⟩ := ofTb_get hx1
      have hle := isTb_le hXx g6 false
      have h2 := g4.swap hX hle
      have hE0 : E1 0 = E k := g1 0 (by omega)
      have hf2 := hs.frame hk hno (hro rfl) h2 hE0 (Mem.get_putEq hX) rfl rfl (T'.wf_sb false)
      refine ⟨E, some sv, _, nx, fun _ _ => rfl, Nat.le_refl _, fun y hy => ?_, hf2, hK⟩
      injection hy with hy; subst hy
      rw [g3 u rfl, g5, SV.val_pure hsv]
end
/-- Calls that do to a table what is said of them. -/
noncomputable def tbPT (sp : List SV → Option (Tb → Prop × SV × Tb)) : PT := fun args m nx K => match args with
  | .ptr k true 0 :: xs => (match sp xs with
    | some g => (match m.get k with
      | some B => .ex Tb fun T => .and (.atom (SBle B (T.sb false))) (.and (.atom (T.Ok ∧ (g T).1)) (K (g T).2.1 (m.put k ((g T).2.2.sb false)) nx))
      | none => .fail "no such table")
    | none => .fail "a call's arguments")
  | _ => .fail "a call's table"
theorem Sx.SBle.trans {A B C : SB} (h : SBle A B) (h' : SBle B C) : SBle A C := fun hn => by
  obtain ⟨a1, a2, a3⟩ := h' hn
  obtain ⟨b1, b2, b3⟩ := h a1
  exact ⟨b1, fun E o ho => a2 E o (b2 E o ho), fun hr => b3 (a3 hr)⟩
theorem tbPT_ok {f : FuncId} {fn : Func} (hf : Try.prog.funcs[f]? = some fn) (hn : (fn.name == "runtime.NumGoroutine") = false) (hb : fn.body.isSome = true) {sp : List SV → Option (Tb → Prop × SV × Tb)}
    (H : ∀ xs g T, sp xs = some g → T.Ok → (g T).1 → SV.wfs 0 xs = true ∧ (g T).2.1.wf 0 = true ∧ ∃ id, (runT f fn T id xs (postK fun v x => (∀ E, v.val E = (g T).2.1.val E) ∧ IsTb x (g T).2.2)).holds) : CallOk Try.prog f (tbPT sp) := by
  intro args m nx K h hw ha w0 M0 E w hs
  unfold tbPT at h
  split at h
  · rename_i k xs
    split at h
    · rename_i g hg
      split at h
      · rename_i B hk
        obtain ⟨T, h1, ⟨h2, h3⟩, h4⟩ := h
        obtain ⟨c1, c2, id, c3⟩ := H xs g T hg h2 h3
        exact tb_call hf hn hb c1 c2 c3 hs hk (SBle.trans h1 (lit_le T false true)) h4
      · exact h.elim
    · exact h.elim
  · exact h.elim
theorem tbPT_mono {sp : List SV → Option (Tb → Prop × SV × Tb)} : MonoPT (tbPT sp) := by
  intro args m nx K K' hK h
  unfold tbPT at h ⊢
  split at h
  · split at h
    · split at h
      · obtain ⟨T, h1, h2, h3⟩ := h
        exact ⟨T, h1, h2, hK _ _ _ h3⟩
      · exact h.elim
    · exact h.elim
  · exact h.elim

/-! ### What they do -/
def two (g : Int → Int → Tb → Prop × SV × Tb) : List SV → Option (Tb → Prop × SV × Tb)
  | [.int .i64 _ a, .int .i64 _ b] => some (g a b)
  | _ => none
def three (g : Int → Int → Int → Tb → Prop × SV × Tb) : List SV → Option (Tb → Prop × SV × Tb)
  | [.int .i64 _ a, .int .i64 _ b, .int .i64 _ c] => some (g a b c)
  | _ => none
def Tb.full (T : Tb) : Prop := T.most ≤ T.ss.length ∨ 1048576 ≤ T.opened
instance (T : Tb) : Decidable T.full := by unfold Tb.full; infer_instance
def Tb.open (T : Tb) (block clock : Int) : Tb := if T.full then T else { T with ss := T.ss ++ [⟨T.opened + 1, block, clock + T.term, 0, 0, [], 0, [], 0⟩], opened := T.opened + 1 }
def openS (block clock : Int) (T : Tb) : Prop × SV × Tb := (okClock clock, .tup [iv (if T.full then 0 else T.opened + 1), iv (if T.full then 12 else 0)], T.open block clock)
noncomputable def Tb.of (T : Tb) (id clock : Int) : Sl := if T.live id clock = 0 then (findSl id T.ss).getD Sl.zero else Sl.zero
noncomputable def findS (id clock : Int) (T : Tb) : Prop × SV × Tb := (True, .tup [.agg (T.of id clock).bare, iv (T.live id clock)], T)
noncomputable def Tb.mod (T : Tb) (id clock : Int) (f : Sl → Sl) : Tb := if T.live id clock = 0 then { T with ss := modSl id f T.ss } else T
noncomputable def renewS (id clock : Int) (T : Tb) : Prop × SV × Tb := (okClock clock, iv (T.live id clock), T.mod id clock fun s => { s with dl := clock + T.term })
noncomputable def repinS (id block clock : Int) (T : Tb) : Prop × SV × Tb := (True, .tup [iv (T.of id clock).block, iv (T.live id clock)], T.mod id clock fun s => { s with block := block })
noncomputable def Tb.rel (T : Tb) (id clock : Int) : Tb := if T.live id clock = 0 then { T with ss := delSl id T.ss } else T
noncomputable def releaseS (id clock : Int) (T : Tb) : Prop × SV × Tb := (True, .tup [iv (T.of id clock).block, iv (T.live id clock)], T.rel id clock)
end Go.Proofs.Ytobbhdmbblhgaaa
