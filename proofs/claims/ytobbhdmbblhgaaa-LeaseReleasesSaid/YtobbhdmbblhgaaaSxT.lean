/-
  The framework's nineteenth part: a call's contract, shown on the blocks that it reaches, holds whatever else there is.
-/
import Derived.Test.YtobbhdmbblhgaaaSxS
namespace Go.Proofs.Ytobbhdmbblhgaaa.Sx
open Go

theorem BlkOk.pure {B : SB} (hw : B.wf 0 = true) {E E' : Nat → Nat} {o : Obj} (h : BlkOk E B o) : BlkOk E' B o := h.congr (nx := 0) (fun k hk => by omega) hw
theorem SV.val_pure {v : SV} (hw : v.wf 0 = true) (E E' : Nat → Nat) : v.val E = v.val E' := SV.val_congr (nx := 0) (fun k hk => by omega) v hw
theorem SV.vals_pure {l : List SV} (hw : SV.wfs 0 l = true) (E E' : Nat → Nat) : SV.vals E l = SV.vals E' l := SV.vals_congr (nx := 0) (fun k hk => by omega) l hw
theorem Mem.get_putNe {key : Nat} {B : SB} : ∀ {m : Mem} {k : Nat}, k ≠ key → (Mem.put key B m).get k = m.get k
  | [], _, _ => rfl
  | e :: r, k, h => by
    by_cases he : e.1 = key
    · rw [Mem.put, if_pos he, Mem.get, Mem.get, if_neg (fun x => h (x.symm.trans he)), if_neg (fun x => h (x.symm.trans he))]
    · rw [Mem.put, if_neg he, Mem.get, Mem.get, Mem.get_putNe h]
theorem Mem.get_putEq {key : Nat} {B X : SB} : ∀ {m : Mem}, m.get key = some X → (Mem.put key B m).get key = some B
  | [], h => by cases h
  | e :: r, h => by
    by_cases he : e.1 = key
    · rw [Mem.put, if_pos he, Mem.get, if_pos he]
    · rw [Mem.get, if_neg he] at h
      rw [Mem.put, if_neg he, Mem.get, if_neg he]; exact Mem.get_putEq h

/-- What a call may reach begins so. -/
theorem SatM.one {w0 M0 E m nx w} (h : SatM w0 M0 E m nx w) {k : Nat} {B B' : SB} (hk : m.get k = some B) (hB : SBle B B') (hn : B'.no = false) (hw : B'.wf 0 = true) : SatM w (fun b => b = E k) (fun _ => E k) [(0, B')] 1 w := by
  obtain ⟨h1, h2, _⟩ := hB hn
  obtain ⟨o, ho, hb⟩ := h.blk k B hk h1
  refine ⟨fun j X hj hx => ?_, fun j j' X X' hj _ hj' _ _ => ?_, fun j X hj => ?_, fun j X hj _ _ => .inl rfl, Ext.refl _ _⟩
  · rcases Mem.get_cons hj with ⟨rfl, rfl⟩ | ⟨_, hj⟩
    · exact ⟨o, ho, (h2 E o hb).pure hw⟩
    · cases hj
  · rcases Mem.get_cons hj with ⟨e, _⟩ | ⟨_, hj⟩
    · rcases Mem.get_cons hj' with ⟨e', _⟩ | ⟨_, hj'⟩
      · exact e.trans e'.symm
      · cases hj'
    · cases hj
  · rcases Mem.get_cons hj with ⟨rfl, _⟩ | ⟨_, hj⟩
    · omega
    · cases hj
theorem SatM.none (w : World) : SatM w (fun _ => False) (fun _ => 0) [] 0 w :=
  ⟨(fun _ _ h => by cases h), (fun _ _ _ _ h => by cases h), (fun _ _ h => by cases h), (fun _ _ h => by cases h), Ext.refl _ _⟩
/-- Nothing was changed. -/
theorem SatM.still {w0 M0 E m nx w} (h : SatM w0 M0 E m nx w) {w' : World} (hx : Ext (fun _ => False) w w') : SatM w0 M0 E m nx w' := by
  refine ⟨fun k B hk hn => ?_, h.inj, h.lt, h.own, h.ext.trans ⟨hx.os, hx.tape, hx.output, hx.size, fun k hk _ => hx.block k hk (fun h => h)⟩⟩
  obtain ⟨o, ho, hb⟩ := h.blk k B hk hn
  exact ⟨o, by rw [hx.block _ (Array.getElem?_eq_some_iff.1 ho).1 (fun h => h)]; exact ho, hb⟩
/-- One block was changed. -/
theorem SatM.frame {w0 M0 E m nx w} (h : SatM w0 M0 E m nx w) {k : Nat} {B : SB} (hk : m.get k = some B) (hn : B.no = false) (hro : B.ro = false) {E1 : Nat → Nat} {m1 : Mem} {nx1 : Nat} {w' : World}
    (h1 : SatM w (fun b => b = E k) E1 m1 nx1 w') (hE : E1 0 = E k) {B1 : SB} (hB1 : m1.get 0 = some B1) (hn1 : B1.no = false) (hr1 : B1.ro = false) (hw1 : B1.wf 0 = true) : SatM w0 M0 E (m.put k B1) nx w' := by
  refine ⟨fun j X hj hx => ?_, fun j j' X X' hj hnj hj' hnj' e => ?_, fun j X hj => ?_, fun j X hj hnj hr => ?_, ⟨h1.ext.os.trans h.ext.os, h1.ext.tape.trans h.ext.tape, h1.ext.output.trans h.ext.output, Nat.le_trans h.ext.size h1.ext.size, fun i hi hm => (h1.ext.block i (Nat.lt_of_lt_of_le hi h.ext.size) (fun e => ?_)).trans (h.ext.block i hi hm)⟩⟩
  · rcases Mem.get_put hj with ⟨rfl, rfl, _⟩ | ⟨hne, hj⟩
    · obtain ⟨o, ho, hb⟩ := h1.blk 0 X hB1 hn1
      exact ⟨o, by rw [← hE]; exact ho, hb.pure hw1⟩
    · obtain ⟨o, ho, hb⟩ := h.blk j X hj hx
      have hd : ¬ (E j = E k) := fun e => hne (h.inj j k X B hj hx hk hn e)
      exact ⟨o, by rw [h1.ext.block _ (Array.getElem?_eq_some_iff.1 ho).1 hd]; exact ho, hb⟩
  · rcases Mem.get_put hj with ⟨e1, _, _⟩ | ⟨_, hj1⟩ <;> rcases Mem.get_put hj' with ⟨e2, _, _⟩ | ⟨_, hj2⟩
    · exact e1.trans e2.symm
    · subst e1; exact h.inj _ _ _ _ hk hn hj2 hnj' e
    · subst e2; exact h.inj _ _ _ _ hj1 hnj hk hn e
    · exact h.inj _ _ _ _ hj1 hnj hj2 hnj' e
  · rcases Mem.get_put hj with ⟨rfl, _, _⟩ | ⟨_, hj⟩
    · exact h.lt _ _ hk
    · exact h.lt _ _ hj
  · rcases Mem.get_put hj with ⟨rfl, _, _⟩ | ⟨_, hj⟩
    · exact h.own _ _ hk hn hro
    · exact h.own _ _ hj hnj hr
  · -- a block of 'w' that was not to be changed
    subst e
    rcases h.own k B hk hn hro with h' | h'
    · exact hm h'
    · omega
/-- .. and there is one block more. -/
theorem SatM.frame2 {w0 M0 E m nx w} (h : SatM w0 M0 E m nx w) (hw : Mem.wf nx m = true) {k : Nat} {B : SB} (hk : m.get k = some B) (hn : B.no = false) (hro : B.ro = false) {E1 : Nat → Nat} {m1 : Mem} {nx1 : Nat} {w' : World}
    (h1 : SatM w (fun b => b = E k) E1 m1 nx1 w') (hE : E1 0 = E k) {B1 : SB} (hB1 : m1.get 0 = some B1) (hn1 : B1.no = false) (hr1 : B1.ro = false) (hw1 : B1.wf 0 = true)
    {j : Nat} (hj : j ≠ 0) {B2 : SB} (hB2 : m1.get j = some B2) (hw2 : B2.wf 0 = true) (hr2 : B2.ro = false) :
    ∃ E', (∀ i, i < nx → E' i = E i) ∧ (B2.no = false → E' nx = E1 j) ∧ SatM w0 M0 E' ((nx, B2) :: m.put k B1) (nx + 1) w' := by
  have hf := h.frame hk hn hro h1 hE hB1 hn1 hr1 hw1
  have hlt : ∀ i X, (m.put k B1).get i = some X → X.no = false → E i < w'.heap.size := fun i X hi hX => by
    obtain ⟨o, ho, _⟩ := hf.blk i X hi hX
    exact (Array.getElem?_eq_some_iff.1 ho).1
  have hwp : Mem.wf nx (m.put k B1) = true := by
    have : ∀ (m : Mem), Mem.wf nx m = true → Mem.wf nx (m.put k B1) = true := by
      intro m
      induction m with
      | nil => intro _; rfl
      | cons e r ih =>
        intro hh
        simp only [Mem.wf, Bool.and_eq_true] at hh
        by_cases he : e.1 = k
        · rw [Mem.put, if_pos he]; simp only [Mem.wf, Bool.and_eq_true]
          refine ⟨?_, hh.2⟩
          cases B1 with
          | cells cs tot ty => exact SV.wfs_mono (Nat.zero_le _) cs hw1
          | rows => rfl
          | view => rfl
        · rw [Mem.put, if_neg he]; simp only [Mem.wf, Bool.and_eq_true]; exact ⟨hh.1, ih hh.2⟩
    exact this m hw
  cases hno : B2.no with
  | true =>
    refine ⟨fun i => if i = nx then w'.heap.size else E i, fun i hi => by simp [Nat.ne_of_lt hi], (fun h => by cases h), ?_⟩
    exact hf.push hwp (fun _ _ h => h) (fun i X hi hX => Nat.ne_of_lt (hlt i X hi hX)) (fun _ _ _ => rfl) hf.ext (fun hx => by rw [hno] at hx; cases hx) (fun hx => by rw [hno] at hx; cases hx)
  | false =>
    obtain ⟨o, ho, hb⟩ := h1.blk j B2 hB2 hno
    have hne : E1 j ≠ E k := fun e => hj (h1.inj j 0 B2 B1 hB2 hno hB1 hn1 (e.trans hE.symm))
    have hge : w.heap.size ≤ E1 j := by
      rcases h1.own j B2 hB2 hno hr2 with e | e
      · exact absurd e hne
      · exact e
    refine ⟨fun i => if i = nx then E1 j else E i, fun i hi => by simp [Nat.ne_of_lt hi], fun _ => by simp, ?_⟩
    refine hf.push hwp (fun _ _ h => h) (fun i X hi hX e => ?_) (fun _ _ _ => rfl) hf.ext (fun _ _ => .inr (Nat.le_trans h.ext.size hge)) (fun _ => ⟨o, ho, hb.pure hw2⟩)
    rcases Mem.get_put hi with ⟨rfl, _, _⟩ | ⟨_, hi⟩
    · exact hne e.symm
    · obtain ⟨o', ho', _⟩ := h.blk i X hi hX
      have := (Array.getElem?_eq_some_iff.1 ho').1
      omega
/-- A new block, beside what there is. -/
theorem SatM.still2 {w0 M0 E m nx w} (h : SatM w0 M0 E m nx w) (hw : Mem.wf nx m = true) {E1 : Nat → Nat} {m1 : Mem} {nx1 : Nat} {w' : World}
    (h1 : SatM w (fun _ => False) E1 m1 nx1 w') {j : Nat} {B2 : SB} (hB2 : m1.get j = some B2) (hw2 : B2.wf 0 = true) (hr2 : B2.ro = false) :
    ∃ E', (∀ i, i < nx → E' i = E i) ∧ (B2.no = false → E' nx = E1 j) ∧ SatM w0 M0 E' ((nx, B2) :: m) (nx + 1) w' := by
  have hf := h.still h1.ext
  have hlt : ∀ i X, m.get i = some X → X.no = false → E i < w.heap.size := fun i X hi hX => by
    obtain ⟨o, ho, _⟩ := h.blk i X hi hX
    exact (Array.getElem?_eq_some_iff.1 ho).1
  cases hno : B2.no with
  | true =>
    refine ⟨fun i => if i = nx then w.heap.size else E i, fun i hi => by simp [Nat.ne_of_lt hi], (fun h => by cases h), ?_⟩
    exact hf.push hw (fun _ _ h => h) (fun i X hi hX => Nat.ne_of_lt (hlt i X hi hX)) (fun _ _ _ => rfl) hf.ext (fun hx => by rw [hno] at hx; cases hx) (fun hx => by rw [hno] at hx; cases hx)
  | false =>
    obtain ⟨o, ho, hb⟩ := h1.blk j B2 hB2 hno
    have hge : w.heap.size ≤ E1 j := by
      rcases h1.own j B2 hB2 hno hr2 with e | e
      · exact e.elim
      · exact e
    refine ⟨fun i => if i = nx then E1 j else E i, fun i hi => by simp [Nat.ne_of_lt hi], fun _ => by simp, ?_⟩
    refine hf.push hw (fun _ _ h => h) (fun i X hi hX e => ?_) (fun _ _ _ => rfl) hf.ext (fun _ _ => .inr (Nat.le_trans h.ext.size hge)) (fun _ => ⟨o, ho, hb.pure hw2⟩)
    have := hlt i X hi hX
    omega
section
variable {P : Program} {cfg : Cfg}
/-- A call, by its run. -/
theorem out_of_calls {f : FuncId} {fn : Func} (hf : P.funcs[f]? = some fn) (hn : (fn.name == "runtime.NumGoroutine") = false) (hb : fn.body.isSome = true) {args : Array Value} {w : World} {Q : Value → World → Prop}
    (h : Calls P f args w fun e w' => ∃ v, e = .returned v ∧ Q v w') : Out P Q ((callFunc f args).run P w) := by
  obtain ⟨body, hb⟩ := Option.isSome_iff_exists.1 hb
  rw [callFunc_run hf hn hb]
  exact h
end
/-- What is said of a condition, in a form that is not unfolded. -/
structure Holds (v : VC) : Prop where
  out : v.holds
theorem Holds.of_eq {v : VC} {p : Prop} (e : v.holds = p) (h : p) : Holds v := ⟨e.symm ▸ h⟩
theorem calls_of_holds {P : Program} {cfg : Cfg} (hg : Good P cfg) {f : FuncId} {fn : Func} (hf : P.funcs[f]? = some fn) (hn : (fn.name == "runtime.NumGoroutine") = false) (hb : fn.body.isSome = true) {n : Nat} {args : List SV} {m : Mem} {nx : Nat} {K : SV → Mem → Nat → VC}
    (h : Holds (runFn P (callOf P cfg n) (cfg.anns f) cfg.rounds fn args m nx K)) (hm : Mem.wf nx m = true) (ha : SV.wfs nx args = true) {w0 : World} {M0 : Nat → Prop} {E : Nat → Nat} {w : World} (hs : SatM w0 M0 E m nx w) :
    Calls P f (SV.vals E args).toArray w fun e w' => ∃ v, e = .returned v ∧ After (lift K) w0 M0 E nx v w' := calls_of_run hg hf hn hb h.out hm ha hs
/-- Summaries by the functions' numbers. -/
def lookPT (f : FuncId) : List (FuncId × PT) → Option PT
  | [] => none
  | e :: r => if e.1 = f then some e.2 else lookPT f r
def SummOk (P : Program) (s : FuncId → Option PT) : Prop := ∀ f pt, s f = some pt → CallOk P f pt ∧ MonoPT pt
theorem SummOk.nil {P : Program} : SummOk P (fun f => lookPT f []) := fun _ _ h => by cases h
theorem SummOk.cons {P : Program} {f : FuncId} {pt : PT} {l : List (FuncId × PT)} (h1 : CallOk P f pt) (h2 : MonoPT pt) (h : SummOk P (fun f => lookPT f l)) : SummOk P (fun g => lookPT g ((f, pt) :: l)) := by
  intro g q hq
  simp only [lookPT] at hq
  split at hq
  · rename_i e; subst e; injection hq with hq; subst hq; exact ⟨h1, h2⟩
  · exact h g q hq
end Go.Proofs.Ytobbhdmbblhgaaa.Sx
