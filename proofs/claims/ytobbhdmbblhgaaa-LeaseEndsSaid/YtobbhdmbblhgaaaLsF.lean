/-
  Lease: what an act does: a summary of 'do'.
-/
import Derived.Test.YtobbhdmbblhgaaaLsV5
namespace Go.Proofs.Ytobbhdmbblhgaaa
open Go Sx

noncomputable def Tb.act (T : Tb) (a : Ac) : To × Tb :=
  if a.k = 0 then (⟨if T.full then 12 else 0, if T.full then 0 else T.opened + 1, [], Sl.zero, []⟩, T.open a.block a.clock)
  else if a.k = 1 then (⟨T.live a.id a.clock, 0, [], T.of a.id a.clock, []⟩, T)
  else if a.k = 2 then (⟨T.live a.id a.clock, 0, [], Sl.zero, []⟩, T.mod a.id a.clock fun s => { s with dl := a.clock + T.term })
  else if a.k = 3 then (⟨T.live a.id a.clock, (T.of a.id a.clock).block, [], Sl.zero, []⟩, T.mod a.id a.clock fun s => { s with block := a.block })
  else if a.k = 4 then (⟨T.live a.id a.clock, (T.of a.id a.clock).block, [], Sl.zero, []⟩, T.rel a.id a.clock)
  else if a.k = 5 then (⟨0, 0, [], Sl.zero, over a.clock T.ss⟩, T.expire a.clock)
  else if a.k = 6 then (⟨T.storeE a.id a.seq, 0, [], Sl.zero, []⟩, T.store a.id a.seq a.text)
  else (⟨(T.replay a.id a.seq).2, 0, (T.replay a.id a.seq).1, Sl.zero, []⟩, T)
structure ToldPost (x : To) (T' : Tb) (e n : Int) (t : List UInt8) (s : Sl) (r : Option (Nat × Nat × SB)) (B0 : SB) : Prop where
  e : e = x.e
  n : n = x.n
  t : t = x.text
  s : s.bare = x.s.bare
  tb : SBle B0 T'.sbO
  r : (r = none ∧ x.all = []) ∨ ∃ c B, r = some (x.all.length, c, B) ∧ x.all.length ≤ c ∧ SBle B (.rows true x.all.length (sessCols x.all) false (c * 4) sessT)
theorem do_holds {T : Tb} {a : Ac} (hT : T.Ok) (hc : okClock a.clock) : Holds (doVC T a (ToldPost (T.act a).1 (T.act a).2)) := by
  refine Holds.of_eq (vcDo T a _) ?_
  have hs : SBle (SB.cells T.svO (49 : Nat) tableT) T.sbO := SBle.refl _
  refine ⟨fun h0 => ⟨T, hs, ⟨hT, hc⟩, ?_⟩, fun h0 => ⟨fun h1 => ⟨T, hs, ⟨hT, trivial⟩, ?_⟩, fun h1 => ⟨fun h2 => ⟨T, hs, ⟨hT, hc⟩, ?_⟩, fun h2 => ⟨fun h3 => ⟨T, hs, ⟨hT, trivial⟩, ?_⟩, fun h3 => ⟨fun h4 => ⟨T, hs, ⟨hT, trivial⟩, ?_⟩, fun h4 =>
    ⟨fun h5 => ⟨T, hs, ⟨hT, trivial⟩, fun c hcap => ?_⟩, fun h5 => ⟨fun h6 => ⟨T, hs, ⟨hT, trivial⟩, ?_⟩, fun h6 => ⟨T, hs, ⟨hT, trivial⟩, ?_⟩⟩⟩⟩⟩⟩⟩⟩
  all_goals simp only [decide_eq_true_eq, decide_eq_false_iff_not] at h0
  all_goals (try simp only [decide_eq_true_eq, decide_eq_false_iff_not] at h1)
  all_goals (try simp only [decide_eq_true_eq, decide_eq_false_iff_not] at h2)
  all_goals (try simp only [decide_eq_true_eq, decide_eq_false_iff_not] at h3)
  all_goals (try simp only [decide_eq_true_eq, decide_eq_false_iff_not] at h4)
  all_goals (try simp only [decide_eq_true_eq, decide_eq_false_iff_not] at h5)
  all_goals (try simp only [decide_eq_true_eq, decide_eq_false_iff_not] at h6)
  · have he : T.act a = (⟨if T.full then 12 else 0, if T.full then 0 else T.opened + 1, [], Sl.zero, []⟩, T.open a.block a.clock) := by simp [Tb.act, h0]
    rw [he]; exact ⟨rfl, rfl, rfl, rfl, SBle.refl _, .inl ⟨rfl, rfl⟩⟩
  · have he : T.act a = (⟨T.live a.id a.clock, 0, [], T.of a.id a.clock, []⟩, T) := by simp [Tb.act, h0, h1]
    rw [he]; exact ⟨rfl, rfl, rfl, rfl, SBle.refl _, .inl ⟨rfl, rfl⟩⟩
  · have he : T.act a = (⟨T.live a.id a.clock, 0, [], Sl.zero, []⟩, T.mod a.id a.clock fun s => { s with dl := a.clock + T.term }) := by simp [Tb.act, h0, h1, h2]
    rw [he]; exact ⟨rfl, rfl, rfl, rfl, SBle.refl _, .inl ⟨rfl, rfl⟩⟩
  · have he : T.act a = (⟨T.live a.id a.clock, (T.of a.id a.clock).block, [], Sl.zero, []⟩, T.mod a.id a.clock fun s => { s with block := a.block }) := by simp [Tb.act, h0, h1, h2, h3]
    rw [he]; exact ⟨rfl, rfl, rfl, rfl, SBle.refl _, .inl ⟨rfl, rfl⟩⟩
  · have he : T.act a = (⟨T.live a.id a.clock, (T.of a.id a.clock).block, [], Sl.zero, []⟩, T.rel a.id a.clock) := by simp [Tb.act, h0, h1, h2, h3, h4]
    rw [he]; exact ⟨rfl, rfl, rfl, rfl, SBle.refl _, .inl ⟨rfl, rfl⟩⟩
  · have he : T.act a = (⟨0, 0, [], Sl.zero, over a.clock T.ss⟩, T.expire a.clock) := by simp [Tb.act, h0, h1, h2, h3, h4, h5]
    rw [he]; exact ⟨rfl, rfl, rfl, rfl, SBle.refl _, .inr ⟨c, _, rfl, hcap, SBle.refl _⟩⟩
  · have he : T.act a = (⟨T.storeE a.id a.seq, 0, [], Sl.zero, []⟩, T.store a.id a.seq a.text) := by simp [Tb.act, h0, h1, h2, h3, h4, h5, h6]
    rw [he]; exact ⟨rfl, rfl, rfl, rfl, SBle.refl _, .inl ⟨rfl, rfl⟩⟩
  · have he : T.act a = (⟨(T.replay a.id a.seq).2, 0, (T.replay a.id a.seq).1, Sl.zero, []⟩, T) := by simp [Tb.act, h0, h1, h2, h3, h4, h5, h6]
    rw [he]; exact ⟨rfl, rfl, rfl, rfl, SBle.refl _, .inl ⟨rfl, rfl⟩⟩
/-- What 'do' gives. -/
def To.sv (x : To) (u : SV) : SV := .agg [iv x.e, iv x.n, .str false x.text, iv x.s.id, iv x.s.block, iv x.s.dl, iv x.s.last, u]
def GivesTold (x : To) (T' : Tb) (v : SV) (m : Mem) : Prop := ∃ X, m.get 0 = some X ∧ SBle X T'.sbO ∧ ∃ u, (∀ E : Nat → Nat, v.val E = (x.sv u).val E) ∧
  ((u = .nilslc ∧ x.all = []) ∨ ∃ j c B, u = .rslc (j + 1) 4 true 0 x.all.length c ∧ x.all.length ≤ c ∧ m.get (j + 1) = some B ∧ SBle B (.rows true x.all.length (sessCols x.all) false (c * 4) sessT))
theorem toldK_gives {x : To} {T' : Tb} {v : SV} {m : Mem} {nx : Nat} (h : (toldK (ToldPost x T') v m nx).holds) : GivesTold x T' v m := by
  unfold toldK at h
  split at h
  · rename_i B0 hB0
    split at h
    · have hp : ToldPost x T' _ _ _ _ _ _ := h
      obtain ⟨h1, h2, h3, h4, h5, h6⟩ := hp
      rw [bare_eq] at h4
      obtain ⟨g1, g2, g3, g4⟩ := h4
      refine ⟨B0, hB0, h5, .nilslc, fun E => by simp only [To.sv, SV.val, SV.vals, iv]; rw [← h1, ← h2, ← h3, ← g1, ← g2, ← g3, ← g4], .inl ⟨rfl, ?_⟩⟩
      rcases h6 with h | ⟨c, B, h, _⟩
      · exact h.2
      · cases h
    · split at h
      · rename_i j n' c B hB
        have hp : ToldPost x T' _ _ _ _ _ _ := h
        obtain ⟨h1, h2, h3, h4, h5, h6⟩ := hp
        rw [bare_eq] at h4
        obtain ⟨g1, g2, g3, g4⟩ := h4
        rcases h6 with h | ⟨c', B', h, hc, hle⟩
        · cases h.1
        · injection h with h; injection h with e1 h; injection h with e2 e3
          subst e1; subst e2; subst e3
          exact ⟨B0, hB0, h5, _, fun E => by simp only [To.sv, SV.val, SV.vals, iv]; rw [← h1, ← h2, ← h3, ← g1, ← g2, ← g3, ← g4], .inr ⟨_, _, _, rfl, hc, hB, hle⟩⟩
      · exact h.elim
    · exact h.elim
  · exact h.elim
theorem Tb.wf_sbO (T : Tb) : T.sbO.wf 0 = true := by rw [T.sbO_eq]; exact T.wf_sb false
theorem Sx.Mem.wf_put {nx k : Nat} {B : SB} (hB : B.wf nx = true) : ∀ {m : Mem}, Mem.wf nx m = true → Mem.wf nx (m.put k B) = true
  | [], _ => rfl
  | e :: r, hh => by
    simp only [Mem.wf, Bool.and_eq_true] at hh
    by_cases he : e.1 = k
    · rw [Mem.put, if_pos he]; simp only [Mem.wf, Bool.and_eq_true]; exact ⟨hB, hh.2⟩
    · rw [Mem.put, if_neg he]; simp only [Mem.wf, Bool.and_eq_true]; exact ⟨hh.1, Mem.wf_put hB hh.2⟩
theorem Sx.SB.wf_mono {n m : Nat} (h : n ≤ m) {B : SB} (hB : B.wf n = true) : B.wf m = true := by
  cases B with
  | cells cs tot ty => exact SV.wfs_mono h cs hB
  | rows => rfl
  | view => rfl
noncomputable def doK (k : Nat) (x : To) (T' : Tb) (m : Mem) (nx : Nat) (K : SV → Mem → Nat → VC) : VC := .all Nat fun c => .imp (x.all.length ≤ c)
  (K (x.sv (.rslc nx 4 true 0 x.all.length c)) ((nx, .rows true x.all.length (sessCols x.all) false (c * 4) sessT) :: m.put k T'.sbO) (nx + 1))
noncomputable def doPT : PT := fun args m nx K => match args with
  | [.ptr k true 0, .agg [.int .i64 _ a1, .int .i64 _ a2, .int .i64 _ a3, .int .i64 _ a4, .int .i64 _ a5, .str _ a6]] => (match m.get k with
    | some B => .ex Tb fun T => .and (.atom (SBle B T.sbO)) (.and (.atom (T.Ok ∧ okClock a4)) (doK k (T.act ⟨a1, a2, a3, a4, a5, a6⟩).1 (T.act ⟨a1, a2, a3, a4, a5, a6⟩).2 m nx K))
    | none => .fail "do: no table")
  | _ => .fail "do"
theorem do_mono : MonoPT doPT := by
  intro args m nx K K' hK h
  unfold doPT at h ⊢
  split at h
  · split at h
    · obtain ⟨T, h1, h2, h3⟩ := h
      exact ⟨T, h1, h2, fun c hc => hK _ _ _ (h3 c hc)⟩
    · exact h.elim
  · exact h.elim
theorem do_call {T : Tb} {a : Ac} {x : To} {T' : Tb} (hrun : Holds (doVC T a (ToldPost x T'))) {m : Mem} {nx : Nat} {K : SV → Mem → Nat → VC} {k : Nat} {B : SB} (hk : m.get k = some B) (hB : SBle B T.sbO) (hK : (doK k x T' m nx K).holds)
    {w0 : World} {M0 : Nat → Prop} {E : Nat → Nat} {w : World} (hs : SatM w0 M0 E m nx w) (hw : Mem.wf nx m = true) :
    Out Try.prog (After (lift K) w0 M0 E nx) ((callFunc 10 (SV.vals E [.ptr k true 0, .agg [iv a.k, iv a.id, iv a.block, iv a.clock, iv a.seq, .str false a.text]]).toArray).run Try.prog w) := by
  obtain ⟨hno, _, hro⟩ := hB rfl
  have h1 := hs.one hk hB rfl T.wf_sbO
  have hc := calls_of_holds goodM Try.func10 (by kernel_rfl) (by kernel_rfl) hrun (by simp only [Mem.wf, Bool.and_true]; exact SB.wf_mono (Nat.zero_le _) T.wf_sbO) rfl h1
  have hargs : SV.vals (fun _ => E k) [.ptr 0 true 0, .agg [iv a.k, iv a.id, iv a.block, iv a.clock, iv a.seq, .str false a.text]] = SV.vals E [.ptr k true 0, .agg [iv a.k, iv a.id, iv a.block, iv a.clock, iv a.seq, .str false a.text]] := rfl
  rw [hargs] at hc
  refine out_of_calls Try.func10 (by kernel_rfl) (by kernel_rfl) (Calls.mono hc ?_)
  rintro e w' ⟨v, rfl, E1, u, m1, nx1, g1, g2, g3, g4, g5⟩
  refine ⟨v, rfl, ?_⟩
  cases u with
  | none => exact g5.elim
  | some u =>
    have g3 := g3 u rfl
    subst g3
    have hE0 : E1 0 = E k := g1 0 (by omega)
    obtain ⟨X, hX, hle, u', hu, hcase⟩ := toldK_gives (nx := nx1) g5
    rcases hcase with ⟨rfl, hall⟩ | ⟨j, c, B2, rfl, hcap, hj, hle2⟩
    · have h2 := g4.swap hX hle
      have hf2 := hs.frame hk hno (hro rfl) h2 hE0 (Mem.get_putEq hX) rfl rfl T'.wf_sbO
      have hwp : Mem.wf nx (m.put k T'.sbO) = true := Mem.wf_put (SB.wf_mono (Nat.zero_le _) T'.wf_sbO) hw
      have hl : x.all.length = 0 := by rw [hall]; rfl
      refine ⟨fun i => if i = nx then w'.heap.size else E i, some (x.sv (.rslc nx 4 true 0 x.all.length 0)), _, nx + 1, fun i hi => by simp [Nat.ne_of_lt hi], by omega, fun y hy => ?_, ?_, hK 0 (by omega)⟩
      · injection hy with hy; subst hy
        rw [hu]
        simp only [To.sv, SV.val, SV.vals, iv, hl]
        rfl
      · refine hf2.push hwp (fun _ _ h => h) (fun i X hi hX e => ?_) (fun _ _ _ => rfl) hf2.ext (fun hx => ?_) (fun hx => ?_)
        · obtain ⟨o, ho, _⟩ := hf2.blk i X hi hX
          have := (Array.getElem?_eq_some_iff.1 ho).1
          omega
        · simp [SB.no, hl] at hx
        · simp [SB.no, hl] at hx
    · have hj' : (m1.put 0 T'.sbO).get (j + 1) = some B2 := by rw [Mem.get_putNe (by omega)]; exact hj
      have h2 := (g4.swap hX hle).swap hj' hle2
      have h0 : ((m1.put 0 T'.sbO).put (j + 1) (.rows true x.all.length (sessCols x.all) false (c * 4) sessT)).get 0 = some T'.sbO := by rw [Mem.get_putNe (by omega)]; exact Mem.get_putEq hX
      obtain ⟨E', b1, b2, b3⟩ := hs.frame2 hw hk hno (hro rfl) h2 hE0 h0 rfl rfl T'.wf_sbO (j := j + 1) (by omega) (Mem.get_putEq hj') rfl rfl
      refine ⟨E', some (x.sv (.rslc nx 4 true 0 x.all.length c)), _, nx + 1, b1, by omega, fun y hy => ?_, b3, hK c hcap⟩
      injection hy with hy; subst hy
      rw [hu]
      simp only [To.sv, SV.val, SV.vals, iv, Nat.zero_mul]
      cases hz : true && Nat.beq x.all.length 0 with
      | true => rfl
      | false => rw [b2 hz]
theorem do_ok : CallOk Try.prog 10 doPT := by
  intro args m nx K h hw ha w0 M0 E w hs
  unfold doPT at h
  split at h
  · rename_i k _ a1 _ a2 _ a3 _ a4 _ a5 _ a6
    split at h
    · rename_i B hk
      obtain ⟨T, hB, ⟨hT, hc⟩, hK⟩ := h
      exact do_call (a := ⟨a1, a2, a3, a4, a5, a6⟩) (do_holds hT hc) hk hB hK hs hw
    · exact h.elim
  · exact h.elim
noncomputable def listD : List (FuncId × PT) := (10, doPT) :: listM
theorem summD_ok : SummOk Try.prog (fun f => lookPT f listD) := .cons do_ok do_mono summM_ok
end Go.Proofs.Ytobbhdmbblhgaaa
