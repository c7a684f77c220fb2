/-
  Lease: contracts of calls that give sessions; what the other methods do.
-/
import Derived.Test.YtobbhdmbblhgaaaLsB
namespace Go.Proofs.Ytobbhdmbblhgaaa
open Go Sx

abbrev sessT : TypeId := 29
noncomputable def rowK (post : Bool → Nat → Nat → Nat → List SV → Tb × Int → Prop) : SV → Mem → Nat → VC := fun v m _ => match ofTb m with
  | some x => (match v with
    | .nilslc => .atom (post true 0 0 0 [] x)
    | .slc (j + 1) 0 n _ c => (match m.get (j + 1) with
      | some (.cells cs tot ty) => if ty = sessT then .atom (post false n c tot cs x) else .fail "sessions: type"
      | _ => .fail "sessions: no block")
    | _ => .fail "sessions: value")
  | none => .fail "no table"
def sessCols (l : List Sl) : List Col :=
  [.int .i64 (fun i => (l.getD i Sl.zero).id), .int .i64 (fun i => (l.getD i Sl.zero).block), .int .i64 (fun i => (l.getD i Sl.zero).dl), .int .i64 (fun i => (l.getD i Sl.zero).last)]
/-- What is said of the sessions that are given. -/
def IsRow (z : Bool) (l : List Sl) (T : Tb) : Bool → Nat → Nat → Nat → List SV → Tb × Int → Prop := fun nil n c tot cs x =>
  n = l.length ∧ n ≤ c ∧ (nil = true → z = true) ∧ (nil = false → z = true → 0 < n) ∧ (nil = false → tot = c * 4) ∧ (∀ E : Nat → Nat, cs.map (SV.val E) = (l.flatMap Sl.bare).map (SV.val E)) ∧ IsTb x T

theorem Sx.SBle.rows {cs : List SV} {tot : Nat} {ty : TypeId} {z : Bool} {n : Nat} {cols : List Col} (hlen : cs.length = n * cols.length)
    (h : ∀ (E : Nat → Nat) (i k : Nat) (col : Col), i < n → cols[k]? = some col → (cs.map (SV.val E))[i * cols.length + k]? = some ((col.at i).val E)) : SBle (.cells cs tot ty) (.rows z n cols false tot ty) := by
  intro _
  refine ⟨rfl, fun E o ⟨c, fr, h1, h2, h3, h4⟩ => ⟨c, fr, h1, fun _ => h2, ?_, h4, fun i k col hi hk => ?_⟩, fun _ => rfl⟩
  · rw [← hlen]
    rcases Nat.eq_zero_or_pos cs.length with e | e
    · omega
    · have hl : cs.length - 1 < cs.length := by omega
      have := h3 (cs.length - 1) _ (List.getElem?_eq_getElem hl)
      have := (Array.getElem?_eq_some_iff.1 this).1
      omega
  · have h5 := h E i k col hi hk
    rw [List.getElem?_map] at h5
    cases hc : cs[i * cols.length + k]? with
    | none => rw [hc] at h5; cases h5
    | some u => rw [hc] at h5; injection h5 with h5; rw [← h5]; exact h3 _ u hc
theorem bare_get (l : List Sl) (E : Nat → Nat) : ∀ (i k : Nat) (col : Col), i < l.length → (sessCols l)[k]? = some col → ((l.flatMap Sl.bare).map (SV.val E))[i * 4 + k]? = some ((col.at i).val E) := by
  intro i k col hi hk
  have hk4 : k < 4 := (List.getElem?_eq_some_iff.1 hk).1
  have key : ∀ (l : List Sl) (i : Nat) (h : i < l.length), ((l.flatMap Sl.bare).map (SV.val E))[i * 4 + k]? = ((l.getD i Sl.zero).bare.map (SV.val E))[k]? := by
    intro l
    induction l with
    | nil => intro i h; simp at h
    | cons s r ih =>
      intro i h
      have hb : (s.bare.map (SV.val E)).length = 4 := rfl
      rw [List.flatMap_cons, List.map_append, List.getElem?_append, hb]
      cases i with
      | zero => rw [if_pos (by omega), Nat.zero_mul, Nat.zero_add]; rfl
      | succ i =>
        rw [if_neg (by omega), show (i + 1) * 4 + k - 4 = i * 4 + k by omega, ih i (by simpa using h)]
        rfl
  rw [key l i hi]
  match k, hk4 with
  | 0, _ => simp [sessCols] at hk; subst hk; rfl
  | 1, _ => simp [sessCols] at hk; subst hk; rfl
  | 2, _ => simp [sessCols] at hk; subst hk; rfl
  | 3, _ => simp [sessCols] at hk; subst hk; rfl
theorem bare_len (l : List Sl) : (l.flatMap Sl.bare).length = l.length * 4 := by
  induction l with
  | nil => rfl
  | cons s r ih => rw [List.flatMap_cons, List.length_append, ih, List.length_cons]; simp [Sl.bare]; omega
/-- Such a row, under whatever key. -/
def GivesRow (z : Bool) (l : List Sl) (T' : Tb) (v : SV) (m : Mem) : Prop :=
  (v = .nilslc ∧ z = true ∧ l = [] ∧ ∃ X, m.get 0 = some X ∧ SBle X (T'.sb false)) ∨
  ∃ j c B, (∀ E : Nat → Nat, v.val E = (SV.rslc (j + 1) 4 z 0 l.length c).val E) ∧ l.length ≤ c ∧ m.get (j + 1) = some B ∧ SBle B (.rows z l.length (sessCols l) false (c * 4) sessT) ∧ ∃ X, m.get 0 = some X ∧ SBle X (T'.sb false)
section
variable {f : FuncId} {fn : Func} (hf : Try.prog.funcs[f]? = some fn) (hn : (fn.name == "runtime.NumGoroutine") = false) (hb : fn.body.isSome = true)
include hf hn hb
theorem gives_call {cfg : Cfg} (hg : Good Try.prog cfg) {T T' : Tb} {xs : List SV} (hx : SV.wfs 0 xs = true) {z : Bool} {l : List Sl} {K0 : SV → Mem → Nat → VC}
    (h : (runC cfg f fn T xs K0).holds) (hK0 : ∀ v m nx, (K0 v m nx).holds → GivesRow z l T' v m)
    {m : Mem} {nx : Nat} {K : SV → Mem → Nat → VC} {w0 : World} {M0 : Nat → Prop} {E : Nat → Nat} {w : World} (hs : SatM w0 M0 E m nx w) (hw : Mem.wf nx m = true) {k : Nat} {B : SB} (hk : m.get k = some B) (hB : SBle B (T.sb true))
    (hK : ∀ c, l.length ≤ c → (K (.rslc nx 4 z 0 l.length c) ((nx, .rows z l.length (sessCols l) false (c * 4) sessT) :: m.put k (T'.sb false)) (nx + 1)).holds) :
    Out Try.prog (After (lift K) w0 M0 E nx) ((callFunc f (SV.vals E (.ptr k true 0 :: xs)).toArray).run Try.prog w) := by
  obtain ⟨hno, _, hro⟩ := hB rfl
  have h1 := hs.one hk hB rfl (T.wf_sb true)
  have hc := calls_of_run hg hf hn hb h (by simp only [Mem.wf, Bool.and_true]; exact SV.wfs_mono (Nat.zero_le _) _ (T.wf_sb true)) (by simp only [SV.wfs, Bool.and_eq_true]; exact ⟨rfl, SV.wfs_mono (Nat.zero_le _) _ hx⟩) h1
  have hargs : SV.vals (fun _ => E k) (.ptr 0 true 0 :: xs) = SV.vals E (.ptr k true 0 :: xs) := by simp only [SV.vals, SV.val]; rw [SV.vals_pure hx]
  rw [hargs] at hc
  refine out_of_calls hf hn hb (Calls.mono hc ?_)
  rintro e w' ⟨v, rfl, E1, u, m1, nx1, g1, g2, g3, g4, g5⟩
  refine ⟨v, rfl, ?_⟩
  cases u with
  | none => exact g5.elim
  | some u =>
    have g3 := g3 u rfl
    subst g3
    have hE0 : E1 0 = E k := g1 0 (by omega)
    rcases hK0 u m1 nx1 g5 with ⟨rfl, rfl, rfl, X, hX, hle⟩ | ⟨j, c, B2, a1, a2, hj, hle2, X, hX, hle⟩
    · have h2 := g4.swap hX hle
      have hf2 := hs.frame hk hno (hro rfl) h2 hE0 (Mem.get_putEq hX) rfl rfl (T'.wf_sb false)
      have hwp : Mem.wf nx (m.put k (T'.sb false)) = true := by
        have : ∀ (m : Mem), Mem.wf nx m = true → Mem.wf nx (m.put k (T'.sb false)) = true := by
          intro m
          induction m with
          | nil => intro _; rfl
          | cons e r ih =>
            intro hh
            simp only [Mem.wf, Bool.and_eq_true] at hh
            by_cases he : e.1 = k
            · rw [Mem.put, if_pos he]; simp only [Mem.wf, Bool.and_eq_true]
              exact ⟨SV.wfs_mono (Nat.zero_le _) _ (T'.wf_sb false), hh.2⟩
            · rw [Mem.put, if_neg he]; simp only [Mem.wf, Bool.and_eq_true]; exact ⟨hh.1, ih hh.2⟩
        exact this m hw
      refine ⟨fun i => if i = nx then w'.heap.size else E i, some (.rslc nx 4 true 0 0 0), _, nx + 1, fun i hi => by simp [Nat.ne_of_lt hi], by omega, fun y hy => ?_, ?_, hK 0 (Nat.le_refl _)⟩
      · injection hy with hy; subst hy; rfl
      · exact hf2.push hwp (fun _ _ h => h) (fun i X hi hX e => by
          obtain ⟨o, ho, _⟩ := hf2.blk i X hi hX
          have := (Array.getElem?_eq_some_iff.1 ho).1
          omega) (fun _ _ _ => rfl) hf2.ext (fun hx => by cases hx) (fun hx => by cases hx)
    · have hj' : (m1.put 0 (T'.sb false)).get (j + 1) = some B2 := by rw [Mem.get_putNe (by omega)]; exact hj
      have h2 := (g4.swap hX hle).swap hj' hle2
      have h0 : ((m1.put 0 (T'.sb false)).put (j + 1) (.rows z l.length (sessCols l) false (c * 4) sessT)).get 0 = some (T'.sb false) := by rw [Mem.get_putNe (by omega)]; exact Mem.get_putEq hX
      obtain ⟨E', b1, b2, b3⟩ := hs.frame2 hw hk hno (hro rfl) h2 hE0 h0 rfl rfl (T'.wf_sb false) (j := j + 1) (by omega) (Mem.get_putEq hj') rfl rfl
      refine ⟨E', some (.rslc nx 4 z 0 l.length c), _, nx + 1, b1, by omega, fun y hy => ?_, b3, hK c a2⟩
      injection hy with hy; subst hy
      rw [a1]
      simp only [SV.val, Nat.zero_mul]
      cases hz : z && Nat.beq l.length 0 with
      | true => rfl
      | false => rw [b2 hz]
end
theorem rowK_gives {z : Bool} {l : List Sl} {T' : Tb} {v : SV} {m : Mem} {nx : Nat} (h : (rowK (IsRow z l T') v m nx).holds) : GivesRow z l T' v m := by
  unfold rowK at h
  split at h
  · rename_i x hx
    obtain ⟨X, hX, hXx⟩ := ofTb_get hx
    split at h
    · obtain ⟨a1, a2, a3, a4, a5, a6, a7⟩ := h
      exact .inl ⟨rfl, a3 rfl, List.eq_nil_of_length_eq_zero a1.symm, X, hX, isTb_le hXx a7 false⟩
    · rename_i j n ll c
      split at h
      · rename_i cs tot ty hj
        split at h
        · rename_i hty
          subst hty
          obtain ⟨a1, a2, a3, a4, a5, a6, a7⟩ := h
          have a5 := a5 rfl
          subst a5
          subst a1
          have hlen : cs.length = l.length * 4 := by
            have := congrArg List.length (a6 (fun _ => 0))
            rw [List.length_map, List.length_map, bare_len] at this; exact this
          have hle2 : SBle (.cells cs (c * 4) sessT) (.rows z l.length (sessCols l) false (c * 4) sessT) := SBle.rows hlen fun E i k col hi hk => by rw [a6 E]; exact bare_get l E i k col hi hk
          have hnz : (z && Nat.beq l.length 0) = false := by
            cases z with
            | false => rfl
            | true =>
              have := a4 rfl rfl
              have : Nat.beq l.length 0 = false := by cases hll : l.length with
                | zero => omega
                | succ n => rfl
              simp [this]
          exact .inr ⟨j, c, _, fun E => by simp [SV.val, hnz], a2, hj, hle2, X, hX, isTb_le hXx a7 false⟩
        · exact h.elim
      · exact h.elim
    · exact h.elim
  · exact h.elim
/-- Calls that give sessions. -/
noncomputable def rowPT (sp : List SV → Option (Tb → Prop × Bool × List Sl × Tb)) : PT := fun args m nx K => match args with
  | .ptr k true 0 :: xs => (match sp xs with
    | some g => (match m.get k with
      | some B => .ex Tb fun T => .and (.atom (SBle B (T.sb false))) (.and (.atom (T.Ok ∧ (g T).1)) (.all Nat fun c => .imp ((g T).2.2.1.length ≤ c)
          (K (.rslc nx 4 (g T).2.1 0 (g T).2.2.1.length c) ((nx, .rows (g T).2.1 (g T).2.2.1.length (sessCols (g T).2.2.1) false (c * 4) sessT) :: m.put k ((g T).2.2.2.sb false)) (nx + 1))))
      | none => .fail "no such table")
    | none => .fail "a call's arguments")
  | _ => .fail "a call's table"
theorem rowPT_ok {f : FuncId} {fn : Func} (hf : Try.prog.funcs[f]? = some fn) (hn : (fn.name == "runtime.NumGoroutine") = false) (hb : fn.body.isSome = true) {sp : List SV → Option (Tb → Prop × Bool × List Sl × Tb)}
    (H : ∀ xs g T, sp xs = some g → T.Ok → (g T).1 → SV.wfs 0 xs = true ∧ ∃ cfg K0, Good Try.prog cfg ∧ (runC cfg f fn T xs K0).holds ∧ ∀ v m nx, (K0 v m nx).holds → GivesRow (g T).2.1 (g T).2.2.1 (g T).2.2.2 v m) : CallOk Try.prog f (rowPT sp) := by
  intro args m nx K h hw ha w0 M0 E w hs
  unfold rowPT at h
  split at h
  · rename_i k xs
    split at h
    · rename_i g hg
      split at h
      · rename_i B hk
        obtain ⟨T, h1, ⟨h2, h3⟩, h4⟩ := h
        obtain ⟨c1, cfg, K0, c2, c3, c4⟩ := H xs g T hg h2 h3
        exact gives_call hf hn hb c2 c1 c3 c4 hs hw hk (SBle.trans h1 (lit_le T false true)) h4
      · exact h.elim
    · exact h.elim
  · exact h.elim
theorem rowPT_mono {sp : List SV → Option (Tb → Prop × Bool × List Sl × Tb)} : MonoPT (rowPT sp) := by
  intro args m nx K K' hK h
  unfold rowPT at h ⊢
  split at h
  · split at h
    · split at h
      · obtain ⟨T, h1, h2, h3⟩ := h
        exact ⟨T, h1, h2, fun c hc => hK _ _ _ (h3 c hc)⟩
      · exact h.elim
    · exact h.elim
  · exact h.elim

/-! ### What they do -/
def storeSl (seq : Int) (text : List UInt8) (s : Sl) : Sl :=
  if s.stored = 2 then { s with last := seq, s0 := s.s1, r0 := s.r1, s1 := seq, r1 := text } else if s.stored = 1 then { s with last := seq, s1 := seq, r1 := text, stored := 2 } else { s with last := seq, s0 := seq, r0 := text, stored := 1 }
def Tb.storeE (T : Tb) (id seq : Int) : Int := match findSl id T.ss with
  | none => 5
  | some s => if seq ≤ s.last then 1 else 0
def Tb.store (T : Tb) (id seq : Int) (text : List UInt8) : Tb := if T.storeE id seq = 0 then { T with ss := modSl id (storeSl seq text) T.ss } else T
def storeS (id seq : Int) (text : List UInt8) (T : Tb) : Prop × SV × Tb := (True, iv (T.storeE id seq), T.store id seq text)
def Sl.replay (s : Sl) (seq : Int) : List UInt8 × Int := if s.last < seq then ([], 9) else if 0 < s.stored then (if s.s0 = seq then (s.r0, 0) else if 1 < s.stored then (if s.s1 = seq then (s.r1, 0) else ([], 7)) else ([], 7)) else ([], 7)
def Tb.replay (T : Tb) (id seq : Int) : List UInt8 × Int := match findSl id T.ss with
  | none => ([], 5)
  | some s => s.replay seq
def replayS (id seq : Int) (T : Tb) : Prop × SV × Tb := (True, .tup [.str false (T.replay id seq).1, iv (T.replay id seq).2], T)
def kept : List Sl → Int
  | [] => 0
  | s :: r => s.stored + kept r
def keptS (T : Tb) : Prop × SV × Tb := (True, iv (kept T.ss), T)
def setNth (i : Nat) (v : Int) : List Int → List Int
  | [] => []
  | x :: r => match i with
    | 0 => v :: r
    | i + 1 => x :: setNth i v r
def Tb.told (T : Tb) (id : Int) : Tb :=
  let j : Nat := (T.ends % 8).toNat
  { T with e0 := if j = 0 then id else T.e0, e1 := if j = 1 then id else T.e1, e2 := if j = 2 then id else T.e2, e3 := if j = 3 then id else T.e3, e4 := if j = 4 then id else T.e4, e5 := if j = 5 then id else T.e5,
           e6 := if j = 6 then id else T.e6, e7 := if j = 7 then id else T.e7, ends := T.ends + 1 }
def over (clock : Int) (l : List Sl) : List Sl := l.filter fun s => decide (s.dl ≤ clock)
def left (clock : Int) (l : List Sl) : List Sl := l.filter fun s => decide (¬ s.dl ≤ clock)
def Tb.tells (T : Tb) : List Sl → Tb
  | [] => T
  | s :: r => (T.told s.id).tells r
def Tb.expire (T : Tb) (clock : Int) : Tb := { T.tells (over clock T.ss) with ss := left clock T.ss }
def expireS (clock : Int) (T : Tb) : Prop × Bool × List Sl × Tb := (True, true, over clock T.ss, T.expire clock)
def allS (T : Tb) : Prop × Bool × List Sl × Tb := (True, false, T.ss, T)

/-! ### Expire: its loop -/
def slN : Nat → (Nat → Sl) → List Sl
  | 0, _ => []
  | n + 1, f => f 0 :: slN n (fun i => f (i + 1))
/-- How many sessions the table has, as the executor knows. -/
def tagCount (st : Sx.St) : Nat := match Mem.get 0 st.m with
  | some (SB.cells cs _ _) => (match (cs[38]? : Option SV) with
    | some (SV.int _ true k) => k.toNat
    | _ => 99)
  | _ => 99
/-- So far l are over; n are left. -/
structure ExpPre (T0 : Tb) (clock : Int) (n : Nat) (f : Nat → Sl) (T : Tb) (l : List Sl) (c : Nat) : Prop where
  tb : { T with ss := T0.ss } = T0.tells l
  past : l ++ over clock (slN n f) = over clock T0.ss
  rest : left clock (slN n f) = left clock T0.ss
  cap : l.length ≤ c
  few : l.length + n ≤ 4
structure ExpG where
  f : Nat → Sl
  T : Tb
  l : List Sl
  c : Nat
noncomputable def annExpire (T0 : Tb) (clock : Int) : Multi :=
  { tags := List.range (T0.ss.length + 1), tag := tagCount,
    A := fun n => { α := ExpG, pre := fun _ x => ExpPre T0 clock n x.f x.T x.l x.c, mea := fun _ _ => n, fresh := 1,
                    slots := fun st x => [(5, .rslc st.nx 4 true 0 x.l.length x.c)],
                    mem := fun st x => [(st.nx, .rows true x.l.length (sessCols x.l) false (x.c * 4) sessT), (0, Tb.sb true { x.T with ss := slN n x.f })] } }
noncomputable def cfgE (T : Tb) (clock : Int) : Cfg := { summ := baseSumm, fns := fun f => Try.prog.funcs[f]?, anns := fun f => if f = 13 then [(2, fun _ => some (annExpire T clock))] else [], rounds := 100 }
theorem goodE (T : Tb) (clock : Int) : Good Try.prog (cfgE T clock) := ⟨mixes, baseSumm_ok, fns_ok⟩
noncomputable def rowK2 (post : Nat → Nat → SB → Tb × Int → Prop) : SV → Mem → Nat → VC := fun v m _ => match ofTb m with
  | some x => (match v with
    | .rslc (j + 1) 4 true 0 n c => (match m.get (j + 1) with
      | some B => .atom (post n c B x)
      | _ => .fail "sessions: no block")
    | _ => .fail "sessions: value")
  | none => .fail "no table"
def IsRow2 (l : List Sl) (T : Tb) : Nat → Nat → SB → Tb × Int → Prop := fun n c B x => n = l.length ∧ n ≤ c ∧ SBle B (.rows true l.length (sessCols l) false (c * 4) sessT) ∧ IsTb x T
theorem rowK2_gives {l : List Sl} {T' : Tb} {v : SV} {m : Mem} {nx : Nat} (h : (rowK2 (IsRow2 l T') v m nx).holds) : GivesRow true l T' v m := by
  unfold rowK2 at h
  split at h
  · rename_i x hx
    obtain ⟨X, hX, hXx⟩ := ofTb_get hx
    split at h
    · rename_i j n c
      split at h
      · rename_i B hj
        obtain ⟨rfl, a2, a3, a4⟩ := h
        exact .inr ⟨j, c, B, fun E => rfl, a2, hj, a3, X, hX, isTb_le hXx a4 false⟩
      · exact h.elim
    · exact h.elim
  · exact h.elim
end Go.Proofs.Ytobbhdmbblhgaaa
