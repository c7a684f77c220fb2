/-
  Lease: the table as plain data, and what each method does to it.
-/
import Derived.Test.YtobbhdmbblhgaaaSxT
namespace Go.Proofs.Ytobbhdmbblhgaaa
open Go Sx

/-- A session, and its replies. -/
structure Sl where
  id : Int
  block : Int
  dl : Int
  last : Int
  s0 : Int
  r0 : List UInt8
  s1 : Int
  r1 : List UInt8
  stored : Int
/-- A table. -/
structure Tb where
  most : Int
  term : Int
  ss : List Sl
  opened : Int
  e0 : Int
  e1 : Int
  e2 : Int
  e3 : Int
  e4 : Int
  e5 : Int
  e6 : Int
  e7 : Int
  ends : Int
def Sl.zero : Sl := ⟨0, 0, 0, 0, 0, [], 0, [], 0⟩
def iv (n : Int) : SV := .int .i64 false n
def Sl.sv (s : Sl) : List SV := [iv s.id, iv s.block, iv s.dl, iv s.last, iv s.s0, .str false s.r0, iv s.s1, .str false s.r1, iv s.stored]
def Sl.bare (s : Sl) : List SV := [iv s.id, iv s.block, iv s.dl, iv s.last]
def padSl : Nat → List Sl → List SV
  | 0, _ => []
  | n + 1, [] => Sl.zero.sv ++ padSl n []
  | n + 1, s :: r => s.sv ++ padSl n r
/-- The cells of a table; 'lit': the executor may know how many sessions there are. -/
def Tb.sv (lit : Bool) (T : Tb) : List SV :=
  [iv T.most, iv T.term] ++ padSl 4 T.ss ++ [.int .i64 lit T.ss.length, iv T.opened, iv T.e0, iv T.e1, iv T.e2, iv T.e3, iv T.e4, iv T.e5, iv T.e6, iv T.e7, iv T.ends]
abbrev tableT : TypeId := 61
def Tb.sb (lit : Bool) (T : Tb) : SB := .cells (T.sv lit) 49 tableT
def ofSl : List SV → Option (Sl × List SV)
  | .int .i64 _ a :: .int .i64 _ b :: .int .i64 _ c :: .int .i64 _ d :: .int .i64 _ e :: .str _ f :: .int .i64 _ g :: .str _ h :: .int .i64 _ i :: r => some (⟨a, b, c, d, e, f, g, h, i⟩, r)
  | _ => none
/-- A table read off its cells: its slots, and how many of them count. -/
def ofSlots : Nat → List SV → Option (List Sl × List SV)
  | 0, r => some ([], r)
  | n + 1, l => match ofSl l with
    | some (s, r) => (match ofSlots n r with
      | some (ss, r') => some (s :: ss, r')
      | none => none)
    | none => none
def ofCellsTb : List SV → Option (Tb × Int)
  | .int .i64 _ most :: .int .i64 _ term :: l => (match ofSlots 4 l with
    | some (ss, [.int .i64 _ count, .int .i64 _ opened, .int .i64 _ e0, .int .i64 _ e1, .int .i64 _ e2, .int .i64 _ e3, .int .i64 _ e4, .int .i64 _ e5, .int .i64 _ e6, .int .i64 _ e7, .int .i64 _ ends]) =>
      some (⟨most, term, ss, opened, e0, e1, e2, e3, e4, e5, e6, e7, ends⟩, count)
    | _ => none)
  | _ => none
def ofBlk : SB → Option (Tb × Int)
  | .cells cs tot ty => if tot = 49 ∧ ty = tableT then ofCellsTb cs else none
  | _ => none
def ofTb (m : Mem) : Option (Tb × Int) := match m.get 0 with
  | some B => ofBlk B
  | none => none
def pad4 : Nat → List Sl → List Sl
  | 0, _ => []
  | n + 1, [] => Sl.zero :: pad4 n []
  | n + 1, s :: r => s :: pad4 n r
/-- What the block holds is this table. -/
def IsTb (x : Tb × Int) (T : Tb) : Prop := x = ({ T with ss := pad4 4 T.ss }, (T.ss.length : Int))
/-- A post of a method: its value and the table behind it. -/
def postK (post : SV → Tb × Int → Prop) : SV → Mem → Nat → VC := fun v m _ => match ofTb m with
  | some x => .atom (post v x)
  | none => .fail "no table"
theorem ofSl_val {l : List SV} {s : Sl} {r : List SV} (h : ofSl l = some (s, r)) (E : Nat → Nat) : l.map (SV.val E) = s.sv.map (SV.val E) ++ r.map (SV.val E) := by
  unfold ofSl at h
  split at h
  · injection h with h; injection h with h1 h2; subst h1; subst h2; rfl
  · cases h
theorem ofSlots_val : ∀ {n : Nat} {l : List SV} {ss : List Sl} {r : List SV}, ofSlots n l = some (ss, r) → ∀ E : Nat → Nat, l.map (SV.val E) = (ss.flatMap Sl.sv).map (SV.val E) ++ r.map (SV.val E)
  | 0, l, ss, r, h, E => by simp [ofSlots] at h; obtain ⟨rfl, rfl⟩ := h; rfl
  | n + 1, l, ss, r, h, E => by
    simp only [ofSlots] at h
    split at h
    · rename_i s r1 h1
      split at h
      · rename_i ss' r2 h2
        injection h with h; injection h with e1 e2; subst e1; subst e2
        rw [ofSl_val h1 E, ofSlots_val h2 E]; simp
      · cases h
    · cases h
theorem pad_eq : ∀ (n : Nat) (l : List Sl), (pad4 n l).flatMap Sl.sv = padSl n l
  | 0, _ => rfl
  | n + 1, [] => by simp only [pad4, List.flatMap_cons, padSl, pad_eq n []]
  | n + 1, s :: r => by simp only [pad4, List.flatMap_cons, padSl, pad_eq n r]
theorem isTb_le {X : SB} {x : Tb × Int} {T : Tb} (h : ofBlk X = some x) (ht : IsTb x T) (lit : Bool) : SBle X (T.sb lit) := by
  unfold ofBlk at h
  split at h
  · rename_i cs tot ty
    split at h
    · rename_i hc
      obtain ⟨rfl, rfl⟩ := hc
      refine SBle.cells (fun E => ?_) rfl
      unfold ofCellsTb at h
      split at h
      · rename_i b1 most b2 term l
        split at h
        · rename_i ss _ count _ opened _ e0 _ e1 _ e2 _ e3 _ e4 _ e5 _ e6 _ e7 _ ends hs
          injection h with h
          subst h
          unfold IsTb at ht
          injection ht with h1 h2
          injection h1 with g1 g2 g3 g4 g5 g6 g7 g8 g9 g10 g11 g12 g13
          subst g1; subst g2; subst g3; subst g4; subst g5; subst g6; subst g7; subst g8; subst g9; subst g10; subst g11; subst g12; subst g13; subst h2
          have := ofSlots_val hs E
          rw [pad_eq] at this
          simp only [Tb.sv, List.map_append, List.map_cons, List.map_nil]
          rw [this]
          simp [iv, SV.val]
        · cases h
      · cases h
    · cases h
  · cases h
theorem lit_le (T : Tb) (a b : Bool) : SBle (T.sb a) (T.sb b) := SBle.cells (fun E => by simp [Tb.sv, SV.val]) rfl
theorem Tb.no_sb (T : Tb) (a : Bool) : (T.sb a).no = false := rfl
theorem Tb.ro_sb (T : Tb) (a : Bool) : (T.sb a).ro = false := rfl
theorem Tb.wf_sb (T : Tb) (a : Bool) : (T.sb a).wf 0 = true := by
  have happ : ∀ (l r : List SV), SV.wfs 0 l = true → SV.wfs 0 r = true → SV.wfs 0 (l ++ r) = true := by
    intro l r
    induction l with
    | nil => intro _ h; exact h
    | cons x l ih => intro h h'; simp only [List.cons_append, SV.wfs, Bool.and_eq_true] at h ⊢; exact ⟨h.1, ih h.2 h'⟩
  have hpad : ∀ (n : Nat) (l : List Sl), SV.wfs 0 (padSl n l) = true := by
    intro n
    induction n with
    | zero => intro l; rfl
    | succ n ih =>
      intro l
      cases l with
      | nil => exact happ _ _ rfl (ih _)
      | cons s r => exact happ _ _ rfl (ih _)
  exact happ _ _ (happ _ _ rfl (hpad _ _)) rfl

/-! ### What the methods do -/
def findSl (id : Int) : List Sl → Option Sl
  | [] => none
  | s :: r => if s.id = id then some s else findSl id r
def Tb.ring (T : Tb) : List Int := [T.e0, T.e1, T.e2, T.e3, T.e4, T.e5, T.e6, T.e7]
def Tb.recent (T : Tb) (id : Int) : Prop := ∃ i : Nat, (i : Int) < min T.ends 8 ∧ sel T.ring i = id
noncomputable instance (T : Tb) (id : Int) : Decidable (T.recent id) := Classical.propDecidable _
noncomputable def Tb.live (T : Tb) (id clock : Int) : Int :=
  match findSl id T.ss with
  | none => if T.recent id then 6 else 5
  | some s => if s.dl ≤ clock then 6 else 0
def modSl (id : Int) (f : Sl → Sl) : List Sl → List Sl
  | [] => []
  | s :: r => if s.id = id then f s :: r else s :: modSl id f r
def delSl (id : Int) : List Sl → List Sl
  | [] => []
  | s :: r => if s.id = id then r else s :: delSl id r
structure Tb.Ok (T : Tb) : Prop where
  len : T.ss.length ≤ 4
  most : T.most ≤ 4
  term : 1 ≤ T.term ∧ T.term ≤ 1000
  opened : 0 ≤ T.opened ∧ T.opened ≤ 1048576
  ends : 0 ≤ T.ends ∧ T.ends ≤ 1048576
  stored : ∀ s ∈ T.ss, 0 ≤ s.stored ∧ s.stored ≤ 2
def okClock (c : Int) : Prop := 0 ≤ c ∧ c ≤ 1000000
end Go.Proofs.Ytobbhdmbblhgaaa
