/-
  Conditions that the executor computes, written out by a program (vcgen.py).
-/
import Derived.Test.YtoalfimkkibpdaaGreatDoorMx
import Derived.Test.YtoalfimkkibpdaaGreatDoorMp
import Derived.Test.YtoalfimkkibpdaaGreatDoorMv
import Derived.Test.YtoalfimkkibpdaaGreatDoorMw
import Derived.Test.YtoalfimkkibpdaaGreatDoorTie
import Derived.Test.YtoalfimkkibpdaaGreatDoorCards
import Derived.SevenTiedAt
namespace Go.Proofs.YtoalfimkkibpdaaGreatDoor
open Go Sx
set_option maxRecDepth 20000
theorem vcGPut (x : Pp) (z : Bool) (o c : Nat) (key : Option Nat) : VC.holds (runS (cfgGP x) 12 Tryz.f12 [x.sv (.vslc 0 1 z o 0 x.n c)] [seenP z o c x key] (putPA x)) = ((fun P0 : SB => ((fun P1 : (Nat × Nat) → SV => (((((True ∧ True ∧ True ∧ True ∧ (z = z ∧ o = o ∧ 0 + x.n ≤ x.n) ∧ True) ∧ True) ∧ True) ∧ ((!x.ok) = true → (x.ok = true → (decide (65536 < (x.put.length : Int)) = true → sameVal (SV.tup [SV.str true [], SV.int .i64 true 1]) (SV.tup [SV.str true [], SV.int .i64 true 8])) ∧ (decide (65536 < (x.put.length : Int)) = false → sameVal (SV.tup [SV.str true [], SV.int .i64 true 1]) (SV.tup [SV.str false x.put, SV.int .i64 true 0]))) ∧ (x.ok = false → sameVal (SV.tup [SV.str true [], SV.int .i64 true 1]) (SV.tup [SV.str true [], SV.int .i64 true 1]))) ∧ ((!x.ok) = false → (∃ (u4 : Nat × Nat), Grow x.n u4 ∧ 0 = (u4.fst : Int) ∧ u4.fst = 0 ∧ (SB.rows true u4.fst [Col.str (rowT x.f)] false u4.snd 9).no = true ∧ SBle P0 P0 ∧ SBle (seenP z o c x key).B (seenP z o c x key).B ∧ True) ∧ ∀ (u3 : Nat × Nat), Grow x.n u3 → (decide ((u3.fst : Int) < (x.n : Int)) = true → (0 ≤ (u3.fst : Int) ∧ (u3.fst : Int) < (x.n : Int)) ∧ (o = o ∧ 0 + (u3.fst : Int).toNat < x.n) ∧ (x.f (0 + (u3.fst : Int).toNat)).length < 1152921504606846976 ∧ (0 + u3.fst ≤ u3.fst ∧ True ∧ 2 * (u3.fst + 1) * 16 ≤ (281474976710656 : Nat) ∧ u3.fst + 1 < (9223372036854775808 : Nat)) ∧ u3.snd = u3.snd * 1 ∧
 ∀ (u2 : Nat), u3.fst + 1 ≤ u2 → ((-9223372036854775808 : Int) ≤ (u3.fst : Int) + 1 ∧ (u3.fst : Int) + 1 ≤ (9223372036854775807 : Int)) ∧ ∃ (u1 : Nat × Nat), (Grow x.n u1 ∧ x.n - u1.fst < x.n - u3.fst) ∧ (u3.fst : Int) + 1 = (u1.fst : Int) ∧ ((0 : Nat) = (0 : Nat) ∧ u3.fst + 1 = u1.fst ∧ u2 = u1.snd) ∧ True ∧ SBle (SB.rows true (u3.fst + 1) [Col.str fun (u0 : Nat) => if u0 < u3.fst then rowT x.f u0 else selS [textOf (x.f (0 + (u3.fst : Int).toNat))] (u0 - u3.fst)] false (u2 * 1) 9) (SB.rows true u1.fst [Col.str (rowT x.f)] false u1.snd 9) ∧ SBle P0 P0 ∧ SBle (seenP z o c x key).B (seenP z o c x key).B ∧ True) ∧ (decide ((u3.fst : Int) < (x.n : Int)) = false → (0 ≤ x.k % 18446744073709551616 ∧ x.k % 18446744073709551616 < (18446744073709551616 : Int)) ∧ some P0 = some P0 ∧ some P0 = some P0 ∧ some P0 = some P0 ∧ x.root.length < 1152921504606846976 ∧ some P0 = some P0 ∧ some P0 = some P0 ∧ x.key.length < 1152921504606846976 ∧ some P0 = some P0 ∧ x.to.length < 1152921504606846976 ∧ ((true = true ∧ 0 + u3.fst ≤ u3.fst) ∧ joinQ (rowL (rowT x.f) 0 u3.fst)) ∧ (True ∧
 joinQ [textOf (digits (x.k % 18446744073709551616)), textOf x.root, textOf x.key, textOf x.to, headOf 192 (flat (rowL (rowT x.f) 0 u3.fst)).length ++ flat (rowL (rowT x.f) 0 u3.fst)]) ∧ (decide (65536 < (↑(headOf 192 (flat [textOf (digits (x.k % 18446744073709551616)), textOf x.root, textOf x.key, textOf x.to, headOf 192 (flat (rowL (rowT x.f) 0 u3.fst)).length ++ flat (rowL (rowT x.f) 0 u3.fst)]).length ++ flat [textOf (digits (x.k % 18446744073709551616)), textOf x.root, textOf x.key, textOf x.to, headOf 192 (flat (rowL (rowT x.f) 0 u3.fst)).length ++ flat (rowL (rowT x.f) 0 u3.fst)]).length : Int)) = true → (x.ok = true → (decide (65536 < (x.put.length : Int)) = true → sameVal (SV.tup [SV.str true [], SV.int .i64 true 8]) (SV.tup [SV.str true [], SV.int .i64 true 8])) ∧ (decide (65536 < (x.put.length : Int)) = false → sameVal (SV.tup [SV.str true [], SV.int .i64 true 8]) (SV.tup [SV.str false x.put, SV.int .i64 true 0]))) ∧ (x.ok = false → sameVal (SV.tup [SV.str true [], SV.int .i64 true 8]) (SV.tup [SV.str true [], SV.int .i64 true 1]))) ∧
 (decide (65536 < (↑(headOf 192 (flat [textOf (digits (x.k % 18446744073709551616)), textOf x.root, textOf x.key, textOf x.to, headOf 192 (flat (rowL (rowT x.f) 0 u3.fst)).length ++ flat (rowL (rowT x.f) 0 u3.fst)]).length ++ flat [textOf (digits (x.k % 18446744073709551616)), textOf x.root, textOf x.key, textOf x.to, headOf 192 (flat (rowL (rowT x.f) 0 u3.fst)).length ++ flat (rowL (rowT x.f) 0 u3.fst)]).length : Int)) = false → (x.ok = true → (decide (65536 < (x.put.length : Int)) = true → sameVal (P1 u3) (SV.tup [SV.str true [], SV.int .i64 true 8])) ∧ (decide (65536 < (x.put.length : Int)) = false → sameVal (P1 u3) (SV.tup [SV.str false x.put, SV.int .i64 true 0]))) ∧ (x.ok = false → sameVal (P1 u3) (SV.tup [SV.str true [], SV.int .i64 true 1])))))))) (fun (u3 : Nat × Nat) => (SV.tup [listG [textOf (digits (x.k % 18446744073709551616)), textOf x.root, textOf x.key, textOf x.to, headOf 192 (flat (rowL (rowT x.f) 0 u3.fst)).length ++ flat (rowL (rowT x.f) 0 u3.fst)], SV.int .i64 true 0])))) (SB.cells (x.sv (SV.vslc 0 1 z o 0 x.n c)).cells 5 31)) := by kernel_rfl
end Go.Proofs.YtoalfimkkibpdaaGreatDoor
/-
  Wire's reference: Put: the contract.
-/
namespace Go.Proofs.YtoalfimkkibpdaaGreatDoor
open Go Sx
set_option maxRecDepth 20000
theorem grow_rowZ {F : Nat → List UInt8} {k : Nat} {v : List UInt8} (hv : v = F k) {c : Nat} :
    SBle (.rows true (k + 1) [.str fun j => if j < k then F j else selS [v] (j - k)] false (c * 1) 9) (.rows true (k + 1) [.str F] false c 9) := by
  refine Sx.SBle.strRows rfl (by omega) fun i hi => ?_
  by_cases h : i < k
  · rw [if_pos h]
  · have e : i = k := by omega
    subst e
    rw [if_neg h, Nat.sub_self, hv]
    rfl
set_option maxHeartbeats 4000000 in
theorem gput_holds (x : Pp) (z : Bool) (o c : Nat) (key : Option Nat) : Holds (runS (cfgGP x) 12 Tryz.f12 [x.sv (.vslc 0 1 z o 0 x.n c)] [seenP z o c x key] (putPA x)) := by
  refine Holds.of_eq (vcGPut x z o c key) ?_
  refine ⟨⟨⟨⟨trivial, trivial, trivial, trivial, ⟨rfl, rfl, by omega⟩, trivial⟩, trivial⟩, trivial⟩, ?_⟩
  cases hx : x.ok with
  | false =>
    refine ⟨fun _ => ⟨(fun h => by cases h), fun _ _ => rfl⟩, fun h => by cases h⟩
  | true =>
    have hs := Pp.ok_small hx
    have hl := Pp.items_len hs
    have hr := Pp.rows_len hs
    have hrow : x.rows.length = x.n := rowL_len _ _ _
    obtain ⟨h1, h2, h3, h4, h5, h6⟩ := hs
    have hk : x.k % 18446744073709551616 = x.k := by omega
    simp only [hk, Nat.le_refl, Int.toNat_natCast, Nat.zero_add, Nat.mul_one, and_self, true_and, and_true, Bool.not_true, Bool.false_eq_true, Bool.true_eq_false, false_imp_iff, forall_const]
    refine ⟨⟨(0, 0), ⟨Nat.zero_le _, Nat.zero_le _⟩, rfl, rfl, rfl, SBle.refl _, SBle.refl _⟩, fun y hy => ⟨fun hk => ?_, fun hk => ?_⟩⟩
    · simp only [decide_eq_true_eq] at hk
      have hk' : y.1 < x.n := by omega
      have b1 := h6 y.1 hk'
      have hle := hy.le
      refine ⟨by omega, hk', by omega, by omega, fun c1 hc => ⟨by omega, (y.1 + 1, c1), ⟨grow_next (_k := 0) hy (by omega) hc, by show x.n - (y.1 + 1) < x.n - y.1; omega⟩, by simp, ⟨rfl, rfl⟩, ?_, SBle.refl _, SBle.refl _⟩⟩
      have := @grow_rowZ (rowT x.f) y.1 (textOf (x.f y.1)) rfl c1
      rw [Nat.mul_one] at this
      exact this
    · simp only [decide_eq_false_iff_not] at hk
      have e : y.1 = x.n := by have := hy.le; omega
      rw [e]
      have e1 : rowL (rowT x.f) 0 x.n = x.rows := rfl
      have e2 : headOf 192 (flat x.rows).length ++ flat x.rows = listOf x.rows := rfl
      have e3 : ∀ l : List UInt8, l = listOf x.rows → [textOf (digits x.k), textOf x.root, textOf x.key, textOf x.to, l] = x.items := fun l h => by subst h; rfl
      rw [e1, e2, e3 _ rfl]
      have e4 : headOf 192 (flat x.items).length ++ flat x.items = x.put := rfl
      rw [e4]
      have q1 : joinQ x.rows := by unfold joinQ; omega
      have q2 : joinQ x.items := by
        have : x.items.length = 5 := rfl
        unfold joinQ; omega
      generalize decide ((65536 : Int) < (x.put.length : Int)) = b at *
      refine ⟨by omega, by omega, by omega, by omega, q1, q2, ?_⟩
      cases b with
      | true => exact ⟨fun _ => ⟨fun _ _ => rfl, (fun h => by cases h)⟩, (fun h => by cases h)⟩
      | false => exact ⟨(fun h => by cases h), fun _ => ⟨(fun h => by cases h), fun _ _ => rfl⟩⟩
theorem gput_ok : CallOk Tryz.prog 12 (ansVPT shP pputSpec) := by
  refine ansV_ok (n := 20) (fn := Tryz.f12) Tryz.func12 (by kernel_rfl) (by kernel_rfl) ?_
  intro vs l q a h hq
  unfold pputSpec at h
  split at h
  · rename_i x r hx
    obtain ⟨z, o, c, key⟩ := r
    injection h with h; injection h with h1 h2; subst h1; subst h2
    obtain ⟨e1, e2⟩ := paperOf_eq hx
    rw [e1, e2]
    exact ⟨_, goodGP x, rfl, fun b => by cases b <;> first | exact rfl | (intro b; cases b <;> exact rfl), gput_holds x z o c key⟩
  · cases h
def txOf (t : List UInt8) : List UInt8 := bif cutB t then cutIn t else []
noncomputable def listGw2 : List (FuncId × PT) := (12, ansVPT shP pputSpec) :: listGw1
theorem listGw2_ok : SummOk Tryz.prog (fun f => lookPT f listGw2) := .cons gput_ok (ansVPT_mono _ _) listGw1_ok
noncomputable def cfgGw2 : Cfg := { cfg0 with summ := fun f => lookPT f listGw2 }
theorem goodGw2 : Sx.Good Tryz.prog cfgGw2 := ⟨mixes, listGw2_ok, fns_ok⟩
end Go.Proofs.YtoalfimkkibpdaaGreatDoor
/-
  Conditions that the executor computes, written out by a program (vcgen.py).
-/
namespace Go.Proofs.YtoalfimkkibpdaaGreatDoor
open Go Sx
set_option maxRecDepth 20000
theorem vcGText (t : List UInt8) (R : SV → Prop) : VC.holds (runP cfgGw2 47 Tryz.f47 [.str false t] R) = ((t.length < 9223372036854775808 ∧ (cutB t = true → R (SV.str false (cutIn t))) ∧ (cutB t = false → R (SV.str true [])))) := by kernel_rfl
end Go.Proofs.YtoalfimkkibpdaaGreatDoor
/-
  Wire's reference: text: the contract; Get: the set-up.
-/
namespace Go.Proofs.YtoalfimkkibpdaaGreatDoor
open Go Sx
set_option maxRecDepth 20000
def gtextSpec : List SV → Option (Prop × SV)
  | [.str false t] => some (t.length < 9223372036854775808, .str false (txOf t))
  | _ => none
theorem gtext_ok : CallOk Tryz.prog 47 (purePT gtextSpec) := by
  refine pure_ok goodGw2 (n := 20) (fn := Tryz.f47) Tryz.func47 (by kernel_rfl) (by kernel_rfl) ?_
  intro args p r h hp
  unfold gtextSpec at h
  split at h
  · rename_i t
    injection h with h; injection h with h1 h2; subst h1; subst h2
    refine ⟨rfl, rfl, Holds.of_eq (vcGText t _) ⟨hp, fun h => ?_, fun h => ?_⟩⟩
    · intro E; unfold txOf; rw [h]; rfl
    · intro E; unfold txOf; rw [h]; rfl
  · cases h
noncomputable def listGw3 : List (FuncId × PT) := (47, purePT gtextSpec) :: listGw2
theorem listGw3_ok : SummOk Tryz.prog (fun f => lookPT f listGw3) := .cons gtext_ok (purePT_mono _) listGw2_ok
def gnOf (t : List UInt8) : Int := bif getB t then num (cutIn t) else 0
def gpaperD (s : List UInt8) : Pp := ⟨gnOf (itOf s 0), txOf (itOf s 1), txOf (itOf s 2), txOf (itOf s 3), itemsN (txOf (itOf s 4)), fun i => txOf (itemAt (txOf (itOf s 4)) i)⟩
noncomputable def gjoinNum (s : List UInt8) : LoopAnn :=
  { α := Unit, pre := fun _ _ => True, mea := fun _ _ => 0, fresh := 0, slots := fun _ _ => [(10, .int .u64 false (gnOf (itOf s 0)))], mem := fun _ _ => [] }
noncomputable def gjoinHead (s : List UInt8) : LoopAnn :=
  { α := Unit, pre := fun _ _ => True, mea := fun _ _ => 0, fresh := 1, slots := fun st _ => [(12, .ptr st.nx true 0)],
    mem := fun st _ => [(st.nx, .cells [.int .i64 false (gnOf (itOf s 0)), .str false (txOf (itOf s 1)), .str false (txOf (itOf s 2)), .str false (txOf (itOf s 3)), .nilslc] 5 31)] }
noncomputable def gannGet (s : List UInt8) : LoopAnn :=
  { α := Nat × Nat, pre := fun _ x => Grow (itemsN (txOf (itOf s 4))) x, mea := fun _ x => itemsN (txOf (itOf s 4)) - x.1, fresh := 1, slots := fun _ x => [(15, .int .i64 false x.1)],
    mem := fun st x => [(wpKeyAt st 12, .cells [.int .i64 false (gnOf (itOf s 0)), .str false (txOf (itOf s 1)), .str false (txOf (itOf s 2)), .str false (txOf (itOf s 3)), .rslc st.nx 1 true 0 x.1 x.2] 5 31), (st.nx, .rows true x.1 [.str (gpaperD s).f] false x.2 9)] }
noncomputable def cfgGG (s : List UInt8) : Cfg := { cfg0 with summ := fun f => lookPT f listGw3, anns := fun f => if f = 22 then [(13, always (gannGet s)), (1005, always (gjoinNum s)), (1008, always (gjoinHead s))] else [] }
theorem goodGG (s : List UInt8) : Sx.Good Tryz.prog (cfgGG s) := ⟨mixes, listGw3_ok, fns_ok⟩
end Go.Proofs.YtoalfimkkibpdaaGreatDoor
/-
  Conditions that the executor computes, written out by a program (vcgen.py).
-/
namespace Go.Proofs.YtoalfimkkibpdaaGreatDoor
open Go Sx
set_option maxRecDepth 20000
theorem vcGGet (s : List UInt8) : VC.holds (runA (cfgGG s) 22 Tryz.f22 [.str false s] (getPA s)) = ((fun P0 : Nat → SB => ((fun P1 : SB => ((fun P2 : SV => ((fun P3 : (Nat × Nat) → SB => ((fun P4 : SB => ((fun P5 : SB => ((fun P6 : SV => ((fun P7 : Nat → SB => ((fun P8 : (Nat × Nat) → SV => ((s.length < 9223372036854775808 ∧ (cutB s = true → (cutIn s).length < 1099511627776 ∧ (itemsB (cutIn s) = true → ∀ (u37 : Nat), itemsN (cutIn s) ≤ u37 → ((!cutL s) = true → (getPB s = true → ∃ (u36 : Nat), itemsN (cutIn (itOf s 4)) ≤ u36 ∧ False) ∧ (getPB s = false → sameVal P2 P6)) ∧ ((!cutL s) = false → ((!decide ((↑(itemsN (cutIn s)) : Int) = 5)) = true → (getPB s = true → ∃ (u35 : Nat), itemsN (cutIn (itOf s 4)) ≤ u35 ∧ False) ∧ (getPB s = false → sameVal P2 P6)) ∧ ((!decide ((↑(itemsN (cutIn s)) : Int) = 5)) = false → (((0 : Int) ≤ (0 : Int) ∧ 0 < (↑(itemsN (cutIn s)) : Int)) ∧ 0 < itemsN (cutIn s) ∧ (itemAt (cutIn s) 0).length < 9223372036854775808 ∧ (getB (itemAt (cutIn s) 0) = true → ∃ (_u34 : Unit), True ∧ num (cutIn (itemAt (cutIn s) 0)) = gnOf (itOf s 0) ∧ SBle (P0 u37) (P0 u37) ∧ SBle P1 P1 ∧ True) ∧ (getB (itemAt (cutIn s) 0) = false → ∃ (_u33 : Unit), True ∧ 0 = gnOf (itOf s 0) ∧ SBle (P0 u37) (P0 u37) ∧ SBle P1 P1 ∧ True)) ∧ ∀ (_u32 : Unit), True → (decide (1 < gnOf (itOf s 0)) = true → (getPB s = true → ∃ (u31 : Nat), itemsN (cutIn (itOf s 4)) ≤ u31 ∧ False) ∧ (getPB s = false → sameVal P2 P6)) ∧ (decide (1 < gnOf (itOf s 0)) = false →
 (((-9223372036854775808 : Int) ≤ gnOf (itOf s 0) ∧ gnOf (itOf s 0) ≤ 9223372036854775807) ∧ ((0 : Int) ≤ (1 : Int) ∧ 1 < (↑(itemsN (cutIn s)) : Int)) ∧ 1 < itemsN (cutIn s) ∧ ((0 : Int) ≤ (2 : Int) ∧ 2 < (↑(itemsN (cutIn s)) : Int)) ∧ 2 < itemsN (cutIn s) ∧ ((0 : Int) ≤ (3 : Int) ∧ 3 < (↑(itemsN (cutIn s)) : Int)) ∧ 3 < itemsN (cutIn s) ∧ ((itemAt (cutIn s) 1).length < 9223372036854775808 ∧ some (P0 u37) = some (P0 u37) ∧ some (P0 u37) = some (P0 u37) ∧ ((itemAt (cutIn s) 2).length < 9223372036854775808 ∧ some (P0 u37) = some (P0 u37) ∧ ((itemAt (cutIn s) 3).length < 9223372036854775808 ∧ some (P0 u37) = some (P0 u37) ∧ some (P0 u37) = some (P0 u37) ∧ some (P0 u37) = some (P0 u37) ∧ ∃ (_u30 : Unit), True ∧ (0 : Nat) = (0 : Nat) ∧ SBle P4 P5 ∧ SBle (P0 u37) (P0 u37) ∧ SBle P1 P1 ∧ True) ∧ some (P0 u37) = some (P0 u37) ∧ some (P0 u37) = some (P0 u37) ∧ some (P0 u37) = some (P0 u37) ∧ (itemAt (cutIn s) 3).length < 9223372036854775808 ∧ ∃ (_u29 : Unit), True ∧ (0 : Nat) = (0 : Nat) ∧ SBle P4 P5 ∧ SBle (P0 u37) (P0 u37) ∧ SBle P1 P1 ∧ True) ∧ some (P0 u37) = some (P0 u37) ∧ some (P0 u37) = some (P0 u37) ∧ some (P0 u37) = some (P0 u37) ∧
 (itemAt (cutIn s) 2).length < 9223372036854775808 ∧ some (P0 u37) = some (P0 u37) ∧ (itemAt (cutIn s) 3).length < 9223372036854775808 ∧ ∃ (_u28 : Unit), True ∧ (0 : Nat) = (0 : Nat) ∧ SBle P4 P5 ∧ SBle (P0 u37) (P0 u37) ∧ SBle P1 P1 ∧ True) ∧ some (P0 u37) = some (P0 u37) ∧ some (P0 u37) = some (P0 u37) ∧ some (P0 u37) = some (P0 u37) ∧ (itemAt (cutIn s) 1).length < 9223372036854775808 ∧ some (P0 u37) = some (P0 u37) ∧ some (P0 u37) = some (P0 u37) ∧ (itemAt (cutIn s) 2).length < 9223372036854775808 ∧ some (P0 u37) = some (P0 u37) ∧ (itemAt (cutIn s) 3).length < 9223372036854775808 ∧ ∃ (_u27 : Unit), True ∧ (0 : Nat) = (0 : Nat) ∧ SBle P4 P5 ∧ SBle (P0 u37) (P0 u37) ∧ SBle P1 P1 ∧ True) ∧ ∀ (_u26 : Unit), True → ((0 : Int) ≤ (4 : Int) ∧ 4 < (↑(itemsN (cutIn s)) : Int)) ∧ 4 < itemsN (cutIn s) ∧ (itemAt (cutIn s) 4).length < 9223372036854775808 ∧ (txOf (itemAt (cutIn s) 4)).length < 1099511627776 ∧ (itemsB (txOf (itemAt (cutIn s) 4)) = true → ∀ (u25 : Nat), itemsN (txOf (itemAt (cutIn s) 4)) ≤ u25 → (∃ (u24 : Nat × Nat), Grow (itemsN (txOf (itOf s 4))) u24 ∧ 0 = (u24.fst : Int) ∧ (5 : Nat) = (5 : Nat) ∧ gnOf (itOf s 0) = gnOf (itOf s 0) ∧ txOf (itOf s 1) = txOf (itOf s 1) ∧
 txOf (itOf s 2) = txOf (itOf s 2) ∧ txOf (itOf s 3) = txOf (itOf s 3) ∧ u24.fst = 0 ∧ (SB.rows true u24.fst [Col.str fun (u23 : Nat) => txOf (itemAt (txOf (itOf s 4)) u23)] false u24.snd 9).no = true ∧ SBle (P7 u25) (P7 u25) ∧ SBle (P0 u37) (P0 u37) ∧ SBle P1 P1 ∧ True) ∧ ∀ (u22 : Nat × Nat), Grow (itemsN (txOf (itOf s 4))) u22 → (decide ((u22.fst : Int) < (↑(itemsN (txOf (itemAt (cutIn s) 4))) : Int)) = true → (0 ≤ (u22.fst : Int) ∧ (u22.fst : Int) < (↑(itemsN (txOf (itemAt (cutIn s) 4))) : Int)) ∧ 0 + (u22.fst : Int).toNat < itemsN (txOf (itemAt (cutIn s) 4)) ∧ (itemAt (txOf (itemAt (cutIn s) 4)) (0 + (u22.fst : Int).toNat)).length < 9223372036854775808 ∧ some (P3 u22) = some (P3 u22) ∧ some (P3 u22) = some (P3 u22) ∧ (0 + u22.fst ≤ u22.fst ∧ True ∧ 2 * (u22.fst + 1) * 16 ≤ (281474976710656 : Nat) ∧ u22.fst + 1 < (9223372036854775808 : Nat)) ∧ u22.snd = u22.snd * 1 ∧ ∀ (u21 : Nat), u22.fst + 1 ≤ u21 → ((-9223372036854775808 : Int) ≤ (u22.fst : Int) + 1 ∧ (u22.fst : Int) + 1 ≤ (9223372036854775807 : Int)) ∧ ∃ (u20 : Nat × Nat), (Grow (itemsN (txOf (itOf s 4))) u20 ∧ itemsN (txOf (itOf s 4)) - u20.fst < itemsN (txOf (itOf s 4)) - u22.fst) ∧ (u22.fst : Int) + 1 = (u20.fst : Int) ∧
 (5 : Nat) = (5 : Nat) ∧ gnOf (itOf s 0) = gnOf (itOf s 0) ∧ txOf (itOf s 1) = txOf (itOf s 1) ∧ txOf (itOf s 2) = txOf (itOf s 2) ∧ txOf (itOf s 3) = txOf (itOf s 3) ∧ ((0 : Nat) = (0 : Nat) ∧ u22.fst + 1 = u20.fst ∧ u21 = u20.snd) ∧ True ∧ SBle (SB.rows true (u22.fst + 1) [Col.str fun (u19 : Nat) => if u19 < u22.fst then txOf (itemAt (txOf (itOf s 4)) u19) else selS [txOf (itemAt (txOf (itemAt (cutIn s) 4)) (0 + (u22.fst : Int).toNat))] (u19 - u22.fst)] false (u21 * 1) 9) (SB.rows true u20.fst [Col.str fun (u18 : Nat) => txOf (itemAt (txOf (itOf s 4)) u18)] false u20.snd 9) ∧ SBle (P7 u25) (P7 u25) ∧ SBle (P0 u37) (P0 u37) ∧ SBle P1 P1 ∧ True) ∧ (decide ((u22.fst : Int) < (↑(itemsN (txOf (itemAt (cutIn s) 4))) : Int)) = false → (((True ∧ True ∧ True ∧ True ∧ (true = true ∧ 0 + u22.fst ≤ u22.fst) ∧ True) ∧ True) ∧ True) ∧ ({ k := gnOf (itOf s 0), root := txOf (itOf s 1), key := txOf (itOf s 2), to := txOf (itOf s 3), n := u22.fst, f := fun (u17 : Nat) => txOf (itemAt (txOf (itOf s 4)) u17) : Pp }.ok = true →
 (decide (65536 < (↑{ k := gnOf (itOf s 0), root := txOf (itOf s 1), key := txOf (itOf s 2), to := txOf (itOf s 3), n := u22.fst, f := fun (u16 : Nat) => txOf (itemAt (txOf (itOf s 4)) u16) : Pp }.put.length : Int)) = true → (getPB s = true → ∃ (u15 : Nat), itemsN (cutIn (itOf s 4)) ≤ u15 ∧ False) ∧ (getPB s = false → sameVal P2 P6)) ∧ (decide (65536 < (↑{ k := gnOf (itOf s 0), root := txOf (itOf s 1), key := txOf (itOf s 2), to := txOf (itOf s 3), n := u22.fst, f := fun (u14 : Nat) => txOf (itemAt (txOf (itOf s 4)) u14) : Pp }.put.length : Int)) = false → ((!decide ({ k := gnOf (itOf s 0), root := txOf (itOf s 1), key := txOf (itOf s 2), to := txOf (itOf s 3), n := u22.fst, f := fun (u13 : Nat) => txOf (itemAt (txOf (itOf s 4)) u13) : Pp }.put = s)) = true → (getPB s = true → ∃ (u12 : Nat), itemsN (cutIn (itOf s 4)) ≤ u12 ∧ False) ∧ (getPB s = false → sameVal P2 P6)) ∧ ((!decide ({ k := gnOf (itOf s 0), root := txOf (itOf s 1), key := txOf (itOf s 2), to := txOf (itOf s 3), n := u22.fst, f := fun (u11 : Nat) => txOf (itemAt (txOf (itOf s 4)) u11) : Pp }.put = s)) = false → (getPB s = true → ∃ (u10 : Nat), itemsN (cutIn (itOf s 4)) ≤ u10 ∧
 SBle (SB.rows true u22.fst [Col.str fun (u9 : Nat) => txOf (itemAt (txOf (itOf s 4)) u9)] false u22.snd 9) (SB.rows true (itemsN (cutIn (itOf s 4))) [Col.str fun (u8 : Nat) => cutIn (itemAt (cutIn (itOf s 4)) u8)] false u10 9) ∧ sameVal (P8 u22) (SV.tup [(paperD s).sv (SV.rslc ((0 : Nat) + (1 : Nat) + (1 : Nat) + (0 : Nat) + (1 : Nat) + (1 : Nat)) 1 true 0 (itemsN (cutIn (itOf s 4))) u10), SV.int .i64 true 0])) ∧ (getPB s = false → sameVal (P8 u22) P6)))) ∧ ({ k := gnOf (itOf s 0), root := txOf (itOf s 1), key := txOf (itOf s 2), to := txOf (itOf s 3), n := u22.fst, f := fun (u7 : Nat) => txOf (itemAt (txOf (itOf s 4)) u7) : Pp }.ok = false → (getPB s = true → ∃ (u6 : Nat), itemsN (cutIn (itOf s 4)) ≤ u6 ∧ False) ∧ (getPB s = false → sameVal P2 P6)))) ∧ (itemsB (txOf (itemAt (cutIn s) 4)) = false → (getPB s = true → ∃ (u5 : Nat), itemsN (cutIn (itOf s 4)) ≤ u5 ∧ False) ∧ (getPB s = false → sameVal P2 P6)))))) ∧ (itemsB (cutIn s) = false → ((!cutL s) = true → (getPB s = true → ∃ (u4 : Nat), itemsN (cutIn (itOf s 4)) ≤ u4 ∧ False) ∧ (getPB s = false → sameVal P2 P6)) ∧ ((!cutL s) = false → (getPB s = true → ∃ (u3 : Nat), itemsN (cutIn (itOf s 4)) ≤ u3 ∧ False) ∧ (getPB s = false →
 sameVal P2 P6)))) ∧ (cutB s = false → (0 : Nat) < (1099511627776 : Nat) ∧ (itemsB [] = true → ∀ (u2 : Nat), 0 ≤ u2 → (getPB s = true → ∃ (u1 : Nat), itemsN (cutIn (itOf s 4)) ≤ u1 ∧ False) ∧ (getPB s = false → sameVal P2 P6)) ∧ (itemsB [] = false → (getPB s = true → ∃ (u0 : Nat), itemsN (cutIn (itOf s 4)) ≤ u0 ∧ False) ∧ (getPB s = false → sameVal P2 P6)))))) (fun (u22 : Nat × Nat) => (SV.tup [SV.agg [SV.int .i64 false (gnOf (itOf s 0)), SV.str false (txOf (itOf s 1)), SV.str false (txOf (itOf s 2)), SV.str false (txOf (itOf s 3)), SV.rslc ((0 : Nat) + (1 : Nat) + (1 : Nat) + (0 : Nat) + (1 : Nat) + (1 : Nat)) 1 true 0 u22.fst u22.snd], SV.int .i64 true 0])))) (fun (u25 : Nat) => (SB.rows true (itemsN (txOf (itemAt (cutIn s) 4))) [Col.str (itemAt (txOf (itemAt (cutIn s) 4)))] false u25 9)))) (SV.tup [noPaper, SV.int .i64 true 2]))) (SB.cells [SV.int .i64 false (gnOf (itOf s 0)), SV.str false (txOf (itOf s 1)), SV.str false (txOf (itOf s 2)), SV.str false (txOf (itOf s 3)), SV.nilslc] 5 31))) (SB.cells [SV.int .i64 false (gnOf (itOf s 0)), SV.str false (txOf (itemAt (cutIn s) 1)), SV.str false (txOf (itemAt (cutIn s) 2)), SV.str false (txOf (itemAt (cutIn s) 3)), SV.nilslc] 5 31))) (fun (u22 : Nat × Nat) => (SB.cells [SV.int .i64 false (gnOf (itOf s 0)), SV.str false (txOf (itOf s 1)), SV.str false (txOf (itOf s 2)), SV.str false (txOf (itOf s 3)), SV.rslc ((0 : Nat) + (1 : Nat) + (1 : Nat) + (0 : Nat) + (1 : Nat) + (1 : Nat)) 1 true 0 u22.fst u22.snd] 5 31)))) (SV.tup [SV.agg [SV.int .i64 true 0, SV.str true [], SV.str true [], SV.str true [], SV.nilslc], SV.int .i64 true 2]))) (SB.cells (SV.agg [SV.int .i64 true 0, SV.str true [], SV.str true [], SV.str true [], SV.nilslc]).cells 5 31))) (fun (u37 : Nat) => (SB.rows true (itemsN (cutIn s)) [Col.str (itemAt (cutIn s))] false u37 9))) := by kernel_rfl
end Go.Proofs.YtoalfimkkibpdaaGreatDoor
/-
  Wire's reference: Get: plain laws.
-/
namespace Go.Proofs.YtoalfimkkibpdaaGreatDoor
open Go Sx
set_option maxRecDepth 20000
section
variable {s : List UInt8}
structure Pp.Like (x y : Pp) : Prop where
  k : x.k = y.k
  root : x.root = y.root
  key : x.key = y.key
  to : x.to = y.to
  n : x.n = y.n
  f : ∀ i, i < y.n → x.f i = y.f i
theorem rowL_congr {f g : Nat → List UInt8} {n : Nat} (h : ∀ i, i < n → f i = g i) : rowL f 0 n = rowL g 0 n := by
  unfold rowL
  apply List.map_congr_left
  intro i hi
  have : i < n := by simpa using hi
  simpa using h i this
theorem Pp.Like.put {x y : Pp} (h : x.Like y) : x.put = y.put := by
  have hr : x.rows = y.rows := by
    unfold Pp.rows
    rw [h.n]
    exact rowL_congr fun i hi => by unfold rowT; rw [h.f i hi]
  unfold Pp.put Pp.items
  rw [h.k, h.root, h.key, h.to, hr]
theorem Pp.Like.ok {x y : Pp} (h : x.Like y) : x.ok = y.ok := by
  have hr : nodesOk x.n x.f = nodesOk y.n y.f := by
    unfold nodesOk
    rw [h.n]
    have : ∀ (l : List Nat), (∀ i ∈ l, i < y.n) → l.all (nodeOk x.f) = l.all (nodeOk y.f) := by
      intro l
      induction l with
      | nil => intro _; rfl
      | cons a r ih =>
        intro hl
        rw [List.all_cons, List.all_cons, ih fun i hi => hl i (List.mem_cons_of_mem _ hi)]
        unfold nodeOk
        rw [h.f a (hl a (List.mem_cons_self ..))]
    exact this _ fun i hi => List.mem_range.1 hi
  unfold Pp.ok
  rw [hr, h.k, h.root, h.key, h.to, h.n]
theorem txOf_inside {t : List UInt8} {l : Bool} (h : insideB t l = true) : txOf t = cutIn t := by
  unfold insideB at h
  simp only [Bool.and_eq_true] at h
  unfold txOf
  rw [h.1.1]; rfl
theorem txOf_items {t : List UInt8} (h : pitemsB t = true) : txOf t = cutIn t := by
  unfold pitemsB at h
  simp only [Bool.and_eq_true] at h
  exact txOf_inside h.1
theorem PaperRead.cutG (h : PaperRead s) : cutB s = true := by
  have := h.whole
  unfold pitemsB insideB at this
  simp only [Bool.and_eq_true, decide_eq_true_eq] at this
  exact this.1.1.1
theorem PaperRead.likeF (h : PaperRead s) : txOf (itOf s 4) = cutIn (itOf s 4) ∧ txOf (itOf s 1) = cutIn (itOf s 1) ∧ txOf (itOf s 2) = cutIn (itOf s 2) ∧ txOf (itOf s 3) = cutIn (itOf s 3) ∧ gnOf (itOf s 0) = numI (itOf s 0) ∧
    ∀ i, i < itemsN (cutIn (itOf s 4)) → txOf (itemAt (cutIn (itOf s 4)) i) = cutIn (itemAt (cutIn (itOf s 4)) i) := by
  obtain ⟨_, _, _, h0, _, h1, h2, h3, h4, _, h5⟩ := h
  refine ⟨txOf_items (t := itOf s 4) h4, txOf_inside (t := itOf s 1) h1, txOf_inside (t := itOf s 2) h2, txOf_inside (t := itOf s 3) h3, ?_, fun i hi => txOf_inside (h5 i hi)⟩
  have h0 : getB (itOf s 0) = true := h0
  unfold gnOf
  rw [h0]; rfl
section
attribute [local irreducible] itemAt itemsN cutIn txOf gnOf numI itOf
theorem PaperRead.like (h : PaperRead s) : (gpaperD s).Like (paperD s) := by
  obtain ⟨e4, e1, e2, e3, e0, e5⟩ := h.likeF
  have en : itemsN (txOf (itOf s 4)) = itemsN (cutIn (itOf s 4)) := by rw [e4]
  refine ⟨e0, e1, e2, e3, en, fun i hi => ?_⟩
  have := e5 i hi
  show txOf (itemAt (txOf (itOf s 4)) i) = cutIn (itemAt (cutIn (itOf s 4)) i)
  rw [e4]; exact this
end
theorem gread {x : Pp} (h1 : x.ok = true) (h2 : ¬ (65536 : Int) < (x.put.length : Int)) (h3 : x.put = s) : PaperRead s := by
  have := paper_read (x := x) (by unfold Pp.fits; rw [h1, decide_eq_false h2]; rfl)
  rw [h3] at this
  exact this
def gdOf (s : List UInt8) (n : Nat) : Pp := { k := gnOf (itOf s 0), root := txOf (itOf s 1), key := txOf (itOf s 2), to := txOf (itOf s 3), n := n, f := fun (i : Nat) => txOf (itemAt (txOf (itOf s 4)) i) }
theorem gdOf_paper {n : Nat} (h : n = itemsN (txOf (itOf s 4))) : gdOf s n = gpaperD s := by rw [h, gdOf, gpaperD]
theorem gdOf_eq {x : Nat × Nat} (hg : Grow (itemsN (txOf (itOf s 4))) x) (hi : decide ((x.1 : Int) < (itemsN (txOf (itemAt (cutIn s) 4)) : Int)) = false) : x.1 = itemsN (txOf (itOf s 4)) := by
  simp only [decide_eq_false_iff_not] at hi
  have h1 : x.1 ≤ itemsN (txOf (itemAt (cutIn s) 4)) := hg.le
  have h2 : x.1 = itemsN (txOf (itemAt (cutIn s) 4)) := by omega
  exact h2
theorem gw_ok {n : Nat} (e : n = itemsN (txOf (itOf s 4))) (h : (gdOf s n).ok = false) : getPB s = false := by
  rw [gdOf_paper e] at h
  exact Bool.eq_false_iff.2 fun hB => by
    obtain ⟨R, ho, _⟩ := getPB_read hB
    rw [R.like.ok, ho] at h; cases h
theorem gw_large {n : Nat} (e : n = itemsN (txOf (itOf s 4))) (h : decide ((65536 : Int) < ((gdOf s n).put.length : Int)) = true) : getPB s = false := by
  rw [gdOf_paper e] at h
  simp only [decide_eq_true_eq] at h
  exact Bool.eq_false_iff.2 fun hB => by
    obtain ⟨R, _, hp⟩ := getPB_read hB
    have hl := R.len
    rw [R.like.put, hp] at h
    omega
theorem gw_same {n : Nat} (e : n = itemsN (txOf (itOf s 4))) (h : (!decide ((gdOf s n).put = s)) = true) : getPB s = false := by
  rw [gdOf_paper e] at h
  simp only [Bool.not_eq_true', decide_eq_false_iff_not] at h
  exact Bool.eq_false_iff.2 fun hB => by
    obtain ⟨R, _, hp⟩ := getPB_read hB
    exact h (R.like.put.trans hp)
theorem gw_yes {n : Nat} (e : n = itemsN (txOf (itOf s 4))) (h1 : (gdOf s n).ok = true) (h2 : decide ((65536 : Int) < ((gdOf s n).put.length : Int)) = false) (h3 : (!decide ((gdOf s n).put = s)) = false) : getPB s = true ∧ (gpaperD s).Like (paperD s) := by
  rw [gdOf_paper e] at h1 h2 h3
  simp only [Bool.not_eq_false', decide_eq_true_eq] at h3
  simp only [decide_eq_false_iff_not] at h2
  have R := gread h1 h2 h3
  exact ⟨getPB_iff.2 ⟨by rw [← R.like.ok]; exact h1, by rw [← R.like.put]; exact h2, by rw [← R.like.put]; exact h3⟩, R.like⟩
theorem gw_list (h : (!cutL s) = true) : getPB s = false := wp_no_read fun R => by
  have := R.whole
  unfold pitemsB insideB at this
  simp only [Bool.and_eq_true, beq_iff_eq] at this
  rw [this.1.2] at h; cases h
theorem gw_cut (h : cutB s = false) : getPB s = false := wp_no_read fun R => by rw [R.cutG] at h; cases h
theorem gw_items (h : itemsB (cutIn s) = false) : getPB s = false := wp_no_read fun R => by
  have := R.whole
  unfold pitemsB at this
  simp only [Bool.and_eq_true] at this
  rw [this.2] at h; cases h
theorem gw_items4 (h : itemsB (txOf (itemAt (cutIn s) 4)) = false) : getPB s = false := wp_no_read fun R => by
  have := R.w4
  rw [txOf_items this] at h
  unfold pitemsB at this
  simp only [Bool.and_eq_true] at this
  rw [this.2] at h; cases h
theorem gw_num (h : decide ((1 : Int) < gnOf (itOf s 0)) = true) : getPB s = false := wp_no_read fun R => by
  simp only [decide_eq_true_eq] at h
  have h1 : gnOf (itOf s 0) = num (cutIn (itemAt (cutIn s) 0)) := R.likeF.2.2.2.2.1
  have := R.k0
  omega
theorem gn_fits (h : decide ((1 : Int) < gnOf (itOf s 0)) = false) : 0 ≤ gnOf (itOf s 0) ∧ gnOf (itOf s 0) ≤ 1 := by
  simp only [decide_eq_false_iff_not] at h
  refine ⟨?_, by omega⟩
  unfold gnOf
  cases getB (itOf s 0)
  · exact Int.le_refl _
  · exact num_nn _
theorem gn_true (h : getB (itemAt (cutIn s) 0) = true) : num (cutIn (itemAt (cutIn s) 0)) = gnOf (itOf s 0) := by
  unfold gnOf
  rw [show itOf s 0 = itemAt (cutIn s) 0 from rfl, h]; rfl
theorem gn_false (h : getB (itemAt (cutIn s) 0) = false) : (0 : Int) = gnOf (itOf s 0) := by
  unfold gnOf
  rw [show itOf s 0 = itemAt (cutIn s) 0 from rfl, h]; rfl
theorem txOf_le (t : List UInt8) : (txOf t).length ≤ t.length := by
  unfold txOf
  cases cutB t
  · exact Nat.zero_le _
  · exact cutIn_le t
theorem gitem_fits (k : Nat) : (itemAt (cutIn s) k).length ≤ s.length := Nat.le_trans (itemAt_le _ _) (cutIn_le s)
theorem gsub_fits (k i : Nat) : (itemAt (txOf (itemAt (cutIn s) k)) i).length ≤ s.length := Nat.le_trans (itemAt_le _ _) (Nat.le_trans (txOf_le _) (gitem_fits k))
theorem gtx_fits (k : Nat) : (txOf (itemAt (cutIn s) k)).length ≤ s.length := Nat.le_trans (txOf_le _) (gitem_fits k)
theorem gn4_fits (h : itemsB (txOf (itemAt (cutIn s) 4)) = true) : itemsN (txOf (itemAt (cutIn s) 4)) ≤ s.length := Nat.le_trans (itemsN_le h) (gtx_fits 4)
theorem grow_lt {x : Nat × Nat} (h : decide ((x.1 : Int) < (itemsN (txOf (itemAt (cutIn s) 4)) : Int)) = true) : x.1 < itemsN (txOf (itemAt (cutIn s) 4)) := by
  simp only [decide_eq_true_eq] at h; omega
theorem grow_step {x : Nat × Nat} {c : Nat} (_hg : Grow (itemsN (txOf (itOf s 4))) x) (h : decide ((x.1 : Int) < (itemsN (txOf (itemAt (cutIn s) 4)) : Int)) = true) (hc : x.1 + 1 ≤ c) :
    Grow (itemsN (txOf (itOf s 4))) (x.1 + 1, c) ∧ itemsN (txOf (itOf s 4)) - (x.1 + 1) < itemsN (txOf (itOf s 4)) - x.1 := by
  have h1 : x.1 < itemsN (txOf (itOf s 4)) := grow_lt h
  exact ⟨⟨h1, hc⟩, by omega⟩
theorem grow_sble {k c : Nat} : SBle (SB.rows true (k + 1) [Col.str fun j => if j < k then txOf (itemAt (txOf (itOf s 4)) j) else selS [txOf (itemAt (txOf (itemAt (cutIn s) 4)) k)] (j - k)] false (c * 1) 9)
    (SB.rows true (k + 1) [Col.str fun i => txOf (itemAt (txOf (itOf s 4)) i)] false c 9) := by
  refine Sx.SBle.strRows rfl (by omega) fun i hi => ?_
  by_cases h : i < k
  · rw [if_pos h]
  · have e : i = k := by omega
    subst e
    rw [if_neg h, Nat.sub_self]
    rfl
theorem gjoin_sble : SBle (SB.cells [SV.int IntKind.i64 false (gnOf (itOf s (0 : Nat))), SV.str false (txOf (itemAt (cutIn s) (1 : Nat))), SV.str false (txOf (itemAt (cutIn s) (2 : Nat))), SV.str false (txOf (itemAt (cutIn s) (3 : Nat))), SV.nilslc] (5 : Nat) 31)
    (SB.cells [SV.int IntKind.i64 false (gnOf (itOf s (0 : Nat))), SV.str false (txOf (itOf s (1 : Nat))), SV.str false (txOf (itOf s (2 : Nat))), SV.str false (txOf (itOf s (3 : Nat))), SV.nilslc] (5 : Nat) 31) := SBle.refl _
theorem gw_no {n : Nat} (h : getPB s = false) : (getPB s = true → ∃ (x : Nat), n ≤ x ∧ False) ∧ (getPB s = false → sameVal (SV.tup [SV.agg [SV.int IntKind.i64 true (0 : Int), SV.str true [], SV.str true [], SV.str true [], SV.nilslc], SV.int IntKind.i64 true (2 : Int)]) (SV.tup [noPaper, SV.int IntKind.i64 true (2 : Int)])) :=
  ⟨(fun h' => by rw [h] at h'; cases h'), fun _ _ => rfl⟩
end
end Go.Proofs.YtoalfimkkibpdaaGreatDoor
/-
  Wire's reference: Get: the contract.
-/
namespace Go.Proofs.YtoalfimkkibpdaaGreatDoor
open Go Sx
set_option maxRecDepth 20000
attribute [local irreducible] itemAt itemsN itemsB cutIn cutB cutRest cutL getB num numI getPB Pp.put Pp.ok itOf txOf gnOf
theorem glast_row {s : List UInt8} {x : Nat × Nat} {k : Nat} (hg : Grow (itemsN (txOf (itOf s 4))) x) (hi : decide ((x.1 : Int) < (itemsN (txOf (itemAt (cutIn s) 4)) : Int)) = false) (hl : getPB s = true ∧ (gpaperD s).Like (paperD s)) :
    (getPB s = true → ∃ c, itemsN (cutIn (itOf s 4)) ≤ c ∧ SBle (SB.rows true x.1 [Col.str fun i => txOf (itemAt (txOf (itOf s 4)) i)] false x.2 9) (SB.rows true (itemsN (cutIn (itOf s 4))) [Col.str fun i => cutIn (itemAt (cutIn (itOf s 4)) i)] false c 9) ∧
      sameVal (SV.tup [SV.agg [SV.int IntKind.i64 false (gnOf (itOf s (0 : Nat))), SV.str false (txOf (itOf s (1 : Nat))), SV.str false (txOf (itOf s (2 : Nat))), SV.str false (txOf (itOf s (3 : Nat))), SV.rslc k (1 : Nat) true (0 : Nat) x.1 x.2], SV.int IntKind.i64 true (0 : Int)])
        (SV.tup [(paperD s).sv (SV.rslc k (1 : Nat) true (0 : Nat) (itemsN (cutIn (itOf s 4))) c), SV.int IntKind.i64 true (0 : Int)])) ∧
    (getPB s = false → sameVal (SV.tup [SV.agg [SV.int IntKind.i64 false (gnOf (itOf s (0 : Nat))), SV.str false (txOf (itOf s (1 : Nat))), SV.str false (txOf (itOf s (2 : Nat))), SV.str false (txOf (itOf s (3 : Nat))), SV.rslc k (1 : Nat) true (0 : Nat) x.1 x.2], SV.int IntKind.i64 true (0 : Int)]) (SV.tup [noPaper, SV.int IntKind.i64 true (2 : Int)])) := by
  obtain ⟨hB, L⟩ := hl
  refine ⟨fun _ => ?_, fun h => by rw [hB] at h; cases h⟩
  have e := gdOf_eq hg hi
  have hc := hg.cap
  have hn : itemsN (txOf (itOf s 4)) = itemsN (cutIn (itOf s 4)) := L.n
  have h0 : gnOf (itOf s 0) = numI (itOf s 0) := L.k
  have h1 : txOf (itOf s 1) = cutIn (itOf s 1) := L.root
  have h2 : txOf (itOf s 2) = cutIn (itOf s 2) := L.key
  have h3 : txOf (itOf s 3) = cutIn (itOf s 3) := L.to
  have hf : ∀ i, i < itemsN (cutIn (itOf s 4)) → txOf (itemAt (txOf (itOf s 4)) i) = cutIn (itemAt (cutIn (itOf s 4)) i) := L.f
  have e2 : x.1 = itemsN (cutIn (itOf s 4)) := e.trans hn
  refine ⟨x.2, by omega, Sx.SBle.strRows e2 rfl (fun i hi => hf i (by omega)), ?_⟩
  rw [e2, h0, h1, h2, h3]
  simp only [paperD, Pp.sv]
  exact fun _ => rfl
set_option maxHeartbeats 4000000 in
theorem gget_holds {s : List UInt8} (hs : s.length ≤ 65536) : Holds (runA (cfgGG s) 22 Tryz.f22 [.str false s] (getPA s)) := by
  refine Holds.of_eq (vcGGet s) ?_
  simp only [Int.toNat_natCast, Nat.zero_add]
  have hc := cutIn_le s
  repeat' first
    | exact trivial
    | exact SBle.refl _
    | omega
    | exact gw_no (gw_cut (by assumption))
    | exact gw_no (gw_items (by assumption))
    | exact gw_no (gw_list (by assumption))
    | exact gw_no (wp_no_five (by assumption))
    | exact gw_no (gw_num (by assumption))
    | exact gw_no (gw_items4 (by assumption))
    | exact gw_no (gw_ok (gdOf_eq hy (by assumption)) (by assumption))
    | exact gw_no (gw_large (gdOf_eq hy (by assumption)) (by assumption))
    | exact gw_no (gw_same (gdOf_eq hy (by assumption)) (by assumption))
    | exact glast_row hy (by assumption) (gw_yes (gdOf_eq hy (by assumption)) (by assumption) (by assumption) (by assumption))
    | refine And.intro ?_ ?_
    | (have := wp_five_of (by assumption); omega)
    | exact Nat.lt_of_le_of_lt (gitem_fits _) (by omega)
    | exact Nat.lt_of_le_of_lt (gsub_fits _ _) (by omega)
    | exact Nat.lt_of_le_of_lt (gtx_fits _) (by omega)
    | exact Int.le_trans (by omega) (gn_fits (by assumption)).1
    | exact Int.le_trans (gn_fits (by assumption)).2 (by omega)
    | refine ⟨(), trivial, gn_true (by assumption), SBle.refl _, SBle.refl _, trivial⟩
    | refine ⟨(), trivial, gn_false (by assumption), SBle.refl _, SBle.refl _, trivial⟩
    | refine ⟨(), trivial, trivial, gjoin_sble, SBle.refl _, SBle.refl _, trivial⟩
    | (have := grow_lt (x := y) (by assumption); have := gn4_fits (s := s) (by assumption); omega)
    | intro (c : Nat) (hc2 : y.1 + 1 ≤ c)
    | refine ⟨(y.1 + 1, c), grow_step hy (by assumption) hc2, by simp, trivial, trivial, trivial, trivial, trivial, ⟨trivial, rfl, rfl⟩, trivial, grow_sble, SBle.refl _, SBle.refl _, SBle.refl _, trivial⟩
    | refine ⟨(0, 0), ⟨Nat.zero_le _, Nat.zero_le _⟩, rfl, trivial, trivial, trivial, trivial, trivial, rfl, rfl, SBle.refl _, SBle.refl _, SBle.refl _, trivial⟩
    | intro (_ : _ = true)
    | intro (_ : _ = false)
    | intro (y : Nat × Nat) (hy : Grow _ _)
    | intro (_ : Nat)
    | intro (_ : _ ≤ _)
    | intro (_ : Unit)
    | intro (_ : True)
    | fail
def ggetSpec : List SV → Option (Prop × Ans)
  | [.str false s] => some (s.length ≤ 65536, getPA s)
  | _ => none
theorem gget_ok : CallOk Tryz.prog 22 (ansPT ggetSpec) := by
  refine ans_ok (n := 20) (fn := Tryz.f22) Tryz.func22 (by kernel_rfl) (by kernel_rfl) ?_
  intro args p a h hp
  unfold ggetSpec at h
  split at h
  · rename_i s
    injection h with h; injection h with h1 h2; subst h1; subst h2
    exact ⟨_, goodGG s, rfl, getPA_ok s, gget_holds hp⟩
  · cases h
def sameT (n : Nat) (f : Nat → List UInt8) (n' : Nat) (f' : Nat → List UInt8) : Bool := decide ((n : Int) = (n' : Int)) && (List.range n).all fun i => decide (f i = f' i)
def seenT2 (z : Bool) (o c n : Nat) (f : Nat → List UInt8) (key : Option Nat) : Seen := ⟨key, z, o, n, c, [.str f]⟩
def Pp.same (x y : Pp) : Bool := decide (x.k = y.k) && decide (x.root = y.root) && decide (x.key = y.key) && decide (x.to = y.to) && sameT x.n x.f y.n y.f
noncomputable def cfgST (n : Nat) (f f' : Nat → List UInt8) : Cfg := { cfg0 with summ := fun f => lookPT f reflList, anns := fun g => if g = 39 then [(4, always (annUpto 5 n fun i => decide (f i = f' i)))] else if g = 40 then [(4, always (annUpto 13 n fun i => decide (f i = f' i)))] else [] }
theorem goodST (n : Nat) (f f' : Nat → List UInt8) : Sx.Good Tryz.prog (cfgST n f f') := ⟨mixes, reflList_ok, fns_ok⟩
end Go.Proofs.YtoalfimkkibpdaaGreatDoor
/-
  Conditions that the executor computes, written out by a program (vcgen.py).
-/
namespace Go.Proofs.YtoalfimkkibpdaaGreatDoor
open Go Sx
set_option maxRecDepth 20000
theorem vcSameT (n n' : Nat) (f f' : Nat → List UInt8) (z z' : Bool) (o o' c c' : Nat) (key key' : Option Nat) : VC.holds (runS (cfgST n f f') 39 Tryz.f39 [.vslc 0 1 z o 0 n c, .vslc 1 1 z' o' 0 n' c'] [seenT2 z o c n f key, seenT2 z' o' c' n' f' key'] (.ret (.bool false (sameT n f n' f')))) = ((((!decide ((n : Int) = (n' : Int))) = true → sameVal (SV.bool true false) (SV.bool false (sameT n f n' f'))) ∧ ((!decide ((n : Int) = (n' : Int))) = false → (∃ (u5 : Nat), Upto n (fun (u4 : Nat) => decide (f u4 = f' u4)) u5 ∧ 0 = (u5 : Int) ∧ SBle (seenT2 z o c n f key).B (seenT2 z o c n f key).B ∧ SBle (seenT2 z' o' c' n' f' key').B (seenT2 z' o' c' n' f' key').B ∧ True) ∧ ∀ (u3 : Nat), Upto n (fun (u2 : Nat) => decide (f u2 = f' u2)) u3 → (decide ((u3 : Int) < (n : Int)) = true → (0 ≤ (u3 : Int) ∧ (u3 : Int) < (n : Int)) ∧ (o = o ∧ 0 + (u3 : Int).toNat < n) ∧ (0 ≤ (u3 : Int) ∧ (u3 : Int) < (n' : Int)) ∧ (o' = o' ∧ 0 + (u3 : Int).toNat < n') ∧ ((!decide (f (0 + (u3 : Int).toNat) = f' (0 + (u3 : Int).toNat))) = true → sameVal (SV.bool true false) (SV.bool false (sameT n f n' f'))) ∧ ((!decide (f (0 + (u3 : Int).toNat) = f' (0 + (u3 : Int).toNat))) = false → ((-9223372036854775808 : Int) ≤ (u3 : Int) + 1 ∧ (u3 : Int) + 1 ≤ (9223372036854775807 : Int)) ∧ ∃ (u1 : Nat), (Upto n (fun (u0 : Nat) => decide (f u0 = f' u0)) u1 ∧ n - u1 < n - u3) ∧ (u3 : Int) + 1 = (u1 : Int) ∧ SBle (seenT2 z o c n f key).B (seenT2 z o c n f key).B ∧
 SBle (seenT2 z' o' c' n' f' key').B (seenT2 z' o' c' n' f' key').B ∧ True)) ∧ (decide ((u3 : Int) < (n : Int)) = false → sameVal (SV.bool true true) (SV.bool false (sameT n f n' f')))))) := by kernel_rfl
theorem vcEqualT (n n' : Nat) (f f' : Nat → List UInt8) (z z' : Bool) (o o' c c' : Nat) (key key' : Option Nat) : VC.holds (runS (cfgST n f f') 40 Tryz.f40 [.vslc 0 1 z o 0 n c, .vslc 1 1 z' o' 0 n' c'] [seenT2 z o c n f key, seenT2 z' o' c' n' f' key'] (.ret (.bool false (sameT n f n' f')))) = ((((!decide ((n : Int) = (n' : Int))) = true → sameVal (SV.bool true false) (SV.bool false (sameT n f n' f'))) ∧ ((!decide ((n : Int) = (n' : Int))) = false → (∃ (u5 : Nat), Upto n (fun (u4 : Nat) => decide (f u4 = f' u4)) u5 ∧ 0 = (u5 : Int) ∧ SBle (seenT2 z o c n f key).B (seenT2 z o c n f key).B ∧ SBle (seenT2 z' o' c' n' f' key').B (seenT2 z' o' c' n' f' key').B ∧ True) ∧ ∀ (u3 : Nat), Upto n (fun (u2 : Nat) => decide (f u2 = f' u2)) u3 → (decide ((u3 : Int) < (n : Int)) = true → (0 ≤ (u3 : Int) ∧ (u3 : Int) < (n : Int)) ∧ (o = o ∧ 0 + (u3 : Int).toNat < n) ∧ (0 ≤ (u3 : Int) ∧ (u3 : Int) < (n' : Int)) ∧ (o' = o' ∧ 0 + (u3 : Int).toNat < n') ∧ ((!decide (f (0 + (u3 : Int).toNat) = f' (0 + (u3 : Int).toNat))) = true → sameVal (SV.bool true false) (SV.bool false (sameT n f n' f'))) ∧ ((!decide (f (0 + (u3 : Int).toNat) = f' (0 + (u3 : Int).toNat))) = false → ((-9223372036854775808 : Int) ≤ (u3 : Int) + 1 ∧ (u3 : Int) + 1 ≤ (9223372036854775807 : Int)) ∧ ∃ (u1 : Nat), (Upto n (fun (u0 : Nat) => decide (f u0 = f' u0)) u1 ∧ n - u1 < n - u3) ∧ (u3 : Int) + 1 = (u1 : Int) ∧ SBle (seenT2 z o c n f key).B (seenT2 z o c n f key).B ∧
 SBle (seenT2 z' o' c' n' f' key').B (seenT2 z' o' c' n' f' key').B ∧ True)) ∧ (decide ((u3 : Int) < (n : Int)) = false → sameVal (SV.bool true true) (SV.bool false (sameT n f n' f')))))) := by kernel_rfl
end Go.Proofs.YtoalfimkkibpdaaGreatDoor
/-
  Wire: whether rows of texts, and papers, are the same: the contracts.
-/
namespace Go.Proofs.YtoalfimkkibpdaaGreatDoor
open Go Sx
set_option maxRecDepth 20000
theorem wdec {p : Prop} [Decidable p] (h : (!decide p) = false) : p := by
  cases hd : decide p with
  | true => exact of_decide_eq_true hd
  | false => rw [hd] at h; cases h
theorem wnot {p : Prop} [Decidable p] (h : (!decide p) = true) : decide p = false := by
  cases hd : decide p with
  | true => rw [hd] at h; cases h
  | false => rfl
theorem wyes {p : Prop} [Decidable p] (h : (!decide p) = false) : decide p = true := by
  cases hd : decide p with
  | true => rfl
  | false => rw [hd] at h; cases h
theorem sameT_holds {n n' : Nat} {f f' : Nat → List UInt8} (hn : n < 9223372036854775808) (z z' : Bool) (o o' c c' : Nat) (key key' : Option Nat) : Holds (runS (cfgST n f f') 39 Tryz.f39 [.vslc 0 1 z o 0 n c, .vslc 1 1 z' o' 0 n' c'] [seenT2 z o c n f key, seenT2 z' o' c' n' f' key'] (.ret (.bool false (sameT n f n' f')))) := by
  refine Holds.of_eq (vcSameT n n' f f' z z' o o' c c' key key') ?_
  simp only [Int.toNat_natCast, Nat.zero_add]
  refine ⟨fun h => bool_same (by rw [sameT, wnot h]; rfl), fun h => ⟨⟨0, ⟨Nat.zero_le _, fun j hj => absurd hj (Nat.not_lt_zero _)⟩, rfl, SBle.refl _, SBle.refl _, trivial⟩, fun i hi => ⟨fun a => ?_, fun a => ?_⟩⟩⟩
  · simp only [decide_eq_true_eq] at a
    have e : (n : Int) = (n' : Int) := wdec h
    refine ⟨by omega, ⟨trivial, by omega⟩, by omega, ⟨trivial, by omega⟩, fun b => ?_, fun b => ⟨by omega, i + 1, ⟨upto_next hi a (wyes b), by omega⟩, by omega, SBle.refl _, SBle.refl _, trivial⟩⟩
    exact bool_same (by rw [sameT, upto_none a (wnot b), Bool.and_false])
  · simp only [decide_eq_false_iff_not] at a
    exact bool_same (by rw [sameT, upto_all hi a, wyes h]; rfl)
theorem equalT_holds {n n' : Nat} {f f' : Nat → List UInt8} (hn : n < 9223372036854775808) (z z' : Bool) (o o' c c' : Nat) (key key' : Option Nat) : Holds (runS (cfgST n f f') 40 Tryz.f40 [.vslc 0 1 z o 0 n c, .vslc 1 1 z' o' 0 n' c'] [seenT2 z o c n f key, seenT2 z' o' c' n' f' key'] (.ret (.bool false (sameT n f n' f')))) := by
  refine Holds.of_eq (vcEqualT n n' f f' z z' o o' c c' key key') ?_
  simp only [Int.toNat_natCast, Nat.zero_add]
  refine ⟨fun h => bool_same (by rw [sameT, wnot h]; rfl), fun h => ⟨⟨0, ⟨Nat.zero_le _, fun j hj => absurd hj (Nat.not_lt_zero _)⟩, rfl, SBle.refl _, SBle.refl _, trivial⟩, fun i hi => ⟨fun a => ?_, fun a => ?_⟩⟩⟩
  · simp only [decide_eq_true_eq] at a
    have e : (n : Int) = (n' : Int) := wdec h
    refine ⟨by omega, ⟨trivial, by omega⟩, by omega, ⟨trivial, by omega⟩, fun b => ?_, fun b => ⟨by omega, i + 1, ⟨upto_next hi a (wyes b), by omega⟩, by omega, SBle.refl _, SBle.refl _, trivial⟩⟩
    exact bool_same (by rw [sameT, upto_none a (wnot b), Bool.and_false])
  · simp only [decide_eq_false_iff_not] at a
    exact bool_same (by rw [sameT, upto_all hi a, wyes h]; rfl)
def shTT : List Sh2 := [.of (.slice dP), .of (.slice dP)]
def sameTSpec (vs : List SV) (l : List Seen) : Option (Prop × Ans) := match vs, l with
  | [_, _], [⟨_, _, _, n, _, [.str f]⟩, ⟨_, _, _, n', _, [.str f']⟩] => some (n < 9223372036854775808, .ret (.bool false (sameT n f n' f')))
  | _, _ => none
theorem sameT_ok : CallOk Tryz.prog 39 (ansVPT shTT sameTSpec) := by
  refine ansV_ok (n := 20) (fn := Tryz.f39) Tryz.func39 (by kernel_rfl) (by kernel_rfl) ?_
  intro vs l q a h hq
  unfold sameTSpec at h
  split at h
  · rename_i v v' key z o n c f key' z' o' n' c' f'
    injection h with h; injection h with h1 h2; subst h1; subst h2
    exact ⟨_, goodST n f f', rfl, rfl, sameT_holds hq z z' o o' c c' key key'⟩
  · cases h
theorem equalT_ok : CallOk Tryz.prog 40 (ansVPT shTT sameTSpec) := by
  refine ansV_ok (n := 20) (fn := Tryz.f40) Tryz.func40 (by kernel_rfl) (by kernel_rfl) ?_
  intro vs l q a h hq
  unfold sameTSpec at h
  split at h
  · rename_i v v' key z o n c f key' z' o' n' c' f'
    injection h with h; injection h with h1 h2; subst h1; subst h2
    exact ⟨_, goodST n f f', rfl, rfl, equalT_holds hq z z' o o' c c' key key'⟩
  · cases h
noncomputable def listGw4 : List (FuncId × PT) := (39, ansVPT shTT sameTSpec) :: (40, ansVPT shTT sameTSpec) :: (22, ansPT ggetSpec) :: listGw3
theorem listGw4_ok : SummOk Tryz.prog (fun f => lookPT f listGw4) := .cons sameT_ok (ansVPT_mono _ _) (.cons equalT_ok (ansVPT_mono _ _) (.cons gget_ok (ansPT_mono _) listGw3_ok))
noncomputable def cfgGw4 : Cfg := { cfg0 with summ := fun f => lookPT f listGw4 }
theorem goodGw4 : Sx.Good Tryz.prog cfgGw4 := ⟨mixes, listGw4_ok, fns_ok⟩
end Go.Proofs.YtoalfimkkibpdaaGreatDoor
/-
  Conditions that the executor computes, written out by a program (vcgen.py).
-/
namespace Go.Proofs.YtoalfimkkibpdaaGreatDoor
open Go Sx
set_option maxRecDepth 20000
theorem vcGSame (x y : Pp) (z z' : Bool) (o o' c c' : Nat) (key key' : Option Nat) : VC.holds (runS cfgGw4 17 Tryz.f17 [x.sv (.vslc 0 1 z o 0 x.n c), y.sv (.vslc 1 1 z' o' 0 y.n c')] [seenP z o c x key, seenP z' o' c' y key'] (.ret (.bool false (x.same y)))) = (((decide (x.k = y.k) = true → (decide (x.root = y.root) = true → (decide (x.key = y.key) = true → (decide (x.to = y.to) = true → (((z = z ∧ o = o ∧ 0 + x.n ≤ x.n) ∧ (z' = z' ∧ o' = o' ∧ 0 + y.n ≤ y.n) ∧ True) ∧ x.n < 9223372036854775808) ∧ sameVal (SV.bool false (sameT x.n x.f y.n y.f)) (SV.bool false (x.same y))) ∧ (decide (x.to = y.to) = false → sameVal (SV.bool true false) (SV.bool false (x.same y)))) ∧ (decide (x.key = y.key) = false → sameVal (SV.bool true false) (SV.bool false (x.same y)))) ∧ (decide (x.root = y.root) = false → sameVal (SV.bool true false) (SV.bool false (x.same y)))) ∧ (decide (x.k = y.k) = false → sameVal (SV.bool true false) (SV.bool false (x.same y))))) := by kernel_rfl
theorem vcPSame (x y : Pp) (z z' : Bool) (o o' c c' : Nat) (key key' : Option Nat) : VC.holds (runS cfgGw4 20 Tryz.f20 [x.sv (.vslc 0 1 z o 0 x.n c), y.sv (.vslc 1 1 z' o' 0 y.n c')] [seenP z o c x key, seenP z' o' c' y key'] (.ret (.bool false (x.same y)))) = (((decide (x.k = y.k) = true → (decide (x.root = y.root) = true → (decide (x.key = y.key) = true → (decide (x.to = y.to) = true → (((z = z ∧ o = o ∧ 0 + x.n ≤ x.n) ∧ (z' = z' ∧ o' = o' ∧ 0 + y.n ≤ y.n) ∧ True) ∧ x.n < 9223372036854775808) ∧ sameVal (SV.bool false (sameT x.n x.f y.n y.f)) (SV.bool false (x.same y))) ∧ (decide (x.to = y.to) = false → sameVal (SV.bool true false) (SV.bool false (x.same y)))) ∧ (decide (x.key = y.key) = false → sameVal (SV.bool true false) (SV.bool false (x.same y)))) ∧ (decide (x.root = y.root) = false → sameVal (SV.bool true false) (SV.bool false (x.same y)))) ∧ (decide (x.k = y.k) = false → sameVal (SV.bool true false) (SV.bool false (x.same y))))) := by kernel_rfl
end Go.Proofs.YtoalfimkkibpdaaGreatDoor
/-
  Wire: whether two papers are the same: the contracts; WireGets: the set-up.
-/
namespace Go.Proofs.YtoalfimkkibpdaaGreatDoor
open Go Sx
set_option maxRecDepth 20000
def papersOf (vs : List SV) (l : List Seen) : Option ((Pp × Bool × Nat × Nat × Option Nat) × (Pp × Bool × Nat × Nat × Option Nat)) := match vs, l with
  | [.agg [.int .i64 false k, .str false root, .str false key, .str false to, _], .agg [.int .i64 false k', .str false root', .str false key', .str false to', _]], [⟨kk, z, o, n, c, [.str f]⟩, ⟨kk', z', o', n', c', [.str f']⟩] =>
    some ((⟨k, root, key, to, n, f⟩, z, o, c, kk), (⟨k', root', key', to', n', f'⟩, z', o', c', kk'))
  | _, _ => none
def shPP : List Sh2 := [.agg [.one, .one, .one, .one, .slice dP], .agg [.one, .one, .one, .one, .slice dP]]
theorem papersOf_eq {vs : List SV} {l : List Seen} {x y : Pp} {z z' : Bool} {o o' c c' : Nat} {key key' : Option Nat} (h : papersOf vs l = some ((x, z, o, c, key), (y, z', o', c', key'))) :
    filled shPP vs l = [x.sv (.vslc 0 1 z o 0 x.n c), y.sv (.vslc 1 1 z' o' 0 y.n c')] ∧ l = [seenP z o c x key, seenP z' o' c' y key'] := by
  unfold papersOf at h
  split at h
  · injection h with h
    injection h with h1 h2
    injection h1 with h1 g; injection g with g1 g; injection g with g2 g; injection g with g3 g4
    injection h2 with h2 k; injection k with k1 k; injection k with k2 k; injection k with k3 k4
    subst h1; subst g1; subst g2; subst g3; subst g4
    subst h2; subst k1; subst k2; subst k3; subst k4
    exact ⟨rfl, rfl⟩
  · cases h
def psameSpec (vs : List SV) (l : List Seen) : Option (Prop × Ans) := match papersOf vs l with
  | some ((x, _), (y, _)) => some (x.n < 9223372036854775808, .ret (.bool false (x.same y)))
  | none => none
theorem gsame_ok : CallOk Tryz.prog 17 (ansVPT shPP psameSpec) := by
  refine ansV_ok (n := 20) (fn := Tryz.f17) Tryz.func17 (by kernel_rfl) (by kernel_rfl) ?_
  intro vs l q a h hq
  unfold psameSpec at h
  split at h
  · rename_i x r y r' hx
    obtain ⟨z, o, c, key⟩ := r
    obtain ⟨z', o', c', key'⟩ := r'
    injection h with h; injection h with h1 h2; subst h1; subst h2
    obtain ⟨e1, e2⟩ := papersOf_eq hx
    rw [e1, e2]
    refine ⟨_, goodGw4, rfl, rfl, Holds.of_eq (vcGSame x y z z' o o' c c' key key') ?_⟩
    unfold Pp.same
    generalize decide (x.k = y.k) = b1
    generalize decide (x.root = y.root) = b2
    generalize decide (x.key = y.key) = b3
    generalize decide (x.to = y.to) = b4
    generalize sameT x.n x.f y.n y.f = b5
    refine ⟨fun h1 => ⟨fun h2 => ⟨fun h3 => ⟨fun h4 => ⟨⟨⟨⟨rfl, rfl, by omega⟩, ⟨rfl, rfl, by omega⟩, trivial⟩, hq⟩, ?_⟩, fun h4 => ?_⟩, fun h3 => ?_⟩, fun h2 => ?_⟩, fun h1 => ?_⟩
    all_goals (apply bool_same; simp_all)
  · cases h
theorem psame_ok : CallOk Tryz.prog 20 (ansVPT shPP psameSpec) := by
  refine ansV_ok (n := 20) (fn := Tryz.f20) Tryz.func20 (by kernel_rfl) (by kernel_rfl) ?_
  intro vs l q a h hq
  unfold psameSpec at h
  split at h
  · rename_i x r y r' hx
    obtain ⟨z, o, c, key⟩ := r
    obtain ⟨z', o', c', key'⟩ := r'
    injection h with h; injection h with h1 h2; subst h1; subst h2
    obtain ⟨e1, e2⟩ := papersOf_eq hx
    rw [e1, e2]
    refine ⟨_, goodGw4, rfl, rfl, Holds.of_eq (vcPSame x y z z' o o' c c' key key') ?_⟩
    unfold Pp.same
    generalize decide (x.k = y.k) = b1
    generalize decide (x.root = y.root) = b2
    generalize decide (x.key = y.key) = b3
    generalize decide (x.to = y.to) = b4
    generalize sameT x.n x.f y.n y.f = b5
    refine ⟨fun h1 => ⟨fun h2 => ⟨fun h3 => ⟨fun h4 => ⟨⟨⟨⟨rfl, rfl, by omega⟩, ⟨rfl, rfl, by omega⟩, trivial⟩, hq⟩, ?_⟩, fun h4 => ?_⟩, fun h3 => ?_⟩, fun h2 => ?_⟩, fun h1 => ?_⟩
    all_goals (apply bool_same; simp_all)
  · cases h
noncomputable def listGw5 : List (FuncId × PT) := (9, ansPT wworksSpec) :: (17, ansVPT shPP psameSpec) :: (20, ansVPT shPP psameSpec) ::
  (21, ansPT pgetSpec) :: (11, ansVPT shP pputSpec) :: (19, ansVPT shP pvalidSpec) :: (10, ansVPT shP pfewSpec) :: listGw4
theorem listGw5_ok (hw : WorksOk) : SummOk Tryz.prog (fun f => lookPT f listGw5) := .cons hw (ansPT_mono _) (.cons gsame_ok (ansVPT_mono _ _) (.cons psame_ok (ansVPT_mono _ _) (.cons pget_ok (ansPT_mono _) (.cons pput_ok (ansVPT_mono _ _) (.cons pvalid_ok (ansVPT_mono _ _) (.cons pfew_ok (ansVPT_mono _ _) listGw4_ok))))))
noncomputable def cfgGw5 : Cfg := { cfg0 with summ := fun f => lookPT f listGw5 }
theorem goodGw5 (hw : WorksOk) : Sx.Good Tryz.prog cfgGw5 := ⟨mixes, listGw5_ok hw, fns_ok⟩
end Go.Proofs.YtoalfimkkibpdaaGreatDoor
/-
  Conditions that the executor computes, written out by a program (vcgen.py).
-/
namespace Go.Proofs.YtoalfimkkibpdaaGreatDoor
open Go Sx
set_option maxRecDepth 20000
theorem vcWGets (s : List UInt8) : VC.holds (runA cfgGw5 4 Tryz.f4 [.str false s] (.ret (.bool false true))) = ((fun P0 : SV => ((True ∧ (decide (5000 < (s.length : Int)) = true → sameVal (SV.bool true true) (SV.bool false true)) ∧ (decide (5000 < (s.length : Int)) = false → True ∧ (getPB s = true → ∀ (u18 : Nat), itemsN (cutIn (itOf s 4)) ≤ u18 → s.length ≤ 65536 ∧ (getPB s = true → ∀ (u17 : Nat), itemsN (cutIn (itOf s 4)) ≤ u17 → some (SB.cells (setRange P0.cells 0 ((paperD s).sv (SV.rslc ((0 : Nat) + (1 : Nat) + (1 : Nat)) 1 true 0 (itemsN (cutIn (itOf s 4))) u17)).cells) 5 31) = some (SB.cells (setRange P0.cells 0 ((paperD s).sv (SV.rslc ((0 : Nat) + (1 : Nat) + (1 : Nat)) 1 true 0 (itemsN (cutIn (itOf s 4))) u17)).cells) 5 31) ∧ (((True ∧ True ∧ True ∧ True ∧ (true = true ∧ 0 + itemsN (cutIn (itOf s 4)) ≤ itemsN (cutIn (itOf s 4))) ∧ True) ∧ (True ∧ True ∧ True ∧ True ∧ (true = true ∧ 0 + itemsN (cutIn (itOf s 4)) ≤ itemsN (cutIn (itOf s 4))) ∧ True) ∧ True) ∧ itemsN (cutIn (itOf s 4)) < 9223372036854775808) ∧
 ({ k := numI (itOf s 0), root := cutIn (itOf s 1), key := cutIn (itOf s 2), to := cutIn (itOf s 3), n := itemsN (cutIn (itOf s 4)), f := fun (u16 : Nat) => cutIn (itemAt (cutIn (itOf s 4)) u16) : Pp }.same { k := numI (itOf s 0), root := cutIn (itOf s 1), key := cutIn (itOf s 2), to := cutIn (itOf s 3), n := itemsN (cutIn (itOf s 4)), f := fun (u15 : Nat) => cutIn (itemAt (cutIn (itOf s 4)) u15) : Pp } = true → sameVal (SV.bool (true && true) (decide ((0 : Int) = (0 : Int)))) (SV.bool false true)) ∧ ({ k := numI (itOf s 0), root := cutIn (itOf s 1), key := cutIn (itOf s 2), to := cutIn (itOf s 3), n := itemsN (cutIn (itOf s 4)), f := fun (u14 : Nat) => cutIn (itemAt (cutIn (itOf s 4)) u14) : Pp }.same { k := numI (itOf s 0), root := cutIn (itOf s 1), key := cutIn (itOf s 2), to := cutIn (itOf s 3), n := itemsN (cutIn (itOf s 4)), f := fun (u13 : Nat) => cutIn (itemAt (cutIn (itOf s 4)) u13) : Pp } = false → sameVal (SV.bool true false) (SV.bool false true))) ∧ (getPB s = false → some (SB.cells (setRange P0.cells 0 noPaper.cells) 5 31) = some (SB.cells (setRange P0.cells 0 noPaper.cells) 5 31) ∧ (((True ∧ True ∧ True ∧ True ∧ (true = true ∧
 0 + itemsN (cutIn (itOf s 4)) ≤ itemsN (cutIn (itOf s 4))) ∧ True) ∧ (True ∧ True ∧ True ∧ True ∧ True ∧ True) ∧ True) ∧ itemsN (cutIn (itOf s 4)) < 9223372036854775808) ∧ ({ k := numI (itOf s 0), root := cutIn (itOf s 1), key := cutIn (itOf s 2), to := cutIn (itOf s 3), n := itemsN (cutIn (itOf s 4)), f := fun (u12 : Nat) => cutIn (itemAt (cutIn (itOf s 4)) u12) : Pp }.same { k := (0 : Int), root := [], key := [], to := [], n := (0 : Nat), f := fun (_u11 : Nat) => [] : Pp } = true → sameVal (SV.bool (true && true) (decide ((0 : Int) = (2 : Int)))) (SV.bool false true)) ∧ ({ k := numI (itOf s 0), root := cutIn (itOf s 1), key := cutIn (itOf s 2), to := cutIn (itOf s 3), n := itemsN (cutIn (itOf s 4)), f := fun (u10 : Nat) => cutIn (itemAt (cutIn (itOf s 4)) u10) : Pp }.same { k := (0 : Int), root := [], key := [], to := [], n := (0 : Nat), f := fun (_u9 : Nat) => [] : Pp } = false → sameVal (SV.bool true false) (SV.bool false true)))) ∧ (getPB s = false → s.length ≤ 65536 ∧ (getPB s = true → ∀ (u8 : Nat), itemsN (cutIn (itOf s 4)) ≤ u8 →
 some (SB.cells (setRange P0.cells 0 ((paperD s).sv (SV.rslc ((0 : Nat) + (1 : Nat)) 1 true 0 (itemsN (cutIn (itOf s 4))) u8)).cells) 5 31) = some (SB.cells (setRange P0.cells 0 ((paperD s).sv (SV.rslc ((0 : Nat) + (1 : Nat)) 1 true 0 (itemsN (cutIn (itOf s 4))) u8)).cells) 5 31) ∧ (((True ∧ True ∧ True ∧ True ∧ True ∧ True) ∧ (True ∧ True ∧ True ∧ True ∧ (true = true ∧ 0 + itemsN (cutIn (itOf s 4)) ≤ itemsN (cutIn (itOf s 4))) ∧ True) ∧ True) ∧ (0 : Nat) < (9223372036854775808 : Nat)) ∧ ({ k := (0 : Int), root := [], key := [], to := [], n := (0 : Nat), f := fun (_u7 : Nat) => [] : Pp }.same { k := numI (itOf s 0), root := cutIn (itOf s 1), key := cutIn (itOf s 2), to := cutIn (itOf s 3), n := itemsN (cutIn (itOf s 4)), f := fun (u6 : Nat) => cutIn (itemAt (cutIn (itOf s 4)) u6) : Pp } = true → sameVal (SV.bool (true && true) (decide ((2 : Int) = (0 : Int)))) (SV.bool false true)) ∧
 ({ k := (0 : Int), root := [], key := [], to := [], n := (0 : Nat), f := fun (_u5 : Nat) => [] : Pp }.same { k := numI (itOf s 0), root := cutIn (itOf s 1), key := cutIn (itOf s 2), to := cutIn (itOf s 3), n := itemsN (cutIn (itOf s 4)), f := fun (u4 : Nat) => cutIn (itemAt (cutIn (itOf s 4)) u4) : Pp } = false → sameVal (SV.bool true false) (SV.bool false true))) ∧ (getPB s = false → some (SB.cells (setRange P0.cells 0 noPaper.cells) 5 31) = some (SB.cells (setRange P0.cells 0 noPaper.cells) 5 31) ∧ (((True ∧ True ∧ True ∧ True ∧ True ∧ True) ∧ (True ∧ True ∧ True ∧ True ∧ True ∧ True) ∧ True) ∧ (0 : Nat) < (9223372036854775808 : Nat)) ∧ ({ k := (0 : Int), root := [], key := [], to := [], n := (0 : Nat), f := fun (_u3 : Nat) => [] : Pp }.same { k := (0 : Int), root := [], key := [], to := [], n := (0 : Nat), f := fun (_u2 : Nat) => [] : Pp } = true → sameVal (SV.bool (true && true) (decide ((2 : Int) = (2 : Int)))) (SV.bool false true)) ∧ ({ k := (0 : Int), root := [], key := [], to := [], n := (0 : Nat), f := fun (_u1 : Nat) => [] : Pp }.same { k := (0 : Int), root := [], key := [], to := [], n := (0 : Nat), f := fun (_u0 : Nat) => [] : Pp } = false →
 sameVal (SV.bool true false) (SV.bool false true)))))))) (SV.agg [SV.int .i64 true 0, SV.str true [], SV.str true [], SV.str true [], SV.nilslc])) := by kernel_rfl
end Go.Proofs.YtoalfimkkibpdaaGreatDoor
/-
  Wire: WireGets: the run.
-/
namespace Go.Proofs.YtoalfimkkibpdaaGreatDoor
open Go Sx
set_option maxRecDepth 20000
theorem sameT_refl (n : Nat) (f : Nat → List UInt8) : sameT n f n f = true := by
  unfold sameT
  rw [decide_eq_true rfl, Bool.true_and, List.all_eq_true]
  intro i _
  exact decide_eq_true rfl
theorem Pp.same_refl (x : Pp) : x.same x = true := by
  unfold Pp.same
  rw [sameT_refl, decide_eq_true rfl, decide_eq_true rfl, decide_eq_true rfl, decide_eq_true rfl]; rfl
theorem gsure {l b : Bool} (h : b = true) : sameVal (.bool l b) (.bool false true) := fun E => by subst h; rfl
attribute [local irreducible] itemAt itemsN itemsB cutIn cutB cutRest cutL numI getPB itOf Pp.same
theorem wgets_holds (s : List UInt8) : Holds (runA cfgGw5 4 Tryz.f4 [.str false s] (.ret (.bool false true))) := by
  refine Holds.of_eq (vcWGets s) ?_
  refine ⟨trivial, fun _ => gsure rfl, fun hl => ⟨trivial, ?_⟩⟩
  simp only [decide_eq_false_iff_not] at hl
  cases hB : getPB s with
  | true =>
    have R := (getPB_read hB).1
    have hn : itemsN (cutIn (itOf s 4)) ≤ 200 := by
      have := R.n4
      have e : itemsN (cutIn (itOf s 4)) = itemsN (cutIn (itemAt (cutIn s) 4)) := by with_unfolding_all rfl
      omega
    refine ⟨fun _ x hx => ⟨by omega, fun _ y hy => ⟨rfl, ⟨⟨⟨trivial, trivial, trivial, trivial, ⟨rfl, by omega⟩, trivial⟩, ⟨trivial, trivial, trivial, trivial, ⟨rfl, by omega⟩, trivial⟩, trivial⟩, by omega⟩, fun _ => gsure rfl, fun h => ?_⟩, (fun h => by cases h)⟩, fun h => by cases h⟩
    rw [Pp.same_refl] at h; cases h
  | false =>
    refine ⟨(fun h => by cases h), fun _ => ⟨by omega, (fun h => by cases h), fun _ => ⟨rfl, ⟨⟨⟨trivial, trivial, trivial, trivial, trivial, trivial⟩, ⟨trivial, trivial, trivial, trivial, trivial, trivial⟩, trivial⟩, by omega⟩, fun _ => gsure rfl, fun h => ?_⟩⟩⟩
    rw [Pp.same_refl] at h; cases h
end Go.Proofs.YtoalfimkkibpdaaGreatDoor
/-
  WireGets: the paper that any bytes are is what the document says: for every input the law returns true.
-/
namespace Go.Proofs.YtoalfimkkibpdaaGreatDoor
open Go Sx Go.RowKit Go.WideShapes Go.ChangeShapes
set_option maxRecDepth 100000
theorem wireGets_lifted (os : Os) (started : os.Started) (H : Type) (enc : TypeId × Value → H) :
    ReturnsInHanded {} Tryz.checked os 4 .any (fun w args => (Rows.wireGetsSpec.pre enc Tryz.prog Tryz.f4 [] false w args ∧ laidMetH Tryz.prog laidL w) ∧ sizedMet enc Tryz.prog Tryz.f4 (OpenSpec.ofChange Rows.wireGetsSpec) false w args)
      (Rows.wireGetsSpec.post enc Tryz.prog Tryz.f4 false true false false) := by
  refine law_laid (C := Tryz.checked) (boolT := 4) (X := fun w => laidMetH Tryz.prog laidL w) (fun _ _ hh h => h.of_heap hh) Tryz.own started (by kernel_rfl) Tryz.func4
    (ChangeSpec.witness_at (enc := enc) (C := Tryz.checked) (os := os) (X := fun w _ => laidMetH Tryz.prog laidL w) false (laidWorld os) #[.string ⟨#[]⟩] 8 rfl (by kernel_rfl) (by kernel_rfl) (by kernel_rfl) (by kernel_rfl) (by kernel_rfl) (laidWorld_met os _))
    Tryz.laidOut rfl Tryz.underlying4 (by kernel_rfl) (of_decide_eq_true (by kernel_rfl)) rfl (fun ds h => by match ds, h with | [a0], _ => rfl) ?_
  intro W args ds ps hval hA hL
  have hA' : DataW.TrodAll enc Tryz.prog W 0 (fun _ => true) true [9] args.toList ds ps := hA
  obtain ⟨v0, d0, rfl, rfl, h0⟩ := trodAll_one hA'
  obtain ⟨b0, w0⟩ := hval 0 9 v0 rfl rfl
  obtain ⟨s, rfl, rfl, rfl, hs⟩ := Go.ChangeMaps.open_string Tryz.underlying9 w0 h0
  exact run_calls (goodGw5 wworks_ok) Tryz.func4 (by kernel_rfl) (by kernel_rfl) (wgets_holds s.data.toList) rfl (glob_of_laid hL) (fun _ => 0)
theorem wireGets_holds : Rows.WireGetsSaid :=
  OpenClaim.holds_of_wide 4 Tryz.f4 rfl rfl rfl rfl rfl rfl rfl ⟨rfl, rfl, rfl, rfl, rfl⟩ rfl rfl rfl rfl rfl (by kernel_rfl) Tryz.func4 (by kernel_rfl)
    (of_decide_eq_true (by kernel_rfl)) (by unfold Func.isWrapper; first | (rw [if_pos (by decide +kernel)]; kernel_rfl) | (rw [if_neg (by decide +kernel)]; exact ⟨rfl, rfl⟩))
    (fun os started H enc _ => wireGets_lifted os started H enc)
theorem wireGets_card_holds : Rows.WireGetsCardSaid :=
  Claim7.holds_tied_plain_at .later [] [.handle, .data] true (true, "d237c4de2e89c912b6d9c280088b3979728eac252c97fa5324b6ee83b691515d") true
    wireGets_holds (fun _ h => by cases h) (by kernel_rfl) (fun _ h => by cases h) wireGets_row_tie rfl ⟨rfl, rfl⟩ (by kernel_rfl) rfl
    (fun f fn hf hfn => by
      obtain rfl : f = 4 := Option.some.inj ((show Tryz.prog.funcNamed "guilloche/guillochelaw13.WireGets" = some 4 by kernel_rfl).symm.trans hf) |>.symm
      obtain rfl : fn = Tryz.f4 := (Option.some.inj (Tryz.func4.symm.trans hfn)).symm
      exact ⟨by kernel_rfl, fun j t ht => by
        rw [Tryz.params4] at ht
        have hm := Array.mem_of_getElem? ht
        simp only [List.mem_toArray, List.mem_cons, List.not_mem_nil, or_false] at hm
        rcases hm with rfl
        · exact (show Tryz.prog.wantsStandIn 9 = false by kernel_rfl)⟩)
    (by kernel_rfl)
#print axioms wireGets_card_holds
end Go.Proofs.YtoalfimkkibpdaaGreatDoor
