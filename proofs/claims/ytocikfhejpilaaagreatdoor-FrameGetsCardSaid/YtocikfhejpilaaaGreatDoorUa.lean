/-
  The reference's frame: what is read: the set-up.
-/
import Derived.Test.YtocikfhejpilaaaGreatDoorSc
import Derived.Test.YtocikfhejpilaaaGreatDoorPh
import Derived.Test.YtocikfhejpilaaaGreatDoorPd
namespace Go.Proofs.YtocikfhejpilaaaGreatDoor
open Go Sx
set_option maxRecDepth 20000

/-- The number that an item is; of none 0; never more than two millions. -/
def numC (t : List UInt8) : Int := bif getB t then (if 2097152 < num (cutIn t) then 2097152 else num (cutIn t)) else 0
def txtC (t : List UInt8) : List UInt8 := bif cutB t then cutIn t else []
noncomputable def cfgH3 : Cfg := { cfg0 with summ := fun f => lookPT f listH3 }
theorem goodH3 : Sx.Good Tryz.prog cfgH3 := ⟨mixes, listH3_ok, fns_ok⟩
end Go.Proofs.YtocikfhejpilaaaGreatDoor
/-
  Conditions that the executor computes, written out by a program (vcgen.py).
-/
namespace Go.Proofs.YtocikfhejpilaaaGreatDoor
open Go Sx
set_option maxRecDepth 20000

theorem vcNumber16 (t : List UInt8) (R : SV → Prop) : VC.holds (runP cfgH3 48 Tryz.f48 [.str false t] R) = (t.length < (1152921504606846976 : Nat) ∧
 (getB t = true →
 (decide ((2097152 : Int) < num (cutIn t)) = true →
 R (SV.int IntKind.i64 true (2097152 : Int))) ∧
 (decide ((2097152 : Int) < num (cutIn t)) = false →
 ((-9223372036854775808 : Int) ≤ num (cutIn t) ∧
 num (cutIn t) ≤ (9223372036854775807 : Int)) ∧
 R (SV.int IntKind.i64 false (num (cutIn t))))) ∧
 (getB t = false →
 R (SV.int IntKind.i64 true (0 : Int)))) := by kernel_rfl
theorem vcText16 (t : List UInt8) (R : SV → Prop) : VC.holds (runP cfgH3 49 Tryz.f49 [.str false t] R) = (t.length < (1152921504606846976 : Nat) ∧
 (cutB t = true →
 R (SV.str false (cutIn t))) ∧
 (cutB t = false →
 R (SV.str true []))) := by kernel_rfl
end Go.Proofs.YtocikfhejpilaaaGreatDoor
/-
  The reference's frame: what an item is: the contracts; asks: the set-up.
-/
namespace Go.Proofs.YtocikfhejpilaaaGreatDoor
open Go Sx
set_option maxRecDepth 20000

theorem number16_holds {t : List UInt8} (ht : t.length < 1152921504606846976) : Holds (runP cfgH3 48 Tryz.f48 [.str false t] (fun v => sameVal v (.int .i64 false (numC t)))) := by
  refine Holds.of_eq (vcNumber16 t _) ?_
  have h0 := num_nn (cutIn t)
  unfold numC
  refine ⟨ht, fun h => ⟨fun g => int_same ?_, fun g => ⟨?_, int_same ?_⟩⟩, fun h => int_same ?_⟩
  · rw [h, cond_true, if_pos (by simpa using g)]
  · simp only [decide_eq_false_iff_not] at g; omega
  · rw [h, cond_true, if_neg (by simpa using g)]
  · rw [h]; rfl
def number16Spec : List SV → Option (Prop × SV)
  | [.str false t] => some (t.length < 1152921504606846976, .int .i64 false (numC t))
  | _ => none
theorem number16_ok : CallOk Tryz.prog 48 (purePT number16Spec) := by
  refine pure_ok goodH3 (n := 20) (fn := Tryz.f48) Tryz.func48 (by kernel_rfl) (by kernel_rfl) ?_
  intro args p r h hp
  unfold number16Spec at h
  split at h
  · injection h with h; injection h with h1 h2; subst h1; subst h2
    exact ⟨rfl, rfl, number16_holds hp⟩
  · cases h
def text16Spec : List SV → Option (Prop × SV)
  | [.str false t] => some (t.length < 1152921504606846976, .str false (txtC t))
  | _ => none
theorem text16_ok : CallOk Tryz.prog 49 (purePT text16Spec) := by
  refine pure_ok goodH3 (n := 20) (fn := Tryz.f49) Tryz.func49 (by kernel_rfl) (by kernel_rfl) ?_
  intro args p r h hp
  unfold text16Spec at h
  split at h
  · rename_i t
    injection h with h; injection h with h1 h2; subst h1; subst h2
    refine ⟨rfl, rfl, Holds.of_eq (vcText16 t _) ⟨hp, fun h => str_same ?_, fun h => str_same ?_⟩⟩ <;> rw [txtC, h] <;> rfl
  · cases h
noncomputable def listH4 : List (FuncId × PT) := (48, purePT number16Spec) :: (49, purePT text16Spec) :: listH3
theorem listH4_ok : SummOk Tryz.prog (fun f => lookPT f listH4) := .cons number16_ok (purePT_mono _) (.cons text16_ok (purePT_mono _) listH3_ok)
noncomputable def cfgH4 : Cfg := { cfg0 with summ := fun f => lookPT f listH4 }
theorem goodH4 : Sx.Good Tryz.prog cfgH4 := ⟨mixes, listH4_ok, fns_ok⟩
/-- The parts of a list of m items, as the reference has them; else empty ones. -/
def partB (m : Nat) (t : List UInt8) : Bool := cutB t && (itemsB (cutIn t) && decide ((itemsN (cutIn t) : Int) = (m : Int)))
def partC (m : Nat) (t : List UInt8) (j : Nat) : List UInt8 := bif partB m t then itemAt (cutIn t) j else []
def partsA (t : List UInt8) (m : Nat) : Ans := .all Nat fun c => .req (m ≤ c) (.new (fun k => .rslc k 1 true 0 m c) (.rows true m [.str (partC m t)] false c 9))
end Go.Proofs.YtocikfhejpilaaaGreatDoor
/-
  Conditions that the executor computes, written out by a program (vcgen.py).
-/
namespace Go.Proofs.YtocikfhejpilaaaGreatDoor
open Go Sx
set_option maxRecDepth 20000

theorem vcParts16 (t : List UInt8) (m : Int) : VC.holds (runA cfgH4 47 Tryz.f47 [.str false t, .int .i64 false m] (partsA t m.toNat)) = (t.length < (1152921504606846976 : Nat) ∧
 (cutB t = true →
 (cutIn t).length < (1099511627776 : Nat) ∧
 (itemsB (cutIn t) = true →
 ∀ (x : Nat), itemsN (cutIn t) ≤ x →
 ((!decide ((↑(itemsN (cutIn t)) : Int) = m)) = true →
 (m = m ∧
 (0 : Int) ≤ m ∧
 (16 : Int) * m ≤ (140737488355328 : Int) ∧
 m ≤ (9223372036854775807 : Int)) ∧
 ∃ (x : Nat), m.toNat ≤ x ∧
 SBle (SB.rows false m.toNat [Col.str fun (_x : Nat) => []] false (m.toNat * (1 : Nat)) (9 : Nat)) (SB.rows true m.toNat [Col.str (partC m.toNat t)] false x (9 : TypeId)) ∧
 sameVal (SV.rslc ((0 : Nat) + (1 : Nat)) (1 : Nat) false (0 : Nat) m.toNat m.toNat) (SV.rslc ((0 : Nat) + (1 : Nat)) (1 : Nat) true (0 : Nat) m.toNat x)) ∧
 ((!decide ((↑(itemsN (cutIn t)) : Int) = m)) = false →
 ∃ (x_3 : Nat), m.toNat ≤ x_3 ∧
 SBle (SB.rows true (itemsN (cutIn t)) [Col.str (itemAt (cutIn t))] false x (9 : TypeId)) (SB.rows true m.toNat [Col.str (partC m.toNat t)] false x_3 (9 : TypeId)) ∧
 sameVal (SV.rslc (0 : Nat) (1 : Nat) true (0 : Nat) (itemsN (cutIn t)) x) (SV.rslc (0 : Nat) (1 : Nat) true (0 : Nat) m.toNat x_3))) ∧
 (itemsB (cutIn t) = false →
 ((!decide ((0 : Int) = m)) = true →
 (m = m ∧
 (0 : Int) ≤ m ∧
 (16 : Int) * m ≤ (140737488355328 : Int) ∧
 m ≤ (9223372036854775807 : Int)) ∧
 ∃ (x : Nat), m.toNat ≤ x ∧
 SBle (SB.rows false m.toNat [Col.str fun (_x : Nat) => []] false (m.toNat * (1 : Nat)) (9 : Nat)) (SB.rows true m.toNat [Col.str (partC m.toNat t)] false x (9 : TypeId)) ∧
 sameVal (SV.rslc (0 : Nat) (1 : Nat) false (0 : Nat) m.toNat m.toNat) (SV.rslc (0 : Nat) (1 : Nat) true (0 : Nat) m.toNat x)) ∧
 ((!decide ((0 : Int) = m)) = false →
 ∃ (x : Nat), m.toNat ≤ x ∧
 False))) ∧
 (cutB t = false →
 (0 : Nat) < (1099511627776 : Nat) ∧
 (itemsB [] = true →
 ∀ (x : Nat), (0 : Nat) ≤ x →
 ((!decide ((0 : Int) = m)) = true →
 (m = m ∧
 (0 : Int) ≤ m ∧
 (16 : Int) * m ≤ (140737488355328 : Int) ∧
 m ≤ (9223372036854775807 : Int)) ∧
 ∃ (x : Nat), m.toNat ≤ x ∧
 SBle (SB.rows false m.toNat [Col.str fun (_x : Nat) => []] false (m.toNat * (1 : Nat)) (9 : Nat)) (SB.rows true m.toNat [Col.str (partC m.toNat t)] false x (9 : TypeId)) ∧
 sameVal (SV.rslc ((0 : Nat) + (1 : Nat)) (1 : Nat) false (0 : Nat) m.toNat m.toNat) (SV.rslc ((0 : Nat) + (1 : Nat)) (1 : Nat) true (0 : Nat) m.toNat x)) ∧
 ((!decide ((0 : Int) = m)) = false →
 ∃ (x_3 : Nat), m.toNat ≤ x_3 ∧
 SBle (SB.rows true (0 : Nat) [Col.str (itemAt [])] false x (9 : TypeId)) (SB.rows true m.toNat [Col.str (partC m.toNat t)] false x_3 (9 : TypeId)) ∧
 sameVal (SV.rslc (0 : Nat) (1 : Nat) true (0 : Nat) (0 : Nat) x) (SV.rslc (0 : Nat) (1 : Nat) true (0 : Nat) m.toNat x_3))) ∧
 (itemsB [] = false →
 ((!decide ((0 : Int) = m)) = true →
 (m = m ∧
 (0 : Int) ≤ m ∧
 (16 : Int) * m ≤ (140737488355328 : Int) ∧
 m ≤ (9223372036854775807 : Int)) ∧
 ∃ (x : Nat), m.toNat ≤ x ∧
 SBle (SB.rows false m.toNat [Col.str fun (_x : Nat) => []] false (m.toNat * (1 : Nat)) (9 : Nat)) (SB.rows true m.toNat [Col.str (partC m.toNat t)] false x (9 : TypeId)) ∧
 sameVal (SV.rslc (0 : Nat) (1 : Nat) false (0 : Nat) m.toNat m.toNat) (SV.rslc (0 : Nat) (1 : Nat) true (0 : Nat) m.toNat x)) ∧
 ((!decide ((0 : Int) = m)) = false →
 ∃ (x : Nat), m.toNat ≤ x ∧
 False)))) := by kernel_rfl
end Go.Proofs.YtocikfhejpilaaaGreatDoor
/-
  The reference's frame: the parts of a list: the contract; what is read: the set-up.
-/
namespace Go.Proofs.YtocikfhejpilaaaGreatDoor
open Go Sx
set_option maxRecDepth 20000

/-- The ask, the reply, the notice that bytes would be, to the reference. -/
def askC (s : List UInt8) : Ak := ⟨numC (partC 8 s 1), numC (partC 8 s 2), numC (partC 8 s 3), numC (partC 8 s 4) - 1, txtC (partC 8 s 5), txtC (partC 8 s 6), numC (partC 8 s 7)⟩
def rowsX (x : List UInt8) : Nat := bif itemsB x then itemsN x else 0
def replyC (s : List UInt8) : Rp := ⟨numC (partC 9 s 1), numC (partC 9 s 2), numC (partC 9 s 3), numC (partC 9 s 4), txtC (partC 9 s 5), rowsX (txtC (partC 9 s 6)), fun i => txtC (partC 2 (itemAt (txtC (partC 9 s 6)) i) 0), fun i => txtC (partC 2 (itemAt (txtC (partC 9 s 6)) i) 1), txtC (partC 9 s 7), decide (numC (partC 9 s 8) = 1)⟩
def noticeC (s : List UInt8) : Nt := ⟨numC (partC 6 s 1), numC (partC 6 s 2), numC (partC 6 s 3), txtC (partC 6 s 4), rowsX (txtC (partC 6 s 5)), fun i => txtC (partC 3 (itemAt (txtC (partC 6 s 5)) i) 0), fun i => txtC (partC 3 (itemAt (txtC (partC 6 s 5)) i) 1), fun i => decide (numC (partC 3 (itemAt (txtC (partC 6 s 5)) i) 2) = 1)⟩
def partsSpec : List SV → Option (Prop × Ans)
  | [.str false t, .int .i64 false m] => some (t.length < 1099511627776 ∧ 1 ≤ m ∧ m < 100, partsA t m.toNat)
  | _ => none
/-- A place behind which a new block stands. -/
def newAt (slot : Nat) (f : Nat → List SV) (tot : Nat) (ty : TypeId) : St → Option Multi := fun _ => some (one
  { α := Unit, pre := fun _ _ => True, mea := fun _ _ => 0, fresh := 1, slots := fun st _ => [(slot, .ptr st.nx true 0)], mem := fun st _ => [(st.nx, .cells (f st.nx) tot ty)] })
def rowsAt6 (x : List UInt8) : St → Option Multi := fun _ => some (one
  { α := Nat, pre := fun _ c => rowsX x ≤ c, mea := fun _ _ => 0, fresh := 1, slots := fun st c => [(6, .rslc st.nx 1 true 0 (rowsX x) c)], mem := fun st c => [(st.nx, .rows true (rowsX x) [.str (itemAt x)] false c 9)] })
def headRv (x : Rp) (u : SV) : List SV := [.int .i64 false x.s, .int .i64 false x.q, .int .i64 false x.e, .int .i64 false x.v, .str false x.root, u, .str false x.proof, .bool false x.more]
def headNv (x : Nt) (u : SV) : List SV := [.int .i64 false x.s, .int .i64 false x.e, .int .i64 false x.b, .str false x.root, u]
def headR (x : Rp) : List SV := headRv x .nilslc
def headN (x : Nt) : List SV := headNv x .nilslc
def headA (x : Ak) : List SV := [.int .i64 false x.k, .int .i64 false x.s, .int .i64 false x.q, .int .i64 false x.a, .str false x.key, .str false x.to, .int .i64 false x.lim]
noncomputable def annGR2 (x : Rp) : LoopAnn :=
  { α := Nat × Nat, pre := fun _ y => Grow x.n y, mea := fun _ y => x.n - y.1, fresh := 1, slots := fun _ y => [(8, .int .i64 false y.1)],
    mem := fun st y => match slot st.tmps 5 with
      | some (.ptr key _ _) => [(key, .cells (headRv x (.rslc st.nx 2 true 0 y.1 y.2)) 8 27), (st.nx, .rows true y.1 (colsE x.f x.g) false (y.2 * 2) 52)]
      | _ => [] }
noncomputable def annGN2 (x : Nt) : LoopAnn :=
  { α := Nat × Nat, pre := fun _ y => Grow x.n y, mea := fun _ y => x.n - y.1, fresh := 1, slots := fun _ y => [(8, .int .i64 false y.1)],
    mem := fun st y => match slot st.tmps 5 with
      | some (.ptr key _ _) => [(key, .cells (headNv x (.rslc st.nx 3 true 0 y.1 y.2)) 5 30), (st.nx, .rows true y.1 (colsC x.f x.g x.h) false (y.2 * 3) 54)]
      | _ => [] }
theorem rows_strZ {n : Nat} {f g : Nat → List UInt8} {tot tot' : Nat} {ty : TypeId} (ht : tot = tot') (h : ∀ i, i < n → f i = g i) : SBle (.rows false n [.str f] false tot ty) (.rows true n [.str g] false tot' ty) := by
  intro _
  obtain ⟨h1, h2, h3⟩ := (Sx.SBle.strRows (z := false) (ty := ty) rfl ht h) rfl
  exact ⟨h1, h2, h3⟩
theorem rslc_z {k i n c c' : Nat} (hn : 0 < n) (hc : c = c') : sameVal (.rslc k 1 false i n c) (.rslc k 1 true i n c') := by
  subst hc
  obtain ⟨m, rfl⟩ : ∃ m, n = m + 1 := ⟨n - 1, by omega⟩
  exact fun E => rfl
theorem partC_none {m : Nat} {t : List UInt8} (h : partB m t = false) (j : Nat) : partC m t j = [] := by rw [partC, h]; rfl
theorem partC_some {m : Nat} {t : List UInt8} (h : partB m t = true) (j : Nat) : partC m t j = itemAt (cutIn t) j := by rw [partC, h]; rfl
theorem parts16_holds {t : List UInt8} {m : Int} (ht : t.length < 1099511627776) (h0 : 1 ≤ m) (h1 : m < 100) : Holds (runA cfgH4 47 Tryz.f47 [.str false t, .int .i64 false m] (partsA t m.toNat)) := by
  refine Holds.of_eq (vcParts16 t m) ?_
  have hci : (cutIn t).length ≤ t.length := by
    unfold cutIn; simp only [List.length_take, List.length_drop]; omega
  have em : ((m.toNat : Nat) : Int) = m := by omega
  have hm : m = m ∧ 0 ≤ m ∧ 16 * m ≤ 140737488355328 ∧ m ≤ 9223372036854775807 := ⟨rfl, by omega, by omega, by omega⟩
  have no : ∀ k, partB m.toNat t = false → (m = m ∧ 0 ≤ m ∧ 16 * m ≤ 140737488355328 ∧ m ≤ 9223372036854775807) ∧
      ∃ (x : Nat), m.toNat ≤ x ∧ SBle (SB.rows false m.toNat [Col.str fun (x : Nat) => []] false (m.toNat * 1) 9) (SB.rows true m.toNat [Col.str (partC m.toNat t)] false x 9) ∧
        sameVal (SV.rslc k 1 false 0 m.toNat m.toNat) (SV.rslc k 1 true 0 m.toNat x) := fun k h =>
    ⟨hm, m.toNat, Nat.le_refl _, rows_strZ (Nat.mul_one _) fun i _ => (partC_none h i).symm, rslc_z (by omega) rfl⟩
  refine ⟨by omega, fun a => ⟨by omega, fun b x hx => ⟨fun c => ?_, fun c => ?_⟩, fun b => ⟨fun c => ?_, fun c => ?_⟩⟩, fun a => ⟨by omega, fun b x hx => ⟨fun c => ?_, fun c => ?_⟩, fun b => ?_⟩⟩
  · refine no _ ?_
    have c : ¬ (itemsN (cutIn t) : Int) = m := by simpa using c
    rw [partB, em, decide_eq_false c, Bool.and_false, Bool.and_false]
  · have c : (itemsN (cutIn t) : Int) = m := by simpa using c
    have e : itemsN (cutIn t) = m.toNat := by omega
    have hp : partB m.toNat t = true := by rw [partB, a, b, em, decide_eq_true c]; rfl
    refine ⟨x, by omega, ?_, by rw [e]; exact fun _ => rfl⟩
    rw [e]
    exact Sx.SBle.strRows rfl rfl fun i _ => (partC_some hp i).symm
  · refine no _ ?_
    rw [partB, b, Bool.false_and, Bool.and_false]
  · have c : (0 : Int) = m := by simpa using c
    omega
  · refine no _ ?_
    rw [partB, a, Bool.false_and]
  · have c : (0 : Int) = m := by simpa using c
    omega
  · rw [items_nil.1] at b; cases b
theorem parts16_ok : CallOk Tryz.prog 47 (ansPT partsSpec) := by
  refine ans_ok (n := 20) (fn := Tryz.f47) Tryz.func47 (by kernel_rfl) (by kernel_rfl) ?_
  intro args p a h hp
  unfold partsSpec at h
  split at h
  · rename_i t m
    injection h with h; injection h with h1 h2; subst h1; subst h2
    refine ⟨_, goodH4, rfl, fun c => ?_, parts16_holds hp.1 hp.2.1 hp.2.2⟩
    refine ⟨rfl, rfl, fun k => by simp [SV.wf, Nat.blt_eq], fun E E' k k' h => ?_⟩
    have hp := hp.2.1
    obtain ⟨n, hn⟩ : ∃ n, m.toNat = n + 1 := ⟨m.toNat - 1, by omega⟩
    rw [hn] at h ⊢
    have hk : E k = E' k' := h rfl
    simp [SV.val, hk]
  · cases h
noncomputable def listH5 : List (FuncId × PT) := (47, ansPT partsSpec) :: listH4
theorem listH5_ok : SummOk Tryz.prog (fun f => lookPT f listH5) := .cons parts16_ok (ansPT_mono _) listH4_ok
noncomputable def cfgGA2 (s : List UInt8) : Cfg := { cfg0 with summ := fun f => lookPT f listH5, anns := fun f => if f = 20 then [(1002, newAt 5 (fun _ => headA (askC s)) 7 23)] else [] }
noncomputable def cfgGR2 (s : List UInt8) : Cfg := { cfg0 with summ := fun f => lookPT f listH5, anns := fun f => if f = 22 then [(1002, newAt 5 (fun _ => headR (replyC s)) 8 27), (1003, rowsAt6 (txtC (partC 9 s 6))), (5, always (annGR2 (replyC s)))] else [] }
noncomputable def cfgGN2 (s : List UInt8) : Cfg := { cfg0 with summ := fun f => lookPT f listH5, anns := fun f => if f = 24 then [(1002, newAt 5 (fun _ => headN (noticeC s)) 5 30), (1003, rowsAt6 (txtC (partC 6 s 5))), (5, always (annGN2 (noticeC s)))] else [] }
theorem goodGA2 (s : List UInt8) : Sx.Good Tryz.prog (cfgGA2 s) := ⟨mixes, listH5_ok, fns_ok⟩
theorem goodGR2 (s : List UInt8) : Sx.Good Tryz.prog (cfgGR2 s) := ⟨mixes, listH5_ok, fns_ok⟩
theorem goodGN2 (s : List UInt8) : Sx.Good Tryz.prog (cfgGN2 s) := ⟨mixes, listH5_ok, fns_ok⟩
def getReply2A (s : List UInt8) : Ans := .fork (getReplyB s) fun b => match b with
  | true => .all Nat fun c => .req (itemsN (cutIn (itOf s 6)) ≤ c) (.new (fun k => .tup [(replyD s).sv (.rslc k 2 true 0 (itemsN (cutIn (itOf s 6))) c), .int .i64 true 0]) (.rows true (itemsN (cutIn (itOf s 6))) (colsE (replyD s).f (replyD s).g) false (c * 2) 52))
  | false => .ret (.tup [noReply, .int .i64 true 2])
def getNotice2A (s : List UInt8) : Ans := .fork (getNoticeB s) fun b => match b with
  | true => .all Nat fun c => .req (itemsN (cutIn (itOf s 5)) ≤ c) (.new (fun k => .tup [(noticeD s).sv (.rslc k 3 true 0 (itemsN (cutIn (itOf s 5))) c), .int .i64 true 0]) (.rows true (itemsN (cutIn (itOf s 5))) (colsC (noticeD s).f (noticeD s).g (noticeD s).h) false (c * 3) 54))
  | false => .ret (.tup [noNotice, .int .i64 true 2])
end Go.Proofs.YtocikfhejpilaaaGreatDoor
