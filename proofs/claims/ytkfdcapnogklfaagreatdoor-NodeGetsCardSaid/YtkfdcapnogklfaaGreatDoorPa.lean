/-
  Node: nibbles: the set-up.
-/
import Derived.Test.YtkfdcapnogklfaaGreatDoorOc
import Derived.Test.YtkfdcapnogklfaaGreatDoorOd
import Derived.Test.YtkfdcapnogklfaaGreatDoorMg
namespace Go.Proofs.YtkfdcapnogklfaaGreatDoor
open Go Sx
set_option maxRecDepth 20000
structure AllTo (n : Nat) (t : Nat → Bool) (i : Nat) : Prop where
  le : i ≤ n
  all : ∀ j, j < i → t j = true
noncomputable def annAll (tmp n : Nat) (t : Nat → Bool) : LoopAnn :=
  { α := Nat, pre := fun _ i => AllTo n t i, mea := fun _ i => n - i, fresh := 0, slots := fun _ i => [(tmp, .int .i64 false i)], mem := fun _ _ => [] }
def nibT (p : List UInt8) (i : Nat) : Bool := !decide (15 < byteAt p i)
def nibB (p : List UInt8) : Bool := (List.range p.length).all (nibT p)
noncomputable def cfgNV (p : List UInt8) : Cfg := { cfg0 with summ := fun f => lookPT f list7, anns := fun f => if f = 70 then [(2, always (annAll 6 p.length (nibT p)))] else [] }
theorem goodNV (p : List UInt8) : Sx.Good Tryz.prog (cfgNV p) := ⟨mixes, list7_ok, fns_ok⟩
def nibAt (k : List UInt8) (j : Nat) : Int := if j % 2 = 0 then byteAt k (j / 2) / 16 else byteAt k (j / 2) % 16
def pathL (k : List UInt8) : List UInt8 := bytesFrom (nibAt k) 0 (2 * k.length)
noncomputable def annPath (k : List UInt8) : LoopAnn :=
  { α := Nat × Nat, pre := fun _ x => x.1 ≤ k.length ∧ 2 * x.1 ≤ x.2, mea := fun _ x => k.length - x.1, fresh := 1, slots := fun st x => [(11, .int .i64 false x.1), (3, .rslc st.nx 1 false 0 (2 * x.1) x.2)],
    mem := fun st x => [(st.nx, .rows false (2 * x.1) [.int .u8 (nibAt k)] false x.2 5)] }
noncomputable def cfgNP (k : List UInt8) : Cfg := { cfg0 with summ := fun f => lookPT f list7, anns := fun f => if f = 94 then [(3, always (annPath k))] else [] }
theorem goodNP (k : List UInt8) : Sx.Good Tryz.prog (cfgNP k) := ⟨mixes, list7_ok, fns_ok⟩
def pairAt (p : List UInt8) (j : Nat) : Int := bitsOf .or (byteAt p (2 * (j : Int)) * 16 % 256) (byteAt p (2 * (j : Int) + 1))
def pairsL (p : List UInt8) : List UInt8 := bytesFrom (pairAt p) 0 (p.length / 2)
noncomputable def annPairs (p : List UInt8) : LoopAnn :=
  { α := Nat × (Nat → Int), pre := fun _ x => x.1 ≤ p.length / 2 ∧ ∀ j, j < x.1 → x.2 j = pairAt p j, mea := fun _ x => p.length / 2 - x.1, fresh := 0, slots := fun _ x => [(11, .int .i64 false x.1)],
    mem := fun st x => match slot st.tmps 3 with
      | some (.rslc k _ _ _ _ _) => (match st.m.get k with
        | some (.rows z n _ ro tot ty) => [(k, .rows z n [.int .u8 x.2] ro tot ty)]
        | _ => [])
      | _ => [] }
noncomputable def cfgNQ (p : List UInt8) : Cfg := { cfg0 with summ := fun f => lookPT f list7, anns := fun f => if f = 86 then [(3, always (annPairs p))] else [] }
theorem goodNQ (p : List UInt8) : Sx.Good Tryz.prog (cfgNQ p) := ⟨mixes, list7_ok, fns_ok⟩
def flagN (leaf odd : Bool) : Int := (bif leaf then 2 else 0) + (bif odd then 1 else 0)
end Go.Proofs.YtkfdcapnogklfaaGreatDoor
/-
  Conditions that the executor computes, written out by a program (vcgen.py).
-/
namespace Go.Proofs.YtkfdcapnogklfaaGreatDoor
open Go Sx
set_option maxRecDepth 20000
theorem vcNValid (p : List UInt8) (R : SV → Prop) : VC.holds (runP (cfgNV p) 70 Tryz.f70 [.str false p] R) = (((∃ (u2 : Nat), AllTo p.length (nibT p) u2 ∧ 0 = (u2 : Int) ∧ True) ∧ ∀ (u1 : Nat), AllTo p.length (nibT p) u1 → (decide ((u1 : Int) < (p.length : Int)) = true → (0 ≤ (u1 : Int) ∧ (u1 : Int) < (p.length : Int)) ∧ (decide (15 < byteAt p (u1 : Int)) = true → R (SV.bool true false)) ∧ (decide (15 < byteAt p (u1 : Int)) = false → ((-9223372036854775808 : Int) ≤ (u1 : Int) + 1 ∧ (u1 : Int) + 1 ≤ (9223372036854775807 : Int)) ∧ ∃ (u0 : Nat), (AllTo p.length (nibT p) u0 ∧ p.length - u0 < p.length - u1) ∧ (u1 : Int) + 1 = (u0 : Int) ∧ True)) ∧ (decide ((u1 : Int) < (p.length : Int)) = false → R (SV.bool true true)))) := by kernel_rfl
theorem vcNPath (k : List UInt8) (R : SV → Prop) : VC.holds (runP (cfgNP k) 94 Tryz.f94 [.str false k] R) = ((((-9223372036854775808 : Int) ≤ 2 * (k.length : Int) ∧ 2 * (k.length : Int) ≤ 9223372036854775807) ∧ ((0 : Int) ≤ 2 * (k.length : Int) ∧ 1 * (2 * (k.length : Int)) ≤ 140737488355328 ∧ 2 * (k.length : Int) ≤ 9223372036854775807) ∧ (∃ (u4 : Nat × Nat), (u4.fst ≤ k.length ∧ 2 * u4.fst ≤ u4.snd) ∧ 0 = (u4.fst : Int) ∧ ((0 : Nat) = (0 : Nat) ∧ (0 : Nat) = 2 * u4.fst ∧ (2 * (k.length : Int)).toNat = u4.snd) ∧ True ∧ SBle (SB.cells [] ((2 * (k.length : Int)).toNat * 1) 5) (SB.rows false (2 * u4.fst) [Col.int IntKind.u8 (nibAt k)] false u4.snd 5) ∧ True) ∧ ∀ (u3 : Nat × Nat), u3.fst ≤ k.length ∧ 2 * u3.fst ≤ u3.snd → (decide ((u3.fst : Int) < (k.length : Int)) = true → (0 ≤ (u3.fst : Int) ∧ (u3.fst : Int) < (k.length : Int)) ∧ (0 ≤ (u3.fst : Int) ∧ (u3.fst : Int) < (k.length : Int)) ∧ (0 ≤ byteAt k (u3.fst : Int) ∧ byteAt k (u3.fst : Int) ≤ 255 ∧ (0 : Int) ≤ (15 : Int) ∧ (15 : Int) ≤ (255 : Int)) ∧ ((0 : Nat) + 2 * u3.fst ≤ 2 * u3.fst ∧ True ∧ 2 * (2 * u3.fst + 2) * 1 ≤ (281474976710656 : Nat) ∧ 2 * u3.fst + 2 < (9223372036854775808 : Nat)) ∧ u3.snd = u3.snd * 1 ∧ ∀ (u2 : Nat), 2 * u3.fst + 2 ≤ u2 → ((-9223372036854775808 : Int) ≤ (u3.fst : Int) + 1 ∧
 (u3.fst : Int) + 1 ≤ (9223372036854775807 : Int)) ∧ ∃ (u1 : Nat × Nat), ((u1.fst ≤ k.length ∧ 2 * u1.fst ≤ u1.snd) ∧ k.length - u1.fst < k.length - u3.fst) ∧ (u3.fst : Int) + 1 = (u1.fst : Int) ∧ ((0 : Nat) = (0 : Nat) ∧ 2 * u3.fst + 2 = 2 * u1.fst ∧ u2 = u1.snd) ∧ True ∧ SBle (SB.rows false (2 * u3.fst + 2) [Col.int IntKind.u8 fun (u0 : Nat) => if u0 < 2 * u3.fst then nibAt k u0 else sel [byteAt k (u3.fst : Int) / 16, bitsOf BinOp.and (byteAt k (u3.fst : Int)) 15] (u0 - 2 * u3.fst)] false (u2 * 1) 5) (SB.rows false (2 * u1.fst) [Col.int IntKind.u8 (nibAt k)] false u1.snd 5) ∧ True) ∧ (decide ((u3.fst : Int) < (k.length : Int)) = false → (0 : Nat) + 2 * u3.fst ≤ 2 * u3.fst ∧ R (SV.str false (bytesFrom (nibAt k) 0 (2 * u3.fst)))))) := by kernel_rfl
theorem vcNPairs (p : List UInt8) (R : SV → Prop) : VC.holds (runP (cfgNQ p) 86 Tryz.f86 [.str false p] R) = (((0 ≤ (p.length : Int) ∧ (p.length : Int) ≤ 9223372036854775807 ∧ (0 : Int) < (2 : Int)) ∧ ((p.length : Int) / 2 = (p.length : Int) / 2 ∧ 0 ≤ (p.length : Int) / 2 ∧ 1 * ((p.length : Int) / 2) ≤ 140737488355328 ∧ (p.length : Int) / 2 ≤ (9223372036854775807 : Int)) ∧ (∃ (u7 : Nat × (Nat → Int)), (u7.fst ≤ p.length / 2 ∧ ∀ (u6 : Nat), u6 < u7.fst → u7.snd u6 = pairAt p u6) ∧ 0 = (u7.fst : Int) ∧ SBle (SB.rows false ((p.length : Int) / 2).toNat [Col.int IntKind.u8 fun (_u5 : Nat) => (0 : Int)] false (((p.length : Int) / 2).toNat * 1) 5) (SB.rows false ((p.length : Int) / 2).toNat [Col.int IntKind.u8 u7.snd] false (((p.length : Int) / 2).toNat * 1) 5) ∧ True) ∧ ∀ (u4 : Nat × (Nat → Int)), (u4.fst ≤ p.length / 2 ∧ ∀ (u3 : Nat), u3 < u4.fst → u4.snd u3 = pairAt p u3) → (decide ((u4.fst : Int) < (↑((p.length : Int) / 2).toNat : Int)) = true → ((-9223372036854775808 : Int) ≤ 2 * (u4.fst : Int) ∧ 2 * (u4.fst : Int) ≤ 9223372036854775807) ∧ ((0 : Int) ≤ 2 * (u4.fst : Int) ∧ 2 * (u4.fst : Int) < (p.length : Int)) ∧ ((-9223372036854775808 : Int) ≤ 2 * (u4.fst : Int) ∧ 2 * (u4.fst : Int) ≤ 9223372036854775807) ∧ ((-9223372036854775808 : Int) ≤ 2 * (u4.fst : Int) + 1 ∧
 2 * (u4.fst : Int) + 1 ≤ (9223372036854775807 : Int)) ∧ ((0 : Int) ≤ 2 * (u4.fst : Int) + 1 ∧ 2 * (u4.fst : Int) + 1 < (p.length : Int)) ∧ (0 ≤ byteAt p (2 * (u4.fst : Int)) * 16 % (256 : Int) ∧ byteAt p (2 * (u4.fst : Int)) * 16 % (256 : Int) ≤ (255 : Int) ∧ 0 ≤ byteAt p (2 * (u4.fst : Int) + 1) ∧ byteAt p (2 * (u4.fst : Int) + 1) ≤ 255) ∧ (0 ≤ (u4.fst : Int) ∧ (u4.fst : Int) < (↑((p.length : Int) / 2).toNat : Int)) ∧ 0 + (u4.fst : Int).toNat < ((p.length : Int) / 2).toNat ∧ ((-9223372036854775808 : Int) ≤ (u4.fst : Int) + 1 ∧ (u4.fst : Int) + 1 ≤ (9223372036854775807 : Int)) ∧ ∃ (u2 : Nat × (Nat → Int)), ((u2.fst ≤ p.length / 2 ∧ ∀ (u1 : Nat), u1 < u2.fst → u2.snd u1 = pairAt p u1) ∧ p.length / 2 - u2.fst < p.length / 2 - u4.fst) ∧ (u4.fst : Int) + 1 = (u2.fst : Int) ∧ SBle (SB.rows false ((p.length : Int) / 2).toNat [Col.int IntKind.u8 fun (u0 : Nat) => if u0 = 0 + (u4.fst : Int).toNat then bitsOf BinOp.or (byteAt p (2 * (u4.fst : Int)) * 16 % (256 : Int)) (byteAt p (2 * (u4.fst : Int) + 1)) else u4.snd u0] false (((p.length : Int) / 2).toNat * 1) 5) (SB.rows false ((p.length : Int) / 2).toNat [Col.int IntKind.u8 u2.snd] false (((p.length : Int) / 2).toNat * 1) 5) ∧ True) ∧
 (decide ((u4.fst : Int) < (↑((p.length : Int) / 2).toNat : Int)) = false → 0 + ((p.length : Int) / 2).toNat ≤ ((p.length : Int) / 2).toNat ∧ R (SV.str false (bytesFrom u4.snd 0 ((p.length : Int) / 2).toNat))))) := by kernel_rfl
theorem vcNFlag (a b : Bool) (R : SV → Prop) : VC.holds (runP cfg7 85 Tryz.f85 [.bool false a, .bool false b] R) = (((a = true → (b = true → R (SV.int .u8 true 3)) ∧ (b = false → (a = true → R (SV.int .u8 true 2)) ∧ (a = false → (b = true → R (SV.int .u8 true 1)) ∧ (b = false → R (SV.int .u8 true 0))))) ∧ (a = false → (a = true → R (SV.int .u8 true 2)) ∧ (a = false → (b = true → R (SV.int .u8 true 1)) ∧ (b = false → R (SV.int .u8 true 0)))))) := by kernel_rfl
end Go.Proofs.YtkfdcapnogklfaaGreatDoor
/-
  Node: nibbles: the contracts of Valid, Path, pairs, flag; Put, Get: the set-up.
-/
namespace Go.Proofs.YtkfdcapnogklfaaGreatDoor
open Go Sx
set_option maxRecDepth 20000
theorem bool_eq {l : Bool} {a b : Bool} (h : a = b) : sameVal (.bool l a) (.bool false b) := fun E => by subst h; rfl
theorem AllTo.next {n : Nat} {t : Nat → Bool} {i : Nat} (h : AllTo n t i) (hi : (i : Int) < (n : Int)) (ht : t i = true) : AllTo n t (i + 1) :=
  ⟨by omega, fun j hj => by
    by_cases e : j = i
    · subst e; exact ht
    · exact h.all j (by omega)⟩
theorem AllTo.zero (n : Nat) (t : Nat → Bool) : AllTo n t 0 := ⟨Nat.zero_le _, fun _j hj => absurd hj (Nat.not_lt_zero _)⟩
theorem AllTo.done {n : Nat} {t : Nat → Bool} {i : Nat} (h : AllTo n t i) (hi : ¬ (i : Int) < (n : Int)) : (List.range n).all t = true := by
  rw [List.all_eq_true]
  intro j hj
  have := List.mem_range.1 hj
  exact h.all j (by omega)
theorem all_none {n i : Nat} {t : Nat → Bool} (hi : (i : Int) < (n : Int)) (ht : t i = false) : (List.range n).all t = false := by
  rw [List.all_eq_false]
  exact ⟨i, List.mem_range.2 (by omega), by rw [ht]; decide⟩
theorem nvalid_holds {p : List UInt8} (hp : p.length < 1152921504606846976) : Holds (runP (cfgNV p) 70 Tryz.f70 [.str false p] (fun v => sameVal v (.bool false (nibB p)))) := by
  refine Holds.of_eq (vcNValid p _) ?_
  refine ⟨⟨0, AllTo.zero _ _, rfl, trivial⟩, fun x hx => ⟨fun h => ?_, fun h => ?_⟩⟩
  · have h : (x : Int) < (p.length : Int) := of_decide_eq_true h
    refine ⟨by omega, fun g => bool_eq ?_, fun g => ⟨by omega, x + 1, ⟨hx.next h ?_, by omega⟩, by omega, trivial⟩⟩
    · exact (all_none h (by rw [nibT, g]; rfl)).symm
    · rw [nibT, g]; rfl
  · have h : ¬ (x : Int) < (p.length : Int) := of_decide_eq_false h
    exact bool_eq (hx.done h).symm
def nvalidSpec : List SV → Option (Prop × SV)
  | [.str false p] => some (p.length < 1152921504606846976, .bool false (nibB p))
  | _ => none
theorem nvalid_ok : CallOk Tryz.prog 70 (purePT nvalidSpec) := by
  refine pure_of_ans (ans_ok (n := 20) (fn := Tryz.f70) Tryz.func70 (by kernel_rfl) (by kernel_rfl) ?_)
  intro args p a h hp
  unfold nvalidSpec at h
  split at h
  · injection h with h; injection h with h1 h2; subst h1; subst h2
    exact ⟨_, goodNV _, rfl, rfl, nvalid_holds hp⟩
  · cases h
theorem and15 {b : Int} (h0 : 0 ≤ b) (h1 : b < 256) : bitsOf .and b 15 = b % 16 := by
  obtain ⟨n, rfl⟩ := Int.eq_ofNat_of_zero_le h0
  show (((n : Int).toNat &&& (15 : Int).toNat : Nat) : Int) = _
  have : n &&& 15 = n % 16 := Nat.and_two_pow_sub_one_eq_mod n 4
  simp only [Int.toNat_natCast]
  rw [show (15 : Int).toNat = 15 from rfl, this]; omega
theorem rows_int {z z' : Bool} {n n' : Nat} {f g : Nat → Int} {tot tot' : Nat} {ty : TypeId} (hz : z = z') (hn : n = n') (ht : tot = tot') (h : ∀ i, i < n → f i = g i) : SBle (.rows z n [.int .u8 f] false tot ty) (.rows z' n' [.int .u8 g] false tot' ty) := by
  subst hz
  refine Sx.SBle.rowsCongr hn ht rfl fun i k c' hi hk => ⟨.int .u8 f, ?_, ?_⟩
  · match k, hk with
    | 0, _ => rfl
  · match k, hk with
    | 0, hk =>
      simp only [List.getElem?_cons_zero, Option.some.injEq] at hk
      subst hk
      simp only [Col.at, h i hi]
theorem rows_none {tot tot' : Nat} {ty : TypeId} {cols : List Col} {z : Bool} (h : tot = tot') : SBle (.cells [] tot ty) (.rows z 0 cols false tot' ty) := by
  subst h
  intro _
  refine ⟨rfl, fun E o ⟨c, fr, h1, h2, _, h4⟩ => ⟨c, fr, h1, fun _ => h2, by omega, h4, fun i k col hi => absurd hi (Nat.not_lt_zero _)⟩, fun _ => rfl⟩
theorem nibAt_next (k : List UInt8) (x i : Nat) (hi : i < 2 * x + 2) (h1 : ¬ i < 2 * x) : sel [byteAt k (x : Int) / 16, bitsOf .and (byteAt k (x : Int)) 15] (i - 2 * x) = nibAt k i := by
  have hb := byteAt_lt k (x : Int)
  rw [and15 hb.1 hb.2]
  unfold nibAt
  by_cases e : i = 2 * x
  · subst e
    have e2 : 2 * x / 2 = x := by omega
    rw [if_pos (by omega), show ((2 * x : Nat) : Int) / 2 = (x : Int) by omega, Nat.sub_self]; rfl
  · have e : i = 2 * x + 1 := by omega
    subst e
    rw [if_neg (by omega), show ((2 * x + 1 : Nat) : Int) / 2 = (x : Int) by omega, show 2 * x + 1 - 2 * x = 1 by omega]; rfl
theorem npath_holds {k : List UInt8} (hk : k.length < 1099511627776) : Holds (runP (cfgNP k) 94 Tryz.f94 [.str false k] (fun v => sameVal v (.str false (pathL k)))) := by
  refine Holds.of_eq (vcNPath k _) ?_
  refine ⟨by omega, by omega, ⟨(0, 2 * k.length), ⟨Nat.zero_le _, Nat.zero_le _⟩, rfl, ⟨rfl, rfl, by omega⟩, trivial, rows_none (by omega), trivial⟩, fun x hx => ⟨fun h => ?_, fun h => ?_⟩⟩
  · have h : (x.1 : Int) < (k.length : Int) := of_decide_eq_true h
    have hb := byteAt_lt k (x.1 : Int)
    refine ⟨by omega, by omega, by omega, ⟨by omega, trivial, by omega, by omega⟩, by omega, fun c hc => ⟨by omega, (x.1 + 1, c), ⟨⟨by show x.1 + 1 ≤ _; omega, by show 2 * (x.1 + 1) ≤ c; omega⟩, by show _ - (x.1 + 1) < _; omega⟩, by show (x.1 : Int) + 1 = ((x.1 + 1 : Nat) : Int); omega, ⟨rfl, rfl, rfl⟩, trivial, rows_int rfl rfl (Nat.mul_one c) fun i hi => ?_, trivial⟩⟩
    by_cases h1 : i < 2 * x.1
    · rw [if_pos h1]
    · rw [if_neg h1]; exact nibAt_next k x.1 i hi h1
  · have h : ¬ (x.1 : Int) < (k.length : Int) := of_decide_eq_false h
    have e : x.1 = k.length := by have := hx.1; omega
    exact ⟨by omega, str_same (by rw [e]; rfl)⟩
def npathSpec : List SV → Option (Prop × SV)
  | [.str false k] => some (k.length < 1099511627776, .str false (pathL k))
  | _ => none
theorem npath_ok : CallOk Tryz.prog 94 (purePT npathSpec) := by
  refine pure_of_ans (ans_ok (n := 20) (fn := Tryz.f94) Tryz.func94 (by kernel_rfl) (by kernel_rfl) ?_)
  intro args p a h hp
  unfold npathSpec at h
  split at h
  · injection h with h; injection h with h1 h2; subst h1; subst h2
    exact ⟨_, goodNP _, rfl, rfl, npath_holds hp⟩
  · cases h
theorem npairs_holds {p : List UInt8} (hp : p.length < 1099511627776) : Holds (runP (cfgNQ p) 86 Tryz.f86 [.str false p] (fun v => sameVal v (.str false (pairsL p)))) := by
  refine Holds.of_eq (vcNPairs p _) ?_
  have e : ((p.length : Int) / 2).toNat = p.length / 2 := by omega
  rw [e]
  refine ⟨by omega, ⟨rfl, by omega, by omega, by omega⟩, ⟨(0, fun _ => 0), ⟨Nat.zero_le _, fun j hj => absurd hj (Nat.not_lt_zero _)⟩, rfl, SBle.refl _, trivial⟩, fun x hx => ⟨fun h => ?_, fun h => ?_⟩⟩
  · have h : (x.1 : Int) < ((p.length / 2 : Nat) : Int) := of_decide_eq_true h
    have b1 := byteAt_lt p (2 * (x.1 : Int))
    have b2 := byteAt_lt p (2 * (x.1 : Int) + 1)
    refine ⟨by omega, by omega, by omega, by omega, by omega, by omega, by omega, by omega, by omega, (x.1 + 1, fun j => if j = x.1 then pairAt p x.1 else x.2 j), ⟨⟨by show x.1 + 1 ≤ _; omega, fun j hj => ?_⟩, by show _ - (x.1 + 1) < _; omega⟩, by show (x.1 : Int) + 1 = ((x.1 + 1 : Nat) : Int); omega, ?_, trivial⟩
    · show (if j = x.1 then pairAt p x.1 else x.2 j) = pairAt p j
      by_cases ej : j = x.1
      · rw [if_pos ej, ej]
      · rw [if_neg ej]; exact hx.2 j (by have : j < x.1 + 1 := hj; omega)
    · refine rows_int rfl rfl rfl fun i hi => ?_
      simp only [Nat.zero_add, Int.toNat_natCast]
      rfl
  · have h : ¬ (x.1 : Int) < ((p.length / 2 : Nat) : Int) := of_decide_eq_false h
    have e1 : x.1 = p.length / 2 := by have := hx.1; omega
    refine ⟨by omega, str_same ?_⟩
    unfold pairsL bytesFrom
    apply List.map_congr_left
    intro j hj
    rw [List.mem_range] at hj
    rw [Nat.zero_add, hx.2 j (by omega)]
def npairsSpec : List SV → Option (Prop × SV)
  | [.str false p] => some (p.length < 1099511627776, .str false (pairsL p))
  | _ => none
theorem npairs_ok : CallOk Tryz.prog 86 (purePT npairsSpec) := by
  refine pure_of_ans (ans_ok (n := 20) (fn := Tryz.f86) Tryz.func86 (by kernel_rfl) (by kernel_rfl) ?_)
  intro args p a h hp
  unfold npairsSpec at h
  split at h
  · injection h with h; injection h with h1 h2; subst h1; subst h2
    exact ⟨_, goodNQ _, rfl, rfl, npairs_holds hp⟩
  · cases h
def nflagSpec : List SV → Option (Prop × SV)
  | [.bool false a, .bool false b] => some (True, .int .u8 false (flagN a b))
  | _ => none
theorem nflag_ok : CallOk Tryz.prog 85 (purePT nflagSpec) := by
  refine pure_ok good7 (n := 20) (fn := Tryz.f85) Tryz.func85 (by kernel_rfl) (by kernel_rfl) ?_
  intro args p r h hp
  unfold nflagSpec at h
  split at h
  · rename_i a b
    injection h with h; injection h with h1 h2; subst h1; subst h2
    refine ⟨rfl, rfl, Holds.of_eq (vcNFlag a b _) ?_⟩
    cases a <;> cases b <;> simp [sameVal, SV.val, flagN]
  · cases h
noncomputable def listN1 : List (FuncId × PT) := (70, purePT nvalidSpec) :: (94, purePT npathSpec) :: (86, purePT npairsSpec) :: (85, purePT nflagSpec) :: list7
theorem listN1_ok : SummOk Tryz.prog (fun f => lookPT f listN1) := .cons nvalid_ok (purePT_mono _) (.cons npath_ok (purePT_mono _) (.cons npairs_ok (purePT_mono _) (.cons nflag_ok (purePT_mono _) list7_ok)))
noncomputable def cfgN1 : Cfg := { cfg0 with summ := fun f => lookPT f listN1 }
theorem goodN1 : Sx.Good Tryz.prog cfgN1 := ⟨mixes, listN1_ok, fns_ok⟩
def nputL (p : List UInt8) (leaf : Bool) : List UInt8 := pairsL (UInt8.ofNat (flagN leaf (decide ((p.length : Int) % 2 = 1))).toNat :: (bif decide ((p.length : Int) % 2 = 1) then p else 0 :: p))
def nputA (p : List UInt8) (leaf : Bool) : Ans := .fork (nibB p) fun b => match b with
  | true => .ret (.tup [.str false (nputL p leaf), .bool true true])
  | false => .ret (.tup [.str true [], .bool true false])
def ngetB (s : List UInt8) : Bool := decide (pathL s ≠ []) && decide (byteAt (pathL s) 0 ≤ 3) && (decide (byteAt (pathL s) 0 % 2 = 1) || decide (byteAt (pathL s) 1 = 0))
def ngetLeaf (s : List UInt8) : Bool := decide (2 ≤ byteAt (pathL s) 0)
def ngetP (s : List UInt8) : List UInt8 := if byteAt (pathL s) 0 % 2 = 1 then (pathL s).drop 1 else (pathL s).drop 2
def ngetA (s : List UInt8) : Ans := .fork (ngetB s) fun b => match b with
  | true => .ret (.tup [.str false (ngetP s), .bool false (ngetLeaf s), .bool true true])
  | false => .ret (.tup [.str true [], .bool true false, .bool true false])
end Go.Proofs.YtkfdcapnogklfaaGreatDoor
/-
  Conditions that the executor computes, written out by a program (vcgen.py).
-/
namespace Go.Proofs.YtkfdcapnogklfaaGreatDoor
open Go Sx
set_option maxRecDepth 20000
theorem vcNPut (p : List UInt8) (leaf : Bool) : VC.holds (runA cfgN1 66 Tryz.f66 [.str false p, .bool false leaf] (nputA p leaf)) = ((p.length < 1152921504606846976 ∧ ((!nibB p) = true → (nibB p = true → sameVal (SV.tup [SV.str true [], SV.bool true false]) (SV.tup [SV.str false (nputL p leaf), SV.bool true true])) ∧ (nibB p = false → sameVal (SV.tup [SV.str true [], SV.bool true false]) (SV.tup [SV.str true [], SV.bool true false]))) ∧ ((!nibB p) = false → (0 ≤ (p.length : Int) ∧ (p.length : Int) ≤ 9223372036854775807 ∧ (0 : Int) < (2 : Int)) ∧ True ∧ (0 ≤ (p.length : Int) ∧ (p.length : Int) ≤ 9223372036854775807 ∧ (0 : Int) < (2 : Int)) ∧ ((!decide ((p.length : Int) % 2 = (1 : Int))) = true → (↑(1 : Nat) : Int) + 1 ≤ (9223372036854775807 : Int) ∧ (↑(2 : Nat) : Int) + (p.length : Int) ≤ 9223372036854775807 ∧ (cat (cat [UInt8.ofNat (flagN leaf (decide ((p.length : Int) % 2 = (1 : Int)))).toNat] [(0 : UInt8)]) p).length < 1099511627776 ∧ (nibB p = true → sameVal (SV.tup [SV.str false (pairsL (cat (cat [UInt8.ofNat (flagN leaf (decide ((p.length : Int) % 2 = (1 : Int)))).toNat] [(0 : UInt8)]) p)), SV.bool true true]) (SV.tup [SV.str false (nputL p leaf), SV.bool true true])) ∧ (nibB p = false →
 sameVal (SV.tup [SV.str false (pairsL (cat (cat [UInt8.ofNat (flagN leaf (decide ((p.length : Int) % 2 = (1 : Int)))).toNat] [(0 : UInt8)]) p)), SV.bool true true]) (SV.tup [SV.str true [], SV.bool true false]))) ∧ ((!decide ((p.length : Int) % 2 = (1 : Int))) = false → (↑(1 : Nat) : Int) + (p.length : Int) ≤ 9223372036854775807 ∧ (cat [UInt8.ofNat (flagN leaf (decide ((p.length : Int) % 2 = (1 : Int)))).toNat] p).length < 1099511627776 ∧ (nibB p = true → sameVal (SV.tup [SV.str false (pairsL (cat [UInt8.ofNat (flagN leaf (decide ((p.length : Int) % 2 = (1 : Int)))).toNat] p)), SV.bool true true]) (SV.tup [SV.str false (nputL p leaf), SV.bool true true])) ∧ (nibB p = false → sameVal (SV.tup [SV.str false (pairsL (cat [UInt8.ofNat (flagN leaf (decide ((p.length : Int) % 2 = (1 : Int)))).toNat] p)), SV.bool true true]) (SV.tup [SV.str true [], SV.bool true false])))))) := by kernel_rfl
theorem vcNGet (s : List UInt8) : VC.holds (runA cfgN1 75 Tryz.f75 [.str false s] (ngetA s)) = ((fun P0 : SV => ((fun P1 : SV => ((fun P2 : List UInt8 => ((fun P3 : List UInt8 => ((s.length < 1099511627776 ∧ (decide (pathL s = []) = true → (ngetB s = true → sameVal P0 P1) ∧ (ngetB s = false → sameVal P0 P0)) ∧ (decide (pathL s = []) = false → ((0 : Int) ≤ (0 : Int) ∧ 0 < (↑(pathL s).length : Int)) ∧ (decide (byteAt (pathL s) 0 = (3 : Int)) = true → ((0 : Int) ≤ (1 : Int) ∧ 1 ≤ (↑(pathL s).length : Int) ∧ (↑(pathL s).length : Int) ≤ (↑(pathL s).length : Int)) ∧ (ngetB s = true → sameVal (SV.tup [SV.str (false && true && false) P2, SV.bool true true, SV.bool true true]) P1) ∧ (ngetB s = false → sameVal (SV.tup [SV.str (false && true && false) P2, SV.bool true true, SV.bool true true]) P0)) ∧ (decide (byteAt (pathL s) 0 = (3 : Int)) = false → (decide (byteAt (pathL s) 0 = (2 : Int)) = true → ((0 : Int) ≤ (1 : Int) ∧ 1 < (↑(pathL s).length : Int)) ∧ ((!decide (byteAt (pathL s) 1 = (0 : Int))) = true → (ngetB s = true → sameVal P0 P1) ∧ (ngetB s = false → sameVal P0 P0)) ∧ ((!decide (byteAt (pathL s) 1 = (0 : Int))) = false → ((0 : Int) ≤ (2 : Int) ∧ 2 ≤ (↑(pathL s).length : Int) ∧ (↑(pathL s).length : Int) ≤ (↑(pathL s).length : Int)) ∧ (ngetB s = true → sameVal (SV.tup [SV.str (false && true && false) P3, SV.bool true true, SV.bool true true]) P1) ∧
 (ngetB s = false → sameVal (SV.tup [SV.str (false && true && false) P3, SV.bool true true, SV.bool true true]) P0))) ∧ (decide (byteAt (pathL s) 0 = (2 : Int)) = false → (decide (byteAt (pathL s) 0 = (1 : Int)) = true → ((0 : Int) ≤ (1 : Int) ∧ 1 ≤ (↑(pathL s).length : Int) ∧ (↑(pathL s).length : Int) ≤ (↑(pathL s).length : Int)) ∧ (ngetB s = true → sameVal (SV.tup [SV.str (false && true && false) P2, SV.bool true false, SV.bool true true]) P1) ∧ (ngetB s = false → sameVal (SV.tup [SV.str (false && true && false) P2, SV.bool true false, SV.bool true true]) P0)) ∧ (decide (byteAt (pathL s) 0 = (1 : Int)) = false → (decide (byteAt (pathL s) 0 = (0 : Int)) = true → ((0 : Int) ≤ (1 : Int) ∧ 1 < (↑(pathL s).length : Int)) ∧ ((!decide (byteAt (pathL s) 1 = (0 : Int))) = true → (ngetB s = true → sameVal P0 P1) ∧ (ngetB s = false → sameVal P0 P0)) ∧ ((!decide (byteAt (pathL s) 1 = (0 : Int))) = false → ((0 : Int) ≤ (2 : Int) ∧ 2 ≤ (↑(pathL s).length : Int) ∧ (↑(pathL s).length : Int) ≤ (↑(pathL s).length : Int)) ∧ (ngetB s = true → sameVal (SV.tup [SV.str (false && true && false) P3, SV.bool true false, SV.bool true true]) P1) ∧ (ngetB s = false →
 sameVal (SV.tup [SV.str (false && true && false) P3, SV.bool true false, SV.bool true true]) P0))) ∧ (decide (byteAt (pathL s) 0 = (0 : Int)) = false → (ngetB s = true → sameVal P0 P1) ∧ (ngetB s = false → sameVal P0 P0))))))))) (subStr (pathL s) (some (Operand.const (Value.int IntKind.i64 2))) none 2 (↑(pathL s).length : Int)))) (subStr (pathL s) (some (Operand.const (Value.int IntKind.i64 1))) none 1 (↑(pathL s).length : Int)))) (SV.tup [SV.str false (ngetP s), SV.bool false (ngetLeaf s), SV.bool true true]))) (SV.tup [SV.str true [], SV.bool true false, SV.bool true false])) := by kernel_rfl
end Go.Proofs.YtkfdcapnogklfaaGreatDoor
/-
  Node: nibbles: the contracts of Put, Get; what a node is: the set-up.
-/
namespace Go.Proofs.YtkfdcapnogklfaaGreatDoor
open Go Sx
set_option maxRecDepth 20000
theorem bytesFrom_len (f : Nat → Int) (i n : Nat) : (bytesFrom f i n).length = n := by simp [bytesFrom]
theorem pathL_len (k : List UInt8) : (pathL k).length = 2 * k.length := bytesFrom_len _ _ _
theorem pairsL_len (p : List UInt8) : (pairsL p).length = p.length / 2 := bytesFrom_len _ _ _
theorem tup2_same {l : Bool} {a b : List UInt8} {l1 l2 x : Bool} (h : a = b) : sameVal (.tup [.str l a, .bool l1 x]) (.tup [.str false b, .bool l2 x]) := fun E => by subst h; rfl
theorem nput_holds {p : List UInt8} (leaf : Bool) (hp : p.length < 1073741824) : Holds (runA cfgN1 66 Tryz.f66 [.str false p, .bool false leaf] (nputA p leaf)) := by
  refine Holds.of_eq (vcNPut p leaf) ?_
  cases nibB p with
  | false => exact ⟨by omega, fun _ => ⟨(fun h => by cases h), fun _ _ => rfl⟩, fun h => by cases h⟩
  | true =>
    refine ⟨by omega, (fun h => by cases h), fun _ => ⟨by omega, trivial, by omega, fun h => ?_, fun h => ?_⟩⟩
    · have ho : decide ((p.length : Int) % 2 = 1) = false := by simpa using h
      refine ⟨by omega, by omega, by simp only [cat, List.length_append, List.length_cons, List.length_nil]; omega, fun _ => tup2_same ?_, fun h => by cases h⟩
      rw [nputL, ho]; rfl
    · have ho : decide ((p.length : Int) % 2 = 1) = true := by simpa using h
      refine ⟨by omega, by simp only [cat, List.length_append, List.length_cons, List.length_nil]; omega, fun _ => tup2_same ?_, fun h => by cases h⟩
      rw [nputL, ho]; rfl
def nputSpec : List SV → Option (Prop × Ans)
  | [.str false p, .bool false leaf] => some (p.length < 1073741824, nputA p leaf)
  | _ => none
theorem nput_ok : CallOk Tryz.prog 66 (ansPT nputSpec) := by
  refine ans_ok (n := 20) (fn := Tryz.f66) Tryz.func66 (by kernel_rfl) (by kernel_rfl) ?_
  intro args p a h hp
  unfold nputSpec at h
  split at h
  · injection h with h; injection h with h1 h2; subst h1; subst h2
    exact ⟨_, goodN1, rfl, fun b => by cases b <;> exact rfl, nput_holds _ hp⟩
  · cases h
theorem tup3_same {l : Bool} {a b : List UInt8} {l1 l2 l3 l4 x y z : Bool} (h : a = b) (h2 : x = y) : sameVal (.tup [.str l a, .bool l1 x, .bool l2 z]) (.tup [.str false b, .bool l3 y, .bool l4 z]) := fun E => by subst h; subst h2; rfl
theorem nget_iff {s : List UInt8} : ngetB s = true ↔ pathL s ≠ [] ∧ byteAt (pathL s) 0 ≤ 3 ∧ (byteAt (pathL s) 0 % 2 = 1 ∨ byteAt (pathL s) 1 = 0) := by
  simp only [ngetB, Bool.and_eq_true, Bool.or_eq_true, decide_eq_true_eq, and_assoc]
theorem nget_holds {s : List UInt8} (hs : s.length < 1099511627776) : Holds (runA cfgN1 75 Tryz.f75 [.str false s] (ngetA s)) := by
  refine Holds.of_eq (vcNGet s) ?_
  have hl := pathL_len s
  have b0 := byteAt_lt (pathL s) 0
  have F : ∀ {p : Prop}, ¬ (pathL s ≠ [] ∧ byteAt (pathL s) 0 ≤ 3 ∧ (byteAt (pathL s) 0 % 2 = 1 ∨ byteAt (pathL s) 1 = 0)) → ngetB s = true → p := fun h h' => absurd (nget_iff.1 h') h
  have T : ∀ {p : Prop}, (pathL s ≠ [] ∧ byteAt (pathL s) 0 ≤ 3 ∧ (byteAt (pathL s) 0 % 2 = 1 ∨ byteAt (pathL s) 1 = 0)) → ngetB s = false → p := fun h h' => by rw [nget_iff.2 h] at h'; cases h'
  have none' : sameVal (.tup [.str true [], .bool true false, .bool true false]) (.tup [.str true [], .bool true false, .bool true false]) := fun _ => rfl
  have O : byteAt (pathL s) 0 % 2 = 1 → (pathL s).drop 1 = ngetP s := fun h => (if_pos h).symm
  have Ev : ¬ byteAt (pathL s) 0 % 2 = 1 → (pathL s).drop 2 = ngetP s := fun h => (if_neg h).symm
  refine ⟨hs, fun h => ⟨F (by simp at h; simp [h]), fun _ => none'⟩, fun h => ?_⟩
  have h : pathL s ≠ [] := of_decide_eq_false h
  have hp := List.length_pos_iff.2 h
  refine ⟨by omega, fun a => ?_, fun a => ⟨fun b => ?_, fun b => ⟨fun c => ?_, fun c => ⟨fun d => ?_, fun d => ?_⟩⟩⟩⟩
  · have a := of_decide_eq_true a
    refine ⟨by omega, fun _ => tup3_same (O (by omega)) (by simp [ngetLeaf, a]), T ⟨h, by omega, .inl (by omega)⟩⟩
  · have b := of_decide_eq_true b
    refine ⟨by omega, fun g => ?_, fun g => ⟨by omega, fun _ => tup3_same (Ev (by omega)) (by simp [ngetLeaf, b]), ?_⟩⟩
    · have g : ¬ byteAt (pathL s) 1 = 0 := by simpa using g
      exact ⟨F (by rintro ⟨_, _, e | e⟩; omega; exact g e), fun _ => none'⟩
    · have g : byteAt (pathL s) 1 = 0 := by simpa using g
      exact T ⟨h, by omega, .inr g⟩
  · have c := of_decide_eq_true c
    refine ⟨by omega, fun _ => tup3_same (O (by omega)) (by simp [ngetLeaf, c]), T ⟨h, by omega, .inl (by omega)⟩⟩
  · have d := of_decide_eq_true d
    refine ⟨by omega, fun g => ?_, fun g => ⟨by omega, fun _ => tup3_same (Ev (by omega)) (by simp [ngetLeaf, d]), ?_⟩⟩
    · have g : ¬ byteAt (pathL s) 1 = 0 := by simpa using g
      exact ⟨F (by rintro ⟨_, _, e | e⟩; omega; exact g e), fun _ => none'⟩
    · have g : byteAt (pathL s) 1 = 0 := by simpa using g
      exact T ⟨h, by omega, .inr g⟩
  · have a := of_decide_eq_false a
    have b := of_decide_eq_false b
    have c := of_decide_eq_false c
    have d := of_decide_eq_false d
    exact ⟨F (by rintro ⟨_, e, _⟩; omega), fun _ => none'⟩
def ngetSpec : List SV → Option (Prop × Ans)
  | [.str false s] => some (s.length < 1099511627776, ngetA s)
  | _ => none
theorem nget_ok : CallOk Tryz.prog 75 (ansPT ngetSpec) := by
  refine ans_ok (n := 20) (fn := Tryz.f75) Tryz.func75 (by kernel_rfl) (by kernel_rfl) ?_
  intro args p a h hp
  unfold ngetSpec at h
  split at h
  · injection h with h; injection h with h1 h2; subst h1; subst h2
    exact ⟨_, goodN1, rfl, fun b => by cases b <;> exact rfl, nget_holds hp⟩
  · cases h
noncomputable def listN2 : List (FuncId × PT) := (70, purePT nvalidSpec) :: (66, ansPT nputSpec) :: (75, ansPT ngetSpec) :: list7
theorem listN2_ok : SummOk Tryz.prog (fun f => lookPT f listN2) := .cons nvalid_ok (purePT_mono _) (.cons nput_ok (ansPT_mono _) (.cons nget_ok (ansPT_mono _) list7_ok))
noncomputable def cfgN2 : Cfg := { cfg0 with summ := fun f => lookPT f listN2 }
theorem goodN2' : Sx.Good Tryz.prog cfgN2 := ⟨mixes, listN2_ok, fns_ok⟩
end Go.Proofs.YtkfdcapnogklfaaGreatDoor
/-
  Node: what a node is: the set-up of the first functions.
-/
namespace Go.Proofs.YtkfdcapnogklfaaGreatDoor
open Go Sx
set_option maxRecDepth 20000
structure Nd where
  k : Int
  p : List UInt8
  v : List UInt8
  r : Nat → List UInt8
def refCells (r : Nat → List UInt8) : List SV := [.str false (r 0), .str false (r 1), .str false (r 2), .str false (r 3), .str false (r 4), .str false (r 5), .str false (r 6), .str false (r 7), .str false (r 8), .str false (r 9), .str false (r 10), .str false (r 11), .str false (r 12), .str false (r 13), .str false (r 14), .str false (r 15)]
def Nd.svL (x : Nd) (l : Bool) (k : Int) : SV := .agg (.int .i64 l k :: .str false x.p :: .str false x.v :: refCells x.r)
def Nd.sv (x : Nd) : SV := x.svL false x.k
def zeroN : SV := .agg [.int .i64 true 0, .str true [], .str true [], .str true [], .str true [], .str true [], .str true [], .str true [], .str true [], .str true [], .str true [], .str true [], .str true [], .str true [], .str true [], .str true [], .str true [], .str true [], .str true []]
def ndOf : List SV → Option Nd
  | [.int .i64 false k, .str false p, .str false v, .str false r0, .str false r1, .str false r2, .str false r3, .str false r4, .str false r5, .str false r6, .str false r7, .str false r8, .str false r9, .str false r10, .str false r11, .str false r12, .str false r13, .str false r14, .str false r15] => some ⟨k, p, v, fun i => [r0, r1, r2, r3, r4, r5, r6, r7, r8, r9, r10, r11, r12, r13, r14, r15].getD i []⟩
  | _ => none
theorem ndOf_eq {l : List SV} {x : Nd} (h : ndOf l = some x) : SV.agg l = x.sv := by
  unfold ndOf at h
  split at h
  · injection h with h; subst h; rfl
  · cases h
def plainB (t : List UInt8) : Bool := cutB t && !cutL t && decide (cutRest t = [])
def hashB (t : List UInt8) : Bool := plainB t && decide (((cutIn t).length : Int) = 32)
def plainA (t : List UInt8) : Ans := .fork (plainB t) fun b => match b with
  | true => .ret (.tup [.str false (cutIn t), .bool true true])
  | false => .ret (.tup [.str true [], .bool true false])
def hashA (t : List UInt8) : Ans := .fork (hashB t) fun b => match b with
  | true => .ret (.tup [.str false (cutIn t), .bool true true])
  | false => .ret (.tup [.str true [], .bool true false])
def pathB (x : Nd) (least : Int) : Bool := decide (least ≤ (x.p.length : Int)) && decide ((x.p.length : Int) ≤ 12) && nibB x.p
def behindI (r : Nat → List UInt8) : Nat → Int
  | 0 => 0
  | i + 1 => if r i = [] then behindI r i else (i : Int) + 1
noncomputable def annBehind (x : Nd) : LoopAnn :=
  { α := Nat, pre := fun _ i => i ≤ 16, mea := fun _ i => 16 - i, fresh := 0, slots := fun _ i => [(7, .int .i64 false i)],
    mem := fun _ i => [(1, .cells [.int .i64 false (behindI x.r i)] 1 3)] }
noncomputable def cfgNB (x : Nd) : Cfg := { cfg0 with summ := fun f => lookPT f listN2, anns := fun f => if f = 51 then [(1, always (annBehind x))] else [] }
theorem goodNB (x : Nd) : Sx.Good Tryz.prog (cfgNB x) := ⟨mixes, listN2_ok, fns_ok⟩
end Go.Proofs.YtkfdcapnogklfaaGreatDoor
/-
  Conditions that the executor computes, written out by a program (vcgen.py).
-/
namespace Go.Proofs.YtkfdcapnogklfaaGreatDoor
open Go Sx
set_option maxRecDepth 20000
theorem vcPlain (t : List UInt8) : VC.holds (runA cfgN2 34 Tryz.f34 [.str false t] (plainA t)) = ((fun P0 : SV => ((t.length < 9223372036854775808 ∧ (cutB t = true → (cutL t = true → (plainB t = true → sameVal P0 (SV.tup [SV.str false (cutIn t), SV.bool true true])) ∧ (plainB t = false → sameVal P0 P0)) ∧ (cutL t = false → ((!decide (cutRest t = [])) = true → (plainB t = true → sameVal P0 (SV.tup [SV.str false (cutIn t), SV.bool true true])) ∧ (plainB t = false → sameVal P0 P0)) ∧ ((!decide (cutRest t = [])) = false → (plainB t = true → sameVal (SV.tup [SV.str false (cutIn t), SV.bool true true]) (SV.tup [SV.str false (cutIn t), SV.bool true true])) ∧ (plainB t = false → sameVal (SV.tup [SV.str false (cutIn t), SV.bool true true]) P0)))) ∧ (cutB t = false → (plainB t = true → sameVal P0 (SV.tup [SV.str false (cutIn t), SV.bool true true])) ∧ (plainB t = false → sameVal P0 P0))))) (SV.tup [SV.str true [], SV.bool true false])) := by kernel_rfl
theorem vcHash (t : List UInt8) : VC.holds (runA cfgN2 16 Tryz.f16 [.str false t] (hashA t)) = ((fun P0 : SV => ((fun P1 : SV => ((t.length < 9223372036854775808 ∧ (cutB t = true → (cutL t = true → (hashB t = true → sameVal P0 P1) ∧ (hashB t = false → sameVal P0 P0)) ∧ (cutL t = false → ((!decide (cutRest t = [])) = true → (hashB t = true → sameVal P0 P1) ∧ (hashB t = false → sameVal P0 P0)) ∧ ((!decide (cutRest t = [])) = false → ((!decide ((↑(cutIn t).length : Int) = 32)) = true → (hashB t = true → sameVal P0 P1) ∧ (hashB t = false → sameVal P0 P0)) ∧ ((!decide ((↑(cutIn t).length : Int) = 32)) = false → (hashB t = true → sameVal P1 P1) ∧ (hashB t = false → sameVal P1 P0))))) ∧ (cutB t = false → (hashB t = true → sameVal P0 P1) ∧ (hashB t = false → sameVal P0 P0))))) (SV.tup [SV.str false (cutIn t), SV.bool true true]))) (SV.tup [SV.str true [], SV.bool true false])) := by kernel_rfl
theorem vcNdPath (x : Nd) (least : Int) (R : SV → Prop) : VC.holds (runP cfgN2 48 Tryz.f48 [x.sv, .int .i64 false least] R) = (((decide (least ≤ (x.p.length : Int)) = true → (decide ((x.p.length : Int) ≤ 12) = true → x.p.length < 1152921504606846976 ∧ R (SV.bool false (nibB x.p))) ∧ (decide ((x.p.length : Int) ≤ 12) = false → R (SV.bool true false))) ∧ (decide (least ≤ (x.p.length : Int)) = false → R (SV.bool true false)))) := by kernel_rfl
theorem vcBehind (x : Nd) (R : SV → Prop) : VC.holds (runP (cfgNB x) 49 Tryz.f49 [x.sv] R) = ((fun R0 : Nat → SV => ((fun P0 : SB => ((∀ (u4 : Loop), (∃ (u3 : Nat), u3 ≤ 16 ∧ 0 = (u3 : Int) ∧ SBle (SB.cells [SV.int .i64 true 0] 1 3) (SB.cells [SV.int .i64 false (behindI x.r u3)] 1 3) ∧ SBle (SB.loop LoopState.ready none u4) (SB.loop LoopState.ready none u4) ∧ SBle P0 P0 ∧ SBle (SB.cells x.sv.cells 19 44) (SB.cells x.sv.cells 19 44) ∧ True) ∧ ∀ (u2 : Nat), u2 ≤ 16 → (decide ((u2 : Int) < 16) = true → (0 ≤ (u2 : Int) ∧ (u2 : Int) < 16 ∧ (u2 : Int) < (↑(16 : Nat) : Int)) ∧ ((!decide (selS [x.r 0, x.r 1, x.r 2, x.r 3, x.r 4, x.r 5, x.r 6, x.r 7, x.r 8, x.r 9, x.r 10, x.r 11, x.r 12, x.r 13, x.r 14, x.r 15] (u2 : Int).toNat = [])) = true → u4 = u4 ∧ ((-9223372036854775808 : Int) ≤ (u2 : Int) + 1 ∧ (u2 : Int) + 1 ≤ (9223372036854775807 : Int)) ∧ ((-9223372036854775808 : Int) ≤ (u2 : Int) + 1 ∧ (u2 : Int) + 1 ≤ (9223372036854775807 : Int)) ∧ ∃ (u1 : Nat), (u1 ≤ 16 ∧ 16 - u1 < 16 - u2) ∧ (u2 : Int) + 1 = (u1 : Int) ∧ SBle (SB.cells [SV.int .i64 false ((u2 : Int) + 1)] 1 3) (SB.cells [SV.int .i64 false (behindI x.r u1)] 1 3) ∧ SBle (SB.loop LoopState.ready none u4) (SB.loop LoopState.ready none u4) ∧ SBle P0 P0 ∧ SBle (SB.cells x.sv.cells 19 44) (SB.cells x.sv.cells 19 44) ∧ True) ∧
 ((!decide (selS [x.r 0, x.r 1, x.r 2, x.r 3, x.r 4, x.r 5, x.r 6, x.r 7, x.r 8, x.r 9, x.r 10, x.r 11, x.r 12, x.r 13, x.r 14, x.r 15] (u2 : Int).toNat = [])) = false → ((-9223372036854775808 : Int) ≤ (u2 : Int) + 1 ∧ (u2 : Int) + 1 ≤ (9223372036854775807 : Int)) ∧ ∃ (u0 : Nat), (u0 ≤ 16 ∧ 16 - u0 < 16 - u2) ∧ (u2 : Int) + 1 = (u0 : Int) ∧ SBle (SB.cells [SV.int .i64 false (behindI x.r u2)] 1 3) (SB.cells [SV.int .i64 false (behindI x.r u0)] 1 3) ∧ SBle (SB.loop LoopState.ready none u4) (SB.loop LoopState.ready none u4) ∧ SBle P0 P0 ∧ SBle (SB.cells x.sv.cells 19 44) (SB.cells x.sv.cells 19 44) ∧ True)) ∧ (decide ((u2 : Int) < 16) = false → R (SV.int .i64 false (behindI x.r u2)))))) (SB.cells (SV.agg [SV.int .i64 false x.k, SV.str false x.p, SV.str false x.v, R0 0, R0 1, R0 2, R0 3, R0 4, R0 5, R0 6, R0 7, R0 8, R0 9, R0 10, R0 11, R0 12, R0 13, R0 14, R0 15]).cells 19 44))) (fun (n0 : Nat)  => SV.str false (x.r n0))) := by kernel_rfl
theorem vcNdNone (x : Nd) (R : SV → Prop) : VC.holds (runP cfgN2 27 Tryz.f27 [x.sv] R) = ((R (SV.bool (false && true && (false && true && (false && true && (false && true && (false && true && (false && true && (false && true && (false && true && (false && true && (false && true && (false && true && (false && true && (false && true && (false && true && (false && true && (false && true && (false && true && (false && true && (false && true && true))))))))))))))) && true)))) (decide (x.k = 0) && (decide (x.p = []) && (decide (x.v = []) && (decide (x.r 0 = []) && (decide (x.r 1 = []) && (decide (x.r 2 = []) && (decide (x.r 3 = []) && (decide (x.r 4 = []) && (decide (x.r 5 = []) && (decide (x.r 6 = []) && (decide (x.r 7 = []) && (decide (x.r 8 = []) && (decide (x.r 9 = []) && (decide (x.r 10 = []) && (decide (x.r 11 = []) && (decide (x.r 12 = []) && (decide (x.r 13 = []) && (decide (x.r 14 = []) && (decide (x.r 15 = []) && true))))))))))))))) && true))))))) := by kernel_rfl
end Go.Proofs.YtkfdcapnogklfaaGreatDoor
/-
  Node: items, hashes, paths, refs: the contracts.
-/
namespace Go.Proofs.YtkfdcapnogklfaaGreatDoor
open Go Sx
set_option maxRecDepth 20000
theorem plain_iff {t : List UInt8} : plainB t = true ↔ cutB t = true ∧ cutL t = false ∧ cutRest t = [] := by
  simp only [plainB, Bool.and_eq_true, Bool.not_eq_true', decide_eq_true_eq, and_assoc]
theorem hash_iff {t : List UInt8} : hashB t = true ↔ (cutB t = true ∧ cutL t = false ∧ cutRest t = []) ∧ (cutIn t).length = 32 := by
  simp only [hashB, Bool.and_eq_true, plain_iff, decide_eq_true_eq]
  constructor <;> rintro ⟨h1, h2⟩ <;> exact ⟨h1, by omega⟩
theorem plain_holds {t : List UInt8} (ht : t.length < 9223372036854775808) : Holds (runA cfgN2 34 Tryz.f34 [.str false t] (plainA t)) := by
  refine Holds.of_eq (vcPlain t) ?_
  have no : sameVal (.tup [.str true [], .bool true false]) (.tup [.str true [], .bool true false]) := fun _ => rfl
  have F : ∀ {p : Prop}, ¬ (cutB t = true ∧ cutL t = false ∧ cutRest t = []) → plainB t = true → p := fun h h' => absurd (plain_iff.1 h') h
  refine ⟨ht, fun a => ⟨fun b => ⟨F (by simp [b]), fun _ => no⟩, fun b => ⟨fun c => ⟨F (by simp at c; simp [c]), fun _ => no⟩, fun c => ?_⟩⟩, fun a => ⟨F (by simp [a]), fun _ => no⟩⟩
  have c : cutRest t = [] := by simpa using c
  have hB := plain_iff.2 ⟨a, b, c⟩
  exact ⟨fun _ _ => rfl, fun h => by rw [hB] at h; cases h⟩
theorem hash_holds {t : List UInt8} (ht : t.length < 9223372036854775808) : Holds (runA cfgN2 16 Tryz.f16 [.str false t] (hashA t)) := by
  refine Holds.of_eq (vcHash t) ?_
  have no : sameVal (.tup [.str true [], .bool true false]) (.tup [.str true [], .bool true false]) := fun _ => rfl
  have F : ∀ {p : Prop}, ¬ ((cutB t = true ∧ cutL t = false ∧ cutRest t = []) ∧ (cutIn t).length = 32) → hashB t = true → p := fun h h' => absurd (hash_iff.1 h') h
  refine ⟨ht, fun a => ⟨fun b => ⟨F (by simp [b]), fun _ => no⟩, fun b => ⟨fun c => ⟨F (by simp at c; simp [c]), fun _ => no⟩, fun c => ⟨fun d => ⟨F (by simp at d; omega), fun _ => no⟩, fun d => ?_⟩⟩⟩, fun a => ⟨F (by simp [a]), fun _ => no⟩⟩
  have c : cutRest t = [] := by simpa using c
  have d : ((cutIn t).length : Int) = 32 := by simpa using d
  have hB := hash_iff.2 ⟨⟨a, b, c⟩, by omega⟩
  exact ⟨fun _ _ => rfl, fun h => by rw [hB] at h; cases h⟩
def plainSpec : List SV → Option (Prop × Ans)
  | [.str false t] => some (t.length < 9223372036854775808, plainA t)
  | _ => none
def hashSpec : List SV → Option (Prop × Ans)
  | [.str false t] => some (t.length < 9223372036854775808, hashA t)
  | _ => none
theorem plain_ok : CallOk Tryz.prog 34 (ansPT plainSpec) := by
  refine ans_ok (n := 20) (fn := Tryz.f34) Tryz.func34 (by kernel_rfl) (by kernel_rfl) ?_
  intro args p a h hp
  unfold plainSpec at h
  split at h
  · injection h with h; injection h with h1 h2; subst h1; subst h2
    exact ⟨_, goodN2', rfl, fun b => by cases b <;> exact rfl, plain_holds hp⟩
  · cases h
theorem hash_ok : CallOk Tryz.prog 16 (ansPT hashSpec) := by
  refine ans_ok (n := 20) (fn := Tryz.f16) Tryz.func16 (by kernel_rfl) (by kernel_rfl) ?_
  intro args p a h hp
  unfold hashSpec at h
  split at h
  · injection h with h; injection h with h1 h2; subst h1; subst h2
    exact ⟨_, goodN2', rfl, fun b => by cases b <;> exact rfl, hash_holds hp⟩
  · cases h
def ndpathSpec : List SV → Option (Prop × SV)
  | [.agg l, .int .i64 false least] => (match ndOf l with
    | some x => some (True, .bool false (pathB x least))
    | none => none)
  | _ => none
theorem ndpath_ok : CallOk Tryz.prog 48 (purePT ndpathSpec) := by
  refine pure_ok goodN2' (n := 20) (fn := Tryz.f48) Tryz.func48 (by kernel_rfl) (by kernel_rfl) ?_
  intro args p r h hp
  unfold ndpathSpec at h
  split at h
  · split at h
    · rename_i l least _ x hx
      injection h with h; injection h with h1 h2; subst h1; subst h2
      rw [ndOf_eq hx]
      refine ⟨rfl, rfl, Holds.of_eq (vcNdPath x least _) ⟨fun a => ⟨fun b => ⟨?_, bool_eq ?_⟩, fun b => bool_eq ?_⟩, fun a => bool_eq ?_⟩⟩
      · have := of_decide_eq_true b; omega
      · rw [pathB, a, b]; rfl
      · rw [pathB, a, b]; rfl
      · rw [pathB, a]; rfl
    · cases h
  · cases h
theorem sel16 (r : Nat → List UInt8) {i : Nat} (h : i < 16) : selS [r 0, r 1, r 2, r 3, r 4, r 5, r 6, r 7, r 8, r 9, r 10, r 11, r 12, r 13, r 14, r 15] i = r i := by
  have : i = 0 ∨ i = 1 ∨ i = 2 ∨ i = 3 ∨ i = 4 ∨ i = 5 ∨ i = 6 ∨ i = 7 ∨ i = 8 ∨ i = 9 ∨ i = 10 ∨ i = 11 ∨ i = 12 ∨ i = 13 ∨ i = 14 ∨ i = 15 := by omega
  rcases this with rfl | rfl | rfl | rfl | rfl | rfl | rfl | rfl | rfl | rfl | rfl | rfl | rfl | rfl | rfl | rfl <;> rfl
theorem cell1 {l l' : Bool} {a b : Int} {tot : Nat} {ty : TypeId} (h : a = b) : SBle (.cells [.int .i64 l a] tot ty) (.cells [.int .i64 l' b] tot ty) := by
  subst h
  exact SBle.cells (fun _ => rfl) rfl
theorem behind_holds (x : Nd) : Holds (runP (cfgNB x) 49 Tryz.f49 [x.sv] (fun v => sameVal v (.int .i64 false (behindI x.r 16)))) := by
  refine Holds.of_eq (vcBehind x _) ?_
  intro R
  refine ⟨⟨0, by omega, rfl, cell1 rfl, SBle.refl _, SBle.refl _, SBle.refl _, trivial⟩, fun i hi => ⟨fun a => ?_, fun a => ?_⟩⟩
  · have a := of_decide_eq_true a
    have ei : i < 16 := by omega
    rw [Int.toNat_natCast, sel16 x.r ei]
    refine ⟨by omega, fun b => ⟨rfl, by omega, by omega, i + 1, by omega, by omega, cell1 ?_, SBle.refl _, SBle.refl _, SBle.refl _, trivial⟩, fun b => ⟨by omega, i + 1, by omega, by omega, cell1 ?_, SBle.refl _, SBle.refl _, SBle.refl _, trivial⟩⟩
    · have b : ¬ x.r i = [] := by simpa using b
      rw [behindI, if_neg b]
    · have b : x.r i = [] := by simpa using b
      rw [behindI, if_pos b]
  · have a := of_decide_eq_false a
    have e : i = 16 := by omega
    rw [e]; exact fun _ => rfl
def behindSpec : List SV → Option (Prop × SV)
  | [.agg l] => (match ndOf l with
    | some x => some (True, .int .i64 false (behindI x.r 16))
    | none => none)
  | _ => none
theorem behind_ok : CallOk Tryz.prog 49 (purePT behindSpec) := by
  refine pure_of_ans (ans_ok (n := 20) (fn := Tryz.f49) Tryz.func49 (by kernel_rfl) (by kernel_rfl) ?_)
  intro args p a h hp
  unfold behindSpec at h
  split at h
  · split at h
    · rename_i l x hx
      injection h with h; injection h with h1 h2; subst h1; subst h2
      rw [ndOf_eq hx]
      exact ⟨_, goodNB x, rfl, rfl, behind_holds x⟩
    · cases h
  · cases h
def noneB (x : Nd) : Bool := decide (x.k = 0) && (decide (x.p = []) && (decide (x.v = []) && (List.range 16).all fun i => decide (x.r i = [])))
def ndnoneSpec : List SV → Option (Prop × SV)
  | [.agg l] => (match ndOf l with
    | some x => some (True, .bool false (noneB x))
    | none => none)
  | _ => none
theorem ndnone_ok : CallOk Tryz.prog 27 (purePT ndnoneSpec) := by
  refine pure_ok goodN2' (n := 20) (fn := Tryz.f27) Tryz.func27 (by kernel_rfl) (by kernel_rfl) ?_
  intro args p r h hp
  unfold ndnoneSpec at h
  split at h
  · split at h
    · rename_i l x hx
      injection h with h; injection h with h1 h2; subst h1; subst h2
      rw [ndOf_eq hx]
      refine ⟨rfl, rfl, Holds.of_eq (vcNdNone x _) (bool_eq ?_)⟩
      rw [noneB, show List.range 16 = [0, 1, 2, 3, 4, 5, 6, 7, 8, 9, 10, 11, 12, 13, 14, 15] from by decide]
      simp only [List.all_cons, List.all_nil, Bool.and_true]
    · cases h
  · cases h
noncomputable def listN3 : List (FuncId × PT) := (34, ansPT plainSpec) :: (16, ansPT hashSpec) :: (48, purePT ndpathSpec) :: (49, purePT behindSpec) :: (27, purePT ndnoneSpec) :: listN2
theorem listN3_ok : SummOk Tryz.prog (fun f => lookPT f listN3) := .cons plain_ok (ansPT_mono _) (.cons hash_ok (ansPT_mono _) (.cons ndpath_ok (purePT_mono _) (.cons behind_ok (purePT_mono _) (.cons ndnone_ok (purePT_mono _) listN2_ok))))
noncomputable def cfgN3 : Cfg := { cfg0 with summ := fun f => lookPT f listN3 }
theorem goodN3 : Sx.Good Tryz.prog cfgN3 := ⟨mixes, listN3_ok, fns_ok⟩
end Go.Proofs.YtkfdcapnogklfaaGreatDoor
