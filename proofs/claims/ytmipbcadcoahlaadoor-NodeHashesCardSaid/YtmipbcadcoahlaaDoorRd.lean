/-
  Node: NodeHashes: the set-up; plain laws of hashes.
-/
import Derived.Test.YtmipbcadcoahlaaDoorRb
namespace Go.Proofs.YtmipbcadcoahlaaDoor
open Go Sx
set_option maxRecDepth 20000

noncomputable def annLH (x : Nd) : LoopAnn :=
  { α := Nat, pre := fun _ i => i ≤ 16, mea := fun _ i => 16 - i, fresh := 0, slots := fun _ i => [(6, .int .i64 false (hashN x.r i)), (7, .int .i64 false i)], mem := fun _ _ => [] }
noncomputable def cfgLH (x : Nd) : Cfg := { cfg0 with summ := fun f => lookPT f listL1, anns := fun f => if f = 4 then [(10, always (annLH x))] else [] }
theorem goodLH (x : Nd) : Sx.Good Tryd.prog (cfgLH x) := ⟨mixes, listL1_ok, fns_ok⟩
theorem hashN_none {r : Nat → List UInt8} : ∀ {n : Nat}, (∀ j, j < n → hashB (r j) = false) → hashN r n = 0
  | 0, _ => rfl
  | n + 1, h => by
    rw [(hashN_skip (h n (by omega))).1]
    exact hashN_none fun j hj => h j (by omega)
theorem short_hash {t : List UInt8} (h : t.length < 33) : hashB t = false := by
  cases e : hashB t with
  | false => rfl
  | true => have := hash_len e; omega
/-- What an inline ref tells refers to no hash. -/
theorem inl_none {t : List UInt8} (h : inlB t = true) : hashN (getD t).r 16 = 0 := by
  have hk := (inl_shape h).1
  have hl := inl_len h
  refine hashN_none fun j _ => short_hash ?_
  by_cases e : (getD t).r j = []
  · rw [e]; simp
  · have := refs_lt hk j e
    omega
theorem hashN_mono (r : Nat → List UInt8) {i n : Nat} (h : i ≤ n) : hashN r i ≤ hashN r n := by
  induction n with
  | zero => obtain rfl : i = 0 := by omega
            exact Nat.le_refl _
  | succ n ih =>
    by_cases e : i = n + 1
    · subst e; exact Nat.le_refl _
    · have := ih (by omega)
      cases hb : hashB (r n) with
      | true => rw [hashN_step hb]; omega
      | false => rw [(hashN_skip hb).1]; exact this
theorem hashAt_stay (r : Nat → List UInt8) {i j : Nat} : ∀ {n : Nat}, i ≤ n → j < hashN r i → hashAt r n j = hashAt r i j
  | 0, h, _ => by obtain rfl : i = 0 := by omega
                  rfl
  | n + 1, h, hj => by
    by_cases e : i = n + 1
    · subst e; rfl
    · have ih := hashAt_stay r (n := n) (by omega) hj
      have hm := hashN_mono r (i := i) (n := n) (by omega)
      rw [← ih]
      show (bif hashB (r n) then (if j = hashN r n then cutIn (r n) else hashAt r n j) else hashAt r n j) = _
      rw [if_neg (by omega)]
      cases hashB (r n) <;> rfl
theorem hashAt_here {r : Nat → List UInt8} {i : Nat} (hi : i < 16) (h : hashB (r i) = true) : hashN r i < hashN r 16 ∧ hashAt r 16 (hashN r i) = cutIn (r i) := by
  have h1 := hashN_step h
  have h2 := hashN_mono r (i := i + 1) (n := 16) (by omega)
  refine ⟨by omega, ?_⟩
  rw [hashAt_stay r (i := i + 1) (n := 16) (by omega) (by omega)]
  show (bif hashB (r i) then (if hashN r i = hashN r i then cutIn (r i) else hashAt r i (hashN r i)) else hashAt r i (hashN r i)) = _
  rw [h, if_pos rfl]; rfl
theorem hashN_ext {r r' : Nat → List UInt8} : ∀ {n : Nat}, (∀ j, j < n → r j = r' j) → hashN r n = hashN r' n
  | 0, _ => rfl
  | n + 1, h => by
    unfold hashN
    rw [h n (by omega), hashN_ext fun j hj => h j (by omega)]
theorem hashAt_ext {r r' : Nat → List UInt8} : ∀ {n : Nat}, (∀ j, j < n → r j = r' j) → hashAt r n = hashAt r' n
  | 0, _ => rfl
  | n + 1, h => by
    funext j
    show (bif hashB (r n) then (if j = hashN r n then cutIn (r n) else hashAt r n j) else hashAt r n j) = (bif hashB (r' n) then (if j = hashN r' n then cutIn (r' n) else hashAt r' n j) else hashAt r' n j)
    rw [h n (by omega), hashN_ext (n := n) fun j hj => h j (by omega), hashAt_ext (n := n) fun j hj => h j (by omega)]
theorem hashN_mk (r : Nat → List UInt8) : hashN (fun (i : Nat) => [r 0, r 1, r 2, r 3, r 4, r 5, r 6, r 7, r 8, r 9, r 10, r 11, r 12, r 13, r 14, r 15].getD i []) 16 = hashN r 16 := hashN_ext (getD16 r)
theorem hashAt_mk (r : Nat → List UInt8) : hashAt (fun (i : Nat) => [r 0, r 1, r 2, r 3, r 4, r 5, r 6, r 7, r 8, r 9, r 10, r 11, r 12, r 13, r 14, r 15].getD i []) 16 = hashAt r 16 := hashAt_ext (getD16 r)
end Go.Proofs.YtmipbcadcoahlaaDoor
