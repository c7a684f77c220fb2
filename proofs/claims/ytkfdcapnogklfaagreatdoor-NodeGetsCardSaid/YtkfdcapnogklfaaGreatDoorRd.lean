/-
  Node: NodeHashes: the set-up; plain laws of hashes.
-/
import Derived.Test.YtkfdcapnogklfaaGreatDoorRb
namespace Go.Proofs.YtkfdcapnogklfaaGreatDoor
open Go Sx
set_option maxRecDepth 20000
theorem hashN_ext {r r' : Nat → List UInt8} : ∀ {n : Nat}, (∀ j, j < n → r j = r' j) → hashN r n = hashN r' n
  | 0, _ => rfl
  | n + 1, h => by
    unfold hashN
    rw [h n (by omega), hashN_ext fun j hj => h j (by omega)]
theorem hashAt_ext {r r' : Nat → List UInt8} : ∀ {n : Nat}, (∀ j, j < n → r j = r' j) → hashAt r n = hashAt r' n
  | 0, _ => rfl
  | n + 1, h => by
    funext j
    show (bif hashB (r n) then (if j = hashN r n then cutIn (r n) else hashAt r n j) else hashAt r n j) = (bif hashB (r' n) then (if j = hashN r' n then cutIn (r' n) else hashAt r' n j) else hashAt r' n j)
    rw [h n (by omega), hashN_ext (n := n) fun j hj => h j (by omega), hashAt_ext (n := n) fun j hj => h j (by omega)]
theorem hashN_mk (r : Nat → List UInt8) : hashN (fun (i : Nat) => [r 0, r 1, r 2, r 3, r 4, r 5, r 6, r 7, r 8, r 9, r 10, r 11, r 12, r 13, r 14, r 15].getD i []) 16 = hashN r 16 := hashN_ext (getD16 r)
theorem hashAt_mk (r : Nat → List UInt8) : hashAt (fun (i : Nat) => [r 0, r 1, r 2, r 3, r 4, r 5, r 6, r 7, r 8, r 9, r 10, r 11, r 12, r 13, r 14, r 15].getD i []) 16 = hashAt r 16 := hashAt_ext (getD16 r)
end Go.Proofs.YtkfdcapnogklfaaGreatDoor
