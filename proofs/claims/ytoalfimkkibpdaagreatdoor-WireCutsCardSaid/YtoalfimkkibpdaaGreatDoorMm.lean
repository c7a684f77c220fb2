/-
  Rlp: strings.Join without a separator, by the kit's shelf: the contract.
-/
import Derived.Test.YtoalfimkkibpdaaGreatDoorMl
namespace Go.Proofs
open Go.Shelf Go.RowKit
theorem Tryz.extra : Builder.Extra Tryz.prog Tryz.laysJoin_ren := {
  sizeBuilder := by kernel_rfl,
  liesBuilder := by kernel_rfl,
  t5 := by kernel_rfl,
  a5 := by intro w; kernel_rfl,
  z5 := by intro w; kernel_rfl,
  v5 := by intro w; kernel_rfl,
  infoByte := by kernel_rfl,
  cellsByte := by kernel_rfl,
  sizeByte := by kernel_rfl,
  neB5 := by decide }
end Go.Proofs
namespace Go.Proofs.YtoalfimkkibpdaaGreatDoor
open Go Sx
set_option maxRecDepth 20000
theorem joinNum : Tryz.laysJoin_ren.f 156 = 59 := by kernel_rfl
def flat (l : List (List UInt8)) : List UInt8 := l.flatten
def rowL (f : Nat → List UInt8) (i n : Nat) : List (List UInt8) := (List.range n).map fun j => f (i + j)
theorem rowL_get {f : Nat → List UInt8} {i n j : Nat} {x : List UInt8} (h : (rowL f i n)[j]? = some x) : j < n ∧ f (i + j) = x := by
  unfold rowL at h
  rw [List.getElem?_map] at h
  by_cases hj : j < n
  · rw [List.getElem?_range hj] at h
    injection h with h
    exact ⟨hj, h⟩
  · rw [List.getElem?_eq_none (by simpa using hj)] at h; cases h
theorem rowL_len (f : Nat → List UInt8) (i n : Nat) : (rowL f i n).length = n := by simp [rowL]
def strCells : List SV → Option (List (List UInt8))
  | [] => some []
  | .str _ s :: r => (match strCells r with
    | some l => some (s :: l)
    | none => none)
  | _ => none
theorem strCells_get {cs : List SV} {l : List (List UInt8)} (h : strCells cs = some l) : l.length = cs.length ∧ ∀ (j : Nat) (x : List UInt8), l[j]? = some x → ∃ b, cs[j]? = some (.str b x) := by
  induction cs generalizing l with
  | nil => injection h with h; subst h; exact ⟨rfl, fun j x hx => by simp at hx⟩
  | cons v r ih =>
    unfold strCells at h
    split at h
    · cases ‹_ :: _ = []›
    · rename_i b s r' e
      injection e with e1 e2; subst e1; subst e2
      split at h
      · rename_i l' hl
        injection h with h; subst h
        obtain ⟨g1, g2⟩ := ih hl
        refine ⟨by simp [g1], fun j x hx => ?_⟩
        cases j with
        | zero => injection hx with hx; subst hx; exact ⟨b, rfl⟩
        | succ j => exact g2 j x (by simpa using hx)
      · cases h
    · cases h
def strsOf (m : Mem) : SV → Option (Prop × List (List UInt8))
  | .nilslc => some (True, [])
  | .slc key o n _ c => (match m.get key with
    | some (.cells cs _ _) => (match strCells ((cs.drop o).take n) with
      | some l => some (l.length = n ∧ n ≤ c, l)
      | none => none)
    | _ => none)
  | .rslc key 1 _ i n c => (match m.get key with
    | some (.rows _ n' [.str f] _ _ _) => some (i + n ≤ n' ∧ n ≤ c, rowL f i n)
    | _ => none)
  | .vslc key 1 _ o i n c => (match m.get key with
    | some (.view _ o' n' [.str f]) => some (o' = o ∧ i + n ≤ n' ∧ n ≤ c, rowL f i n)
    | _ => none)
  | _ => none
theorem strsOf_ok {Γ E m nx w} (h : SatM Γ E m nx w) {v : SV} {p : Prop} {l : List (List UInt8)} (hv : strsOf m v = some (p, l)) (hp : p) :
    (∃ a c, l = [] ∧ v.val E = .slice a 0 c) ∨ (∃ k o c, v.val E = .slice (some ⟨k, o, none⟩) l.length c ∧ l.length ≤ c ∧ k < w.heap.size ∧ ∀ (j : Nat) x, l[j]? = some x → w.cell? ⟨k, o + j, none⟩ = some (.string ⟨x.toArray⟩)) := by
  unfold strsOf at hv
  split at hv
  · injection hv with hv; injection hv with h1 h2; subst h2; exact .inl ⟨_, _, rfl, rfl⟩
  · rename_i key o n cl c
    split at hv
    · rename_i cs tot ty hk
      split at hv
      · rename_i l' hl
        injection hv with hv; injection hv with h1 h2; subst h1; subst h2
        obtain ⟨g1, g2⟩ := strCells_get hl
        obtain ⟨ob, ho, ce, fr, rfl, _, h4, _⟩ := h.blk key _ hk rfl
        refine .inr ⟨E key, o, c, by rw [hp.1]; rfl, by omega, (Array.getElem?_eq_some_iff.1 ho).1, fun j x hx => ?_⟩
        obtain ⟨b, hb⟩ := g2 j x hx
        rw [cell_of ho]
        have hj : j < n := by
          have := (List.getElem?_eq_some_iff.1 hx).1
          omega
        rw [List.getElem?_take_of_lt hj, List.getElem?_drop] at hb
        exact h4 _ _ hb
      · cases hv
    · cases hv
  · rename_i key z i n c
    split at hv
    · rename_i z' n' f ro tot ty hk
      injection hv with hv; injection hv with h1 h2; subst h1; subst h2
      cases n with
      | zero => exact .inl ⟨_, _, rfl, rfl⟩
      | succ n =>
        obtain ⟨ob, ho, ce, fr, rfl, _, _, _, h4⟩ := h.blk key _ hk (SB.no_rows (i := 0) (by omega))
        refine .inr ⟨E key, i, c, ?_, by rw [rowL_len]; exact hp.2, (Array.getElem?_eq_some_iff.1 ho).1, fun j x hx => ?_⟩
        · rw [rowL_len]; cases z <;> simp [SV.val, show Nat.beq (n + 1) 0 = false from rfl]
        · obtain ⟨hj, hx⟩ := rowL_get hx
          rw [cell_of ho]
          have := h4 (i + j) 0 (.str f) (by omega) rfl
          simpa [Col.at, SV.val, hx] using this
    · cases hv
  · rename_i key z o i n c
    split at hv
    · rename_i z' o' n' f hk
      injection hv with hv; injection hv with h1 h2; subst h1; subst h2
      cases n with
      | zero => exact .inl ⟨_, _, rfl, rfl⟩
      | succ n =>
        obtain ⟨ob, ho, ce, ty, fr, rfl, h4⟩ := h.blk key _ hk (SB.no_view (i := 0) (by omega))
        refine .inr ⟨E key, o + i, c, ?_, by rw [rowL_len]; exact hp.2.2, (Array.getElem?_eq_some_iff.1 ho).1, fun j x hx => ?_⟩
        · rw [rowL_len]; cases z <;> simp [SV.val, show Nat.beq (n + 1) 0 = false from rfl]
        · obtain ⟨hj, hx⟩ := rowL_get hx
          rw [cell_of ho]
          have := h4 (i + j) 0 (.str f) (by omega) rfl
          obtain ⟨rfl, _⟩ := hp
          simpa [Col.at, SV.val, hx, Nat.add_assoc] using this
    · cases hv
  · cases hv
noncomputable def joinPT : PT := fun args m nx K => match args with
  | [v, .str _ []] => (match strsOf m v with
    | some (p, l) => .and (.atom (p ∧ l.length ≤ 140737488355328 ∧ (flat l).length ≤ 140737488355328)) (K (.str false (flat l)) m nx)
    | none => .fail "texts that are not known")
  | _ => .fail "a separator"
theorem joinPT_mono : MonoPT joinPT := by
  intro args m nx K K' hK h
  unfold joinPT at h ⊢
  split at h
  · split at h
    · rename_i p l hl
      exact ⟨h.1, hK _ _ _ h.2⟩
    · exact h.elim
  · exact h.elim
theorem join_flat : ∀ l : List (List UInt8), Lib.join l [] = flat l
  | [] => rfl
  | [x] => by simp [Lib.join, flat, List.intercalate]
  | x :: y :: r => by
    have := join_flat (y :: r)
    simp [Lib.join, flat, List.intercalate] at this ⊢; rw [this]
theorem join_ok : CallOk Tryz.prog 59 joinPT := by
  intro args m nx K hk hwf hargs Γ E w hs
  unfold joinPT at hk
  split at hk
  · rename_i v b
    split at hk
    · rename_i p l hl
      obtain ⟨⟨hp, h1, h2⟩, hk⟩ := hk
      have hc : Calls Tryz.prog 59 (SV.vals E [v, .str b []]).toArray w fun e w' => e = .returned (.string ⟨(flat l).toArray⟩) ∧ RowKit.Below w.heap.size w w' := by
        rw [← joinNum]
        rcases strsOf_ok hs hl hp with ⟨a, c, rfl, hv⟩ | ⟨k, o, c, hv, g1, g2, g3⟩
        · simp only [SV.vals, hv, SV.val]
          exact (Any.strings_Join_none Tryz.laysJoin Tryz.extra a c _ w).mono fun e w' ⟨he, hw⟩ => ⟨he, hw ▸ RowKit.Below.refl _ _⟩
        · simp only [SV.vals, hv, SV.val]
          have := Any.strings_Join Tryz.laysJoin Tryz.extra k o c (l.map fun x => ⟨x.toArray⟩) ⟨#[]⟩ w (fun j x hx => by
            rw [List.getElem?_map] at hx
            cases hj : l[j]? with
            | none => rw [hj] at hx; cases hx
            | some y => rw [hj] at hx; injection hx with hx; subst hx; exact g3 j y hj) g2 (by simpa using h1) (by simpa using g1) (by
            simp only [List.map_map]
            have : (l.map ((fun x : ByteArray => x.data.toList) ∘ fun x => (⟨x.toArray⟩ : ByteArray))) = l := by
              rw [show ((fun x : ByteArray => x.data.toList) ∘ fun x : List UInt8 => (⟨x.toArray⟩ : ByteArray)) = id from by funext x; simp]
              simp
            rw [this]
            show (Lib.join l []).length ≤ _
            rw [join_flat]; exact h2)
          rw [List.length_map] at this
          refine this.mono fun e w' ⟨he, hw⟩ => ⟨?_, hw⟩
          rw [he, List.map_map]
          have : (l.map ((fun x : ByteArray => x.data.toList) ∘ fun x => (⟨x.toArray⟩ : ByteArray))) = l := by
            rw [show ((fun x : ByteArray => x.data.toList) ∘ fun x : List UInt8 => (⟨x.toArray⟩ : ByteArray)) = id from by funext x; simp]
            simp
          rw [this]
          rw [← join_flat]
      refine out_of_calls Tryz.func59 (by kernel_rfl) (by kernel_rfl) (hc.mono ?_)
      rintro e w' ⟨rfl, hb⟩
      exact ⟨_, rfl, E, some (.str false (flat l)), m, nx, fun _ _ => rfl, Nat.le_refl _, fun x hx => by injection hx with hx; subst hx; rfl, hs.still (Ext.of_below hb), hk⟩
    · exact hk.elim
  · exact hk.elim
end Go.Proofs.YtoalfimkkibpdaaGreatDoor
/-
  Rlp: the items of a text: what they are; the set-up.
-/
namespace Go.Proofs.YtoalfimkkibpdaaGreatDoor
open Go Sx
set_option maxRecDepth 20000
noncomputable def list6 : List (FuncId × PT) := (59, joinPT) :: list5
theorem list6_ok : SummOk Tryz.prog (fun f => lookPT f list6) := .cons join_ok joinPT_mono list5_ok
def restAt (s : List UInt8) : Nat → List UInt8
  | 0 => s
  | k + 1 => cutRest (restAt s k)
def itemOf (s : List UInt8) : List UInt8 := s.take (s.length - (cutRest s).length)
def itemAt (s : List UInt8) (k : Nat) : List UInt8 := itemOf (restAt s k)
def scan : Nat → List UInt8 → Nat × Bool
  | 0, s => (0, decide (s = []))
  | f + 1, s => if s = [] then (0, true) else if cutB s then ((scan f (cutRest s)).1 + 1, (scan f (cutRest s)).2) else (0, false)
def itemsN (s : List UInt8) : Nat := (scan s.length s).1
def itemsB (s : List UInt8) : Bool := (scan s.length s).2
def itemsA (s : List UInt8) : Ans := .fork (itemsB s) fun b => match b with
  | true => .all Nat fun c => .req (itemsN s ≤ c) (.new (fun k => .tup [.rslc k 1 true 0 (itemsN s) c, .int .i64 true 0]) (.rows true (itemsN s) [.str (itemAt s)] false c 9))
  | false => .ret (.tup [.nilslc, .int .i64 true 2])
structure ItemG where
  k : Nat
  c : Nat
structure ItemPre (s : List UInt8) (x : ItemG) : Prop where
  walk : ∀ j, j < x.k → restAt s j ≠ [] ∧ cutB (restAt s j) = true
  cap : x.k ≤ x.c
noncomputable def annItems (s : List UInt8) : LoopAnn :=
  { α := ItemG, pre := fun _ x => ItemPre s x, mea := fun _ x => (restAt s x.k).length, fresh := 1, slots := fun _ x => [(3, .str false (restAt s x.k))],
    mem := fun st x => [(2, .cells [.rslc st.nx 1 true 0 x.k x.c] 1 22), (st.nx, .rows true x.k [.str (itemAt s)] false x.c 9)] }
noncomputable def cfgI (s : List UInt8) : Cfg := { cfg0 with summ := fun f => lookPT f list6, anns := fun f => if f = 179 then [(1, always (annItems s))] else [] }
theorem goodI (s : List UInt8) : Sx.Good Tryz.prog (cfgI s) := ⟨mixes, list6_ok, fns_ok⟩
end Go.Proofs.YtoalfimkkibpdaaGreatDoor
/-
  Conditions that the executor computes, written out by a program (vcgen.py).
-/
namespace Go.Proofs.YtoalfimkkibpdaaGreatDoor
open Go Sx
set_option maxRecDepth 20000
theorem vcItems (s : List UInt8) : VC.holds (runA (cfgI s) 118 Tryz.f118 [.str false s] (itemsA s)) = ((∀ (u8 : Loop), (∃ (u7 : ItemG), ItemPre s u7 ∧ s = restAt s u7.k ∧ (1 : Nat) = (1 : Nat) ∧ u7.k = 0 ∧ (SB.rows true u7.k [Col.str (itemAt s)] false u7.c 9).no = true ∧ SBle (SB.loop LoopState.ready none u8) (SB.loop LoopState.ready none u8) ∧ SBle (SB.cells (SV.str false s).cells 1 9) (SB.cells (SV.str false s).cells 1 9) ∧ SBle (SB.cells (SV.int .i64 true 0).cells 1 27) (SB.cells (SV.int .i64 true 0).cells 1 27) ∧ SBle (SB.cells SV.nilslc.cells 1 22) (SB.cells SV.nilslc.cells 1 22) ∧ True) ∧ ∀ (u6 : ItemG), ItemPre s u6 → ((!decide (restAt s u6.k = [])) = true → (restAt s u6.k).length < 9223372036854775808 ∧ (cutB (restAt s u6.k) = true → ((-9223372036854775808 : Int) ≤ (↑(restAt s u6.k).length : Int) - (↑(cutRest (restAt s u6.k)).length : Int) ∧ (↑(restAt s u6.k).length : Int) - (↑(cutRest (restAt s u6.k)).length : Int) ≤ 9223372036854775807) ∧ ((0 : Int) ≤ (0 : Int) ∧ 0 ≤ (↑(restAt s u6.k).length : Int) - (↑(cutRest (restAt s u6.k)).length : Int) ∧ (↑(restAt s u6.k).length : Int) - (↑(cutRest (restAt s u6.k)).length : Int) ≤ (↑(restAt s u6.k).length : Int)) ∧ u8 = u8 ∧ (0 + u6.k ≤ u6.k ∧ True ∧ 2 * (u6.k + 1) * 16 ≤ (281474976710656 : Nat) ∧
 u6.k + 1 < (9223372036854775808 : Nat)) ∧ u6.c = u6.c * 1 ∧ ∀ (u5 : Nat), u6.k + 1 ≤ u5 → ∃ (u4 : ItemG), (ItemPre s u4 ∧ (restAt s u4.k).length < (restAt s u6.k).length) ∧ cutRest (restAt s u6.k) = restAt s u4.k ∧ (1 : Nat) = (1 : Nat) ∧ ((0 : Nat) = (0 : Nat) ∧ u6.k + 1 = u4.k ∧ u5 = u4.c) ∧ True ∧ SBle (SB.rows true (u6.k + 1) [Col.str fun (u3 : Nat) => if u3 < u6.k then itemAt s u3 else selS [subStr (restAt s u6.k) none (some (Operand.tmp 37)) 0 ((↑(restAt s u6.k).length : Int) - (↑(cutRest (restAt s u6.k)).length : Int))] (u3 - u6.k)] false (u5 * 1) 9) (SB.rows true u4.k [Col.str (itemAt s)] false u4.c 9) ∧ SBle (SB.loop LoopState.ready none u8) (SB.loop LoopState.ready none u8) ∧ SBle (SB.cells (SV.str false s).cells 1 9) (SB.cells (SV.str false s).cells 1 9) ∧ SBle (SB.cells (SV.int .i64 true 0).cells 1 27) (SB.cells (SV.int .i64 true 0).cells 1 27) ∧ SBle (SB.cells SV.nilslc.cells 1 22) (SB.cells SV.nilslc.cells 1 22) ∧ True) ∧ (cutB (restAt s u6.k) = false → ∀ (_u2 : Int), ((-9223372036854775808 : Int) ≤ (s.length : Int) - (↑(restAt s u6.k).length : Int) ∧ (s.length : Int) - (↑(restAt s u6.k).length : Int) ≤ 9223372036854775807) ∧ u8 = u8 ∧ (itemsB s = true →
 ∃ (u1 : Nat), itemsN s ≤ u1 ∧ False) ∧ (itemsB s = false → sameVal (SV.tup [SV.nilslc, SV.int .i64 true 2]) (SV.tup [SV.nilslc, SV.int .i64 true 2])))) ∧ ((!decide (restAt s u6.k = [])) = false → (itemsB s = true → ∃ (u0 : Nat), itemsN s ≤ u0 ∧ SBle (SB.rows true u6.k [Col.str (itemAt s)] false u6.c 9) (SB.rows true (itemsN s) [Col.str (itemAt s)] false u0 9) ∧ sameVal (SV.tup [SV.rslc ((0 : Nat) + (1 : Nat) + (1 : Nat) + (1 : Nat) + (1 : Nat) + (1 : Nat)) 1 true 0 u6.k u6.c, SV.int .i64 true 0]) (SV.tup [SV.rslc ((0 : Nat) + (1 : Nat) + (1 : Nat) + (1 : Nat) + (1 : Nat) + (1 : Nat)) 1 true 0 (itemsN s) u0, SV.int .i64 true 0])) ∧ (itemsB s = false → sameVal (SV.tup [SV.rslc ((0 : Nat) + (1 : Nat) + (1 : Nat) + (1 : Nat) + (1 : Nat) + (1 : Nat)) 1 true 0 u6.k u6.c, SV.int .i64 true 0]) (SV.tup [SV.nilslc, SV.int .i64 true 2]))))) := by kernel_rfl
end Go.Proofs.YtoalfimkkibpdaaGreatDoor
/-
  Rlp: the items of a text: plain laws.
-/
namespace Go.Proofs.YtoalfimkkibpdaaGreatDoor
open Go Sx
set_option maxRecDepth 20000
theorem lead_nn {s : List UInt8} (h : ¬ byteAt s 0 < 128) : 0 ≤ lead s := by
  unfold lead
  split <;> omega
theorem cut_lt {s : List UInt8} (h : cutB s = true) : (cutRest s).length < s.length := by
  obtain ⟨h0, h⟩ := cutB_iff.1 h
  have hl := List.length_pos_iff.2 h0
  by_cases hA : byteAt s 0 < 128
  · rw [(cut_short hA).2.2, List.length_drop]; omega
  · have g := lead_nn hA
    by_cases hL : 55 < lead s
    · have := part_nn s (lead s - 54)
      rw [(cut_long hA hL).2, List.length_drop]; omega
    · rw [(cut_mid hA hL).2, List.length_drop]; omega
theorem scan_fuel : ∀ (f f' : Nat) (s : List UInt8), s.length ≤ f → s.length ≤ f' → scan f s = scan f' s
  | 0, 0, _, _, _ => rfl
  | 0, f' + 1, s, h, _ => by
    have : s = [] := List.length_eq_zero_iff.1 (by omega)
    subst this; rfl
  | f + 1, 0, s, _, h => by
    have : s = [] := List.length_eq_zero_iff.1 (by omega)
    subst this; rfl
  | f + 1, f' + 1, s, h, h' => by
    simp only [scan]
    split
    · rfl
    · split
      · rename_i hc
        have := cut_lt hc
        rw [scan_fuel f f' (cutRest s) (by omega) (by omega)]
      · rfl
theorem items_nil : itemsB [] = true ∧ itemsN [] = 0 := ⟨rfl, rfl⟩
theorem items_cut {s : List UInt8} (h0 : s ≠ []) (h : cutB s = true) : itemsB s = itemsB (cutRest s) ∧ itemsN s = itemsN (cutRest s) + 1 := by
  have hl := cut_lt h
  unfold itemsB itemsN
  obtain ⟨n, hn⟩ : ∃ n, s.length = n + 1 := ⟨s.length - 1, by omega⟩
  rw [hn]
  simp only [scan, h0, h, if_true, if_false]
  rw [scan_fuel n (cutRest s).length (cutRest s) (by omega) (by omega)]
  exact ⟨rfl, rfl⟩
theorem items_bad {s : List UInt8} (h0 : s ≠ []) (h : cutB s = false) : itemsB s = false := by
  have hl := List.length_pos_iff.2 h0
  unfold itemsB
  obtain ⟨n, hn⟩ : ∃ n, s.length = n + 1 := ⟨s.length - 1, by omega⟩
  rw [hn]
  simp [scan, h0, h]
theorem restAt_succ (s : List UInt8) : ∀ k, restAt s (k + 1) = restAt (cutRest s) k
  | 0 => by simp only [restAt]
  | k + 1 => by rw [restAt, restAt_succ s k]; simp only [restAt]
def Walk (s : List UInt8) (k : Nat) : Prop := ∀ j, j < k → restAt s j ≠ [] ∧ cutB (restAt s j) = true
theorem Walk.len {s : List UInt8} : ∀ {k : Nat}, Walk s k → (restAt s k).length + k ≤ s.length
  | 0, _ => by simp [restAt]
  | k + 1, h => by
    have h1 := Walk.len (k := k) (fun j hj => h j (by omega))
    have h2 := cut_lt (h k (by omega)).2
    simp only [restAt]; omega
theorem Walk.tail {s : List UInt8} {k : Nat} (h : Walk s (k + 1)) : Walk (cutRest s) k := fun j hj => by
  rw [← restAt_succ]; exact h (j + 1) (by omega)
theorem Walk.items {s : List UInt8} : ∀ {k : Nat}, Walk s k → itemsB s = itemsB (restAt s k) ∧ itemsN s = itemsN (restAt s k) + k
  | 0, _ => ⟨rfl, rfl⟩
  | k + 1, h => by
    obtain ⟨h0, h1⟩ := h 0 (by omega)
    obtain ⟨g1, g2⟩ := items_cut (s := s) h0 h1
    obtain ⟨g3, g4⟩ := Walk.items h.tail
    rw [restAt_succ, g1, g2, g3, g4]
    exact ⟨rfl, by omega⟩
theorem Walk.snoc {s : List UInt8} {k : Nat} (h : Walk s k) (h0 : restAt s k ≠ []) (h1 : cutB (restAt s k) = true) : Walk s (k + 1) := fun j hj => by
  by_cases e : j = k
  · subst e; exact ⟨h0, h1⟩
  · exact h j (by omega)
theorem Sx.SBle.rowsCongr {z : Bool} {n n' : Nat} {cols cols' : List Col} {tot tot' : Nat} {ty : TypeId} (hn : n = n') (ht : tot = tot') (hl : cols.length = cols'.length)
    (h : ∀ (i k : Nat) (c' : Col), i < n → cols'[k]? = some c' → ∃ c, cols[k]? = some c ∧ c.at i = c'.at i) : SBle (.rows z n cols false tot ty) (.rows z n' cols' false tot' ty) := by
  subst hn; subst ht
  intro hno
  refine ⟨hno, fun E o ⟨c, fr, h1, h2, h3, h4, h5⟩ => ⟨c, fr, h1, h2, by rw [← hl]; exact h3, h4, fun i k col hi hk => ?_⟩, fun _ => rfl⟩
  obtain ⟨c0, hc0, he⟩ := h i k col hi hk
  rw [← he, ← hl]
  exact h5 i k c0 hi hc0
theorem Sx.SBle.strRows {z : Bool} {n n' : Nat} {f g : Nat → List UInt8} {tot tot' : Nat} {ty : TypeId} (hn : n = n') (ht : tot = tot') (h : ∀ i, i < n → f i = g i) : SBle (.rows z n [.str f] false tot ty) (.rows z n' [.str g] false tot' ty) := by
  refine Sx.SBle.rowsCongr hn ht rfl fun i k c' hi hk => ⟨.str f, ?_, ?_⟩
  · match k, hk with
    | 0, _ => rfl
  · match k, hk with
    | 0, hk =>
      simp only [List.getElem?_cons_zero, Option.some.injEq] at hk
      subst hk
      simp only [Col.at, h i hi]
theorem items_holds {s : List UInt8} (hs : s.length < 1099511627776) : Holds (runA (cfgI s) 118 Tryz.f118 [.str false s] (itemsA s)) := by
  refine Holds.of_eq (vcItems s) ?_
  intro R
  refine ⟨⟨⟨0, 0⟩, ⟨fun j hj => absurd hj (Nat.not_lt_zero _), Nat.le_refl _⟩, rfl, rfl, rfl, rfl, SBle.refl _, SBle.refl _, SBle.refl _, SBle.refl _, trivial⟩, fun x hx => ?_⟩
  have hw : Walk s x.k := hx.walk
  have hl := hw.len
  obtain ⟨i1, i2⟩ := hw.items
  refine ⟨fun a => ?_, fun a => ?_⟩
  · have a : restAt s x.k ≠ [] := by simpa using a
    refine ⟨by omega, fun b => ?_, fun b y => ?_⟩
    · have hlt := cut_lt b
      refine ⟨by omega, by omega, rfl, ⟨by omega, trivial, by omega, by omega⟩, by omega, fun c hc => ⟨⟨x.k + 1, c⟩, ⟨⟨hw.snoc a b, hc⟩, ?_⟩, ?_, rfl, ⟨rfl, rfl, rfl⟩, trivial, ?_, SBle.refl _, SBle.refl _, SBle.refl _, SBle.refl _, trivial⟩⟩
      · simp only [restAt]; exact hlt
      · simp only [restAt]
      · refine Sx.SBle.strRows rfl (Nat.mul_one c) fun i hi => ?_
        by_cases h : i < x.k
        · rw [if_pos h]
        · rw [if_neg h]
          have e : i = x.k := by omega
          subst e
          simp only [Nat.sub_self, selS, subStr, itemAt, itemOf]
          rw [show ((↑(restAt s x.k).length : Int) - (↑(cutRest (restAt s x.k)).length : Int)).toNat = (restAt s x.k).length - (cutRest (restAt s x.k)).length by omega]
          simp only [List.getD_cons_zero]
    · have hb := items_bad a b
      rw [← i1] at hb
      exact ⟨by omega, rfl, (fun h => by rw [hb] at h; cases h), fun _ _ => rfl⟩
  · have a : restAt s x.k = [] := by simpa using a
    rw [a] at i1 i2
    have n0 : itemsN s = x.k := by rw [i2, items_nil.2]; omega
    have b0 : itemsB s = true := by rw [i1, items_nil.1]
    refine ⟨fun _ => ⟨x.c, by rw [n0]; exact hx.cap, ?_, ?_⟩, fun h => by rw [b0] at h; cases h⟩
    · rw [n0]; exact SBle.refl _
    · rw [n0]; exact fun _ => rfl
def itemsSpec : List SV → Option (Prop × Ans)
  | [.str false s] => some (s.length < 1099511627776, itemsA s)
  | _ => none
noncomputable def itemsPT : PT := ansPT itemsSpec
theorem items_ok : CallOk Tryz.prog 118 itemsPT := by
  refine ans_ok (n := 20) (fn := Tryz.f118) Tryz.func118 (by kernel_rfl) (by kernel_rfl) ?_
  intro args p a h hp
  unfold itemsSpec at h
  split at h
  · rename_i s
    injection h with h; injection h with h1 h2; subst h1; subst h2
    refine ⟨_, goodI s, rfl, fun b => ?_, items_holds hp⟩
    cases b with
    | false => exact rfl
    | true =>
      intro c
      refine ⟨rfl, rfl, fun k => by simp [SV.wf, SV.wfs, Nat.blt_eq], fun E E' k k' h => ?_⟩
      cases hn : itemsN s with
      | zero => rfl
      | succ n =>
        rw [hn] at h
        have hk : E k = E' k' := h rfl
        simp [SV.val, SV.vals, hk]
  · cases h
end Go.Proofs.YtoalfimkkibpdaaGreatDoor
/-
  Rlp: plain laws: numbers and their bytes.
-/
namespace Go.Proofs.YtoalfimkkibpdaaGreatDoor
open Go Sx
set_option maxRecDepth 20000
theorem byteAt_left {x y : List UInt8} {i : Int} (h0 : 0 ≤ i) (h : i < x.length) : byteAt (x ++ y) i = byteAt x i := by
  unfold byteAt
  rw [List.getD_eq_getElem?_getD, List.getD_eq_getElem?_getD, List.getElem?_append_left (by omega)]
theorem byteAt_cons (b : UInt8) (l : List UInt8) : byteAt (b :: l) 0 = (b.toNat : Int) := rfl
theorem byteAt_cons1 (b c : UInt8) (l : List UInt8) : byteAt (b :: c :: l) 1 = (c.toNat : Int) := rfl
theorem ofNat_toNat {n : Int} (h0 : 0 ≤ n) (h : n < 256) : ((UInt8.ofNat n.toNat).toNat : Int) = n := by
  rw [UInt8.toNat_ofNat']; omega
theorem dig_zero {k : Nat} {n : Int} (h : n ≤ 0) : dig k n = [] := by
  cases k with
  | zero => rfl
  | succ k => unfold dig; rw [if_neg (by omega)]
theorem dig_pos {k : Nat} {n : Int} (h : 0 < n) : dig (k + 1) n = dig k (n / 256) ++ [UInt8.ofNat (n % 256).toNat] := by
  conv => lhs; unfold dig
  rw [if_pos h]
theorem dig_num : ∀ (k : Nat) (n : Int), 0 ≤ n → n < 256 ^ k → num (dig k n) = n
  | 0, n, h0, h => by
    have : n = 0 := by simp at h; omega
    subst this; rfl
  | k + 1, n, h0, h => by
    by_cases hp : 0 < n
    · rw [Int.pow_succ] at h
      rw [dig_pos hp, num_snoc, dig_num k (n / 256) (by omega) (by omega), ofNat_toNat (by omega) (by omega)]
      omega
    · have : n = 0 := by omega
      subst this; rw [dig_zero (Int.le_refl _)]; rfl
theorem byteAt_snoc {x : List UInt8} {b : UInt8} (h : x ≠ []) : byteAt (x ++ [b]) 0 = byteAt x 0 := by
  have := List.length_pos_iff.2 h
  exact byteAt_left (Int.le_refl _) (by omega)
theorem dig_head : ∀ (k : Nat) (n : Int), 0 < n → n < 256 ^ k → dig k n ≠ [] ∧ byteAt (dig k n) 0 ≠ 0
  | 0, n, h0, h => by simp at h; omega
  | k + 1, n, h0, h => by
    rw [Int.pow_succ] at h
    rw [dig_pos h0]
    refine ⟨by simp, ?_⟩
    by_cases hp : 0 < n / 256
    · obtain ⟨h1, h2⟩ := dig_head k (n / 256) hp (by omega)
      rw [byteAt_snoc h1]; exact h2
    · rw [dig_zero (by omega), List.nil_append, byteAt_cons, ofNat_toNat (by omega) (by omega)]
      omega
theorem num_pos' : ∀ (n : Nat) (l : List UInt8), l.length ≤ n → byteAt l 0 ≠ 0 → 0 < num l
  | 0, l, hn, h => by
    have : l = [] := List.length_eq_zero_iff.1 (by omega)
    subst this; exact absurd rfl h
  | n + 1, l, hn, h => by
    rcases List.eq_nil_or_concat l with rfl | ⟨r, b, rfl⟩
    · exact absurd rfl h
    · rw [List.concat_eq_append] at h hn ⊢
      rw [num_snoc]
      by_cases hr : r = []
      · subst hr
        rw [List.nil_append, byteAt_cons] at h
        have : num [] = 0 := rfl
        rw [this]
        omega
      · rw [byteAt_snoc hr] at h
        have h2 := num_pos' n r (by simp at hn; omega) h
        omega
theorem num_pos (l : List UInt8) (h : byteAt l 0 ≠ 0) : 0 < num l := num_pos' l.length l (Nat.le_refl _) h
theorem dig_of : ∀ (k : Nat) (l : List UInt8), l.length ≤ k → (l = [] ∨ byteAt l 0 ≠ 0) → dig k (num l) = l
  | 0, l, h, _ => by
    have : l = [] := List.length_eq_zero_iff.1 (by omega)
    subst this; rfl
  | k + 1, l, h, hl => by
    rcases List.eq_nil_or_concat l with rfl | ⟨r, b, rfl⟩
    · exact dig_zero (Int.le_refl _)
    · rw [List.concat_eq_append] at hl h ⊢
      have hne : byteAt (r ++ [b]) 0 ≠ 0 := by
        rcases hl with hl | hl
        · simp at hl
        · exact hl
      have hp := num_pos _ hne
      have hb := b.toNat_lt
      rw [dig_pos hp]
      rw [num_snoc] at hp ⊢
      have e1 : (num r * 256 + (b.toNat : Int)) / 256 = num r := by omega
      have e2 : ((num r * 256 + (b.toNat : Int)) % 256).toNat = b.toNat := by omega
      rw [e1, e2, UInt8.ofNat_toNat]
      congr 1
      refine dig_of k r (by simp at h; omega) ?_
      by_cases hr : r = []
      · exact .inl hr
      · rw [byteAt_snoc hr] at hne; exact .inr hne
theorem dig_short : ∀ (j k : Nat) (n : Int), n < 256 ^ j → (dig k n).length ≤ j
  | 0, k, n, h => by rw [dig_zero (by simp at h; omega)]; simp
  | j + 1, 0, n, h => by simp [dig]
  | j + 1, k + 1, n, h => by
    by_cases hp : 0 < n
    · rw [Int.pow_succ] at h
      rw [dig_pos hp]
      have := dig_short j k (n / 256) (by omega)
      simp only [List.length_append, List.length_cons, List.length_nil]; omega
    · rw [dig_zero (by omega)]; simp
theorem digits_num {n : Int} (h0 : 0 ≤ n) (h : n < 18446744073709551616) : num (digits n) = n := dig_num 8 n h0 h
theorem digits_head {n : Int} (h0 : 0 < n) (h : n < 18446744073709551616) : digits n ≠ [] ∧ byteAt (digits n) 0 ≠ 0 := dig_head 8 n h0 h
theorem digits_of {l : List UInt8} (h : l.length ≤ 8) (h2 : l = [] ∨ byteAt l 0 ≠ 0) : digits (num l) = l := dig_of 8 l h h2
theorem digits_zero : digits 0 = [] := dig_zero (Int.le_refl _)
theorem digits_short {n : Int} (h : n < 16777216) : (digits n).length ≤ 3 := dig_short 3 8 n h
end Go.Proofs.YtoalfimkkibpdaaGreatDoor
/-
  Rlp: plain laws: what is put is cut again; what ends too early is not.
-/
namespace Go.Proofs.YtoalfimkkibpdaaGreatDoor
open Go Sx
set_option maxRecDepth 20000
theorem head_short {base : Int} {n : Nat} (h : n ≤ 55) : headOf base n = [UInt8.ofNat (base + n).toNat] := if_pos h
theorem head_long {base : Int} {n : Nat} (h : ¬ n ≤ 55) : headOf base n = UInt8.ofNat (base + 55 + (digits n).length).toNat :: digits n := if_neg h
theorem lead_of {s : List UInt8} {base n : Int} (hb : base = 128 ∨ base = 192) (h0 : 0 ≤ n) (h : n < 64) (h1 : byteAt s 0 = base + n) : lead s = n ∧ ¬ byteAt s 0 < 128 ∧ (byteAt s 0 < 192 ↔ base = 128) := by
  unfold lead
  rcases hb with rfl | rfl
  · rw [if_pos (by omega)]; omega
  · rw [if_neg (by omega)]; omega
structure LongOf (base : Int) (n : Nat) (s d t : List UInt8) : Prop where
  eq : s = UInt8.ofNat (base + 55 + d.length).toNat :: (d ++ t)
  num : num d = n
  hd : byteAt d 0 ≠ 0
  len : 1 ≤ d.length ∧ d.length ≤ 3
theorem long_of {base : Int} {n : Nat} (h : ¬ n ≤ 55) (h2 : n ≤ 1048576) (t : List UInt8) : LongOf base n (headOf base n ++ t) (digits n) t := by
  have h1 := digits_head (n := n) (by omega) (by omega)
  have h3 := List.length_pos_iff.2 h1.1
  exact ⟨by rw [head_long h]; rfl, digits_num (by omega) (by omega), h1.2, by omega, digits_short (by omega)⟩
theorem LongOf.lead' {base : Int} {n : Nat} {s d t : List UInt8} (hb : base = 128 ∨ base = 192) (h : LongOf base n s d t) : byteAt s 0 = base + 55 + d.length ∧ lead s = 55 + d.length ∧ ¬ byteAt s 0 < 128 ∧ (byteAt s 0 < 192 ↔ base = 128) := by
  have hl := h.len
  have h0 : byteAt s 0 = base + 55 + d.length := by
    rw [h.eq, byteAt_cons, ofNat_toNat (by omega) (by omega)]
  obtain ⟨h1, h2, h3⟩ := lead_of (s := s) (base := base) (n := 55 + d.length) hb (by omega) (by omega) (by omega)
  exact ⟨h0, h1, h2, h3⟩
theorem LongOf.part' {base : Int} {n : Nat} {s d t : List UInt8} (h : LongOf base n s d t) : part s (d.length + 1) = n ∧ byteAt s 1 ≠ 0 := by
  have hl := h.len
  constructor
  · unfold part
    rw [h.eq]
    have e : ((d.length : Int) + 1 - 1).toNat = d.length := by omega
    rw [e, List.drop_one, List.tail_cons, List.take_left]
    exact h.num
  · rw [h.eq]
    have h2 := h.hd
    match d, hl with
    | c :: d, _ =>
      rw [byteAt_cons] at h2
      rw [List.cons_append, byteAt_cons1]
      exact h2
theorem LongOf.cut {base : Int} {n : Nat} {s d t : List UInt8} (hb : base = 128 ∨ base = 192) (hn : 55 < n) (hn2 : n ≤ 1048576) (h : LongOf base n s d t) : cutB s = decide (n ≤ t.length) ∧ cutL s = decide (base = 192) ∧ cutIn s = t.take n ∧ cutRest s = t.drop n := by
  obtain ⟨b0, l1, l2, l3⟩ := h.lead' hb
  obtain ⟨p1, p2⟩ := h.part'
  have hl := h.len
  have e1 : lead s - 54 = d.length + 1 := by omega
  have hs : s.length = 1 + d.length + t.length := by rw [h.eq]; simp; omega
  have hlen : lenB s (lead s - 54) = true := lenB_iff.2 (by rw [e1, p1]; exact ⟨by omega, p2, by omega, by omega⟩)
  rw [e1] at hlen
  obtain ⟨c1, c2⟩ := cut_long (s := s) l2 (by omega)
  refine ⟨?_, ?_, ?_, ?_⟩
  · rw [Bool.eq_iff_iff, cutB_iff]
    have hne : s ≠ [] := by rw [h.eq]; simp
    have hL : 55 < lead s := by omega
    simp only [hne, ne_eq, not_false_eq_true, l2, hL, hlen, e1, p1, true_and, false_or, not_true_eq_false, false_and, or_false, decide_eq_true_eq]
    omega
  · unfold cutL
    rcases hb with rfl | rfl
    · have := l3.2 rfl; simp; omega
    · simp; omega
  · rw [c1, e1, p1, h.eq]
    have e : ((d.length : Int) + 1).toNat = d.length + 1 := by omega
    rw [e, List.drop_succ_cons, List.drop_left, Int.toNat_natCast]
  · rw [c2, e1, p1, h.eq]
    have e : ((d.length : Int) + 1 + n).toNat = d.length + n + 1 := by omega
    rw [e, List.drop_succ_cons, ← List.drop_drop, List.drop_left]
theorem short_cut {base : Int} {n : Nat} {s t : List UInt8} (hb : base = 128 ∨ base = 192) (hn : n ≤ 55) (h : s = UInt8.ofNat (base + n).toNat :: t) :
    (cutB s = true ↔ n ≤ t.length ∧ ¬ (base = 128 ∧ n = 1 ∧ byteAt t 0 < 128)) ∧ cutL s = decide (base = 192) ∧ cutIn s = t.take n ∧ cutRest s = t.drop n := by
  have h0 : byteAt s 0 = base + n := by
    rw [h, byteAt_cons, ofNat_toNat (by omega) (by omega)]
  obtain ⟨l1, l2, l3⟩ := lead_of (s := s) (base := base) (n := n) hb (by omega) (by omega) h0
  have hs : s.length = 1 + t.length := by rw [h]; simp; omega
  obtain ⟨c1, c2⟩ := cut_mid (s := s) l2 (by omega)
  have hb1 : 0 < t.length → byteAt s 1 = byteAt t 0 := fun hp => by
    rw [h]
    match t, hp with
    | c :: t, _ => rw [byteAt_cons1, byteAt_cons]
  refine ⟨?_, ?_, ?_, ?_⟩
  · rw [cutB_iff]
    have hne : s ≠ [] := by rw [h]; simp
    have hL : ¬ (55 : Int) < n := by omega
    simp only [hne, ne_eq, not_false_eq_true, l2, hL, true_and, false_or, false_and, l1, l3]
    constructor
    · rintro ⟨a, b⟩
      refine ⟨by omega, fun ⟨x, y, z⟩ => b ⟨x, by omega, by rw [hb1 (by omega)]; exact z⟩⟩
    · rintro ⟨a, b⟩
      refine ⟨by omega, fun ⟨x, y, z⟩ => b ⟨x, by omega, by rw [hb1 (by omega)] at z; exact z⟩⟩
  · unfold cutL
    rcases hb with rfl | rfl
    · have := l3.2 rfl; simp; omega
    · simp; omega
  · rw [c1, l1, h, Int.toNat_natCast]; rfl
  · rw [c2, l1, h]
    have e : (1 + (n : Int)).toNat = n + 1 := by omega
    rw [e, List.drop_succ_cons]
theorem enc_cut {base : Int} {x : List UInt8} (hb : base = 128 ∨ base = 192) (hx : x.length ≤ 1048576) (h1 : ¬ (base = 128 ∧ x.length = 1 ∧ byteAt x 0 < 128)) (rest : List UInt8) :
    cutB (headOf base x.length ++ x ++ rest) = true ∧ cutL (headOf base x.length ++ x ++ rest) = decide (base = 192) ∧ cutIn (headOf base x.length ++ x ++ rest) = x ∧ cutRest (headOf base x.length ++ x ++ rest) = rest := by
  rw [List.append_assoc]
  by_cases hn : x.length ≤ 55
  · obtain ⟨g1, g2, g3, g4⟩ := short_cut (s := headOf base x.length ++ (x ++ rest)) (t := x ++ rest) hb hn (by rw [head_short hn]; rfl)
    refine ⟨g1.2 ⟨by simp, fun ⟨a, b, c⟩ => h1 ⟨a, b, ?_⟩⟩, g2, by rw [g3, List.take_left], by rw [g4, List.drop_left]⟩
    rwa [byteAt_left (Int.le_refl _) (by omega)] at c
  · obtain ⟨g1, g2, g3, g4⟩ := (long_of (base := base) hn hx (x ++ rest)).cut hb (by omega) hx
    exact ⟨by rw [g1]; simp, g2, by rw [g3, List.take_left], by rw [g4, List.drop_left]⟩
/-! ### Texts -/
theorem text_short {b : List UInt8} (h : b.length = 1 ∧ byteAt b 0 < 128) : textOf b = b := if_pos h
theorem text_cut {b : List UInt8} (hb : b.length ≤ 1048576) (rest : List UInt8) : cutB (textOf b ++ rest) = true ∧ cutL (textOf b ++ rest) = false ∧ cutIn (textOf b ++ rest) = b ∧ cutRest (textOf b ++ rest) = rest := by
  by_cases h : b.length = 1 ∧ byteAt b 0 < 128
  · rw [text_short h]
    match b, h with
    | [c], h =>
      have h0 : byteAt ([c] ++ rest) 0 < 128 := h.2
      obtain ⟨g1, g2, g3⟩ := cut_short h0
      exact ⟨cutB_iff.2 ⟨by simp, .inl h0⟩, g1, by rw [g2]; rfl, by rw [g3]; rfl⟩
  · rw [text_long h]
    exact enc_cut (base := 128) (.inl rfl) hb (fun x => h x.2) rest
theorem text_len (b : List UInt8) : (textOf b).length ≤ b.length + 9 := by
  by_cases h : b.length = 1 ∧ byteAt b 0 < 128
  · rw [text_short h]; omega
  · rw [text_long h]
    have := head_len 128 b.length
    simp only [List.length_append]; omega
end Go.Proofs.YtoalfimkkibpdaaGreatDoor
/-
  The framework's part 23: contracts at arguments that are written out.
-/
namespace Go.Proofs.YtoalfimkkibpdaaGreatDoor.Sx
open Go
def lit1 : SV → SV
  | .int k _ n => .int k true n
  | .bool _ b => .bool true b
  | .str _ s => .str true s
  | v => v
def lit2 : SV → SV
  | .agg cs => .agg (cs.map lit1)
  | v => lit1 v
def lit : SV → SV
  | .tup vs => .tup (vs.map lit2)
  | v => lit2 v
theorem vals_map {f : SV → SV} {E : Nat → Nat} (hf : ∀ v, (f v).val E = v.val E) : ∀ l : List SV, SV.vals E (l.map f) = SV.vals E l
  | [] => rfl
  | v :: r => by simp only [List.map_cons, SV.vals, hf, vals_map hf r]
theorem lit1_val (E : Nat → Nat) (v : SV) : (lit1 v).val E = v.val E := by cases v <;> rfl
theorem lit2_val (E : Nat → Nat) (v : SV) : (lit2 v).val E = v.val E := by
  cases v <;> first | rfl | simp only [lit2, SV.val, vals_map (lit1_val E)]
theorem lit_val (E : Nat → Nat) (v : SV) : (lit v).val E = v.val E := by
  cases v <;> first | rfl | simp only [lit, lit2, SV.val, vals_map (lit1_val E), vals_map (lit2_val E)]
def isLit1 : SV → Bool
  | .int _ l _ => l
  | .bool l _ => l
  | .str l _ => l
  | _ => false
def isLit : SV → Bool
  | .agg cs => cs.all isLit1
  | v => isLit1 v
def allLit : List SV → Bool
  | [] => true
  | v :: r => isLit v && allLit r
/-! ### A row whose number of elements is written out, as cells -/
def rowCells (cols : List Col) (i : Nat) : Nat → List SV
  | 0 => []
  | n + 1 => cols.map (fun c => lit (c.at i)) ++ rowCells cols (i + 1) n
theorem rowCells_get {cols : List Col} : ∀ {n i0 j : Nat} {v : SV}, (rowCells cols i0 n)[j]? = some v → ∃ i k col, j = i * cols.length + k ∧ i < n ∧ cols[k]? = some col ∧ v = lit (col.at (i0 + i))
  | 0, _, _, _, h => by simp [rowCells] at h
  | n + 1, i0, j, v, h => by
    simp only [rowCells] at h
    by_cases hj : j < cols.length
    · rw [List.getElem?_append_left (by simpa using hj), List.getElem?_map] at h
      cases hc : cols[j]? with
      | none => rw [hc] at h; cases h
      | some c => rw [hc] at h; injection h with h; exact ⟨0, j, c, by simp, by omega, hc, h.symm⟩
    · rw [List.getElem?_append_right (by simpa using hj)] at h
      obtain ⟨i, k, col, h1, h2, h3, h4⟩ := rowCells_get h
      simp only [List.length_map] at h1
      refine ⟨i + 1, k, col, by rw [Nat.add_mul]; omega, by omega, h3, ?_⟩
      rw [h4]; congr 2; omega
def fixB : SB → SB
  | .rows true 0 cols ro tot ty => .rows true 0 cols ro tot ty
  | .rows _z n cols false tot ty => .cells (rowCells cols 0 n) tot ty
  | B => B
def fixV1 : SV → SV
  | .rslc _ _ true _ 0 _ => .nilslc
  | .rslc k _ _ 0 n c => .slc k 0 n false c
  | v => v
def fixV2 : SV → SV
  | .agg cs => .agg (cs.map fixV1)
  | v => fixV1 v
def fixV : SV → SV
  | .tup vs => .tup (vs.map fixV2)
  | v => fixV2 v
theorem fixB_le (B : SB) : SBle B (fixB B) := by
  unfold fixB
  split
  · exact SBle.refl _
  · rename_i z n cols tot ty hne
    intro _
    have hno : (SB.rows z n cols false tot ty).no = false := by
      cases z with
      | false => rfl
      | true =>
        cases n with
        | zero => exact (hne rfl rfl).elim
        | succ n => rfl
    refine ⟨hno, fun E o ⟨c, fr, h1, h2, h3, h4, h5⟩ => ⟨c, fr, h1, h2 rfl, fun j v hv => ?_, h4⟩, fun _ => rfl⟩
    obtain ⟨i, k, col, g1, g2, g3, g4⟩ := rowCells_get hv
    rw [g4, lit_val, Nat.zero_add, g1]
    exact h5 i k col g2 g3
  · exact SBle.refl _
theorem fixV1_val (E : Nat → Nat) (v : SV) : (fixV1 v).val E = v.val E := by
  unfold fixV1
  split
  · rfl
  · rename_i k w z n c hne
    have hz : (z && Nat.beq n 0) = false := by
      cases z with
      | false => rfl
      | true =>
        cases n with
        | zero => exact (hne rfl rfl).elim
        | succ n => rfl
    simp [SV.val, hz]
  · rfl
theorem fixV2_val (E : Nat → Nat) (v : SV) : (fixV2 v).val E = v.val E := by
  unfold fixV2
  split
  · simp only [SV.val, vals_map (fixV1_val E)]
  · exact fixV1_val E _
theorem fixV_val (E : Nat → Nat) (v : SV) : (fixV v).val E = v.val E := by
  unfold fixV
  split
  · simp only [SV.val, vals_map (fixV2_val E)]
  · exact fixV2_val E _
theorem SatM.swapHead {Γ E k B B' m nx w} (h : SatM Γ E ((k, B) :: m) nx w) (hle : SBle B B') : SatM Γ E ((k, B') :: m) nx w := by
  have back : ∀ j X, Mem.get j ((k, B') :: m) = some X → X.no = false → ∃ Y, Mem.get j ((k, B) :: m) = some Y ∧ Y.no = false ∧ (∀ E o, BlkOk E Y o → BlkOk E X o) ∧ (X.ro = false → Y.ro = false) := by
    intro j X hj hn
    by_cases e : k = j
    · simp only [Mem.get, e, if_true, Option.some.injEq] at hj ⊢
      subst hj
      obtain ⟨a, b, c⟩ := hle hn
      exact ⟨B, rfl, a, b, c⟩
    · simp only [Mem.get, e, if_false] at hj ⊢
      exact ⟨X, hj, hn, fun _ _ h => h, id⟩
  refine ⟨fun j X hj hn => ?_, fun j j' X X' hj hn hj' hn' hr he => ?_, fun j X hj => ?_, fun j X hj hn hro => ?_, h.ext, h.cx, h.kp⟩
  · obtain ⟨Y, h1, h2, h3, _⟩ := back j X hj hn
    obtain ⟨o, ho, hb⟩ := h.blk j Y h1 h2
    exact ⟨o, ho, h3 _ _ hb⟩
  · obtain ⟨Y, h1, h2, _, h4⟩ := back j X hj hn
    obtain ⟨Y', h1', h2', _, h4'⟩ := back j' X' hj' hn'
    exact h.inj j j' Y Y' h1 h2 h1' h2' (hr.imp h4 h4') he
  · by_cases e : k = j
    · exact h.lt j B (by simp only [Mem.get, e, if_true])
    · exact h.lt j X (by simp only [Mem.get, e, if_false] at hj ⊢; exact hj)
  · obtain ⟨Y, h1, h2, _, h4⟩ := back j X hj hn
    exact h.own j Y h1 h2 (h4 hro)
def Ans.vcl (m : Mem) (nx : Nat) (K : SV → Mem → Nat → VC) : Ans → VC
  | .ret v => K (lit v) m nx
  | .new v B => K (lit (fixV (v nx))) ((nx, fixB B) :: m) (nx + 1)
  | .all α f => .all α fun x => (f x).vcl m nx K
  | .req p a => .imp p (a.vcl m nx K)
  | .fork b f => match b with
    | true => (f true).vcl m nx K
    | false => (f false).vcl m nx K
def semK (Γ : Base) (E : Nat → Nat) (nx : Nat) (K : SV → Mem → Nat → VC) : SV → Mem → Nat → VC := fun v m' nx' =>
  .atom (∀ (E' : Nat → Nat) (w' : World), (∀ k, k < nx → E' k = E k) → nx ≤ nx' → SatM Γ E' m' nx' w' → After (lift K) Γ E nx (v.val E') w')
theorem Ans.vcl_sem {Γ : Base} {E : Nat → Nat} {m : Mem} {nx : Nat} {K : SV → Mem → Nat → VC} : ∀ {a : Ans}, (a.vcl m nx K).holds → (a.vc m nx (semK Γ E nx K)).holds
  | .ret v, h => fun E' w' h1 h2 hs => ⟨E', some (lit v), m, nx, h1, h2, fun x hx => by injection hx with hx; subst hx; rw [lit_val], hs, h⟩
  | .new v B, h => fun E' w' h1 h2 hs => ⟨E', some (lit (fixV (v nx))), _, nx + 1, h1, h2, fun x hx => by injection hx with hx; subst hx; rw [lit_val, fixV_val], hs.swapHead (fixB_le B), h⟩
  | .all _ f, h => fun x => Ans.vcl_sem (a := f x) (h x)
  | .req _ a, h => fun x => Ans.vcl_sem (a := a) (h x)
  | .fork b f, h => fork_iff.2 (by
      cases b with
      | true => exact Ans.vcl_sem (a := f true) h
      | false => exact Ans.vcl_sem (a := f false) h)
theorem Ans.vcl_mono {m : Mem} {nx : Nat} {K K' : SV → Mem → Nat → VC} (hK : ∀ v m nx, (K v m nx).holds → (K' v m nx).holds) : ∀ {a : Ans}, (a.vcl m nx K).holds → (a.vcl m nx K').holds
  | .ret _, h => hK _ _ _ h
  | .new _ _, h => hK _ _ _ h
  | .all _ f, h => fun x => Ans.vcl_mono (a := f x) hK (h x)
  | .req _ a, h => fun x => Ans.vcl_mono (a := a) hK (h x)
  | .fork b f, h => by
    cases b with
    | true => exact Ans.vcl_mono (a := f true) hK h
    | false => exact Ans.vcl_mono (a := f false) hK h
noncomputable def ansLPT (spec : List SV → Option (Prop × Ans)) : PT := fun args m nx K => match allLit args with
  | true => (match spec (args.map unlit) with
    | some (p, a) => .and (.atom p) (a.vcl m nx K)
    | none => .fail "arguments that nothing is said of")
  | false => ansPT spec args m nx K
theorem ansLPT_mono (spec : List SV → Option (Prop × Ans)) : MonoPT (ansLPT spec) := by
  intro args m nx K K' hK h
  unfold ansLPT at h ⊢
  split at h
  · split at h
    · exact ⟨h.1, Ans.vcl_mono hK h.2⟩
    · exact h
  · exact ansPT_mono spec _ _ _ _ _ hK h
theorem After.relit {Γ : Base} {E : Nat → Nat} {nx : Nat} {r : Value} {w : World} {K : SV → Mem → Nat → VC} (h : After (lift (fun v m nx => K (lit v) m nx)) Γ E nx r w) : After (lift K) Γ E nx r w := by
  obtain ⟨E', sv, m', nx', h1, h2, h3, h4, h5⟩ := h
  cases sv with
  | none => exact h5.elim
  | some v => exact ⟨E', some (lit v), m', nx', h1, h2, fun x hx => by injection hx with hx; subst hx; rw [lit_val]; exact h3 v rfl, h4, h5⟩
theorem ansL_ok {P : Program} {f : FuncId} {spec : List SV → Option (Prop × Ans)} (h : CallOk P f (ansPT spec)) : CallOk P f (ansLPT spec) := by
  intro args m nx K hk hwf hargs Γ E w hs
  unfold ansLPT at hk
  split at hk
  · have : (ansPT spec args m nx (semK Γ E nx K)).holds := by
      unfold ansPT
      split at hk
      · rename_i p a hsp
        first
          | exact ⟨hk.1, Ans.vcl_sem hk.2⟩
          | (rw [hsp]; exact ⟨hk.1, Ans.vcl_sem hk.2⟩)
      · exact hk.elim
    refine (h args m nx _ this hwf hargs Γ E w hs).mono (fun e w' hh => ?_) (fun _ _ h => h)
    obtain ⟨E', sv, m', nx', h1, h2, h3, h4, h5⟩ := hh
    cases sv with
    | none => exact h5.elim
    | some v => rw [h3 v rfl]; exact h5 E' w' h1 h2 h4
  · exact h args m nx K hk hwf hargs Γ E w hs
noncomputable def pureLPT (spec : List SV → Option (Prop × SV)) : PT := fun args m nx K => match allLit args with
  | true => purePT spec args m nx (fun v m nx => K (lit v) m nx)
  | false => purePT spec args m nx K
theorem pureLPT_mono (spec : List SV → Option (Prop × SV)) : MonoPT (pureLPT spec) := by
  intro args m nx K K' hK h
  unfold pureLPT at h ⊢
  split at h
  · exact purePT_mono spec _ _ _ _ _ (fun v m nx => hK _ _ _) h
  · exact purePT_mono spec _ _ _ _ _ hK h
theorem pureL_ok {P : Program} {f : FuncId} {spec : List SV → Option (Prop × SV)} (h : CallOk P f (purePT spec)) : CallOk P f (pureLPT spec) := by
  intro args m nx K hk hwf hargs Γ E w hs
  unfold pureLPT at hk
  split at hk
  · exact (h args m nx _ hk hwf hargs Γ E w hs).mono (fun e w' hh => After.relit hh) (fun _ _ h => h)
  · exact h args m nx K hk hwf hargs Γ E w hs
def litIf (t : List SV → Mem → Bool) (pt : PT) : PT := fun args m nx K => match t args m with
  | true => pt args m nx (fun v m nx => K (lit v) m nx)
  | false => pt args m nx K
theorem litIf_mono {t : List SV → Mem → Bool} {pt : PT} (h : MonoPT pt) : MonoPT (litIf t pt) := by
  intro args m nx K K' hK hh
  unfold litIf at hh ⊢
  split at hh
  · exact h _ _ _ _ _ (fun v m nx => hK _ _ _) hh
  · exact h _ _ _ _ _ hK hh
theorem litIf_ok {P : Program} {f : FuncId} {t : List SV → Mem → Bool} {pt : PT} (h : CallOk P f pt) : CallOk P f (litIf t pt) := by
  intro args m nx K hk hwf hargs Γ E w hs
  unfold litIf at hk
  split at hk
  · exact (h args m nx _ hk hwf hargs Γ E w hs).mono (fun e w' hh => After.relit hh) (fun _ _ h => h)
  · exact h args m nx K hk hwf hargs Γ E w hs
def litCells (m : Mem) : SV → Bool
  | .nilslc => true
  | .slc key o n _ _ => (match m.get key with
    | some (.cells cs _ _) => allLit ((cs.drop o).take n)
    | _ => false)
  | _ => false
end Go.Proofs.YtoalfimkkibpdaaGreatDoor.Sx
/-
  Rlp: the set-up of the statements.
-/
namespace Go.Proofs.YtoalfimkkibpdaaGreatDoor
open Go Sx
set_option maxRecDepth 20000
noncomputable def list7 : List (FuncId × PT) :=
  (118, ansLPT itemsSpec) :: (59, litIf (fun args m => litCells m (args.headD .nilptr)) joinPT) :: (80, ansLPT getSpec) :: (31, pureLPT numSpec) ::
  (29, pureLPT textSpec) :: (119, ansLPT splitSpec) :: (158, ansLPT cutSpec) :: (58, pureLPT headSpec) :: reflList
theorem list7_ok : SummOk Tryz.prog (fun f => lookPT f list7) :=
  .cons (ansL_ok items_ok) (ansLPT_mono _) (.cons (litIf_ok join_ok) (litIf_mono joinPT_mono) (.cons (ansL_ok get_ok) (ansLPT_mono _) (.cons (pureL_ok num_ok) (pureLPT_mono _)
    (.cons (pureL_ok text_ok) (pureLPT_mono _) (.cons (ansL_ok split_ok) (ansLPT_mono _) (.cons (ansL_ok cut_ok) (ansLPT_mono _) (.cons (pureL_ok head_ok) (pureLPT_mono _) reflList_ok)))))))
noncomputable def cfg7 : Cfg := { cfg0 with summ := fun f => lookPT f list7, rounds := 4 }
theorem good7 : Sx.Good Tryz.prog cfg7 := ⟨mixes, list7_ok, fns_ok⟩
end Go.Proofs.YtoalfimkkibpdaaGreatDoor
