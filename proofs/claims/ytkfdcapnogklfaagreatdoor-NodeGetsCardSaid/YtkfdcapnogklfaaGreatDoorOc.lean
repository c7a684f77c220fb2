/-
  strings.Join: the kit's shelf, laid at this program.
-/
import Derived.Test.YtkfdcapnogklfaaGreatDoorProg
import Derived.Shelf.Strings.OnBuilder
import Derived.Test.YtkfdcapnogklfaaGreatDoorOb
import Derived.Test.YtkfdcapnogklfaaGreatDoorMg
namespace Go.Proofs
open Go.Shelf
def Tryz.laysJoin_ren : Go.Shelf.Ren := ⟨fun | 156 => 87 | 165 => 98 | 166 => 99 | 169 => 100 | 240 => 105 | 241 => 106 | 276 => 109 | 277 => 110 | n => n, fun | 31 => 32 | 9 => 9 | 3 => 3 | 4 => 4 | 0 => 0 | 20 => 20 | 72 => 122 | 76 => 105 | 70 => 120 | 37 => 42 | 75 => 85 | 127 => 146 | 164 => 136 | 5 => 5 | 80 => 45 | n => n, fun | n => n⟩
theorem Tryz.laysJoin : Go.Proofs.Lays.n156 Tryz.prog Tryz.laysJoin_ren := {
  mixed := by kernel_rfl,
  f156 := Tryz.func87.trans (congrArg some (by kernel_rfl)),
  f165 := Tryz.func98.trans (congrArg some (by kernel_rfl)),
  f166 := Tryz.func99.trans (congrArg some (by kernel_rfl)),
  f169 := Tryz.func100.trans (congrArg some (by kernel_rfl)),
  f240 := Tryz.func105.trans (congrArg some (by kernel_rfl)),
  f241 := Tryz.func106.trans (congrArg some (by kernel_rfl)),
  f276 := Tryz.func109.trans (congrArg some (by kernel_rfl)),
  f277 := Tryz.func110.trans (congrArg some (by kernel_rfl)),
  t0 := Tryz.underlying0,
  a0 := Tryz.isAgg0,
  z0 := Tryz.sizeOf0,
  v0 := Tryz.zeroValue0,
  t3 := Tryz.underlying3,
  a3 := Tryz.isAgg3,
  z3 := Tryz.sizeOf3,
  v3 := Tryz.zeroValue3,
  t4 := Tryz.underlying4,
  a4 := Tryz.isAgg4,
  z4 := Tryz.sizeOf4,
  v4 := Tryz.zeroValue4,
  t9 := Tryz.underlying9,
  a9 := Tryz.isAgg9,
  z9 := Tryz.sizeOf9,
  v9 := Tryz.zeroValue9,
  t20 := Tryz.underlying20,
  a20 := Tryz.isAgg20,
  z20 := Tryz.sizeOf20,
  v20 := Tryz.zeroValue20,
  t31 := Tryz.underlying32,
  a31 := Tryz.isAgg32,
  z31 := Tryz.sizeOf32,
  v31 := Tryz.zeroValue32,
  t37 := Tryz.underlying42,
  a37 := Tryz.isAgg42,
  z37 := Tryz.sizeOf42,
  v37 := Tryz.zeroValue42,
  t70 := Tryz.underlying120,
  a70 := Tryz.isAgg120,
  z70 := Tryz.sizeOf120,
  v70 := Tryz.zeroValue120,
  t72 := Tryz.underlying122,
  a72 := Tryz.isAgg122,
  z72 := Tryz.sizeOf122,
  v72 := Tryz.zeroValue122,
  t75 := Tryz.underlying85,
  a75 := Tryz.isAgg85,
  z75 := Tryz.sizeOf85,
  v75 := Tryz.zeroValue85,
  t76 := Tryz.underlying105,
  a76 := Tryz.isAgg105,
  z76 := Tryz.sizeOf105,
  v76 := Tryz.zeroValue105,
  t127 := Tryz.underlying146,
  a127 := Tryz.isAgg146,
  z127 := Tryz.sizeOf146,
  v127 := Tryz.zeroValue146,
  t164 := Tryz.underlying136,
  a164 := Tryz.isAgg136,
  z164 := Tryz.sizeOf136,
  v164 := Tryz.zeroValue136 }
end Go.Proofs
/-
  Rlp: strings.Join without a separator, by the kit's shelf: the contract.
-/
namespace Go.Proofs
open Go.Shelf Go.RowKit
theorem Tryz.extra : Builder.Extra Tryz.prog Tryz.laysJoin_ren := {
  sizeBuilder := by kernel_rfl,
  liesBuilder := by kernel_rfl,
  t5 := by kernel_rfl,
  a5 := by intro w; kernel_rfl,
  z5 := by intro w; kernel_rfl,
  v5 := by intro w; kernel_rfl,
  infoByte := by kernel_rfl,
  cellsByte := by kernel_rfl,
  sizeByte := by kernel_rfl,
  neB5 := by decide }
end Go.Proofs
namespace Go.Proofs.YtkfdcapnogklfaaGreatDoor
open Go Sx
set_option maxRecDepth 20000
theorem joinNum : Tryz.laysJoin_ren.f 156 = 87 := by kernel_rfl
def flat (l : List (List UInt8)) : List UInt8 := l.flatten
def rowL (f : Nat → List UInt8) (i n : Nat) : List (List UInt8) := (List.range n).map fun j => f (i + j)
theorem rowL_get {f : Nat → List UInt8} {i n j : Nat} {x : List UInt8} (h : (rowL f i n)[j]? = some x) : j < n ∧ f (i + j) = x := by
  unfold rowL at h
  rw [List.getElem?_map] at h
  by_cases hj : j < n
  · rw [List.getElem?_range hj] at h
    injection h with h
    exact ⟨hj, h⟩
  · rw [List.getElem?_eq_none (by simpa using hj)] at h; cases h
theorem rowL_len (f : Nat → List UInt8) (i n : Nat) : (rowL f i n).length = n := by simp [rowL]
def strCells : List SV → Option (List (List UInt8))
  | [] => some []
  | .str _ s :: r => (match strCells r with
    | some l => some (s :: l)
    | none => none)
  | _ => none
theorem strCells_get {cs : List SV} {l : List (List UInt8)} (h : strCells cs = some l) : l.length = cs.length ∧ ∀ (j : Nat) (x : List UInt8), l[j]? = some x → ∃ b, cs[j]? = some (.str b x) := by
  induction cs generalizing l with
  | nil => injection h with h; subst h; exact ⟨rfl, fun j x hx => by simp at hx⟩
  | cons v r ih =>
    unfold strCells at h
    split at h
    · cases ‹_ :: _ = []›
    · rename_i b s r' e
      injection e with e1 e2; subst e1; subst e2
      split at h
      · rename_i l' hl
        injection h with h; subst h
        obtain ⟨g1, g2⟩ := ih hl
        refine ⟨by simp [g1], fun j x hx => ?_⟩
        cases j with
        | zero => injection hx with hx; subst hx; exact ⟨b, rfl⟩
        | succ j => exact g2 j x (by simpa using hx)
      · cases h
    · cases h
def strsOf (m : Mem) : SV → Option (Prop × List (List UInt8))
  | .nilslc => some (True, [])
  | .slc key o n _ c => (match m.get key with
    | some (.cells cs _ _) => (match strCells ((cs.drop o).take n) with
      | some l => some (l.length = n ∧ n ≤ c, l)
      | none => none)
    | _ => none)
  | .rslc key 1 _ i n c => (match m.get key with
    | some (.rows _ n' [.str f] _ _ _) => some (i + n ≤ n' ∧ n ≤ c, rowL f i n)
    | _ => none)
  | .vslc key 1 _ o i n c => (match m.get key with
    | some (.view _ o' n' [.str f]) => some (o' = o ∧ i + n ≤ n' ∧ n ≤ c, rowL f i n)
    | _ => none)
  | _ => none
theorem strsOf_ok {Γ E m nx w} (h : SatM Γ E m nx w) {v : SV} {p : Prop} {l : List (List UInt8)} (hv : strsOf m v = some (p, l)) (hp : p) :
    (∃ a c, l = [] ∧ v.val E = .slice a 0 c) ∨ (∃ k o c, v.val E = .slice (some ⟨k, o, none⟩) l.length c ∧ l.length ≤ c ∧ k < w.heap.size ∧ ∀ (j : Nat) x, l[j]? = some x → w.cell? ⟨k, o + j, none⟩ = some (.string ⟨x.toArray⟩)) := by
  unfold strsOf at hv
  split at hv
  · injection hv with hv; injection hv with h1 h2; subst h2; exact .inl ⟨_, _, rfl, rfl⟩
  · rename_i key o n cl c
    split at hv
    · rename_i cs tot ty hk
      split at hv
      · rename_i l' hl
        injection hv with hv; injection hv with h1 h2; subst h1; subst h2
        obtain ⟨g1, g2⟩ := strCells_get hl
        obtain ⟨ob, ho, ce, fr, rfl, _, h4, _⟩ := h.blk key _ hk rfl
        refine .inr ⟨E key, o, c, by rw [hp.1]; rfl, by omega, (Array.getElem?_eq_some_iff.1 ho).1, fun j x hx => ?_⟩
        obtain ⟨b, hb⟩ := g2 j x hx
        rw [cell_of ho]
        have hj : j < n := by
          have := (List.getElem?_eq_some_iff.1 hx).1
          omega
        rw [List.getElem?_take_of_lt hj, List.getElem?_drop] at hb
        exact h4 _ _ hb
      · cases hv
    · cases hv
  · rename_i key z i n c
    split at hv
    · rename_i z' n' f ro tot ty hk
      injection hv with hv; injection hv with h1 h2; subst h1; subst h2
      cases n with
      | zero => exact .inl ⟨_, _, rfl, rfl⟩
      | succ n =>
        obtain ⟨ob, ho, ce, fr, rfl, _, _, _, h4⟩ := h.blk key _ hk (SB.no_rows (i := 0) (by omega))
        refine .inr ⟨E key, i, c, ?_, by rw [rowL_len]; exact hp.2, (Array.getElem?_eq_some_iff.1 ho).1, fun j x hx => ?_⟩
        · rw [rowL_len]; cases z <;> simp [SV.val, show Nat.beq (n + 1) 0 = false from rfl]
        · obtain ⟨hj, hx⟩ := rowL_get hx
          rw [cell_of ho]
          have := h4 (i + j) 0 (.str f) (by omega) rfl
          simpa [Col.at, SV.val, hx] using this
    · cases hv
  · rename_i key z o i n c
    split at hv
    · rename_i z' o' n' f hk
      injection hv with hv; injection hv with h1 h2; subst h1; subst h2
      cases n with
      | zero => exact .inl ⟨_, _, rfl, rfl⟩
      | succ n =>
        obtain ⟨ob, ho, ce, ty, fr, rfl, h4⟩ := h.blk key _ hk (SB.no_view (i := 0) (by omega))
        refine .inr ⟨E key, o + i, c, ?_, by rw [rowL_len]; exact hp.2.2, (Array.getElem?_eq_some_iff.1 ho).1, fun j x hx => ?_⟩
        · rw [rowL_len]; cases z <;> simp [SV.val, show Nat.beq (n + 1) 0 = false from rfl]
        · obtain ⟨hj, hx⟩ := rowL_get hx
          rw [cell_of ho]
          have := h4 (i + j) 0 (.str f) (by omega) rfl
          obtain ⟨rfl, _⟩ := hp
          simpa [Col.at, SV.val, hx, Nat.add_assoc] using this
    · cases hv
  · cases hv
noncomputable def joinPT : PT := fun args m nx K => match args with
  | [v, .str _ []] => (match strsOf m v with
    | some (p, l) => .and (.atom (p ∧ l.length ≤ 140737488355328 ∧ (flat l).length ≤ 140737488355328)) (K (.str false (flat l)) m nx)
    | none => .fail "texts that are not known")
  | _ => .fail "a separator"
theorem joinPT_mono : MonoPT joinPT := by
  intro args m nx K K' hK h
  unfold joinPT at h ⊢
  split at h
  · split at h
    · rename_i p l hl
      exact ⟨h.1, hK _ _ _ h.2⟩
    · exact h.elim
  · exact h.elim
theorem join_flat : ∀ l : List (List UInt8), Lib.join l [] = flat l
  | [] => rfl
  | [x] => by simp [Lib.join, flat, List.intercalate]
  | x :: y :: r => by
    have := join_flat (y :: r)
    simp [Lib.join, flat, List.intercalate] at this ⊢; rw [this]
theorem join_ok : CallOk Tryz.prog 87 joinPT := by
  intro args m nx K hk hwf hargs Γ E w hs
  unfold joinPT at hk
  split at hk
  · rename_i v b
    split at hk
    · rename_i p l hl
      obtain ⟨⟨hp, h1, h2⟩, hk⟩ := hk
      have hc : Calls Tryz.prog 87 (SV.vals E [v, .str b []]).toArray w fun e w' => e = .returned (.string ⟨(flat l).toArray⟩) ∧ RowKit.Below w.heap.size w w' := by
        rw [← joinNum]
        rcases strsOf_ok hs hl hp with ⟨a, c, rfl, hv⟩ | ⟨k, o, c, hv, g1, g2, g3⟩
        · simp only [SV.vals, hv, SV.val]
          exact (Any.strings_Join_none Tryz.laysJoin Tryz.extra a c _ w).mono fun e w' ⟨he, hw⟩ => ⟨he, hw ▸ RowKit.Below.refl _ _⟩
        · simp only [SV.vals, hv, SV.val]
          have := Any.strings_Join Tryz.laysJoin Tryz.extra k o c (l.map fun x => ⟨x.toArray⟩) ⟨#[]⟩ w (fun j x hx => by
            rw [List.getElem?_map] at hx
            cases hj : l[j]? with
            | none => rw [hj] at hx; cases hx
            | some y => rw [hj] at hx; injection hx with hx; subst hx; exact g3 j y hj) g2 (by simpa using h1) (by simpa using g1) (by
            simp only [List.map_map]
            have : (l.map ((fun x : ByteArray => x.data.toList) ∘ fun x => (⟨x.toArray⟩ : ByteArray))) = l := by
              rw [show ((fun x : ByteArray => x.data.toList) ∘ fun x : List UInt8 => (⟨x.toArray⟩ : ByteArray)) = id from by funext x; simp]
              simp
            rw [this]
            show (Lib.join l []).length ≤ _
            rw [join_flat]; exact h2)
          rw [List.length_map] at this
          refine this.mono fun e w' ⟨he, hw⟩ => ⟨?_, hw⟩
          rw [he, List.map_map]
          have : (l.map ((fun x : ByteArray => x.data.toList) ∘ fun x => (⟨x.toArray⟩ : ByteArray))) = l := by
            rw [show ((fun x : ByteArray => x.data.toList) ∘ fun x : List UInt8 => (⟨x.toArray⟩ : ByteArray)) = id from by funext x; simp]
            simp
          rw [this]
          rw [← join_flat]
      refine out_of_calls Tryz.func87 (by kernel_rfl) (by kernel_rfl) (hc.mono ?_)
      rintro e w' ⟨rfl, hb⟩
      exact ⟨_, rfl, E, some (.str false (flat l)), m, nx, fun _ _ => rfl, Nat.le_refl _, fun x hx => by injection hx with hx; subst hx; rfl, hs.still (Ext.of_below hb), hk⟩
    · exact hk.elim
  · exact hk.elim
end Go.Proofs.YtkfdcapnogklfaaGreatDoor
/-
  Rlp: the items of a text: what they are; the set-up.
-/
namespace Go.Proofs.YtkfdcapnogklfaaGreatDoor
open Go Sx
set_option maxRecDepth 20000
noncomputable def list6 : List (FuncId × PT) := (87, joinPT) :: list5
theorem list6_ok : SummOk Tryz.prog (fun f => lookPT f list6) := .cons join_ok joinPT_mono list5_ok
def restAt (s : List UInt8) : Nat → List UInt8
  | 0 => s
  | k + 1 => cutRest (restAt s k)
def itemOf (s : List UInt8) : List UInt8 := s.take (s.length - (cutRest s).length)
def itemAt (s : List UInt8) (k : Nat) : List UInt8 := itemOf (restAt s k)
def scan : Nat → List UInt8 → Nat × Bool
  | 0, s => (0, decide (s = []))
  | f + 1, s => if s = [] then (0, true) else if cutB s then ((scan f (cutRest s)).1 + 1, (scan f (cutRest s)).2) else (0, false)
def itemsN (s : List UInt8) : Nat := (scan s.length s).1
def itemsB (s : List UInt8) : Bool := (scan s.length s).2
def itemsA (s : List UInt8) : Ans := .fork (itemsB s) fun b => match b with
  | true => .all Nat fun c => .req (itemsN s ≤ c) (.new (fun k => .tup [.rslc k 1 true 0 (itemsN s) c, .int .i64 true 0]) (.rows true (itemsN s) [.str (itemAt s)] false c 9))
  | false => .ret (.tup [.nilslc, .int .i64 true 2])
structure ItemG where
  k : Nat
  c : Nat
structure ItemPre (s : List UInt8) (x : ItemG) : Prop where
  walk : ∀ j, j < x.k → restAt s j ≠ [] ∧ cutB (restAt s j) = true
  cap : x.k ≤ x.c
noncomputable def annItems (s : List UInt8) : LoopAnn :=
  { α := ItemG, pre := fun _ x => ItemPre s x, mea := fun _ x => (restAt s x.k).length, fresh := 1, slots := fun _ x => [(3, .str false (restAt s x.k))],
    mem := fun st x => [(2, .cells [.rslc st.nx 1 true 0 x.k x.c] 1 32), (st.nx, .rows true x.k [.str (itemAt s)] false x.c 9)] }
noncomputable def cfgI (s : List UInt8) : Cfg := { cfg0 with summ := fun f => lookPT f list6, anns := fun f => if f = 92 then [(1, always (annItems s))] else [] }
theorem goodI (s : List UInt8) : Sx.Good Tryz.prog (cfgI s) := ⟨mixes, list6_ok, fns_ok⟩
end Go.Proofs.YtkfdcapnogklfaaGreatDoor
/-
  Conditions that the executor computes, written out by a program (vcgen.py).
-/
namespace Go.Proofs.YtkfdcapnogklfaaGreatDoor
open Go Sx
set_option maxRecDepth 20000
theorem vcItems (s : List UInt8) : VC.holds (runA (cfgI s) 53 Tryz.f53 [.str false s] (itemsA s)) = (∀ (R : Loop), (∃ (y : ItemG), ItemPre s y ∧
 s = restAt s y.k ∧
 (1 : Nat) = (1 : Nat) ∧
 y.k = (0 : Nat) ∧
 (SB.rows true y.k [Col.str (itemAt s)] false y.c (9 : TypeId)).no = true ∧
 SBle (SB.loop LoopState.ready none R) (SB.loop LoopState.ready none R) ∧
 SBle (SB.cells (SV.str false s).cells (1 : Nat) (9 : Nat)) (SB.cells (SV.str false s).cells (1 : Nat) (9 : Nat)) ∧
 SBle (SB.cells (SV.int IntKind.i64 true (0 : Int)).cells (1 : Nat) (28 : Nat)) (SB.cells (SV.int IntKind.i64 true (0 : Int)).cells (1 : Nat) (28 : Nat)) ∧
 SBle (SB.cells SV.nilslc.cells (1 : Nat) (32 : Nat)) (SB.cells SV.nilslc.cells (1 : Nat) (32 : Nat)) ∧
 True) ∧
 ∀ (x : ItemG), ItemPre s x →
 ((!decide (restAt s x.k = [])) = true →
 (restAt s x.k).length < (9223372036854775808 : Nat) ∧
 (cutB (restAt s x.k) = true →
 ((-9223372036854775808 : Int) ≤ (↑(restAt s x.k).length : Int) - (↑(cutRest (restAt s x.k)).length : Int) ∧
 (↑(restAt s x.k).length : Int) - (↑(cutRest (restAt s x.k)).length : Int) ≤ (9223372036854775807 : Int)) ∧
 ((0 : Int) ≤ (0 : Int) ∧
 (0 : Int) ≤ (↑(restAt s x.k).length : Int) - (↑(cutRest (restAt s x.k)).length : Int) ∧
 (↑(restAt s x.k).length : Int) - (↑(cutRest (restAt s x.k)).length : Int) ≤ (↑(restAt s x.k).length : Int)) ∧
 R = R ∧
 ((0 : Nat) + x.k ≤ x.k ∧
 True ∧
 (2 : Nat) * (x.k + (1 : Nat)) * (16 : Nat) ≤ (281474976710656 : Nat) ∧
 x.k + (1 : Nat) < (9223372036854775808 : Nat)) ∧
 x.c = x.c * (1 : Nat) ∧
 ∀ (c : Nat), x.k + (1 : Nat) ≤ c →
 ∃ (y : ItemG), (ItemPre s y ∧
 (restAt s y.k).length < (restAt s x.k).length) ∧
 cutRest (restAt s x.k) = restAt s y.k ∧
 (1 : Nat) = (1 : Nat) ∧
 ((0 : Nat) = (0 : Nat) ∧
 x.k + (1 : Nat) = y.k ∧
 c = y.c) ∧
 True ∧
 SBle (SB.rows true (x.k + (1 : Nat)) [Col.str fun (j : Nat) => if j < x.k then itemAt s j else selS [subStr (restAt s x.k) none (some (Operand.tmp (37 : Nat))) (0 : Int) ((↑(restAt s x.k).length : Int) - (↑(cutRest (restAt s x.k)).length : Int))] (j - x.k)] false (c * (1 : Nat)) (9 : Nat)) (SB.rows true y.k [Col.str (itemAt s)] false y.c (9 : TypeId)) ∧
 SBle (SB.loop LoopState.ready none R) (SB.loop LoopState.ready none R) ∧
 SBle (SB.cells (SV.str false s).cells (1 : Nat) (9 : Nat)) (SB.cells (SV.str false s).cells (1 : Nat) (9 : Nat)) ∧
 SBle (SB.cells (SV.int IntKind.i64 true (0 : Int)).cells (1 : Nat) (28 : Nat)) (SB.cells (SV.int IntKind.i64 true (0 : Int)).cells (1 : Nat) (28 : Nat)) ∧
 SBle (SB.cells SV.nilslc.cells (1 : Nat) (32 : Nat)) (SB.cells SV.nilslc.cells (1 : Nat) (32 : Nat)) ∧
 True) ∧
 (cutB (restAt s x.k) = false →
 ∀ (_x_4 : Int), ((-9223372036854775808 : Int) ≤ (↑s.length : Int) - (↑(restAt s x.k).length : Int) ∧
 (↑s.length : Int) - (↑(restAt s x.k).length : Int) ≤ (9223372036854775807 : Int)) ∧
 R = R ∧
 (itemsB s = true →
 ∃ (x : Nat), itemsN s ≤ x ∧
 False) ∧
 (itemsB s = false →
 sameVal (SV.tup [SV.nilslc, SV.int IntKind.i64 true (2 : Int)]) (SV.tup [SV.nilslc, SV.int IntKind.i64 true (2 : Int)])))) ∧
 ((!decide (restAt s x.k = [])) = false →
 (itemsB s = true →
 ∃ (x_4 : Nat), itemsN s ≤ x_4 ∧
 SBle (SB.rows true x.k [Col.str (itemAt s)] false x.c (9 : TypeId)) (SB.rows true (itemsN s) [Col.str (itemAt s)] false x_4 (9 : TypeId)) ∧
 sameVal (SV.tup [SV.rslc ((0 : Nat) + (1 : Nat) + (1 : Nat) + (1 : Nat) + (1 : Nat) + (1 : Nat)) (1 : Nat) true (0 : Nat) x.k x.c, SV.int IntKind.i64 true (0 : Int)]) (SV.tup [SV.rslc ((0 : Nat) + (1 : Nat) + (1 : Nat) + (1 : Nat) + (1 : Nat) + (1 : Nat)) (1 : Nat) true (0 : Nat) (itemsN s) x_4, SV.int IntKind.i64 true (0 : Int)])) ∧
 (itemsB s = false →
 sameVal (SV.tup [SV.rslc ((0 : Nat) + (1 : Nat) + (1 : Nat) + (1 : Nat) + (1 : Nat) + (1 : Nat)) (1 : Nat) true (0 : Nat) x.k x.c, SV.int IntKind.i64 true (0 : Int)]) (SV.tup [SV.nilslc, SV.int IntKind.i64 true (2 : Int)])))) := by kernel_rfl
end Go.Proofs.YtkfdcapnogklfaaGreatDoor
/-
  Rlp: the items of a text: plain laws.
-/
namespace Go.Proofs.YtkfdcapnogklfaaGreatDoor
open Go Sx
set_option maxRecDepth 20000
theorem lead_nn {s : List UInt8} (h : ¬ byteAt s 0 < 128) : 0 ≤ lead s := by
  unfold lead
  split <;> omega
theorem cut_lt {s : List UInt8} (h : cutB s = true) : (cutRest s).length < s.length := by
  obtain ⟨h0, h⟩ := cutB_iff.1 h
  have hl := List.length_pos_iff.2 h0
  by_cases hA : byteAt s 0 < 128
  · rw [(cut_short hA).2.2, List.length_drop]; omega
  · have g := lead_nn hA
    by_cases hL : 55 < lead s
    · have := part_nn s (lead s - 54)
      rw [(cut_long hA hL).2, List.length_drop]; omega
    · rw [(cut_mid hA hL).2, List.length_drop]; omega
theorem scan_fuel : ∀ (f f' : Nat) (s : List UInt8), s.length ≤ f → s.length ≤ f' → scan f s = scan f' s
  | 0, 0, _, _, _ => rfl
  | 0, f' + 1, s, h, _ => by
    have : s = [] := List.length_eq_zero_iff.1 (by omega)
    subst this; rfl
  | f + 1, 0, s, _, h => by
    have : s = [] := List.length_eq_zero_iff.1 (by omega)
    subst this; rfl
  | f + 1, f' + 1, s, h, h' => by
    simp only [scan]
    split
    · rfl
    · split
      · rename_i hc
        have := cut_lt hc
        rw [scan_fuel f f' (cutRest s) (by omega) (by omega)]
      · rfl
theorem items_nil : itemsB [] = true ∧ itemsN [] = 0 := ⟨rfl, rfl⟩
theorem items_cut {s : List UInt8} (h0 : s ≠ []) (h : cutB s = true) : itemsB s = itemsB (cutRest s) ∧ itemsN s = itemsN (cutRest s) + 1 := by
  have hl := cut_lt h
  unfold itemsB itemsN
  obtain ⟨n, hn⟩ : ∃ n, s.length = n + 1 := ⟨s.length - 1, by omega⟩
  rw [hn]
  simp only [scan, h0, h, if_true, if_false]
  rw [scan_fuel n (cutRest s).length (cutRest s) (by omega) (by omega)]
  exact ⟨rfl, rfl⟩
theorem items_bad {s : List UInt8} (h0 : s ≠ []) (h : cutB s = false) : itemsB s = false := by
  have hl := List.length_pos_iff.2 h0
  unfold itemsB
  obtain ⟨n, hn⟩ : ∃ n, s.length = n + 1 := ⟨s.length - 1, by omega⟩
  rw [hn]
  simp [scan, h0, h]
theorem restAt_succ (s : List UInt8) : ∀ k, restAt s (k + 1) = restAt (cutRest s) k
  | 0 => by simp only [restAt]
  | k + 1 => by rw [restAt, restAt_succ s k]; simp only [restAt]
def Walk (s : List UInt8) (k : Nat) : Prop := ∀ j, j < k → restAt s j ≠ [] ∧ cutB (restAt s j) = true
theorem Walk.len {s : List UInt8} : ∀ {k : Nat}, Walk s k → (restAt s k).length + k ≤ s.length
  | 0, _ => by simp [restAt]
  | k + 1, h => by
    have h1 := Walk.len (k := k) (fun j hj => h j (by omega))
    have h2 := cut_lt (h k (by omega)).2
    simp only [restAt]; omega
theorem Walk.tail {s : List UInt8} {k : Nat} (h : Walk s (k + 1)) : Walk (cutRest s) k := fun j hj => by
  rw [← restAt_succ]; exact h (j + 1) (by omega)
theorem Walk.items {s : List UInt8} : ∀ {k : Nat}, Walk s k → itemsB s = itemsB (restAt s k) ∧ itemsN s = itemsN (restAt s k) + k
  | 0, _ => ⟨rfl, rfl⟩
  | k + 1, h => by
    obtain ⟨h0, h1⟩ := h 0 (by omega)
    obtain ⟨g1, g2⟩ := items_cut (s := s) h0 h1
    obtain ⟨g3, g4⟩ := Walk.items h.tail
    rw [restAt_succ, g1, g2, g3, g4]
    exact ⟨rfl, by omega⟩
theorem Walk.snoc {s : List UInt8} {k : Nat} (h : Walk s k) (h0 : restAt s k ≠ []) (h1 : cutB (restAt s k) = true) : Walk s (k + 1) := fun j hj => by
  by_cases e : j = k
  · subst e; exact ⟨h0, h1⟩
  · exact h j (by omega)
theorem Sx.SBle.rowsCongr {z : Bool} {n n' : Nat} {cols cols' : List Col} {tot tot' : Nat} {ty : TypeId} (hn : n = n') (ht : tot = tot') (hl : cols.length = cols'.length)
    (h : ∀ (i k : Nat) (c' : Col), i < n → cols'[k]? = some c' → ∃ c, cols[k]? = some c ∧ c.at i = c'.at i) : SBle (.rows z n cols false tot ty) (.rows z n' cols' false tot' ty) := by
  subst hn; subst ht
  intro hno
  refine ⟨hno, fun E o ⟨c, fr, h1, h2, h3, h4, h5⟩ => ⟨c, fr, h1, h2, by rw [← hl]; exact h3, h4, fun i k col hi hk => ?_⟩, fun _ => rfl⟩
  obtain ⟨c0, hc0, he⟩ := h i k col hi hk
  rw [← he, ← hl]
  exact h5 i k c0 hi hc0
theorem Sx.SBle.strRows {z : Bool} {n n' : Nat} {f g : Nat → List UInt8} {tot tot' : Nat} {ty : TypeId} (hn : n = n') (ht : tot = tot') (h : ∀ i, i < n → f i = g i) : SBle (.rows z n [.str f] false tot ty) (.rows z n' [.str g] false tot' ty) := by
  refine Sx.SBle.rowsCongr hn ht rfl fun i k c' hi hk => ⟨.str f, ?_, ?_⟩
  · match k, hk with
    | 0, _ => rfl
  · match k, hk with
    | 0, hk =>
      simp only [List.getElem?_cons_zero, Option.some.injEq] at hk
      subst hk
      simp only [Col.at, h i hi]
theorem items_holds {s : List UInt8} (hs : s.length < 1099511627776) : Holds (runA (cfgI s) 53 Tryz.f53 [.str false s] (itemsA s)) := by
  refine Holds.of_eq (vcItems s) ?_
  intro R
  refine ⟨⟨⟨0, 0⟩, ⟨fun j hj => absurd hj (Nat.not_lt_zero _), Nat.le_refl _⟩, rfl, rfl, rfl, rfl, SBle.refl _, SBle.refl _, SBle.refl _, SBle.refl _, trivial⟩, fun x hx => ?_⟩
  have hw : Walk s x.k := hx.walk
  have hl := hw.len
  obtain ⟨i1, i2⟩ := hw.items
  refine ⟨fun a => ?_, fun a => ?_⟩
  · have a : restAt s x.k ≠ [] := by simpa using a
    refine ⟨by omega, fun b => ?_, fun b y => ?_⟩
    · have hlt := cut_lt b
      refine ⟨by omega, by omega, rfl, ⟨by omega, trivial, by omega, by omega⟩, by omega, fun c hc => ⟨⟨x.k + 1, c⟩, ⟨⟨hw.snoc a b, hc⟩, ?_⟩, ?_, rfl, ⟨rfl, rfl, rfl⟩, trivial, ?_, SBle.refl _, SBle.refl _, SBle.refl _, SBle.refl _, trivial⟩⟩
      · simp only [restAt]; exact hlt
      · simp only [restAt]
      · refine Sx.SBle.strRows rfl (Nat.mul_one c) fun i hi => ?_
        by_cases h : i < x.k
        · rw [if_pos h]
        · rw [if_neg h]
          have e : i = x.k := by omega
          subst e
          simp only [Nat.sub_self, selS, subStr, itemAt, itemOf]
          rw [show ((↑(restAt s x.k).length : Int) - (↑(cutRest (restAt s x.k)).length : Int)).toNat = (restAt s x.k).length - (cutRest (restAt s x.k)).length by omega]
          simp only [List.getD_cons_zero]
    · have hb := items_bad a b
      rw [← i1] at hb
      exact ⟨by omega, rfl, (fun h => by rw [hb] at h; cases h), fun _ _ => rfl⟩
  · have a : restAt s x.k = [] := by simpa using a
    rw [a] at i1 i2
    have n0 : itemsN s = x.k := by rw [i2, items_nil.2]; omega
    have b0 : itemsB s = true := by rw [i1, items_nil.1]
    refine ⟨fun _ => ⟨x.c, by rw [n0]; exact hx.cap, ?_, ?_⟩, fun h => by rw [b0] at h; cases h⟩
    · rw [n0]; exact SBle.refl _
    · rw [n0]; exact fun _ => rfl
def itemsSpec : List SV → Option (Prop × Ans)
  | [.str false s] => some (s.length < 1099511627776, itemsA s)
  | _ => none
noncomputable def itemsPT : PT := ansPT itemsSpec
theorem items_ok : CallOk Tryz.prog 53 itemsPT := by
  refine ans_ok (n := 20) (fn := Tryz.f53) Tryz.func53 (by kernel_rfl) (by kernel_rfl) ?_
  intro args p a h hp
  unfold itemsSpec at h
  split at h
  · rename_i s
    injection h with h; injection h with h1 h2; subst h1; subst h2
    refine ⟨_, goodI s, rfl, fun b => ?_, items_holds hp⟩
    cases b with
    | false => exact rfl
    | true =>
      intro c
      refine ⟨rfl, rfl, fun k => by simp [SV.wf, SV.wfs, Nat.blt_eq], fun E E' k k' h => ?_⟩
      cases hn : itemsN s with
      | zero => rfl
      | succ n =>
        rw [hn] at h
        have hk : E k = E' k' := h rfl
        simp [SV.val, SV.vals, hk]
  · cases h
end Go.Proofs.YtkfdcapnogklfaaGreatDoor
/-
  Rlp: the set-up of the statements.
-/
namespace Go.Proofs.YtkfdcapnogklfaaGreatDoor
open Go Sx
set_option maxRecDepth 20000
noncomputable def list7 : List (FuncId × PT) :=
  (53, ansLPT itemsSpec) :: (87, litIf (fun args m => litCells m (args.headD .nilptr)) joinPT) ::
  (35, pureLPT textSpec) :: (52, ansLPT splitSpec) :: (71, ansLPT cutSpec) :: (60, pureLPT headSpec) :: reflList
theorem list7_ok : SummOk Tryz.prog (fun f => lookPT f list7) :=
  .cons (ansL_ok items_ok) (ansLPT_mono _) (.cons (litIf_ok join_ok) (litIf_mono joinPT_mono)
    (.cons (pureL_ok text_ok) (pureLPT_mono _) (.cons (ansL_ok split_ok) (ansLPT_mono _) (.cons (ansL_ok cut_ok) (ansLPT_mono _) (.cons (pureL_ok head_ok) (pureLPT_mono _) reflList_ok)))))
noncomputable def cfg7 : Cfg := { cfg0 with summ := fun f => lookPT f list7, rounds := 4 }
theorem good7 : Sx.Good Tryz.prog cfg7 := ⟨mixes, list7_ok, fns_ok⟩
end Go.Proofs.YtkfdcapnogklfaaGreatDoor
