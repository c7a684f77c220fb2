/-
  The framework's first part: symbolic values, memory, verification conditions; what they say of a world.
-/
import Derived.Calls
import Derived.Orders
import Derived.Laws.Sem
import Derived.Below
import Derived.KernelRfl
namespace Go.Proofs.Ytobbhdmbblhgaaa.Sx
open Go

/-- A verification condition: computed by the executor, read by 'holds'. -/
inductive VC : Type 1 where
  | tt
  | fail (why : String)
  | atom (p : Prop)
  | and (a b : VC)
  | imp (p : Prop) (a : VC)
  | all (α : Type) (f : α → VC)
  | ex (α : Type) (f : α → VC)

def VC.holds : VC → Prop
  | .tt => True
  | .fail _ => False
  | .atom p => p
  | .and a b => a.holds ∧ b.holds
  | .imp p a => p → a.holds
  | .all α f => ∀ x : α, (f x).holds
  | .ex α f => ∃ x : α, (f x).holds

/-- Both ways of a test. -/
def fork (b : Bool) (f : Bool → VC) : VC := .and (.imp (b = true) (f true)) (.imp (b = false) (f false))
theorem fork_iff {b : Bool} {f : Bool → VC} : (fork b f).holds ↔ (f b).holds := by
  constructor
  · intro h; cases b
    · exact h.2 rfl
    · exact h.1 rfl
  · intro h; cases b
    · exact ⟨fun e => absurd e (by decide), fun _ => h⟩
    · exact ⟨fun _ => h, fun e => absurd e (by decide)⟩

/-- Symbolic values. The Bools say: the number is known to the executor. -/
inductive SV where
  | int (k : IntKind) (l : Bool) (n : Int)
  | bool (l : Bool) (b : Bool)
  | str (l : Bool) (s : List UInt8)
  | ptr (key : Nat) (ol : Bool) (o : Nat)
  | eptr (key w i k : Nat)
  | aptr (key base n i : Nat)
  | nilptr
  | slc (key : Nat) (o n : Nat) (cl : Bool) (c : Nat)
  | rslc (key w : Nat) (z : Bool) (i n c : Nat)
  | vslc (key w : Nat) (z : Bool) (o i n c : Nat)
  | veptr (key w o i k : Nat)
  | nilslc
  | agg (cs : List SV)
  | tup (vs : List SV)
  | iface (t : TypeId) (v : SV)
  | niliface
  | func (fn : Fn) (first captured : List SV)
  | nilfunc
  | map (key : Nat)
  | nilmap
  | raw (v : Value)

mutual
def SV.val (E : Nat → Nat) : SV → Value
  | .int k _ n => .int k n
  | .bool _ b => .bool b
  | .str _ s => .string ⟨s.toArray⟩
  | .ptr key _ o => .pointer (some ⟨E key, o, none⟩)
  | .eptr key w i k => .pointer (some ⟨E key, i * w + k, none⟩)
  | .aptr key base _ i => .pointer (some ⟨E key, base + i, none⟩)
  | .nilptr => .pointer none
  | .slc key o n _ c => .slice (some ⟨E key, o, none⟩) n c
  | .rslc key w z i n c => .slice (bif z && Nat.beq n 0 then none else some ⟨E key, i * w, none⟩) n (bif z && Nat.beq n 0 then 0 else c)
  | .vslc key w z o i n c => .slice (bif z && Nat.beq n 0 then none else some ⟨E key, o + i * w, none⟩) n (bif z && Nat.beq n 0 then 0 else c)
  | .veptr key w o i k => .pointer (some ⟨E key, o + i * w + k, none⟩)
  | .nilslc => .slice none 0 0
  | .agg cs => .agg (SV.vals E cs).toArray
  | .tup vs => .tuple (SV.vals E vs).toArray
  | .iface t v => .iface t (v.val E)
  | .niliface => .nilIface
  | .func fn a b => .func fn (SV.vals E a).toArray (SV.vals E b).toArray
  | .nilfunc => .nilFunc
  | .map key => .map (some (E key))
  | .nilmap => .map none
  | .raw v => v
def SV.vals (E : Nat → Nat) : List SV → List Value
  | [] => []
  | x :: r => x.val E :: SV.vals E r
end
theorem SV.vals_eq (E : Nat → Nat) (l : List SV) : SV.vals E l = l.map (SV.val E) := by
  induction l with
  | nil => rfl
  | cons x r ih => simp [SV.vals, ih]

mutual
/-- All keys in it are below 'nx'. -/
def SV.wf (nx : Nat) : SV → Bool
  | .ptr key _ _ => Nat.blt key nx
  | .eptr key _ _ _ => Nat.blt key nx
  | .aptr key _ _ _ => Nat.blt key nx
  | .slc key _ _ _ _ => Nat.blt key nx
  | .rslc key _ _ _ _ _ => Nat.blt key nx
  | .vslc key _ _ _ _ _ _ => Nat.blt key nx
  | .veptr key _ _ _ _ => Nat.blt key nx
  | .map key => Nat.blt key nx
  | .agg cs => SV.wfs nx cs
  | .tup vs => SV.wfs nx vs
  | .iface _ v => v.wf nx
  | .func _ a b => SV.wfs nx a && SV.wfs nx b
  | _ => true
def SV.wfs (nx : Nat) : List SV → Bool
  | [] => true
  | x :: r => x.wf nx && SV.wfs nx r
end

mutual
theorem SV.val_congr {E E' : Nat → Nat} {nx : Nat} (h : ∀ k, k < nx → E' k = E k) : (v : SV) → v.wf nx = true → v.val E' = v.val E
  | .int .., _ => rfl
  | .bool .., _ => rfl
  | .str .., _ => rfl
  | .ptr key _ _, hw => by simp [SV.wf, Nat.blt_eq] at hw; simp [SV.val, h key hw]
  | .eptr key _ _ _, hw => by simp [SV.wf, Nat.blt_eq] at hw; simp [SV.val, h key hw]
  | .aptr key _ _ _, hw => by simp [SV.wf, Nat.blt_eq] at hw; simp [SV.val, h key hw]
  | .nilptr, _ => rfl
  | .slc key _ _ _ _, hw => by simp [SV.wf, Nat.blt_eq] at hw; simp [SV.val, h key hw]
  | .rslc key _ _ _ _ _, hw => by simp [SV.wf, Nat.blt_eq] at hw; simp [SV.val, h key hw]
  | .vslc key _ _ _ _ _ _, hw => by simp [SV.wf, Nat.blt_eq] at hw; simp [SV.val, h key hw]
  | .veptr key _ _ _ _, hw => by simp [SV.wf, Nat.blt_eq] at hw; simp [SV.val, h key hw]
  | .nilslc, _ => rfl
  | .agg cs, hw => by simp only [SV.wf] at hw; simp only [SV.val, SV.vals_congr h cs hw]
  | .tup vs, hw => by simp only [SV.wf] at hw; simp only [SV.val, SV.vals_congr h vs hw]
  | .iface _ v, hw => by simp only [SV.wf] at hw; simp only [SV.val, SV.val_congr h v hw]
  | .niliface, _ => rfl
  | .func _ a b, hw => by simp only [SV.wf, Bool.and_eq_true] at hw; simp only [SV.val, SV.vals_congr h a hw.1, SV.vals_congr h b hw.2]
  | .nilfunc, _ => rfl
  | .map key, hw => by simp [SV.wf, Nat.blt_eq] at hw; simp [SV.val, h key hw]
  | .nilmap, _ => rfl
  | .raw _, _ => rfl
theorem SV.vals_congr {E E' : Nat → Nat} {nx : Nat} (h : ∀ k, k < nx → E' k = E k) : (l : List SV) → SV.wfs nx l = true → SV.vals E' l = SV.vals E l
  | [], _ => rfl
  | x :: r, hw => by simp only [SV.wfs, Bool.and_eq_true] at hw; simp only [SV.vals, SV.val_congr h x hw.1, SV.vals_congr h r hw.2]
end
mutual
theorem SV.wf_mono {n m : Nat} (h : n ≤ m) : (v : SV) → v.wf n = true → v.wf m = true
  | .int .., _ => rfl
  | .bool .., _ => rfl
  | .str .., _ => rfl
  | .ptr key _ _, hw => by simp [SV.wf, Nat.blt_eq] at hw ⊢; omega
  | .eptr key _ _ _, hw => by simp [SV.wf, Nat.blt_eq] at hw ⊢; omega
  | .aptr key _ _ _, hw => by simp [SV.wf, Nat.blt_eq] at hw ⊢; omega
  | .nilptr, _ => rfl
  | .slc key _ _ _ _, hw => by simp [SV.wf, Nat.blt_eq] at hw ⊢; omega
  | .rslc key _ _ _ _ _, hw => by simp [SV.wf, Nat.blt_eq] at hw ⊢; omega
  | .vslc key _ _ _ _ _ _, hw => by simp [SV.wf, Nat.blt_eq] at hw ⊢; omega
  | .veptr key _ _ _ _, hw => by simp [SV.wf, Nat.blt_eq] at hw ⊢; omega
  | .nilslc, _ => rfl
  | .agg cs, hw => by simp only [SV.wf] at hw ⊢; exact SV.wfs_mono h cs hw
  | .tup vs, hw => by simp only [SV.wf] at hw ⊢; exact SV.wfs_mono h vs hw
  | .iface _ v, hw => by simp only [SV.wf] at hw ⊢; exact SV.wf_mono h v hw
  | .niliface, _ => rfl
  | .func _ a b, hw => by simp only [SV.wf, Bool.and_eq_true] at hw ⊢; exact ⟨SV.wfs_mono h a hw.1, SV.wfs_mono h b hw.2⟩
  | .nilfunc, _ => rfl
  | .map key, hw => by simp [SV.wf, Nat.blt_eq] at hw ⊢; omega
  | .nilmap, _ => rfl
  | .raw _, _ => rfl
theorem SV.wfs_mono {n m : Nat} (h : n ≤ m) : (l : List SV) → SV.wfs n l = true → SV.wfs m l = true
  | [], _ => rfl
  | x :: r, hw => by simp only [SV.wfs, Bool.and_eq_true] at hw ⊢; exact ⟨SV.wf_mono h x hw.1, SV.wfs_mono h r hw.2⟩
end

/-- Does it lie in one cell? -/
def SV.isCell : SV → Bool
  | .agg _ | .tup _ | .raw _ => false
  | _ => true
theorem SV.isCell_one {E : Nat → Nat} {v : SV} (h : v.isCell = true) : (v.val E).oneCell' = true := by
  cases v <;> simp_all [SV.isCell, SV.val, Value.oneCell']
def SV.cells : SV → List SV
  | .agg cs => cs
  | v => [v]
/-- Is it written out so far that its cells are known? -/
def SV.plain : SV → Bool
  | .raw _ => false
  | _ => true
theorem SV.cells_val {E : Nat → Nat} {v : SV} (h : v.plain = true) : (v.val E).cells = (v.cells.map (SV.val E)).toArray := by
  cases v <;> simp_all [SV.plain, SV.cells, SV.val, Value.cells, SV.vals_eq]

def SV.ofCell : Value → Option SV
  | .int k n => some (.int k true n)
  | .bool b => some (.bool true b)
  | .string s => some (.str true s.data.toList)
  | .pointer none => some .nilptr
  | .slice none 0 0 => some .nilslc
  | .map none => some .nilmap
  | .nilFunc => some .nilfunc
  | .nilIface => some .niliface
  | _ => none
def SV.ofCells : List Value → Option (List SV)
  | [] => some []
  | v :: r => match SV.ofCell v, SV.ofCells r with
    | some x, some l => some (x :: l)
    | _, _ => none
def SV.ofConst : Value → Option SV
  | .agg cs => match SV.ofCells cs.toList with
    | some l => some (.agg l)
    | none => none
  | v => SV.ofCell v
theorem SV.ofCell_val {E : Nat → Nat} {v : Value} {x : SV} (h : SV.ofCell v = some x) : x.val E = v := by
  unfold SV.ofCell at h
  split at h <;> first | (injection h with h; subst h; simp [SV.val]; done) | cases h
theorem SV.ofCells_val {E : Nat → Nat} {l : List Value} {xs : List SV} (h : SV.ofCells l = some xs) : xs.map (SV.val E) = l := by
  induction l generalizing xs with
  | nil => simp [SV.ofCells] at h; subst h; rfl
  | cons v r ih =>
    simp only [SV.ofCells] at h
    split at h
    · rename_i x l' hx hl
      injection h with h; subst h
      simp [SV.ofCell_val hx, ih hl]
    · cases h
theorem SV.ofConst_val {E : Nat → Nat} {v : Value} {x : SV} (h : SV.ofConst v = some x) : x.val E = v := by
  unfold SV.ofConst at h
  split at h
  · split at h
    · rename_i cs l hl
      injection h with h; subst h
      have := SV.ofCells_val (E := E) hl
      simp [SV.val, SV.vals_eq, this]
    · cases h
  · exact SV.ofCell_val h

/-- A column of a row of elements: what each element's cell holds. -/
inductive Col where
  | int (k : IntKind) (f : Nat → Int)
  | bool (f : Nat → Bool)
  | str (f : Nat → List UInt8)
  | raw (f : Nat → Value)
def Col.at (i : Nat) : Col → SV
  | .int k f => .int k false (f i)
  | .bool f => .bool false (f i)
  | .str f => .str false (f i)
  | .raw f => .raw (f i)
theorem Col.at_wf (i nx : Nat) (c : Col) : (c.at i).wf nx = true := by cases c <;> rfl

/-- What is known of a block of memory. 'cells': its first cells, one by one ('tot': how many it has).
'rows': its first n elements, column by column ('z': there is no block if there are none). 'ro': it is only read.
'view': n elements from cell o on; it is only read. -/
inductive SB where
  | cells (cs : List SV) (tot : Nat) (ty : TypeId)
  | rows (z : Bool) (n : Nat) (cols : List Col) (ro : Bool) (tot : Nat) (ty : TypeId)
  | view (z : Bool) (o n : Nat) (cols : List Col)
def SB.ro : SB → Bool
  | .cells .. => false
  | .rows _ _ _ ro _ _ => ro
  | .view .. => true
def SB.no : SB → Bool
  | .cells .. => false
  | .rows z n _ _ _ _ => z && Nat.beq n 0
  | .view z _ n _ => z && Nat.beq n 0
theorem SB.no_rows {z : Bool} {n : Nat} {cols : List Col} {ro : Bool} {tot : Nat} {ty : TypeId} {i : Nat} (h : i < n) : (SB.rows z n cols ro tot ty).no = false := by
  have : Nat.beq n 0 = false := by cases n with
    | zero => omega
    | succ n => rfl
  simp [SB.no, this]
theorem SB.no_view {z : Bool} {n : Nat} {cols : List Col} {o i : Nat} (h : i < n) : (SB.view z o n cols).no = false := by
  have : Nat.beq n 0 = false := by cases n with
    | zero => omega
    | succ n => rfl
  simp [SB.no, this]
def SB.wf (nx : Nat) : SB → Bool
  | .cells cs _ _ => SV.wfs nx cs
  | .rows .. => true
  | .view .. => true

abbrev Mem := List (Nat × SB)

def Mem.get (key : Nat) : Mem → Option SB
  | [] => none
  | e :: r => if e.1 = key then some e.2 else Mem.get key r
def Mem.put (key : Nat) (B : SB) : Mem → Mem
  | [] => []
  | e :: r => if e.1 = key then (e.1, B) :: r else e :: Mem.put key B r
def Mem.drop (key : Nat) : Mem → Mem
  | [] => []
  | e :: r => if e.1 = key then Mem.drop key r else e :: Mem.drop key r
def Mem.wf (nx : Nat) : Mem → Bool
  | [] => true
  | e :: r => e.2.wf nx && Mem.wf nx r
theorem Mem.get_put {key : Nat} {B : SB} {m : Mem} {k : Nat} {X : SB} (h : (Mem.put key B m).get k = some X) :
    (k = key ∧ X = B ∧ (m.get k).isSome) ∨ (k ≠ key ∧ m.get k = some X) := by
  induction m with
  | nil => simp [Mem.put, Mem.get] at h
  | cons e r ih =>
    by_cases he : e.1 = key
    · by_cases hk : key = k
      · subst hk
        rw [Mem.put, if_pos he, Mem.get, if_pos he] at h
        injection h with h
        exact .inl ⟨rfl, h.symm, by rw [Mem.get, if_pos he]; rfl⟩
      · rw [Mem.put, if_pos he, Mem.get, if_neg (fun x => hk (he.symm.trans x))] at h
        rw [Mem.get, if_neg (fun x => hk (he.symm.trans x))]
        exact .inr ⟨fun e => hk e.symm, h⟩
    · rw [Mem.put, if_neg he] at h
      by_cases hk : e.1 = k
      · rw [Mem.get, if_pos hk] at h ⊢
        exact .inr ⟨fun e => he (hk.trans e), h⟩
      · rw [Mem.get, if_neg hk] at h ⊢
        exact ih h
theorem Mem.get_drop {key : Nat} {m : Mem} {k : Nat} {X : SB} (h : (Mem.drop key m).get k = some X) : k ≠ key ∧ m.get k = some X := by
  induction m with
  | nil => simp [Mem.drop, Mem.get] at h
  | cons e r ih =>
    by_cases he : e.1 = key
    · rw [Mem.drop, if_pos he] at h
      have := ih h
      refine ⟨this.1, ?_⟩
      rw [Mem.get, if_neg (fun e => this.1 (e.symm.trans he))]; exact this.2
    · rw [Mem.drop, if_neg he] at h
      by_cases hk : e.1 = k
      · rw [Mem.get, if_pos hk] at h ⊢
        exact ⟨fun e => he (hk.trans e), h⟩
      · rw [Mem.get, if_neg hk] at h ⊢
        exact ih h
theorem Mem.wf_get {nx : Nat} {m : Mem} (h : m.wf nx = true) {k : Nat} {B : SB} (hg : m.get k = some B) : B.wf nx = true := by
  induction m with
  | nil => cases hg
  | cons e r ih =>
    simp only [Mem.wf, Bool.and_eq_true] at h
    by_cases hk : e.1 = k
    · simp only [Mem.get, hk, if_true] at hg; injection hg with hg; subst hg; exact h.1
    · simp only [Mem.get, hk, if_false] at hg; exact ih h.2 hg

/-- What the world holds of a block. -/
def BlkOk (E : Nat → Nat) : SB → Obj → Prop
  | .cells cs tot ty, o => ∃ c fr, o = .cells c ty fr ∧ (∀ i, c.size ≤ i ∨ ¬ (fr.1 ≤ i ∧ i < fr.2)) ∧
      (∀ (i : Nat) (v : SV), cs[i]? = some v → c[i]? = some (v.val E)) ∧ c.size = tot
  | .rows _ n cols ro tot ty, o => ∃ c fr, o = .cells c ty fr ∧ (ro = false → ∀ i, c.size ≤ i ∨ ¬ (fr.1 ≤ i ∧ i < fr.2)) ∧
      n * cols.length ≤ c.size ∧ c.size = tot ∧ (∀ (i k : Nat) (col : Col), i < n → cols[k]? = some col → c[i * cols.length + k]? = some ((col.at i).val E))
  | .view _ o n cols, ob => ∃ c ty fr, ob = .cells c ty fr ∧ (∀ (i k : Nat) (col : Col), i < n → cols[k]? = some col → c[o + i * cols.length + k]? = some ((col.at i).val E))
theorem SV.wfs_get {nx : Nat} {l : List SV} (h : SV.wfs nx l = true) {i : Nat} {v : SV} (hg : l[i]? = some v) : v.wf nx = true := by
  induction l generalizing i with
  | nil => cases hg
  | cons x r ih =>
    simp only [SV.wfs, Bool.and_eq_true] at h
    cases i with
    | zero => simp at hg; subst hg; exact h.1
    | succ i => exact ih h.2 (by simpa using hg)
theorem BlkOk.congr {E E' : Nat → Nat} {nx : Nat} (h : ∀ k, k < nx → E' k = E k) {B : SB} (hw : B.wf nx = true) {o : Obj} (hb : BlkOk E B o) : BlkOk E' B o := by
  cases B with
  | cells cs tot ty =>
    obtain ⟨c, fr, rfl, h1, h2, h3⟩ := hb
    exact ⟨c, fr, rfl, h1, fun i v hv => by rw [SV.val_congr h v (SV.wfs_get hw hv)]; exact h2 i v hv, h3⟩
  | rows z n cols ro tot ty =>
    obtain ⟨c, fr, rfl, h1, h2, ht, h3⟩ := hb
    exact ⟨c, fr, rfl, h1, h2, ht, fun i k col hi hk => by rw [SV.val_congr h _ (Col.at_wf i nx col)]; exact h3 i k col hi hk⟩
  | view z o n cols =>
    obtain ⟨c, ty, fr, rfl, h3⟩ := hb
    exact ⟨c, ty, fr, rfl, fun i k col hi hk => by rw [SV.val_congr h _ (Col.at_wf i nx col)]; exact h3 i k col hi hk⟩

/-- From 'w' to 'w'' only blocks in 'M', and new ones, have changed. -/
structure Ext (M : Nat → Prop) (w w' : World) : Prop where
  os : w'.os = w.os
  tape : w'.tape = w.tape
  output : w'.output = w.output
  size : w.heap.size ≤ w'.heap.size
  block : ∀ k, k < w.heap.size → ¬ M k → w'.heap[k]? = w.heap[k]?
theorem Ext.refl (M : Nat → Prop) (w : World) : Ext M w w := ⟨rfl, rfl, rfl, Nat.le_refl _, fun _ _ _ => rfl⟩
theorem Ext.trans {M : Nat → Prop} {a b c : World} (h : Ext M a b) (k : Ext M b c) : Ext M a c :=
  ⟨k.os.trans h.os, k.tape.trans h.tape, k.output.trans h.output, Nat.le_trans h.size k.size,
    fun i hi hm => (k.block i (Nat.lt_of_lt_of_le hi h.size) hm).trans (h.block i hi hm)⟩
theorem Ext.below {M : Nat → Prop} {a b : World} (h : Ext M a b) (hM : ∀ k, ¬ M k) : RowKit.Below a.heap.size a b :=
  ⟨h.os, h.tape, h.output, h.size, fun k hk => h.block k hk (hM k)⟩
theorem Ext.of_below {M : Nat → Prop} {a b : World} (h : RowKit.Below a.heap.size a b) : Ext M a b :=
  ⟨h.os, h.tape, h.output, h.size, fun k hk _ => h.block k hk⟩

/-- The memory that the executor knows is the world's. 'w0': the world at the beginning; 'M0': blocks of it that may be changed. -/
structure SatM (w0 : World) (M0 : Nat → Prop) (E : Nat → Nat) (m : Mem) (nx : Nat) (w : World) : Prop where
  blk : ∀ k B, m.get k = some B → B.no = false → ∃ o, w.heap[E k]? = some o ∧ BlkOk E B o
  inj : ∀ k k' B B', m.get k = some B → B.no = false → m.get k' = some B' → B'.no = false → E k = E k' → k = k'
  lt : ∀ k B, m.get k = some B → k < nx
  own : ∀ k B, m.get k = some B → B.no = false → B.ro = false → M0 (E k) ∨ w0.heap.size ≤ E k
  ext : Ext M0 w0 w

theorem SatM.drew {w0 M0 E m nx w} (h : SatM w0 M0 E m nx w) (n : Nat) : SatM w0 M0 E m nx { w with drawn := n } :=
  ⟨h.blk, h.inj, h.lt, h.own, ⟨h.ext.os, h.ext.tape, h.ext.output, h.ext.size, h.ext.block⟩⟩

theorem SatM.sub {w0 M0 E m nx w} (h : SatM w0 M0 E m nx w) {m' : Mem} (hs : ∀ k B, m'.get k = some B → m.get k = some B) {nx' : Nat}
    (hn : ∀ k B, m'.get k = some B → k < nx') : SatM w0 M0 E m' nx' w :=
  ⟨fun k B hk => h.blk k B (hs k B hk), fun k k' B B' hk hn hk' => h.inj k k' B B' (hs _ _ hk) hn (hs _ _ hk'), hn, fun k B hk => h.own k B (hs k B hk), h.ext⟩

theorem Mem.get_cons {k0 : Nat} {B0 : SB} {m : Mem} {k : Nat} {B : SB} (h : Mem.get k ((k0, B0) :: m) = some B) : (k = k0 ∧ B = B0) ∨ (k ≠ k0 ∧ m.get k = some B) := by
  by_cases e : k0 = k
  · simp only [Mem.get, e, if_true] at h; injection h with h; exact .inl ⟨e.symm, h.symm⟩
  · simp only [Mem.get, e, if_false] at h; exact .inr ⟨fun x => e x.symm, h⟩

/-- A block under a new key: one that is new, or that no other key of what stays stands for. -/
theorem SatM.push {w0 M0 E m nx w} (h : SatM w0 M0 E m nx w) (hw : Mem.wf nx m = true) {m' : Mem} (hsub : ∀ k B, m'.get k = some B → m.get k = some B) {b : Nat} {B : SB} {w' : World}
    (hE : ∀ k X, m'.get k = some X → X.no = false → E k ≠ b) (hkeep : ∀ i, i ≠ b → i < w.heap.size → w'.heap[i]? = w.heap[i]?) (hx : Ext M0 w0 w')
    (hown : B.no = false → B.ro = false → M0 b ∨ w0.heap.size ≤ b)
    (hB : B.no = false → ∃ o, w'.heap[b]? = some o ∧ BlkOk (fun k => if k = nx then b else E k) B o) :
    SatM w0 M0 (fun k => if k = nx then b else E k) ((nx, B) :: m') (nx + 1) w' := by
  have hE' : ∀ k, k < nx → (fun k => if k = nx then b else E k) k = E k := fun k hk => by simp [Nat.ne_of_lt hk]
  refine ⟨?_, ?_, ?_, ?_, hx⟩
  · intro k X hk hn
    rcases Mem.get_cons hk with ⟨rfl, rfl⟩ | ⟨hne, hk⟩
    · simp only [if_true]; exact hB hn
    · obtain ⟨o, ho, hb⟩ := h.blk k X (hsub k X hk) hn
      refine ⟨o, ?_, hb.congr hE' (Mem.wf_get hw (hsub k X hk))⟩
      simp only [hne, if_false]
      rw [hkeep _ (hE k X hk hn) (Array.getElem?_eq_some_iff.1 ho).1]; exact ho
  · intro k k' X X' hk hn hk' hn' e
    rcases Mem.get_cons hk with ⟨e1, _⟩ | ⟨hne, hk1⟩ <;> rcases Mem.get_cons hk' with ⟨e2, _⟩ | ⟨hne', hk1'⟩
    · exact e1.trans e2.symm
    · subst e1
      simp only [if_true, hne', if_false] at e
      exact absurd e.symm (hE k' X' hk1' hn')
    · subst e2
      simp only [if_true, hne, if_false] at e
      exact absurd e (hE k X hk1 hn)
    · simp only [hne, hne', if_false] at e
      exact h.inj k k' X X' (hsub _ _ hk1) hn (hsub _ _ hk1') hn' e
  · intro k X hk
    rcases Mem.get_cons hk with ⟨rfl, rfl⟩ | ⟨hne, hk⟩
    · omega
    · have := h.lt k X (hsub k X hk); omega
  · intro k X hk hn hro
    rcases Mem.get_cons hk with ⟨rfl, rfl⟩ | ⟨hne, hk⟩
    · simp only [if_true]; exact hown hn hro
    · simp only [hne, if_false]; exact h.own k X (hsub k X hk) hn hro

/-- A new block. -/
theorem SatM.alloc {w0 M0 E m nx w} (h : SatM w0 M0 E m nx w) (hw : Mem.wf nx m = true) {B : SB} {o : Obj}
    (hB : BlkOk (fun k => if k = nx then w.heap.size else E k) B o) :
    SatM w0 M0 (fun k => if k = nx then w.heap.size else E k) ((nx, B) :: m) (nx + 1) { w with heap := w.heap.push o } := by
  refine h.push hw (fun _ _ h => h) (fun k X hk hn => ?_) (fun i hi hlt => ?_) ⟨h.ext.os, h.ext.tape, h.ext.output, ?_, fun k hk hm => ?_⟩ (fun _ _ => .inr h.ext.size) fun _ => ⟨o, by simp, hB⟩
  · obtain ⟨o', ho, _⟩ := h.blk k X hk hn
    exact Nat.ne_of_lt (Array.getElem?_eq_some_iff.1 ho).1
  · show (w.heap.push o)[i]? = _
    rw [Array.getElem?_push, if_neg hi]
  · have := h.ext.size; simp; omega
  · show (w.heap.push o)[k]? = _
    have := h.ext.size
    rw [Array.getElem?_push, if_neg (by omega)]; exact h.ext.block k hk hm

theorem SatM.extWrite {w0 M0 E m nx w} (h : SatM w0 M0 E m nx w) {k : Nat} {B : SB} (hk : m.get k = some B) (hn : B.no = false) (hro : B.ro = false) (o : Obj) :
    Ext M0 w0 { w with heap := w.heap.setIfInBounds (E k) o } := by
  refine ⟨h.ext.os, h.ext.tape, h.ext.output, by simpa using h.ext.size, fun i hi hm => ?_⟩
  show (w.heap.setIfInBounds (E k) o)[i]? = _
  have : E k ≠ i := fun e => by
    rcases h.own k B hk hn hro with h' | h'
    · exact hm (e ▸ h')
    · omega
  rw [Array.getElem?_setIfInBounds_ne this]; exact h.ext.block i hi hm

/-- A block that is written. -/
theorem SatM.write {w0 M0 E m nx w} (h : SatM w0 M0 E m nx w) {k : Nat} {B B' : SB} (hk : m.get k = some B) (hn : B.no = false) (hro : B.ro = false) {o : Obj}
    (hB : BlkOk E B' o) (hro' : B'.ro = false) : SatM w0 M0 E (m.put k B') nx { w with heap := w.heap.setIfInBounds (E k) o } := by
  obtain ⟨o0, ho0, _⟩ := h.blk k B hk hn
  have hlt := (Array.getElem?_eq_some_iff.1 ho0).1
  refine ⟨?_, ?_, ?_, ?_, h.extWrite hk hn hro o⟩
  · intro j X hj hnx
    rcases Mem.get_put hj with ⟨rfl, rfl, _⟩ | ⟨hne, hj⟩
    · exact ⟨o, by simp [hlt], hB⟩
    · obtain ⟨o', ho', hb⟩ := h.blk j X hj hnx
      refine ⟨o', ?_, hb⟩
      have : E k ≠ E j := fun e => hne (h.inj k j B X hk hn hj hnx e).symm
      show (w.heap.setIfInBounds (E k) o)[E j]? = _
      rw [Array.getElem?_setIfInBounds_ne this]; exact ho'
  · intro j j' X X' hj hnj hj' hnj' e
    rcases Mem.get_put hj with ⟨e1, _, _⟩ | ⟨_, hj1⟩ <;> rcases Mem.get_put hj' with ⟨e2, _, _⟩ | ⟨_, hj2⟩
    · exact e1.trans e2.symm
    · subst e1; exact h.inj _ _ _ _ hk hn hj2 hnj' e
    · subst e2; exact h.inj _ _ _ _ hj1 hnj hk hn e
    · exact h.inj _ _ _ _ hj1 hnj hj2 hnj' e
  · intro j X hj
    rcases Mem.get_put hj with ⟨rfl, _, hs⟩ | ⟨_, hj⟩
    · exact h.lt _ _ hk
    · exact h.lt _ _ hj
  · intro j X hj hnj hr
    rcases Mem.get_put hj with ⟨rfl, rfl, hs⟩ | ⟨_, hj⟩
    · exact h.own _ _ hk hn hro
    · exact h.own _ _ hj hnj hr

/-- A block is written and handed on under a new key. -/
theorem SatM.move {w0 M0 E m nx w} (h : SatM w0 M0 E m nx w) (hw : Mem.wf nx m = true) {k : Nat} {B B' : SB} (hk : m.get k = some B) (hn : B.no = false) (hro : B.ro = false) {o : Obj}
    (hB : BlkOk (fun j => if j = nx then E k else E j) B' o) :
    SatM w0 M0 (fun j => if j = nx then E k else E j) ((nx, B') :: m.drop k) (nx + 1) { w with heap := w.heap.setIfInBounds (E k) o } := by
  obtain ⟨o0, ho0, _⟩ := h.blk k B hk hn
  have hlt := (Array.getElem?_eq_some_iff.1 ho0).1
  refine h.push hw (fun _ _ hj => (Mem.get_drop hj).2) (fun j X hj hnj e => (Mem.get_drop hj).1 (h.inj j k X B (Mem.get_drop hj).2 hnj hk hn e)) (fun i hi hl => ?_) (h.extWrite hk hn hro o)
    (fun _ _ => h.own k B hk hn hro) fun _ => ⟨o, by simp [hlt], hB⟩
  show (w.heap.setIfInBounds (E k) o)[i]? = _
  rw [Array.getElem?_setIfInBounds_ne (fun e => hi e.symm)]

end Go.Proofs.Ytobbhdmbblhgaaa.Sx
