/-
  The framework's base: which package-level variables hold what.
-/
import Derived.Test.YtkfdcapnogklfaaGreatDoorProg
import Derived.KernelRfl
import Derived.Calls
import Derived.RangeFuncIn
import Derived.RangeFuncLeaves
import Derived.RangeFuncCalls
import Derived.OrdersIn
import Derived.Orders
import Derived.Laws.Sem
import Derived.Below
import Derived.Laws.StructEq
import Derived.ChangeKeysEq
namespace Go.Proofs.YtkfdcapnogklfaaGreatDoor.Sx
open Go
noncomputable def globList : List (Nat × Array Value) :=
  (1, #[.iface 126 (.agg #[.pointer (some ⟨Tryz.prog.globals.size, 85, none⟩)])]) ::
  (0, #[.int .u32 1116352408, .int .u32 1899447441, .int .u32 3049323471, .int .u32 3921009573, .int .u32 961987163, .int .u32 1508970993, .int .u32 2453635748, .int .u32 2870763221, .int .u32 3624381080, .int .u32 310598401, .int .u32 607225278, .int .u32 1426881987, .int .u32 1925078388, .int .u32 2162078206, .int .u32 2614888103, .int .u32 3248222580, .int .u32 3835390401, .int .u32 4022224774, .int .u32 264347078, .int .u32 604807628, .int .u32 770255983, .int .u32 1249150122, .int .u32 1555081692, .int .u32 1996064986, .int .u32 2554220882, .int .u32 2821834349, .int .u32 2952996808, .int .u32 3210313671, .int .u32 3336571891, .int .u32 3584528711, .int .u32 113926993, .int .u32 338241895, .int .u32 666307205, .int .u32 773529912, .int .u32 1294757372, .int .u32 1396182291, .int .u32 1695183700, .int .u32 1986661051, .int .u32 2177026350, .int .u32 2456956037, .int .u32 2730485921, .int .u32 2820302411, .int .u32 3259730800, .int .u32 3345764771, .int .u32 3516065817, .int .u32 3600352804, .int .u32 4094571909, .int .u32 275423344, .int .u32 430227734, .int .u32 506948616, .int .u32 659060556, .int .u32 883997877, .int .u32 958139571, .int .u32 1322822218, .int .u32 1537002063, .int .u32 1747873779, .int .u32 1955562222, .int .u32 2024104815, .int .u32 2227730452, .int .u32 2361852424, .int .u32 2428436474, .int .u32 2756734187, .int .u32 3204031479, .int .u32 3329325298]) ::
  []
end Go.Proofs.YtkfdcapnogklfaaGreatDoor.Sx
/-
  The framework's first part: symbolic values, memory, verification conditions; what they say of a world.
-/
namespace Go.Proofs.YtkfdcapnogklfaaGreatDoor.Sx
open Go
inductive VC : Type 1 where
  | tt
  | fail (why : String)
  | atom (p : Prop)
  | and (a b : VC)
  | imp (p : Prop) (a : VC)
  | all (α : Type) (f : α → VC)
  | ex (α : Type) (f : α → VC)
def VC.holds : VC → Prop
  | .tt => True
  | .fail _ => False
  | .atom p => p
  | .and a b => a.holds ∧ b.holds
  | .imp p a => p → a.holds
  | .all α f => ∀ x : α, (f x).holds
  | .ex α f => ∃ x : α, (f x).holds
def fork (b : Bool) (f : Bool → VC) : VC := .and (.imp (b = true) (f true)) (.imp (b = false) (f false))
theorem fork_iff {b : Bool} {f : Bool → VC} : (fork b f).holds ↔ (f b).holds := by
  constructor
  · intro h; cases b
    · exact h.2 rfl
    · exact h.1 rfl
  · intro h; cases b
    · exact ⟨fun e => absurd e (by decide), fun _ => h⟩
    · exact ⟨fun _ => h, fun e => absurd e (by decide)⟩
inductive SV where
  | int (k : IntKind) (l : Bool) (n : Int)
  | bool (l : Bool) (b : Bool)
  | str (l : Bool) (s : List UInt8)
  | ptr (key : Nat) (ol : Bool) (o : Nat)
  | eptr (key w i k : Nat)
  | aptr (key base n i : Nat)
  | nilptr
  | slc (key : Nat) (o n : Nat) (cl : Bool) (c : Nat)
  | rslc (key w : Nat) (z : Bool) (i n c : Nat)
  | vslc (key w : Nat) (z : Bool) (o i n c : Nat)
  | veptr (key w o i k : Nat)
  | nilslc
  | agg (cs : List SV)
  | tup (vs : List SV)
  | iface (t : TypeId) (v : SV)
  | niliface
  | func (fn : Fn) (first captured : List SV)
  | nilfunc
  | yield (key : Nat)
  | map (key : Nat)
  | nilmap
  | raw (v : Value)
mutual
def SV.val (E : Nat → Nat) : SV → Value
  | .int k _ n => .int k n
  | .bool _ b => .bool b
  | .str _ s => .string ⟨s.toArray⟩
  | .ptr key _ o => .pointer (some ⟨E key, o, none⟩)
  | .eptr key w i k => .pointer (some ⟨E key, i * w + k, none⟩)
  | .aptr key base _ i => .pointer (some ⟨E key, base + i, none⟩)
  | .nilptr => .pointer none
  | .slc key o n _ c => .slice (some ⟨E key, o, none⟩) n c
  | .rslc key w z i n c => .slice (bif z && Nat.beq n 0 then none else some ⟨E key, i * w, none⟩) n (bif z && Nat.beq n 0 then 0 else c)
  | .vslc key w z o i n c => .slice (bif z && Nat.beq n 0 then none else some ⟨E key, o + i * w, none⟩) n (bif z && Nat.beq n 0 then 0 else c)
  | .veptr key w o i k => .pointer (some ⟨E key, o + i * w + k, none⟩)
  | .nilslc => .slice none 0 0
  | .agg cs => .agg (SV.vals E cs).toArray
  | .tup vs => .tuple (SV.vals E vs).toArray
  | .iface t v => .iface t (v.val E)
  | .niliface => .nilIface
  | .func fn a b => .func fn (SV.vals E a).toArray (SV.vals E b).toArray
  | .nilfunc => .nilFunc
  | .yield key => .func (.yield (E key)) #[] #[]
  | .map key => .map (some (E key))
  | .nilmap => .map none
  | .raw v => v
def SV.vals (E : Nat → Nat) : List SV → List Value
  | [] => []
  | x :: r => x.val E :: SV.vals E r
end
theorem SV.vals_eq (E : Nat → Nat) (l : List SV) : SV.vals E l = l.map (SV.val E) := by
  induction l with
  | nil => rfl
  | cons x r ih => simp [SV.vals, ih]
mutual
def SV.wf (nx : Nat) : SV → Bool
  | .ptr key _ _ => Nat.blt key nx
  | .eptr key _ _ _ => Nat.blt key nx
  | .aptr key _ _ _ => Nat.blt key nx
  | .slc key _ _ _ _ => Nat.blt key nx
  | .rslc key _ _ _ _ _ => Nat.blt key nx
  | .vslc key _ _ _ _ _ _ => Nat.blt key nx
  | .veptr key _ _ _ _ => Nat.blt key nx
  | .map key => Nat.blt key nx
  | .yield key => Nat.blt key nx
  | .agg cs => SV.wfs nx cs
  | .tup vs => SV.wfs nx vs
  | .iface _ v => v.wf nx
  | .func _ a b => SV.wfs nx a && SV.wfs nx b
  | _ => true
def SV.wfs (nx : Nat) : List SV → Bool
  | [] => true
  | x :: r => x.wf nx && SV.wfs nx r
end
mutual
theorem SV.val_congr {E E' : Nat → Nat} {nx : Nat} (h : ∀ k, k < nx → E' k = E k) : (v : SV) → v.wf nx = true → v.val E' = v.val E
  | .int .., _ => rfl
  | .bool .., _ => rfl
  | .str .., _ => rfl
  | .ptr key _ _, hw => by simp [SV.wf, Nat.blt_eq] at hw; simp [SV.val, h key hw]
  | .eptr key _ _ _, hw => by simp [SV.wf, Nat.blt_eq] at hw; simp [SV.val, h key hw]
  | .aptr key _ _ _, hw => by simp [SV.wf, Nat.blt_eq] at hw; simp [SV.val, h key hw]
  | .nilptr, _ => rfl
  | .slc key _ _ _ _, hw => by simp [SV.wf, Nat.blt_eq] at hw; simp [SV.val, h key hw]
  | .rslc key _ _ _ _ _, hw => by simp [SV.wf, Nat.blt_eq] at hw; simp [SV.val, h key hw]
  | .vslc key _ _ _ _ _ _, hw => by simp [SV.wf, Nat.blt_eq] at hw; simp [SV.val, h key hw]
  | .veptr key _ _ _ _, hw => by simp [SV.wf, Nat.blt_eq] at hw; simp [SV.val, h key hw]
  | .nilslc, _ => rfl
  | .agg cs, hw => by simp only [SV.wf] at hw; simp only [SV.val, SV.vals_congr h cs hw]
  | .tup vs, hw => by simp only [SV.wf] at hw; simp only [SV.val, SV.vals_congr h vs hw]
  | .iface _ v, hw => by simp only [SV.wf] at hw; simp only [SV.val, SV.val_congr h v hw]
  | .niliface, _ => rfl
  | .func _ a b, hw => by simp only [SV.wf, Bool.and_eq_true] at hw; simp only [SV.val, SV.vals_congr h a hw.1, SV.vals_congr h b hw.2]
  | .nilfunc, _ => rfl
  | .map key, hw => by simp [SV.wf, Nat.blt_eq] at hw; simp [SV.val, h key hw]
  | .yield key, hw => by simp [SV.wf, Nat.blt_eq] at hw; simp [SV.val, h key hw]
  | .nilmap, _ => rfl
  | .raw _, _ => rfl
theorem SV.vals_congr {E E' : Nat → Nat} {nx : Nat} (h : ∀ k, k < nx → E' k = E k) : (l : List SV) → SV.wfs nx l = true → SV.vals E' l = SV.vals E l
  | [], _ => rfl
  | x :: r, hw => by simp only [SV.wfs, Bool.and_eq_true] at hw; simp only [SV.vals, SV.val_congr h x hw.1, SV.vals_congr h r hw.2]
end
mutual
theorem SV.wf_mono {n m : Nat} (h : n ≤ m) : (v : SV) → v.wf n = true → v.wf m = true
  | .int .., _ => rfl
  | .bool .., _ => rfl
  | .str .., _ => rfl
  | .ptr key _ _, hw => by simp [SV.wf, Nat.blt_eq] at hw ⊢; omega
  | .eptr key _ _ _, hw => by simp [SV.wf, Nat.blt_eq] at hw ⊢; omega
  | .aptr key _ _ _, hw => by simp [SV.wf, Nat.blt_eq] at hw ⊢; omega
  | .nilptr, _ => rfl
  | .slc key _ _ _ _, hw => by simp [SV.wf, Nat.blt_eq] at hw ⊢; omega
  | .rslc key _ _ _ _ _, hw => by simp [SV.wf, Nat.blt_eq] at hw ⊢; omega
  | .vslc key _ _ _ _ _ _, hw => by simp [SV.wf, Nat.blt_eq] at hw ⊢; omega
  | .veptr key _ _ _ _, hw => by simp [SV.wf, Nat.blt_eq] at hw ⊢; omega
  | .nilslc, _ => rfl
  | .agg cs, hw => by simp only [SV.wf] at hw ⊢; exact SV.wfs_mono h cs hw
  | .tup vs, hw => by simp only [SV.wf] at hw ⊢; exact SV.wfs_mono h vs hw
  | .iface _ v, hw => by simp only [SV.wf] at hw ⊢; exact SV.wf_mono h v hw
  | .niliface, _ => rfl
  | .func _ a b, hw => by simp only [SV.wf, Bool.and_eq_true] at hw ⊢; exact ⟨SV.wfs_mono h a hw.1, SV.wfs_mono h b hw.2⟩
  | .nilfunc, _ => rfl
  | .map key, hw => by simp [SV.wf, Nat.blt_eq] at hw ⊢; omega
  | .yield key, hw => by simp [SV.wf, Nat.blt_eq] at hw ⊢; omega
  | .nilmap, _ => rfl
  | .raw _, _ => rfl
theorem SV.wfs_mono {n m : Nat} (h : n ≤ m) : (l : List SV) → SV.wfs n l = true → SV.wfs m l = true
  | [], _ => rfl
  | x :: r, hw => by simp only [SV.wfs, Bool.and_eq_true] at hw ⊢; exact ⟨SV.wf_mono h x hw.1, SV.wfs_mono h r hw.2⟩
end
def SV.isCell : SV → Bool
  | .agg _ | .tup _ => false
  | .raw (.pointer _) => true
  | .raw _ => false
  | _ => true
theorem SV.isCell_one {E : Nat → Nat} {v : SV} (h : v.isCell = true) : (v.val E).oneCell' = true := by
  cases v
  case raw u => cases u <;> simp_all [SV.isCell, SV.val, Value.oneCell']
  all_goals simp_all [SV.isCell, SV.val, Value.oneCell']
def SV.cells : SV → List SV
  | .agg cs => cs
  | v => [v]
def SV.plain : SV → Bool
  | .raw (.pointer _) => true
  | .raw _ => false
  | _ => true
theorem SV.cells_val {E : Nat → Nat} {v : SV} (h : v.plain = true) : (v.val E).cells = (v.cells.map (SV.val E)).toArray := by
  cases v
  case raw u => cases u <;> simp_all [SV.plain, SV.cells, SV.val, Value.cells]
  all_goals simp_all [SV.plain, SV.cells, SV.val, Value.cells, SV.vals_eq]
def SV.ofCell : Value → Option SV
  | .int k n => some (.int k true n)
  | .bool b => some (.bool true b)
  | .string s => some (.str true s.data.toList)
  | .pointer none => some .nilptr
  | .slice none 0 0 => some .nilslc
  | .map none => some .nilmap
  | .nilFunc => some .nilfunc
  | .nilIface => some .niliface
  | _ => none
def SV.ofCells : List Value → Option (List SV)
  | [] => some []
  | v :: r => match SV.ofCell v, SV.ofCells r with
    | some x, some l => some (x :: l)
    | _, _ => none
def SV.ofConst : Value → Option SV
  | .agg cs => match SV.ofCells cs.toList with
    | some l => some (.agg l)
    | none => none
  | v => SV.ofCell v
theorem SV.ofCell_val {E : Nat → Nat} {v : Value} {x : SV} (h : SV.ofCell v = some x) : x.val E = v := by
  unfold SV.ofCell at h
  split at h <;> first | (injection h with h; subst h; simp [SV.val]; done) | cases h
theorem SV.ofCells_val {E : Nat → Nat} {l : List Value} {xs : List SV} (h : SV.ofCells l = some xs) : xs.map (SV.val E) = l := by
  induction l generalizing xs with
  | nil => simp [SV.ofCells] at h; subst h; rfl
  | cons v r ih =>
    simp only [SV.ofCells] at h
    split at h
    · rename_i x l' hx hl
      injection h with h; subst h
      simp [SV.ofCell_val hx, ih hl]
    · cases h
theorem SV.ofConst_val {E : Nat → Nat} {v : Value} {x : SV} (h : SV.ofConst v = some x) : x.val E = v := by
  unfold SV.ofConst at h
  split at h
  · split at h
    · rename_i cs l hl
      injection h with h; subst h
      have := SV.ofCells_val (E := E) hl
      simp [SV.val, SV.vals_eq, this]
    · cases h
  · exact SV.ofCell_val h
inductive Col where
  | int (k : IntKind) (f : Nat → Int)
  | bool (f : Nat → Bool)
  | str (f : Nat → List UInt8)
  | raw (f : Nat → Value)
def Col.at (i : Nat) : Col → SV
  | .int k f => .int k false (f i)
  | .bool f => .bool false (f i)
  | .str f => .str false (f i)
  | .raw f => .raw (f i)
theorem Col.at_wf (i nx : Nat) (c : Col) : (c.at i).wf nx = true := by cases c <;> rfl
inductive SB where
  | cells (cs : List SV) (tot : Nat) (ty : TypeId)
  | rows (z : Bool) (n : Nat) (cols : List Col) (ro : Bool) (tot : Nat) (ty : TypeId)
  | view (z : Bool) (o n : Nat) (cols : List Col)
  | loop (st : LoopState) (pend : Option Code) (R : Loop)
def SB.ro : SB → Bool
  | .cells .. => false
  | .rows _ _ _ ro _ _ => ro
  | .view .. => true
  | .loop .. => false
def SB.no : SB → Bool
  | .cells .. => false
  | .rows z n _ _ _ _ => z && Nat.beq n 0
  | .view z _ n _ => z && Nat.beq n 0
  | .loop .. => false
theorem SB.no_rows {z : Bool} {n : Nat} {cols : List Col} {ro : Bool} {tot : Nat} {ty : TypeId} {i : Nat} (h : i < n) : (SB.rows z n cols ro tot ty).no = false := by
  have : Nat.beq n 0 = false := by cases n with
    | zero => omega
    | succ n => rfl
  simp [SB.no, this]
theorem SB.no_view {z : Bool} {n : Nat} {cols : List Col} {o i : Nat} (h : i < n) : (SB.view z o n cols).no = false := by
  have : Nat.beq n 0 = false := by cases n with
    | zero => omega
    | succ n => rfl
  simp [SB.no, this]
def SB.wf (nx : Nat) : SB → Bool
  | .cells cs _ _ => SV.wfs nx cs
  | .rows .. => true
  | .view .. => true
  | .loop .. => true
abbrev Mem := List (Nat × SB)
def Mem.get (key : Nat) : Mem → Option SB
  | [] => none
  | e :: r => if e.1 = key then some e.2 else Mem.get key r
def Mem.put (key : Nat) (B : SB) : Mem → Mem
  | [] => []
  | e :: r => if e.1 = key then (e.1, B) :: r else e :: Mem.put key B r
def Mem.drop (key : Nat) : Mem → Mem
  | [] => []
  | e :: r => if e.1 = key then Mem.drop key r else e :: Mem.drop key r
def Mem.wf (nx : Nat) : Mem → Bool
  | [] => true
  | e :: r => e.2.wf nx && Mem.wf nx r
theorem Mem.get_put {key : Nat} {B : SB} {m : Mem} {k : Nat} {X : SB} (h : (Mem.put key B m).get k = some X) :
    (k = key ∧ X = B ∧ (m.get k).isSome) ∨ (k ≠ key ∧ m.get k = some X) := by
  induction m with
  | nil => simp [Mem.put, Mem.get] at h
  | cons e r ih =>
    by_cases he : e.1 = key
    · by_cases hk : key = k
      · subst hk
        rw [Mem.put, if_pos he, Mem.get, if_pos he] at h
        injection h with h
        exact .inl ⟨rfl, h.symm, by rw [Mem.get, if_pos he]; rfl⟩
      · rw [Mem.put, if_pos he, Mem.get, if_neg (fun x => hk (he.symm.trans x))] at h
        rw [Mem.get, if_neg (fun x => hk (he.symm.trans x))]
        exact .inr ⟨fun e => hk e.symm, h⟩
    · rw [Mem.put, if_neg he] at h
      by_cases hk : e.1 = k
      · rw [Mem.get, if_pos hk] at h ⊢
        exact .inr ⟨fun e => he (hk.trans e), h⟩
      · rw [Mem.get, if_neg hk] at h ⊢
        exact ih h
theorem Mem.get_put_ne {key : Nat} {B : SB} {m : Mem} {k : Nat} (h : k ≠ key) : (Mem.put key B m).get k = m.get k := by
  induction m with
  | nil => rfl
  | cons e r ih =>
    by_cases he : e.1 = key
    · rw [Mem.put, if_pos he, Mem.get, if_neg (fun x => h (x.symm.trans he)), Mem.get, if_neg (fun x => h (x.symm.trans he))]
    · rw [Mem.put, if_neg he]
      by_cases hk : e.1 = k
      · rw [Mem.get, if_pos hk, Mem.get, if_pos hk]
      · rw [Mem.get, if_neg hk, Mem.get, if_neg hk]; exact ih
theorem Mem.get_drop {key : Nat} {m : Mem} {k : Nat} {X : SB} (h : (Mem.drop key m).get k = some X) : k ≠ key ∧ m.get k = some X := by
  induction m with
  | nil => simp [Mem.drop, Mem.get] at h
  | cons e r ih =>
    by_cases he : e.1 = key
    · rw [Mem.drop, if_pos he] at h
      have := ih h
      refine ⟨this.1, ?_⟩
      rw [Mem.get, if_neg (fun e => this.1 (e.symm.trans he))]; exact this.2
    · rw [Mem.drop, if_neg he] at h
      by_cases hk : e.1 = k
      · rw [Mem.get, if_pos hk] at h ⊢
        exact ⟨fun e => he (hk.trans e), h⟩
      · rw [Mem.get, if_neg hk] at h ⊢
        exact ih h
theorem Mem.wf_get {nx : Nat} {m : Mem} (h : m.wf nx = true) {k : Nat} {B : SB} (hg : m.get k = some B) : B.wf nx = true := by
  induction m with
  | nil => cases hg
  | cons e r ih =>
    simp only [Mem.wf, Bool.and_eq_true] at h
    by_cases hk : e.1 = k
    · simp only [Mem.get, hk, if_true] at hg; injection hg with hg; subst hg; exact h.1
    · simp only [Mem.get, hk, if_false] at hg; exact ih h.2 hg
def BlkOk (E : Nat → Nat) : SB → Obj → Prop
  | .cells cs tot ty, o => ∃ c fr, o = .cells c ty fr ∧ (∀ i, c.size ≤ i ∨ ¬ (fr.1 ≤ i ∧ i < fr.2)) ∧
      (∀ (i : Nat) (v : SV), cs[i]? = some v → c[i]? = some (v.val E)) ∧ c.size = tot
  | .rows _ n cols ro tot ty, o => ∃ c fr, o = .cells c ty fr ∧ (ro = false → ∀ i, c.size ≤ i ∨ ¬ (fr.1 ≤ i ∧ i < fr.2)) ∧
      n * cols.length ≤ c.size ∧ c.size = tot ∧ (∀ (i k : Nat) (col : Col), i < n → cols[k]? = some col → c[i * cols.length + k]? = some ((col.at i).val E))
  | .view _ o n cols, ob => ∃ c ty fr, ob = .cells c ty fr ∧ (∀ (i k : Nat) (col : Col), i < n → cols[k]? = some col → c[o + i * cols.length + k]? = some ((col.at i).val E))
  | .loop st pend R, ob => ob = .loop { R with state := st, pending := pend }
theorem SV.wfs_get {nx : Nat} {l : List SV} (h : SV.wfs nx l = true) {i : Nat} {v : SV} (hg : l[i]? = some v) : v.wf nx = true := by
  induction l generalizing i with
  | nil => cases hg
  | cons x r ih =>
    simp only [SV.wfs, Bool.and_eq_true] at h
    cases i with
    | zero => simp at hg; subst hg; exact h.1
    | succ i => exact ih h.2 (by simpa using hg)
theorem BlkOk.congr {E E' : Nat → Nat} {nx : Nat} (h : ∀ k, k < nx → E' k = E k) {B : SB} (hw : B.wf nx = true) {o : Obj} (hb : BlkOk E B o) : BlkOk E' B o := by
  cases B with
  | cells cs tot ty =>
    obtain ⟨c, fr, rfl, h1, h2, h3⟩ := hb
    exact ⟨c, fr, rfl, h1, fun i v hv => by rw [SV.val_congr h v (SV.wfs_get hw hv)]; exact h2 i v hv, h3⟩
  | rows z n cols ro tot ty =>
    obtain ⟨c, fr, rfl, h1, h2, ht, h3⟩ := hb
    exact ⟨c, fr, rfl, h1, h2, ht, fun i k col hi hk => by rw [SV.val_congr h _ (Col.at_wf i nx col)]; exact h3 i k col hi hk⟩
  | view z o n cols =>
    obtain ⟨c, ty, fr, rfl, h3⟩ := hb
    exact ⟨c, ty, fr, rfl, fun i k col hi hk => by rw [SV.val_congr h _ (Col.at_wf i nx col)]; exact h3 i k col hi hk⟩
  | loop st pend R => exact hb
theorem BlkOk.not_mark {E : Nat → Nat} {B : SB} {o : Obj} (h : BlkOk E B o) (ds : Option (List Deferred)) : o ≠ .deferred ds := by
  cases B with
  | cells => obtain ⟨c, fr, rfl, _⟩ := h; intro e; cases e
  | rows => obtain ⟨c, fr, rfl, _⟩ := h; intro e; cases e
  | view => obtain ⟨c, ty, fr, rfl, _⟩ := h; intro e; cases e
  | loop => subst h; intro e; cases e
structure Ext (M : Nat → Prop) (w w' : World) : Prop where
  os : w'.os = w.os
  tape : w'.tape = w.tape
  output : w'.output = w.output
  size : w.heap.size ≤ w'.heap.size
  block : ∀ k, k < w.heap.size → ¬ M k → w'.heap[k]? = w.heap[k]?
theorem Ext.refl (M : Nat → Prop) (w : World) : Ext M w w := ⟨rfl, rfl, rfl, Nat.le_refl _, fun _ _ _ => rfl⟩
theorem Ext.trans {M : Nat → Prop} {a b c : World} (h : Ext M a b) (k : Ext M b c) : Ext M a c :=
  ⟨k.os.trans h.os, k.tape.trans h.tape, k.output.trans h.output, Nat.le_trans h.size k.size,
    fun i hi hm => (k.block i (Nat.lt_of_lt_of_le hi h.size) hm).trans (h.block i hi hm)⟩
theorem Ext.below {M : Nat → Prop} {a b : World} (h : Ext M a b) (hM : ∀ k, ¬ M k) : RowKit.Below a.heap.size a b :=
  ⟨h.os, h.tape, h.output, h.size, fun k hk => h.block k hk (hM k)⟩
theorem Ext.of_below {M : Nat → Prop} {a b : World} (h : RowKit.Below a.heap.size a b) : Ext M a b :=
  ⟨h.os, h.tape, h.output, h.size, fun k hk _ => h.block k hk⟩
def GlobOk (w : World) : Prop := ∀ p ∈ globList, ∃ c ty fr, w.heap[p.1]? = some (.cells c ty fr) ∧ ∀ (i : Nat) (v : Value), p.2[i]? = some v → c[i]? = some v
structure Base where
  w0 : World
  M0 : Nat → Prop
  E0 : Nat → Nat
  nx0 : Nat
  keep : List Nat
  gl : GlobOk w0
  gm : ∀ p ∈ globList, ¬ M0 p.1
structure Base.le (Γ Δ : Base) : Prop where
  w : Δ.w0 = Γ.w0
  m : Δ.M0 = Γ.M0
  nx : Γ.nx0 ≤ Δ.nx0
  e : ∀ k, k < Γ.nx0 → Δ.E0 k = Γ.E0 k
  keep : ∀ D, D ∈ Γ.keep → D ∈ Δ.keep
theorem Base.le_refl (Γ : Base) : Γ.le Γ := ⟨rfl, rfl, Nat.le_refl _, fun _ _ => rfl, fun _ h => h⟩
theorem Base.le_trans {Γ Δ Θ : Base} (h : Γ.le Δ) (h' : Δ.le Θ) : Γ.le Θ :=
  ⟨h'.w.trans h.w, h'.m.trans h.m, Nat.le_trans h.nx h'.nx, fun k hk => (h'.e k (Nat.lt_of_lt_of_le hk h.nx)).trans (h.e k hk), fun D hD => h'.keep D (h.keep D hD)⟩
structure SatM (Γ : Base) (E : Nat → Nat) (m : Mem) (nx : Nat) (w : World) : Prop where
  blk : ∀ k B, m.get k = some B → B.no = false → ∃ o, w.heap[E k]? = some o ∧ BlkOk E B o
  inj : ∀ k k' B B', m.get k = some B → B.no = false → m.get k' = some B' → B'.no = false → (B.ro = false ∨ B'.ro = false) → E k = E k' → k = k'
  lt : ∀ k B, m.get k = some B → k < nx
  own : ∀ k B, m.get k = some B → B.no = false → B.ro = false → Γ.M0 (E k) ∨ Γ.w0.heap.size ≤ E k
  ext : Ext Γ.M0 Γ.w0 w
  cx : Γ.nx0 ≤ nx ∧ ∀ k, k < Γ.nx0 → E k = Γ.E0 k
  kp : ∀ D ∈ Γ.keep, w.heap[D]? = some (.deferred (some []))
theorem SatM.glob {Γ E m nx w} (h : SatM Γ E m nx w) : GlobOk w := fun p hp => by
  obtain ⟨c, ty, fr, hg, hc⟩ := Γ.gl p hp
  exact ⟨c, ty, fr, by rw [h.ext.block p.1 (Array.getElem?_eq_some_iff.1 hg).1 (Γ.gm p hp)]; exact hg, hc⟩
theorem SatM.drew {Γ E m nx w} (h : SatM Γ E m nx w) (n : Nat) : SatM Γ E m nx { w with drawn := n } :=
  ⟨h.blk, h.inj, h.lt, h.own, ⟨h.ext.os, h.ext.tape, h.ext.output, h.ext.size, h.ext.block⟩, h.cx, h.kp⟩
theorem SatM.sub {Γ E m nx w} (h : SatM Γ E m nx w) {m' : Mem} (hs : ∀ k B, m'.get k = some B → m.get k = some B) {nx' : Nat}
    (hn : ∀ k B, m'.get k = some B → k < nx') (hnx : nx ≤ nx' ∨ Γ.nx0 ≤ nx') : SatM Γ E m' nx' w :=
  ⟨fun k B hk => h.blk k B (hs k B hk), fun k k' B B' hk hn hk' => h.inj k k' B B' (hs _ _ hk) hn (hs _ _ hk'), hn, fun k B hk => h.own k B (hs k B hk), h.ext, ⟨by rcases hnx with h1 | h1; exact Nat.le_trans h.cx.1 h1; exact h1, h.cx.2⟩, h.kp⟩
theorem Mem.get_cons {k0 : Nat} {B0 : SB} {m : Mem} {k : Nat} {B : SB} (h : Mem.get k ((k0, B0) :: m) = some B) : (k = k0 ∧ B = B0) ∨ (k ≠ k0 ∧ m.get k = some B) := by
  by_cases e : k0 = k
  · simp only [Mem.get, e, if_true] at h; injection h with h; exact .inl ⟨e.symm, h.symm⟩
  · simp only [Mem.get, e, if_false] at h; exact .inr ⟨fun x => e x.symm, h⟩
theorem SatM.push {Γ E m nx w} (h : SatM Γ E m nx w) (hw : Mem.wf nx m = true) {m' : Mem} (hsub : ∀ k B, m'.get k = some B → m.get k = some B) {b : Nat} {B : SB} {w' : World}
    (hE : ∀ k X, m'.get k = some X → X.no = false → E k ≠ b) (hkeep : ∀ i, i ≠ b → i < w.heap.size → w'.heap[i]? = w.heap[i]?) (hx : Ext Γ.M0 Γ.w0 w')
    (hown : B.no = false → B.ro = false → Γ.M0 b ∨ Γ.w0.heap.size ≤ b) (hkb : ∀ D ∈ Γ.keep, D ≠ b)
    (hB : B.no = false → ∃ o, w'.heap[b]? = some o ∧ BlkOk (fun k => if k = nx then b else E k) B o) :
    SatM Γ (fun k => if k = nx then b else E k) ((nx, B) :: m') (nx + 1) w' := by
  have hE' : ∀ k, k < nx → (fun k => if k = nx then b else E k) k = E k := fun k hk => by simp [Nat.ne_of_lt hk]
  refine ⟨?_, ?_, ?_, ?_, hx, ⟨Nat.le_succ_of_le h.cx.1, fun k hk => (hE' k (Nat.lt_of_lt_of_le hk h.cx.1)).trans (h.cx.2 k hk)⟩, fun D hD => by
    have hd := h.kp D hD
    rw [hkeep D (hkb D hD) (Array.getElem?_eq_some_iff.1 hd).1]; exact hd⟩
  · intro k X hk hn
    rcases Mem.get_cons hk with ⟨rfl, rfl⟩ | ⟨hne, hk⟩
    · simp only [if_true]; exact hB hn
    · obtain ⟨o, ho, hb⟩ := h.blk k X (hsub k X hk) hn
      refine ⟨o, ?_, hb.congr hE' (Mem.wf_get hw (hsub k X hk))⟩
      simp only [hne, if_false]
      rw [hkeep _ (hE k X hk hn) (Array.getElem?_eq_some_iff.1 ho).1]; exact ho
  · intro k k' X X' hk hn hk' hn' hr e
    rcases Mem.get_cons hk with ⟨e1, _⟩ | ⟨hne, hk1⟩ <;> rcases Mem.get_cons hk' with ⟨e2, _⟩ | ⟨hne', hk1'⟩
    · exact e1.trans e2.symm
    · subst e1
      simp only [if_true, hne', if_false] at e
      exact absurd e.symm (hE k' X' hk1' hn')
    · subst e2
      simp only [if_true, hne, if_false] at e
      exact absurd e (hE k X hk1 hn)
    · simp only [hne, hne', if_false] at e
      exact h.inj k k' X X' (hsub _ _ hk1) hn (hsub _ _ hk1') hn' hr e
  · intro k X hk
    rcases Mem.get_cons hk with ⟨rfl, rfl⟩ | ⟨hne, hk⟩
    · omega
    · have := h.lt k X (hsub k X hk); omega
  · intro k X hk hn hro
    rcases Mem.get_cons hk with ⟨rfl, rfl⟩ | ⟨hne, hk⟩
    · simp only [if_true]; exact hown hn hro
    · simp only [hne, if_false]; exact h.own k X (hsub k X hk) hn hro
theorem SatM.alloc {Γ E m nx w} (h : SatM Γ E m nx w) (hw : Mem.wf nx m = true) {B : SB} {o : Obj}
    (hB : BlkOk (fun k => if k = nx then w.heap.size else E k) B o) :
    SatM Γ (fun k => if k = nx then w.heap.size else E k) ((nx, B) :: m) (nx + 1) { w with heap := w.heap.push o } := by
  refine h.push hw (fun _ _ h => h) (fun k X hk hn => ?_) (fun i hi hlt => ?_) ⟨h.ext.os, h.ext.tape, h.ext.output, ?_, fun k hk hm => ?_⟩ (fun _ _ => .inr h.ext.size) (fun D hD => Nat.ne_of_lt (Array.getElem?_eq_some_iff.1 (h.kp D hD)).1) fun _ => ⟨o, by simp, hB⟩
  · obtain ⟨o', ho, _⟩ := h.blk k X hk hn
    exact Nat.ne_of_lt (Array.getElem?_eq_some_iff.1 ho).1
  · show (w.heap.push o)[i]? = _
    rw [Array.getElem?_push, if_neg hi]
  · have := h.ext.size; simp; omega
  · show (w.heap.push o)[k]? = _
    have := h.ext.size
    rw [Array.getElem?_push, if_neg (by omega)]; exact h.ext.block k hk hm
theorem SatM.not_mark {Γ E m nx w} (h : SatM Γ E m nx w) {k : Nat} {B : SB} (hk : m.get k = some B) (hn : B.no = false) : ∀ D ∈ Γ.keep, D ≠ E k := fun D hD e => by
  obtain ⟨o, ho, hb⟩ := h.blk k B hk hn
  have := h.kp D hD
  rw [e, ho] at this
  exact hb.not_mark _ (Option.some.inj this)
theorem SatM.extWrite {Γ E m nx w} (h : SatM Γ E m nx w) {k : Nat} {B : SB} (hk : m.get k = some B) (hn : B.no = false) (hro : B.ro = false) (o : Obj) :
    Ext Γ.M0 Γ.w0 { w with heap := w.heap.setIfInBounds (E k) o } := by
  refine ⟨h.ext.os, h.ext.tape, h.ext.output, by simpa using h.ext.size, fun i hi hm => ?_⟩
  show (w.heap.setIfInBounds (E k) o)[i]? = _
  have : E k ≠ i := fun e => by
    rcases h.own k B hk hn hro with h' | h'
    · exact hm (e ▸ h')
    · omega
  rw [Array.getElem?_setIfInBounds_ne this]; exact h.ext.block i hi hm
theorem SatM.write {Γ E m nx w} (h : SatM Γ E m nx w) {k : Nat} {B B' : SB} (hk : m.get k = some B) (hn : B.no = false) (hro : B.ro = false) {o : Obj}
    (hB : BlkOk E B' o) (hro' : B'.ro = false) : SatM Γ E (m.put k B') nx { w with heap := w.heap.setIfInBounds (E k) o } := by
  obtain ⟨o0, ho0, _⟩ := h.blk k B hk hn
  have hlt := (Array.getElem?_eq_some_iff.1 ho0).1
  refine ⟨?_, ?_, ?_, ?_, h.extWrite hk hn hro o, h.cx, fun D hD => ?_⟩
  rotate_right
  · show (w.heap.setIfInBounds (E k) o)[D]? = _
    rw [Array.getElem?_setIfInBounds_ne (fun e => h.not_mark hk hn D hD e.symm)]; exact h.kp D hD
  · intro j X hj hnx
    rcases Mem.get_put hj with ⟨rfl, rfl, _⟩ | ⟨hne, hj⟩
    · exact ⟨o, by simp [hlt], hB⟩
    · obtain ⟨o', ho', hb⟩ := h.blk j X hj hnx
      refine ⟨o', ?_, hb⟩
      have : E k ≠ E j := fun e => hne (h.inj k j B X hk hn hj hnx (.inl hro) e).symm
      show (w.heap.setIfInBounds (E k) o)[E j]? = _
      rw [Array.getElem?_setIfInBounds_ne this]; exact ho'
  · intro j j' X X' hj hnj hj' hnj' hr e
    rcases Mem.get_put hj with ⟨e1, _, _⟩ | ⟨_, hj1⟩ <;> rcases Mem.get_put hj' with ⟨e2, _, _⟩ | ⟨_, hj2⟩
    · exact e1.trans e2.symm
    · subst e1; exact h.inj _ _ _ _ hk hn hj2 hnj' (.inl hro) e
    · subst e2; exact h.inj _ _ _ _ hj1 hnj hk hn (.inr hro) e
    · exact h.inj _ _ _ _ hj1 hnj hj2 hnj' hr e
  · intro j X hj
    rcases Mem.get_put hj with ⟨rfl, _, hs⟩ | ⟨_, hj⟩
    · exact h.lt _ _ hk
    · exact h.lt _ _ hj
  · intro j X hj hnj hr
    rcases Mem.get_put hj with ⟨rfl, rfl, hs⟩ | ⟨_, hj⟩
    · exact h.own _ _ hk hn hro
    · exact h.own _ _ hj hnj hr
theorem SatM.move {Γ E m nx w} (h : SatM Γ E m nx w) (hw : Mem.wf nx m = true) {k : Nat} {B B' : SB} (hk : m.get k = some B) (hn : B.no = false) (hro : B.ro = false) {o : Obj}
    (hB : BlkOk (fun j => if j = nx then E k else E j) B' o) :
    SatM Γ (fun j => if j = nx then E k else E j) ((nx, B') :: m.drop k) (nx + 1) { w with heap := w.heap.setIfInBounds (E k) o } := by
  obtain ⟨o0, ho0, _⟩ := h.blk k B hk hn
  have hlt := (Array.getElem?_eq_some_iff.1 ho0).1
  refine h.push hw (fun _ _ hj => (Mem.get_drop hj).2) (fun j X hj hnj e => (Mem.get_drop hj).1 (h.inj j k X B (Mem.get_drop hj).2 hnj hk hn (.inr hro) e)) (fun i hi hl => ?_) (h.extWrite hk hn hro o)
    (fun _ _ => h.own k B hk hn hro) (h.not_mark hk hn) fun _ => ⟨o, by simp [hlt], hB⟩
  show (w.heap.setIfInBounds (E k) o)[i]? = _
  rw [Array.getElem?_setIfInBounds_ne (fun e => hi e.symm)]
end Go.Proofs.YtkfdcapnogklfaaGreatDoor.Sx
/-
  The framework's second part: operations that leave the world alone.
-/
namespace Go.Proofs.YtkfdcapnogklfaaGreatDoor.Sx
open Go
theorem run_und {P : Program} {w : World} {t : TypeId} {d : TypeDesc} (h : P.underlying t = some d) : (underlying t).run P w = .ok d w := by
  simp [underlying, h]
theorem run_info {P : Program} {w : World} {t : TypeId} {i : TypeInfo} (h : P.info? t = some i) : (typeInfo t).run P w = .ok i w := by
  simp [typeInfo, h]
def sz (P : Program) (t : TypeId) : Option Nat := match P.info? t with | some i => some i.size | none => none
theorem run_sz {P : Program} {w : World} {t : TypeId} {n : Nat} (h : sz P t = some n) : (sizeOf t).run P w = .ok n w := by
  unfold sz at h
  split at h
  · rename_i i hi; injection h with h; subst h; simp [sizeOf, run_info hi]
  · cases h
def isAggD : TypeDesc → Bool
  | .struct _ => true
  | .array _ _ => true
  | _ => false
theorem run_isAgg {P : Program} {w : World} {t : TypeId} {d : TypeDesc} (h : P.underlying t = some d) : (isAgg t).run P w = .ok (isAggD d) w := by
  cases d <;> simp [isAgg, run_und h, isAggD]
theorem add_none (b o n : Nat) : (⟨b, o, none⟩ : Addr).add n = ⟨b, o + n, none⟩ := by
  unfold Addr.add; split <;> simp_all
theorem cell_of {w : World} {b o : Nat} {c : Array Value} {ty : TypeId} {fr : Nat × Nat} (h : w.heap[b]? = some (.cells c ty fr)) :
    w.cell? ⟨b, o, none⟩ = c[o]? := by
  simp [World.cell?, h]
theorem run_loadCellsFrom {P : Program} {w : World} {b : Nat} {c : Array Value} {ty : TypeId} {fr : Nat × Nat} (h : w.heap[b]? = some (.cells c ty fr)) (o : Nat) :
    ∀ (vs : List Value) (i : Nat) (acc : Array Value), (∀ j v, vs[j]? = some v → c[o + i + j]? = some v) →
      (loadCellsFrom ⟨b, o, none⟩ i vs.length acc).run P w = .ok (acc ++ vs.toArray) w := by
  intro vs
  induction vs with
  | nil => intro i acc _; simp [loadCellsFrom]
  | cons v r ih =>
    intro i acc hv
    have h0 := hv 0 v rfl
    simp only [List.length_cons, loadCellsFrom, Sem.run_bind, run_load, add_none, cell_of h]
    rw [show o + i + 0 = o + i from rfl] at h0
    rw [h0]
    simp only [Result.andThen_ok]
    rw [ih (i + 1) (acc.push v) (fun j u hu => by have := hv (j + 1) u (by simpa using hu); rw [← this]; congr 1; omega)]
    simp
theorem run_loadCells {P : Program} {w : World} {b : Nat} {c : Array Value} {ty : TypeId} {fr : Nat × Nat} (h : w.heap[b]? = some (.cells c ty fr)) (o : Nat)
    (vs : List Value) (hv : ∀ (j : Nat) v, vs[j]? = some v → c[o + j]? = some v) :
    (loadCells ⟨b, o, none⟩ vs.length).run P w = .ok vs.toArray w := by
  have := run_loadCellsFrom (P := P) h o vs 0 #[] (fun j v hj => by simpa using hv j v hj)
  simpa [loadCells] using this
def takeAt (cs : List SV) (o n : Nat) : Option (List SV) :=
  match o, cs with
  | 0, cs => (match n, cs with
    | 0, _ => some []
    | n + 1, x :: r => (match takeAt r 0 n with | some l => some (x :: l) | none => none)
    | _ + 1, [] => none)
  | o + 1, _ :: r => takeAt r o n
  | _ + 1, [] => none
termination_by structural cs
theorem takeAt_get : ∀ {cs : List SV} {o n : Nat} {l : List SV}, takeAt cs o n = some l → l.length = n ∧ ∀ j v, l[j]? = some v → cs[o + j]? = some v
  | cs, 0, 0, l, h => by
    cases cs <;> simp [takeAt] at h <;> subst h <;> simp
  | [], 0, n + 1, l, h => by simp [takeAt] at h
  | x :: r, 0, n + 1, l, h => by
    simp only [takeAt] at h
    split at h
    · rename_i l' hl
      injection h with h; subst h
      have := takeAt_get hl
      refine ⟨by simp [this.1], fun j v hj => ?_⟩
      cases j with
      | zero => simpa using hj
      | succ j => have := this.2 j v (by simpa using hj); simpa using this
    · cases h
  | [], o + 1, n, l, h => by simp [takeAt] at h
  | x :: r, o + 1, n, l, h => by
    simp only [takeAt] at h
    have := takeAt_get h
    refine ⟨this.1, fun j v hj => ?_⟩
    have := this.2 j v hj
    rw [show o + 1 + j = (o + j) + 1 by omega]; simpa using this
abbrev QT := (Option SV → VC) → VC
abbrev Look := Nat → Option SB
def Compat (E : Nat → Nat) (look : Look) (w : World) : Prop := (∀ k B, look k = some B → B.no = false → ∃ o, w.heap[E k]? = some o ∧ BlkOk E B o) ∧ GlobOk w
def Reads (E : Nat → Nat) (σ : Operand → Option SV) (ρ : Operand → Value) : Prop := ∀ x v, σ x = some v → ρ x = v.val E
def QOk (P : Program) (look : Look) (σ : Operand → Option SV) (s : (Operand → Value) → Sem Value) (t : QT) : Prop :=
  ∃ (obl : Prop) (sv : Option SV), (∀ K, (t K).holds ↔ obl ∧ (K sv).holds) ∧
    (∀ E w ρ, Compat E look w → Reads E σ ρ → obl → ∃ r, (s ρ).run P w = .ok r w ∧ ∀ v, sv = some v → r = v.val E)
section
variable {P : Program} {look : Look} {σ : Operand → Option SV} {s : (Operand → Value) → Sem Value}
theorem QOk.fail (why : String) : QOk P look σ s (fun _ => .fail why) :=
  ⟨False, none, fun _K => ⟨fun h => h.elim, fun h => h.1.elim⟩, fun _ _ _ _ _ h => h.elim⟩
theorem QOk.k (sv : Option SV) (h : ∀ E w ρ, Compat E look w → Reads E σ ρ → ∃ r, (s ρ).run P w = .ok r w ∧ ∀ v, sv = some v → r = v.val E) :
    QOk P look σ s (fun K => K sv) :=
  ⟨True, sv, fun _K => ⟨fun h => ⟨trivial, h⟩, fun h => h.2⟩, fun E w ρ hc hr _ => h E w ρ hc hr⟩
theorem QOk.v (v : SV) (h : ∀ E w ρ, Compat E look w → Reads E σ ρ → (s ρ).run P w = .ok (v.val E) w) : QOk P look σ s (fun K => K (some v)) :=
  QOk.k _ fun E w ρ hc hr => ⟨_, h E w ρ hc hr, fun v' hv => by injection hv with hv; rw [hv]⟩
theorem QOk.atom {p : Prop} {t : QT} (h : p → QOk P look σ s t) : QOk P look σ s (fun K => .and (.atom p) (t K)) := by
  by_cases hp : p
  · obtain ⟨obl, sv, h1, h2⟩ := h hp
    exact ⟨obl, sv, fun K => ⟨fun x => (h1 K).1 x.2, fun x => ⟨hp, (h1 K).2 x⟩⟩, h2⟩
  · exact ⟨False, none, fun K => ⟨fun x => (hp x.1).elim, fun x => x.1.elim⟩, fun _ _ _ _ _ h => h.elim⟩
theorem QOk.fork {b : Bool} {t : Bool → QT} (h : QOk P look σ s (t b)) : QOk P look σ s (fun K => Sx.fork b (fun c => t c K)) := by
  obtain ⟨obl, sv, h1, h2⟩ := h
  exact ⟨obl, sv, fun K => by rw [fork_iff]; exact h1 K, h2⟩
theorem QOk.ite {c : Prop} [Decidable c] {t u : QT} (h : c → QOk P look σ s t) (h' : ¬ c → QOk P look σ s u) :
    QOk P look σ s (fun K => if c then t K else u K) := by
  by_cases hc : c
  · simp only [hc, if_true]; exact h hc
  · simp only [hc, if_false]; exact h' hc
end
/-! ### The loading of a variable -/
def lo : IntKind → Int
  | .i8 => -128 | .i16 => -32768 | .i32 => -2147483648 | .i64 => -9223372036854775808
  | _ => 0
def hi : IntKind → Int
  | .i8 => 127 | .i16 => 32767 | .i32 => 2147483647 | .i64 => 9223372036854775807
  | .u8 => 255 | .u16 => 65535 | .u32 => 4294967295 | .u64 => 18446744073709551615
def md : IntKind → Int
  | .i8 | .u8 => 256 | .i16 | .u16 => 65536 | .i32 | .u32 => 4294967296 | .i64 | .u64 => 18446744073709551616
theorem wrap_in {k : IntKind} {n : Int} (h : lo k ≤ n ∧ n ≤ hi k) : k.wrap n = n := by
  obtain ⟨h1, h2⟩ := h
  cases k <;> simp only [lo, hi] at h1 h2 <;> simp only [IntKind.wrap, IntKind.bits, IntKind.signed] <;> simp <;> (try split) <;> omega
theorem wrap_un {k : IntKind} (hs : k.signed = false) (n : Int) : k.wrap n = n % md k := by
  cases k <;> simp [IntKind.signed] at hs <;> simp [IntKind.wrap, IntKind.bits, IntKind.signed, md]
def intsAt (k : IntKind) : List SV → Option (List Int)
  | [] => some []
  | .int k' _ n :: r => if k = k' then (match intsAt k r with
    | some l => some (n :: l)
    | none => none) else none
  | _ :: _ => none
def kindAt : List SV → IntKind
  | .int k _ _ :: _ => k
  | _ => .i64
def sel (l : List Int) (i : Nat) : Int := l.getD i 0
theorem intsAt_get {k : IntKind} : ∀ {cs : List SV} {l : List Int}, intsAt k cs = some l → l.length = cs.length ∧ ∀ (i : Nat) (v : SV), cs[i]? = some v → ∃ b, v = .int k b (sel l i)
  | [], l, h => by simp [intsAt] at h; subst h; exact ⟨rfl, fun i v hv => by simp at hv⟩
  | .int k' b n :: r, l, h => by
    simp only [intsAt] at h
    split at h
    · rename_i e; subst e
      split at h
      · rename_i l' hl
        injection h with h; subst h
        obtain ⟨h1, h2⟩ := intsAt_get hl
        refine ⟨by simp [h1], fun i v hv => ?_⟩
        cases i with
        | zero => simp at hv; subst hv; exact ⟨b, rfl⟩
        | succ i => obtain ⟨b', hb⟩ := h2 i v (by simpa using hv); exact ⟨b', by rw [hb]; rfl⟩
      · cases h
    · cases h
def strsAt : List SV → Option (List (List UInt8))
  | [] => some []
  | .str _ s :: r => (match strsAt r with
    | some l => some (s :: l)
    | none => none)
  | _ :: _ => none
def selS (l : List (List UInt8)) (i : Nat) : List UInt8 := l.getD i []
theorem strsAt_get : ∀ {cs : List SV} {l : List (List UInt8)}, strsAt cs = some l → ∀ (i : Nat) (v : SV), cs[i]? = some v → ∃ b, v = .str b (selS l i)
  | [], l, h, i, v, hv => by simp at hv
  | .str b s :: r, l, h, i, v, hv => by
    simp only [strsAt] at h
    split at h
    · rename_i l' hl
      injection h with h; subst h
      cases i with
      | zero => simp at hv; subst hv; exact ⟨b, rfl⟩
      | succ i => obtain ⟨b', hb⟩ := strsAt_get hl i v (by simpa using hv); exact ⟨b', by rw [hb]; rfl⟩
    · cases h
theorem strsAt_len : ∀ {cs : List SV} {l : List (List UInt8)}, strsAt cs = some l → l.length = cs.length
  | [], l, h => by simp [strsAt] at h; subst h; rfl
  | .str b s :: r, l, h => by
    simp only [strsAt] at h
    split at h
    · rename_i l' hl
      injection h with h; subst h
      simp [strsAt_len hl]
    · cases h
def takeCols (cols : List Col) (i k n : Nat) : Option (List SV) := takeAt (cols.map (Col.at i)) k n
noncomputable def globAt (g : Nat) : List (Nat × Array Value) → Option (Array Value)
  | [] => none
  | e :: r => if e.1 = g then some e.2 else globAt g r
theorem globAt_mem {g : Nat} : ∀ {l : List (Nat × Array Value)} {cs : Array Value}, globAt g l = some cs → (g, cs) ∈ l
  | [], _, h => by cases h
  | e :: r, cs, h => by
    simp only [globAt] at h
    split at h
    · rename_i he; injection h with h; subst h; subst he; exact List.mem_cons_self ..
    · exact List.mem_cons_of_mem _ (globAt_mem h)
def SV.ofGlob : Value → Option SV
  | .iface t (.agg cs) => some (.iface t (.agg (cs.toList.map SV.raw)))
  | v => SV.ofCell v
theorem SV.ofGlob_val {E : Nat → Nat} {v : Value} {x : SV} (h : SV.ofGlob v = some x) : x.val E = v := by
  unfold SV.ofGlob at h
  split at h
  · injection h with h; subst h
    have : ∀ l : List Value, SV.vals E (l.map SV.raw) = l := by
      intro l
      induction l with
      | nil => rfl
      | cons a r ih => simp only [List.map_cons, SV.vals, SV.val, ih]
    simp [SV.val, this]
  · exact SV.ofCell_val h
def valInts (k : IntKind) : List Value → Option (List Int)
  | [] => some []
  | .int k' n :: r => if k = k' then (match valInts k r with
    | some l => some (n :: l)
    | none => none) else none
  | _ :: _ => none
def valKind : List Value → Option IntKind
  | .int k _ :: _ :: _ => some k
  | _ => none
theorem valInts_get {k : IntKind} : ∀ {cs : List Value} {l : List Int}, valInts k cs = some l → l.length = cs.length ∧ ∀ (i : Nat), i < l.length → cs[i]? = some (.int k (sel l i))
  | [], l, h => by simp [valInts] at h; subst h; exact ⟨rfl, fun i hi => absurd hi (Nat.not_lt_zero _)⟩
  | v :: r, l, h => by
    unfold valInts at h
    split at h
    · rename_i e; cases e
    · rename_i k' n r' e
      injection e with e1 e2; subst e1; subst e2
      split at h
      · rename_i e; subst e
        split at h
        · rename_i l' hl
          injection h with h; subst h
          obtain ⟨h1, h2⟩ := valInts_get hl
          refine ⟨by simp [h1], fun i hi => ?_⟩
          cases i with
          | zero => rfl
          | succ i => simpa [sel] using h2 i (by simpa using hi)
        · cases h
      · cases h
    · cases h
def colFrom (c : Col) (o : Nat) : Nat → List SV
  | 0 => []
  | n + 1 => c.at o :: colFrom c (o + 1) n
theorem colFrom_len (c : Col) : ∀ (n o : Nat), (colFrom c o n).length = n
  | 0, _ => rfl
  | n + 1, o => by simp [colFrom, colFrom_len c n (o + 1)]
theorem colFrom_get (c : Col) : ∀ (n o j : Nat) (v : SV), (colFrom c o n)[j]? = some v → j < n ∧ v = c.at (o + j)
  | 0, _, j, v, h => by simp [colFrom] at h
  | n + 1, o, 0, v, h => by simp [colFrom] at h; exact ⟨Nat.succ_pos _, h.symm⟩
  | n + 1, o, j + 1, v, h => by
    simp only [colFrom, List.getElem?_cons_succ] at h
    obtain ⟨h1, h2⟩ := colFrom_get c n (o + 1) j v h
    exact ⟨by omega, by rw [h2]; congr 1; omega⟩
noncomputable def qload (P : Program) (look : Look) (t : TypeId) (a : Option SV) (K : Option SV → VC) : VC :=
  match P.underlying t with
  | none => .fail "load: no type"
  | some d =>
    match a with
    | some (.ptr key true o) => (match look key with
      | some (.cells cs _ _) => (match isAggD d with
        | true => (match sz P t with
          | some n => (match takeAt cs o n with
            | some l => K (some (.agg l))
            | none => .fail "load: not so many cells")
          | none => .fail "load: no size")
        | false => (match cs[o]? with
          | some v => K (some v)
          | none => .fail "load: no such cell"))
      | some (.rows false n [c] _ _ _) => (match isAggD d with
        | true => (match sz P t with
          | some m => .and (.atom (o + m ≤ n)) (K (some (.agg (colFrom c o m))))
          | none => .fail "load: no size")
        | false => .and (.atom (o < n)) (K (some (c.at o))))
      | _ => .fail "load: no such block")
    | some (.eptr key w i k) => (match look key with
      | some (.rows _z n cols _ro _tot _ty) => (if cols.length = w then (match isAggD d with
        | true => (match sz P t with
          | some m => (match takeCols cols i k m with
            | some l => .and (.atom (i < n)) (K (some (.agg l)))
            | none => .fail "load: not so many columns")
          | none => .fail "load: no size")
        | false => (match cols[k]? with
          | some c => .and (.atom (i < n)) (K (some (c.at i)))
          | none => .fail "load: no such column")) else .fail "load: another row")
      | _ => .fail "load: not a row")
    | some (.veptr key w o i k) => (match look key with
      | some (.view _z o' n cols) => (if cols.length = w then (match isAggD d with
        | true => (match sz P t with
          | some m => (match takeCols cols i k m with
            | some l => .and (.atom (o' = o ∧ i < n)) (K (some (.agg l)))
            | none => .fail "load: not so many columns")
          | none => .fail "load: no size")
        | false => (match cols[k]? with
          | some c => .and (.atom (o' = o ∧ i < n)) (K (some (c.at i)))
          | none => .fail "load: no such column")) else .fail "load: another row")
      | _ => .fail "load: not a view")
    | some (.aptr key base n i) => (match look key with
      | some (.cells cs _ _) => (match isAggD d, takeAt cs base n with
        | false, some l => (match intsAt (kindAt l) l with
          | some zs => .and (.atom (i < n)) (K (some (.int (kindAt l) false (sel zs i))))
          | none => (match strsAt l with
            | some ss => .and (.atom (i < n)) (K (some (.str false (selS ss i))))
            | none => .fail "load: no integers"))
        | _, _ => .fail "load: not so many cells")
      | some (.rows false nb [c] _ _ _) => (match isAggD d with
        | false => .and (.atom (i < n ∧ base + i < nb)) (K (some (c.at (base + i))))
        | true => .fail "load: not so many cells")
      | _ => .fail "load: no such block")
    | some (.raw (.pointer (some ⟨g, o, none⟩))) => (match isAggD d, globAt g globList with
      | false, some cs => (match valKind cs.toList with
        | some k => (match valInts k cs.toList with
          | some zs => .and (.atom (o < zs.length)) (K (some (.int k false (sel zs o))))
          | none => .fail "load: what a variable holds")
        | none => (match o with
          | 0 => (match cs[0]? with
            | some v => (match SV.ofGlob v with
              | some x => K (some x)
              | none => .fail "load: what a variable holds")
            | none => .fail "load: no cell")
          | _ + 1 => .fail "load: a variable's element"))
      | _, _ => .fail "load: a variable that is not listed")
    | _ => .fail "load: no pointer"
theorem qload_ok {P : Program} {look : Look} {σ : Operand → Option SV} (t : TypeId) (x : Operand) :
    QOk P look σ (fun ρ => Instr.loadAt t (ρ x)) (qload P look t (σ x)) := by
  unfold qload
  cases hd : P.underlying t with
  | none => exact QOk.fail _
  | some d =>
    simp only
    split
    · rename_i key o hx
      split
      · rename_i cs tot ty hk
        cases ha : isAggD d with
        | true =>
          simp only
          cases hn : sz P t with
          | none => exact QOk.fail _
          | some n =>
            simp only
            cases hl : takeAt cs o n with
            | none => exact QOk.fail _
            | some l =>
              refine QOk.v _ fun E w ρ hc hr => ?_
              obtain ⟨ob, ho, c, fr, rfl, _, h2, _⟩ := hc.1 key _ hk rfl
              have hg := takeAt_get hl
              have hll := run_loadCells (P := P) ho o (l.map (SV.val E)) (fun j v hj => by
                rw [List.getElem?_map] at hj
                cases hjl : l[j]? with
                | none => rw [hjl] at hj; cases hj
                | some u => rw [hjl] at hj; injection hj with hj; subst hj; exact h2 _ _ (hg.2 j u hjl))
              rw [List.length_map, hg.1] at hll
              simp [Instr.loadAt, hr x _ hx, SV.val, Instr.sureAddr, loadVar, run_isAgg hd, ha, run_sz hn, hll, SV.vals_eq]
        | false =>
          simp only
          cases hv : cs[o]? with
          | none => exact QOk.fail _
          | some v =>
            refine QOk.v _ fun E w ρ hc hr => ?_
            obtain ⟨ob, ho, c, fr, rfl, _, h2, _⟩ := hc.1 key _ hk rfl
            simp [Instr.loadAt, hr x _ hx, SV.val, Instr.sureAddr, loadVar, run_isAgg hd, ha, cell_of ho, h2 _ _ hv]
      · rename_i n col ro tot ty hk
        cases ha : isAggD d with
        | true =>
          simp only
          cases hn : sz P t with
          | none => exact QOk.fail _
          | some m =>
            refine QOk.atom fun hi => QOk.v _ fun E w ρ hc hr => ?_
            obtain ⟨ob, ho, c, fr, rfl, _, _, _, h2⟩ := hc.1 key _ hk rfl
            have hll := run_loadCells (P := P) ho o ((colFrom col o m).map (SV.val E)) (fun j v hj => by
              rw [List.getElem?_map] at hj
              cases hjl : (colFrom col o m)[j]? with
              | none => rw [hjl] at hj; cases hj
              | some u =>
                rw [hjl] at hj; injection hj with hj; subst hj
                obtain ⟨g1, g2⟩ := colFrom_get col m o j u hjl
                subst g2
                have := h2 (o + j) 0 col (by omega) rfl
                simpa using this)
            rw [List.length_map, colFrom_len] at hll
            simp [Instr.loadAt, hr x _ hx, SV.val, Instr.sureAddr, loadVar, run_isAgg hd, ha, run_sz hn, hll, SV.vals_eq]
        | false =>
          refine QOk.atom fun hi => QOk.v _ fun E w ρ hc hr => ?_
          obtain ⟨ob, ho, c, fr, rfl, _, _, _, h2⟩ := hc.1 key _ hk rfl
          have h3 := h2 o 0 col hi rfl
          simp only [List.length_cons, List.length_nil, Nat.zero_add, Nat.mul_one, Nat.add_zero] at h3
          simp [Instr.loadAt, hr x _ hx, SV.val, Instr.sureAddr, loadVar, run_isAgg hd, ha, cell_of ho, h3]
      · exact QOk.fail _
    · rename_i key w i k hx
      split
      · rename_i z n cols ro tot ty hk
        refine QOk.ite (fun hw => ?_) (fun _ => QOk.fail _)
        subst hw
        cases ha : isAggD d with
        | true =>
          simp only
          cases hn : sz P t with
          | none => exact QOk.fail _
          | some m =>
            simp only
            cases hl : takeCols cols i k m with
            | none => exact QOk.fail _
            | some l =>
              refine QOk.atom fun hi => QOk.v _ fun E w ρ hc hr => ?_
              obtain ⟨ob, ho, c, fr, rfl, _, h1, _, h2⟩ := hc.1 key _ hk (SB.no_rows hi)
              have hg := takeAt_get hl
              have hll := run_loadCells (P := P) ho (i * cols.length + k) (l.map (SV.val E)) (fun j v hj => by
                rw [List.getElem?_map] at hj
                cases hjl : l[j]? with
                | none => rw [hjl] at hj; cases hj
                | some u =>
                  rw [hjl] at hj; injection hj with hj; subst hj
                  have := hg.2 j u hjl
                  rw [List.getElem?_map] at this
                  cases hcl : cols[k + j]? with
                  | none => rw [hcl] at this; cases this
                  | some col =>
                    rw [hcl] at this; injection this with this; subst this
                    rw [Nat.add_assoc]; exact h2 i (k + j) col hi hcl)
              rw [List.length_map, hg.1] at hll
              simp [Instr.loadAt, hr x _ hx, SV.val, Instr.sureAddr, loadVar, run_isAgg hd, ha, run_sz hn, hll, SV.vals_eq]
        | false =>
          simp only
          cases hv : cols[k]? with
          | none => exact QOk.fail _
          | some col =>
            refine QOk.atom fun hi => QOk.v _ fun E w ρ hc hr => ?_
            obtain ⟨ob, ho, c, fr, rfl, _, h1, _, h2⟩ := hc.1 key _ hk (SB.no_rows hi)
            simp [Instr.loadAt, hr x _ hx, SV.val, Instr.sureAddr, loadVar, run_isAgg hd, ha, cell_of ho, h2 _ _ _ hi hv]
      · exact QOk.fail _
    · rename_i key w o i k hx
      split
      · rename_i z o' n cols hk
        refine QOk.ite (fun hw => ?_) (fun _ => QOk.fail _)
        subst hw
        cases ha : isAggD d with
        | true =>
          simp only
          cases hn : sz P t with
          | none => exact QOk.fail _
          | some m =>
            simp only
            cases hl : takeCols cols i k m with
            | none => exact QOk.fail _
            | some l =>
              refine QOk.atom fun hlh => QOk.v _ fun E w ρ hc hr => ?_
              obtain ⟨rfl, hi⟩ := hlh; obtain ⟨ob, ho, c, ty, fr, rfl, h2⟩ := hc.1 key _ hk (SB.no_view hi)
              have hg := takeAt_get hl
              have hll := run_loadCells (P := P) ho (o' + i * cols.length + k) (l.map (SV.val E)) (fun j v hj => by
                rw [List.getElem?_map] at hj
                cases hjl : l[j]? with
                | none => rw [hjl] at hj; cases hj
                | some u =>
                  rw [hjl] at hj; injection hj with hj; subst hj
                  have := hg.2 j u hjl
                  rw [List.getElem?_map] at this
                  cases hcl : cols[k + j]? with
                  | none => rw [hcl] at this; cases this
                  | some col =>
                    rw [hcl] at this; injection this with this; subst this
                    rw [Nat.add_assoc]; exact h2 i (k + j) col hi hcl)
              rw [List.length_map, hg.1] at hll
              simp [Instr.loadAt, hr x _ hx, SV.val, Instr.sureAddr, loadVar, run_isAgg hd, ha, run_sz hn, hll, SV.vals_eq]
        | false =>
          simp only
          cases hv : cols[k]? with
          | none => exact QOk.fail _
          | some col =>
            refine QOk.atom fun hlh => QOk.v _ fun E w ρ hc hr => ?_
            obtain ⟨rfl, hi⟩ := hlh; obtain ⟨ob, ho, c, ty, fr, rfl, h2⟩ := hc.1 key _ hk (SB.no_view hi)
            simp [Instr.loadAt, hr x _ hx, SV.val, Instr.sureAddr, loadVar, run_isAgg hd, ha, cell_of ho, h2 _ _ _ hi hv]
      · exact QOk.fail _
    · rename_i key base n i hx
      split
      · rename_i cs tot ty hk
        split
        · rename_i l ha hl
          split
          · rename_i zs hz
            refine QOk.atom fun hi => QOk.v _ fun E w ρ hc hr => ?_
            obtain ⟨ob, ho, c, fr, rfl, _, h2, _⟩ := hc.1 key _ hk rfl
            have hg := takeAt_get hl
            have hzg := intsAt_get hz
            have hil : i < l.length := by rw [hg.1]; exact hi
            obtain ⟨b, hb⟩ := hzg.2 i l[i] (List.getElem?_eq_getElem hil)
            have := h2 _ _ (hg.2 i l[i] (List.getElem?_eq_getElem hil))
            rw [hb] at this
            simp [Instr.loadAt, hr x _ hx, SV.val, Instr.sureAddr, loadVar, run_isAgg hd, ha, cell_of ho, this]
          · split
            · rename_i ss hz
              refine QOk.atom fun hi => QOk.v _ fun E w ρ hc hr => ?_
              obtain ⟨ob, ho, c, fr, rfl, _, h2, _⟩ := hc.1 key _ hk rfl
              have hg := takeAt_get hl
              have hil : i < l.length := by rw [hg.1]; exact hi
              obtain ⟨b, hb⟩ := strsAt_get hz i l[i] (List.getElem?_eq_getElem hil)
              have := h2 _ _ (hg.2 i l[i] (List.getElem?_eq_getElem hil))
              rw [hb] at this
              simp [Instr.loadAt, hr x _ hx, SV.val, Instr.sureAddr, loadVar, run_isAgg hd, ha, cell_of ho, this]
            · exact QOk.fail _
        · exact QOk.fail _
      · rename_i nb col ro tot ty hk
        split
        · rename_i ha
          refine QOk.atom fun hi => QOk.v _ fun E w ρ hc hr => ?_
          obtain ⟨ob, ho, c, fr, rfl, _, _, _, h2⟩ := hc.1 key _ hk rfl
          have h3 := h2 (base + i) 0 col hi.2 rfl
          simp only [List.length_cons, List.length_nil, Nat.zero_add, Nat.mul_one, Nat.add_zero] at h3
          simp [Instr.loadAt, hr x _ hx, SV.val, Instr.sureAddr, loadVar, run_isAgg hd, ha, cell_of ho, h3]
        · exact QOk.fail _
      · exact QOk.fail _
    · rename_i g o hx
      split
      · rename_i cs ha hcs
        split
        · rename_i k hk
          split
          · rename_i zs hz
            refine QOk.atom fun ho => QOk.v _ fun E w ρ hc hr => ?_
            obtain ⟨c, ty, fr, hg, hgc⟩ := hc.2 _ (globAt_mem hcs)
            have hv := (valInts_get hz).2 o ho
            rw [Array.getElem?_toList] at hv
            have hv := hgc _ _ hv
            simp [Instr.loadAt, hr x _ hx, SV.val, Instr.sureAddr, loadVar, run_isAgg hd, ha, cell_of hg, hv]
          · exact QOk.fail _
        · split
          · split
            · rename_i v hv
              split
              · rename_i y hy
                refine QOk.v _ fun E w ρ hc hr => ?_
                obtain ⟨c, ty, fr, hg, hgc⟩ := hc.2 _ (globAt_mem hcs)
                simp [Instr.loadAt, hr x _ hx, SV.val, Instr.sureAddr, loadVar, run_isAgg hd, ha, cell_of hg, hgc _ _ hv, SV.ofGlob_val hy]
              · exact QOk.fail _
            · exact QOk.fail _
          · exact QOk.fail _
      · exact QOk.fail _
    · exact QOk.fail _
/-! ### Addresses -/
def offs (f : Field) (P : Program) : Option Nat := match sz P f.type with
  | some (_n + 1) => some f.offset
  | _ => none
def qfieldAddr (P : Program) (s : TypeId) (x : Option SV) (f : Nat) (K : Option SV → VC) : VC :=
  match P.underlying s with
  | some (.struct fs) => (match fs[f]? with
    | some fd => (match offs fd P with
      | some o => (match x with
        | some (.ptr key ol a) => K (some (.ptr key ol (a + o)))
        | some (.eptr key w i k) => K (some (.eptr key w i (k + o)))
        | some (.veptr key w b i k) => K (some (.veptr key w b i (k + o)))
        | _ => .fail "fieldAddr: no pointer")
      | none => .fail "fieldAddr: a field without cells")
    | none => .fail "fieldAddr: no such field")
  | _ => .fail "fieldAddr: no struct"
theorem qfieldAddr_ok {P : Program} {look : Look} {σ : Operand → Option SV} (s : TypeId) (x : Operand) (f : Nat) :
    QOk P look σ (fun ρ => Instr.fieldAt s (ρ x) f) (qfieldAddr P s (σ x) f) := by
  unfold qfieldAddr
  split
  · rename_i fs hd
    split
    · rename_i fd hf
      cases ho : offs fd P with
      | none => exact QOk.fail _
      | some o =>
        have hsz : ∃ n, sz P fd.type = some (n + 1) ∧ fd.offset = o := by
          unfold offs at ho
          split at ho
          · rename_i n hn; injection ho with ho; exact ⟨n, hn, ho⟩
          · cases ho
        obtain ⟨n, hn, rfl⟩ := hsz
        simp only
        split
        · rename_i key ol a hx
          refine QOk.v _ fun E w ρ hc hr => ?_
          simp [Instr.fieldAt, hr x _ hx, SV.val, Instr.sureAddr, run_und hd, hf, fieldPlace, run_sz hn, add_none]
        · rename_i key w i k hx
          refine QOk.v _ fun E w ρ hc hr => ?_
          simp [Instr.fieldAt, hr x _ hx, SV.val, Instr.sureAddr, run_und hd, hf, fieldPlace, run_sz hn, add_none, Nat.add_assoc]
        · rename_i key w b i k hx
          refine QOk.v _ fun E w ρ hc hr => ?_
          simp [Instr.fieldAt, hr x _ hx, SV.val, Instr.sureAddr, run_und hd, hf, fieldPlace, run_sz hn, add_none, Nat.add_assoc]
        · exact QOk.fail _
    · exact QOk.fail _
  · exact QOk.fail _
def places (i : Int) (t : Nat → VC) : Nat → VC
  | 0 => .tt
  | n + 1 => .and (places i t n) (.imp (i = n) (t n))
theorem places_iff {i : Int} {t : Nat → VC} : ∀ {n : Nat}, 0 ≤ i → i < n → ((places i t n).holds ↔ (t i.toNat).holds)
  | 0, h, h' => by omega
  | n + 1, h, h' => by
    simp only [places, VC.holds]
    by_cases e : i = n
    · subst e
      simp only [Int.toNat_natCast]
      constructor
      · intro x; exact x.2 trivial
      · intro x
        refine ⟨?_, fun _ => x⟩
        have : ∀ m, m ≤ n → (places (n : Int) t m).holds := by
          intro m
          induction m with
          | zero => intro _; exact trivial
          | succ m ih => intro hm; exact ⟨ih (by omega), fun e => by omega⟩
        exact this n (Nat.le_refl _)
    · have := places_iff (i := i) (t := t) (n := n) h (by omega)
      rw [this]
      exact ⟨fun x => x.1, fun x => ⟨x, fun e' => absurd e' e⟩⟩
def withIndex (l : Bool) (i : Int) (n : Nat) (t : Nat → VC) : VC :=
  match l with
  | true => if 0 ≤ i ∧ i < n then t i.toNat else .fail "index out of range"
  | false => .and (.atom (0 ≤ i ∧ i < n)) (places i t n)
theorem QOk.index {P : Program} {look : Look} {σ : Operand → Option SV} {s : (Operand → Value) → Sem Value} {l : Bool} {i : Int} {n : Nat} {t : Nat → QT}
    (h : 0 ≤ i → i < n → QOk P look σ s (t i.toNat)) : QOk P look σ s (fun K => withIndex l i n (fun j => t j K)) := by
  unfold withIndex
  cases l with
  | true => exact QOk.ite (fun hc => h hc.1 hc.2) (fun _ => QOk.fail _)
  | false =>
    refine QOk.atom fun hc => ?_
    obtain ⟨obl, sv, h1, h2⟩ := h hc.1 hc.2
    exact ⟨obl, sv, fun K => by rw [places_iff hc.1 hc.2]; exact h1 K, h2⟩
def qindexAddr (P : Program) (t : TypeId) (x i : Option SV) (K : Option SV → VC) : VC :=
  match P.underlying t, i with
  | some (.array len elem), some (.int _ l n) => (match sz P elem, x with
    | some m, some (.ptr key true o) => (match l || !Nat.beq m 1 with
      | true => withIndex l n len (fun j => K (some (.ptr key true (o + j * m))))
      | false => .and (.atom (0 ≤ n ∧ n < len)) (K (some (.aptr key o len n.toNat))))
    | some 1, some (.raw (.pointer (some ⟨g, 0, none⟩))) => .and (.atom (0 ≤ n ∧ n < len)) (K (some (.raw (.pointer (some ⟨g, n.toNat, none⟩)))))
    | _, _ => .fail "indexAddr: array")
  | some (.slice elem), some (.int _ l n) => (match sz P elem, x with
    | some m, some (.slc key o len _ _) => (match l || !Nat.beq m 1 || Nat.blt len 16 with
      | true => withIndex l n len (fun j => K (some (.ptr key true (o + j * m))))
      | false => .and (.atom (0 ≤ n ∧ n < len)) (K (some (.aptr key o len n.toNat))))
    | some m, some (.rslc key w _z i0 len _) => if m = w then .and (.atom (0 ≤ n ∧ n < len)) (K (some (.eptr key w (i0 + n.toNat) 0))) else .fail "indexAddr: another row"
    | some m, some (.vslc key w _z b i0 len _) => if m = w then .and (.atom (0 ≤ n ∧ n < len)) (K (some (.veptr key w b (i0 + n.toNat) 0))) else .fail "indexAddr: another row"
    | _, _ => .fail "indexAddr: slice")
  | _, _ => .fail "indexAddr"
theorem qindexAddr_ok {P : Program} {look : Look} {σ : Operand → Option SV} (t : TypeId) (x i : Operand) :
    QOk P look σ (fun ρ => Instr.indexAt t (ρ x) (ρ i)) (qindexAddr P t (σ x) (σ i)) := by
  unfold qindexAddr
  split
  · rename_i len elem k l n hd hi
    split
    · rename_i m key o hm hx
      split
      · refine QOk.index fun h0 h1 => QOk.v _ fun E w ρ hc hr => ?_
        simp [Instr.indexAt, hr x _ hx, hr i _ hi, SV.val, asIntOf, Instr.sureAddr, run_und hd, run_sz hm, h0, h1, add_none]
      · rename_i hcond
        have hm1 : m = 1 := by simp at hcond; exact hcond.2
        refine QOk.atom fun h0 => QOk.v _ fun E w ρ hc hr => ?_
        simp [Instr.indexAt, hr x _ hx, hr i _ hi, SV.val, asIntOf, Instr.sureAddr, run_und hd, run_sz hm, h0.1, h0.2, add_none, hm1]
    · rename_i g hm hx
      refine QOk.atom fun h0 => QOk.v _ fun E w ρ hc hr => ?_
      simp [Instr.indexAt, hr x _ hx, hr i _ hi, SV.val, asIntOf, Instr.sureAddr, run_und hd, run_sz hm, h0.1, h0.2, add_none]
    · exact QOk.fail _
  · rename_i elem k l n hd hi
    split
    · rename_i m key o len cl c hm hx
      split
      · refine QOk.index fun h0 h1 => QOk.v _ fun E w ρ hc hr => ?_
        simp [Instr.indexAt, hr x _ hx, hr i _ hi, SV.val, asIntOf, run_und hd, run_sz hm, h0, h1, add_none]
      · rename_i hcond
        have hm1 : m = 1 := by simp at hcond; exact hcond.1.2
        refine QOk.atom fun h0 => QOk.v _ fun E w ρ hc hr => ?_
        simp [Instr.indexAt, hr x _ hx, hr i _ hi, SV.val, asIntOf, run_und hd, run_sz hm, h0.1, h0.2, add_none, hm1]
    · rename_i m key w z i0 len c hm hx
      refine QOk.ite (fun e => ?_) (fun _ => QOk.fail _)
      subst e
      refine QOk.atom fun h0 => QOk.v _ fun E w ρ hc hr => ?_
      have hne : Nat.beq len 0 = false := by cases len with
        | zero => omega
        | succ n => rfl
      simp [Instr.indexAt, hr x _ hx, hr i _ hi, SV.val, asIntOf, run_und hd, run_sz hm, h0.1, h0.2, add_none, Nat.add_mul, hne]
    · rename_i m key w z b i0 len c hm hx
      refine QOk.ite (fun e => ?_) (fun _ => QOk.fail _)
      subst e
      refine QOk.atom fun h0 => QOk.v _ fun E w ρ hc hr => ?_
      have hne : Nat.beq len 0 = false := by cases len with
        | zero => omega
        | succ n => rfl
      simp [Instr.indexAt, hr x _ hx, hr i _ hi, SV.val, asIntOf, run_und hd, run_sz hm, h0.1, h0.2, add_none, Nat.add_mul, hne, Nat.add_assoc]
    · exact QOk.fail _
  · exact QOk.fail _
end Go.Proofs.YtkfdcapnogklfaaGreatDoor.Sx
/-
  The framework's third part: more operations that leave the world alone: arithmetic, comparisons, strings, structs.
-/
namespace Go.Proofs.YtkfdcapnogklfaaGreatDoor.Sx
open Go
section
variable {P : Program} {look : Look} {σ : Operand → Option SV}
/-! ### Integers -/
def qarith (k : IntKind) (l : Bool) (n : Int) (K : Option SV → VC) : VC :=
  match l with
  | true => K (some (.int k true (k.wrap n)))
  | false => match k.signed with
    | true => .and (.atom (lo k ≤ n ∧ n ≤ hi k)) (K (some (.int k false n)))
    | false => K (some (.int k false (n % md k)))
theorem qarith_ok {s : (Operand → Value) → Sem Value} {k : IntKind} {l : Bool} {n : Int}
    (h : ∀ E w ρ, Compat E look w → Reads E σ ρ → (s ρ).run P w = .ok (.int k (k.wrap n)) w) : QOk P look σ s (qarith k l n) := by
  unfold qarith
  cases l with
  | true => exact QOk.v _ fun E w ρ hc hr => h E w ρ hc hr
  | false =>
    simp only
    cases hs : k.signed with
    | true => exact QOk.atom fun hb => QOk.v _ fun E w ρ hc hr => by rw [h E w ρ hc hr, wrap_in hb]; rfl
    | false => exact QOk.v _ fun E w ρ hc hr => by rw [h E w ρ hc hr, wrap_un hs]; rfl
def qdiv (rem : Bool) (k : IntKind) (l : Bool) (a : Int) (l' : Bool) (b : Int) (K : Option SV → VC) : VC :=
  match l && l' with
  | true => if b = 0 then .fail "division by zero" else (match rem with
    | true => K (some (.int k true (a.tmod b)))
    | false => K (some (.int k true (k.wrap (a.tdiv b)))))
  | false => .and (.atom (0 ≤ a ∧ a ≤ hi k ∧ 0 < b)) (match rem with
    | true => K (some (.int k false (a % b)))
    | false => K (some (.int k false (a / b))))
theorem lo_nonpos (k : IntKind) : lo k ≤ 0 := by cases k <;> simp [lo]
theorem qdiv_ok {s : (Operand → Value) → Sem Value} {rem : Bool} {k : IntKind} {l l' : Bool} {a b : Int}
    (h : ∀ E w ρ, Compat E look w → Reads E σ ρ → (s ρ).run P w = (Op.intDiv (if rem then .rem else .quo) k a b).run P w) : QOk P look σ s (qdiv rem k l a l' b) := by
  unfold qdiv
  cases (l && l') with
  | true =>
    refine QOk.ite (fun _ => QOk.fail _) fun hb => ?_
    cases rem with
    | true => exact QOk.v _ fun E w ρ hc hr => by rw [h E w ρ hc hr]; simp [Op.intDiv, hb, SV.val]
    | false => exact QOk.v _ fun E w ρ hc hr => by rw [h E w ρ hc hr]; simp [Op.intDiv, hb, SV.val]
  | false =>
    refine QOk.atom fun ⟨h0, h1, h2⟩ => ?_
    have hb : b ≠ 0 := by omega
    cases rem with
    | true => exact QOk.v _ fun E w ρ hc hr => by rw [h E w ρ hc hr]; simp [Op.intDiv, hb, SV.val, Int.tmod_eq_emod_of_nonneg h0]
    | false =>
      refine QOk.v _ fun E w ρ hc hr => ?_
      have e : k.wrap (a.tdiv b) = a / b := by
        rw [Int.tdiv_eq_ediv_of_nonneg h0]
        have : a / b ≤ a := Int.ediv_le_self b h0
        have : 0 ≤ a / b := Int.ediv_nonneg h0 (by omega)
        exact wrap_in ⟨by have := lo_nonpos k; omega, by omega⟩
      rw [h E w ρ hc hr]; simp [Op.intDiv, hb, SV.val, e]
def qshift (left : Bool) (k : IntKind) (l : Bool) (a : Int) (l' : Bool) (b : Int) (K : Option SV → VC) : VC :=
  match l' with
  | true => if b < 0 then .fail "negative shift" else (match left with
    | true => qarith k l (a * (2 ^ (min b.toNat k.bits) : Nat)) K
    | false => K (some (.int k l (a / (2 ^ (min b.toNat k.bits) : Nat)))))
  | false => .fail "shift by a number that is not known"
theorem qshift_ok {s : (Operand → Value) → Sem Value} {left : Bool} {k yk : IntKind} {l l' : Bool} {a b : Int}
    (h : ∀ E w ρ, Compat E look w → Reads E σ ρ → (s ρ).run P w = (Op.shift (if left then .shl else .shr) k a yk b).run P w) : QOk P look σ s (qshift left k l a l' b) := by
  unfold qshift
  cases l' with
  | false => exact QOk.fail _
  | true =>
    refine QOk.ite (fun _ => QOk.fail _) fun hb => ?_
    cases left with
    | true => exact qarith_ok fun E w ρ hc hr => by rw [h E w ρ hc hr]; simp [Op.shift, hb]
    | false =>
      refine QOk.v _ fun E w ρ hc hr => ?_
      rw [h E w ρ hc hr]
      simp only [Op.shift, hb, if_false, Bool.false_eq_true, Sem.run_pure, SV.val]
      rw [Int.fdiv_eq_ediv_of_nonneg _ (Int.pow_nonneg (by decide))]
      simp
def bitsOf (op : BinOp) (a b : Int) : Int :=
  match op with
  | .and => Int.ofNat (a.toNat &&& b.toNat)
  | .or => Int.ofNat (a.toNat ||| b.toNat)
  | _ => Int.ofNat (a.toNat ^^^ b.toNat)
def qbits (op : BinOp) (k : IntKind) (l : Bool) (a b : Int) (K : Option SV → VC) : VC :=
  match l with
  | true => if 0 ≤ a ∧ a ≤ hi k ∧ 0 ≤ b ∧ b ≤ hi k then K (some (.int k true (bitsOf op a b))) else .fail "bits: below zero"
  | false => .and (.atom (0 ≤ a ∧ a ≤ hi k ∧ 0 ≤ b ∧ b ≤ hi k)) (K (some (.int k false (bitsOf op a b))))
theorem hi_lt (k : IntKind) : hi k < 2 ^ k.bits := by cases k <;> decide
theorem toNat_ofInt {w : Nat} {a : Int} (h0 : 0 ≤ a) (h1 : a < 2 ^ w) : (BitVec.ofInt w a).toNat = a.toNat := by
  rw [BitVec.toNat_ofInt]
  congr 1
  exact Int.emod_eq_of_lt h0 (by exact_mod_cast h1)
theorem bits_run {op : BinOp} (hop : op = .and ∨ op = .or ∨ op = .xor) {k : IntKind} {a b : Int} (h : 0 ≤ a ∧ a ≤ hi k ∧ 0 ≤ b ∧ b ≤ hi k) (w : World) :
    (Op.intBits op k a b).run P w = .ok (.int k (bitsOf op a b)) w := by
  obtain ⟨a0, a1, b0, b1⟩ := h
  have hk := hi_lt k
  have ea := toNat_ofInt (w := k.bits) a0 (by omega)
  have eb := toNat_ofInt (w := k.bits) b0 (by omega)
  have la : a.toNat < 2 ^ k.bits := by have : (a.toNat : Int) < ((2 ^ k.bits : Nat) : Int) := by rw [Int.toNat_of_nonneg a0]; push_cast; omega
                                       exact_mod_cast this
  have lb : b.toNat < 2 ^ k.bits := by have : (b.toNat : Int) < ((2 ^ k.bits : Nat) : Int) := by rw [Int.toNat_of_nonneg b0]; push_cast; omega
                                       exact_mod_cast this
  have hh : (hi k).toNat + 1 = 2 ^ k.bits ∨ (hi k).toNat + 1 = 2 ^ (k.bits - 1) := by cases k <;> simp [hi, IntKind.bits]
  have key : ∀ n : Nat, n ≤ (hi k).toNat → k.wrap (n : Int) = n := fun n hn => wrap_in ⟨by have := lo_nonpos k; omega, by
    have : 0 ≤ hi k := by cases k <;> simp [hi]
    omega⟩
  have ba : a.toNat ≤ (hi k).toNat := by omega
  have bb : b.toNat ≤ (hi k).toNat := by omega
  have hand : a.toNat &&& b.toNat ≤ (hi k).toNat := Nat.le_trans Nat.and_le_left ba
  have two : ∃ m, (hi k).toNat + 1 = 2 ^ m := by rcases hh with h | h <;> exact ⟨_, h⟩
  obtain ⟨m, hm⟩ := two
  have hor : a.toNat ||| b.toNat ≤ (hi k).toNat := by
    have := Nat.or_lt_two_pow (x := a.toNat) (y := b.toNat) (n := m) (by omega) (by omega); omega
  have hxor : a.toNat ^^^ b.toNat ≤ (hi k).toNat := by
    have := Nat.xor_lt_two_pow (x := a.toNat) (y := b.toNat) (n := m) (by omega) (by omega); omega
  rcases hop with rfl | rfl | rfl
  · simp only [Op.intBits, bitsOf, Sem.run_pure, BitVec.toNat_and, ea, eb]; rw [key _ hand]; rfl
  · simp only [Op.intBits, bitsOf, Sem.run_pure, BitVec.toNat_or, ea, eb]; rw [key _ hor]; rfl
  · simp only [Op.intBits, bitsOf, Sem.run_pure, BitVec.toNat_xor, ea, eb]; rw [key _ hxor]; rfl
theorem qbits_ok {s : (Operand → Value) → Sem Value} {op : BinOp} (hop : op = .and ∨ op = .or ∨ op = .xor) {k : IntKind} {l : Bool} {a b : Int}
    (h : ∀ E w ρ, Compat E look w → Reads E σ ρ → (s ρ).run P w = (Op.intBits op k a b).run P w) : QOk P look σ s (qbits op k l a b) := by
  unfold qbits
  cases l with
  | true => exact QOk.ite (fun hb => QOk.v _ fun E w ρ hc hr => by rw [h E w ρ hc hr, bits_run hop hb]; rfl) (fun _ => QOk.fail _)
  | false => exact QOk.atom fun hb => QOk.v _ fun E w ρ hc hr => by rw [h E w ρ hc hr, bits_run hop hb]; rfl
def qint (op : BinOp) (k : IntKind) (l : Bool) (a : Int) (l' : Bool) (b : Int) (K : Option SV → VC) : VC :=
  match op with
  | .add => qarith k (l && l') (a + b) K
  | .sub => qarith k (l && l') (a - b) K
  | .mul => qarith k (l && l') (a * b) K
  | .quo => qdiv false k l a l' b K
  | .rem => qdiv true k l a l' b K
  | .and => qbits .and k (l && l') a b K
  | .or => qbits .or k (l && l') a b K
  | .xor => qbits .xor k (l && l') a b K
  | .eql => K (some (.bool (l && l') (decide (a = b))))
  | .neq => K (some (.bool (l && l') (!decide (a = b))))
  | .lss => K (some (.bool (l && l') (decide (a < b))))
  | .leq => K (some (.bool (l && l') (decide (a ≤ b))))
  | .gtr => K (some (.bool (l && l') (decide (b < a))))
  | .geq => K (some (.bool (l && l') (decide (b ≤ a))))
  | _ => .fail "binOp: integers"
/-! ### Strings -/
def maxLen64 : Int := 9223372036854775807
def cat (a b : List UInt8) : List UInt8 := a ++ b
def qstr (op : BinOp) (l : Bool) (a b : List UInt8) (K : Option SV → VC) : VC :=
  match op with
  | .add => match l with
    | true => if (a.length : Int) + b.length ≤ maxLen64 then K (some (.str true (a ++ b))) else .fail "a text that is too long"
    | false => .and (.atom ((a.length : Int) + b.length ≤ 9223372036854775807)) (K (some (.str false (cat a b))))
  | .eql => K (some (.bool l (decide (a = b))))
  | .neq => K (some (.bool l (!decide (a = b))))
  | .lss => K (some (.bool l (Op.bytesLess a b)))
  | .leq => K (some (.bool l (Op.bytesLess a b || decide (a = b))))
  | .gtr => K (some (.bool l (!(Op.bytesLess a b || decide (a = b)))))
  | .geq => K (some (.bool l (!Op.bytesLess a b)))
  | _ => .fail "binOp: texts"
theorem bytes_append (a b : List UInt8) : (ByteArray.mk a.toArray) ++ (ByteArray.mk b.toArray) = ByteArray.mk (a ++ b).toArray := by
  apply ByteArray.ext
  rw [ByteArray.data_append]; simp
theorem imax : IntKind.i64.max = 9223372036854775807 := by decide
theorem qstr_ok {s : (Operand → Value) → Sem Value} {op : BinOp} {l : Bool} {a b : List UInt8}
    (h : ∀ E w ρ, Compat E look w → Reads E σ ρ → (s ρ).run P w = (Op.stringOp op ⟨a.toArray⟩ ⟨b.toArray⟩).run P w) : QOk P look σ s (qstr op l a b) := by
  have he : (a == b) = decide (a = b) := by by_cases e : a = b <;> simp [e]
  have sa : (ByteArray.mk a.toArray).size = a.length := by simp [ByteArray.size]
  have sb : (ByteArray.mk b.toArray).size = b.length := by simp [ByteArray.size]
  unfold qstr
  cases op
  case add =>
    have go : (a.length : Int) + b.length ≤ 9223372036854775807 → ∀ w, (Op.stringOp .add ⟨a.toArray⟩ ⟨b.toArray⟩).run P w = .ok (.string ⟨(a ++ b).toArray⟩) w := fun hb w => by
      simp only [Op.stringOp, sa, sb, imax, bytes_append]
      rw [if_neg (by omega)]; rfl
    cases l with
    | true => exact QOk.ite (fun hb => QOk.v _ fun E w ρ hc hr => by rw [h E w ρ hc hr, go hb]; rfl) (fun _ => QOk.fail _)
    | false => exact QOk.atom fun hb => QOk.v _ fun E w ρ hc hr => by rw [h E w ρ hc hr, go hb]; rfl
  all_goals first
    | exact QOk.fail _
    | (refine QOk.v _ fun E w ρ hc hr => ?_; rw [h E w ρ hc hr]; simp [Op.stringOp, SV.val, he])
end
/-! ### Equality -/
def stepAnd (x : Bool × Bool) (y : Option (Bool × Bool)) : Option (Bool × Bool) :=
  match x with
  | (true, false) => some (true, false)
  | (l, b) => match y with
    | some (l', b') => some (l && l', b && b')
    | none => none
def partOf (P : Program) (t : TypeId) (cs : List SV) (off : Nat) : Option SV :=
  match P.underlying t with
  | none => none
  | some d => match isAggD d with
    | true => match sz P t with
      | some n => match takeAt cs off n with
        | some l => some (.agg l)
        | none => none
      | none => none
    | false => cs[off]?
theorem partOf_run {P : Program} {E : Nat → Nat} {w : World} {t : TypeId} {cs : List SV} {off : Nat} {v : SV} (h : partOf P t cs off = some v) :
    (part t (SV.vals E cs).toArray off).run P w = .ok (v.val E) w := by
  unfold partOf at h
  split at h
  · cases h
  · rename_i d hd
    split at h
    · rename_i ha
      split at h
      · rename_i n hn
        split at h
        · rename_i l hl
          injection h with h; subst h
          have hg := takeAt_get hl
          simp only [part, Sem.run_bind, run_isAgg hd, ha, Result.andThen_ok, if_true, run_sz hn, Sem.run_pure, SV.val, SV.vals_eq]
          congr 2
          apply Array.ext'
          simp only [Array.toList_extract, List.toList_toArray, List.extract_eq_take_drop]
          rw [show off + n - off = n by omega, List.map_drop.symm, List.map_take.symm]
          congr 1
          apply List.ext_getElem?
          intro j
          rw [List.getElem?_take]
          split
          · rename_i hj
            rw [List.getElem?_drop]
            obtain ⟨u, hu⟩ : ∃ u, l[j]? = some u := ⟨l[j]'(by omega), List.getElem?_eq_getElem _⟩
            rw [hu, hg.2 j u hu]
          · rw [List.getElem?_eq_none (by omega)]
        · cases h
      · cases h
    · rename_i ha
      simp only [part, Sem.run_bind, run_isAgg hd, ha, Result.andThen_ok, SV.vals_eq]
      simp [h]
def eqv (P : Program) : Nat → TypeId → SV → SV → Option (Bool × Bool)
  | 0, _, _, _ => none
  | d + 1, t, x, y =>
    match P.underlying t, x, y with
    | some .bool, .bool l a, .bool l' b => some (l && l', a == b)
    | some (.int _), .int k l a, .int k' l' b => if k = k' then some (l && l', decide (a = b)) else none
    | some .string, .str l a, .str l' b => some (l && l', decide (a = b))
    | some (.pointer _), .nilptr, .nilptr => some (true, true)
    | some (.pointer _), .nilptr, .ptr .. => some (true, false)
    | some (.pointer _), .ptr .., .nilptr => some (true, false)
    | some (.pointer _), .nilptr, .eptr .. => some (true, false)
    | some (.pointer _), .eptr .., .nilptr => some (true, false)
    | some (.pointer e), .ptr key ol o, .ptr key' ol' o' => match sz P e with
      | some (_ + 1) => if key = key' then some (ol && ol', decide (o = o')) else none
      | _ => none
    | some (.interface _), .niliface, .niliface => some (true, true)
    | some (.interface _), .niliface, .iface .. => some (true, false)
    | some (.interface _), .iface .., .niliface => some (true, false)
    | some (.interface _), .iface tx vx, .iface ty vy => if tx = ty then (match P.info? tx with
        | some i => if i.comparable then eqv P d tx vx vy else none
        | none => none) else some (true, false)
    | some (.slice _), .nilslc, .nilslc => some (true, true)
    | some (.slice _), .nilslc, .slc .. => some (true, false)
    | some (.slice _), .slc .., .nilslc => some (true, false)
    | some (.slice _), .nilslc, .rslc _ _ z _ n _ => some (!z, z && Nat.beq n 0)
    | some (.slice _), .rslc _ _ z _ n _, .nilslc => some (!z, z && Nat.beq n 0)
    | some (.map _ _), .nilmap, .nilmap => some (true, true)
    | some (.map _ _), .map _, .nilmap => some (true, false)
    | some (.func _ _ _), .nilfunc, .nilfunc => some (true, true)
    | some (.func _ _ _), .nilfunc, .func .. => some (true, false)
    | some (.func _ _ _), .func .., .nilfunc => some (true, false)
    | some (.struct fs), .agg xs, .agg ys => if P.stoodInHeld t then none else
        fs.toList.foldr (fun f acc => if f.name = "_" then acc else match partOf P f.type xs f.offset, partOf P f.type ys f.offset with
          | some u, some v => match eqv P d f.type u v with
            | some r => stepAnd r acc
            | none => none
          | _, _ => none) (some (true, true))
    | some (.array len elem), .agg xs, .agg ys => match sz P elem with
      | some n => (List.range len).foldr (fun i acc => match partOf P elem xs (i * n), partOf P elem ys (i * n) with
          | some u, some v => match eqv P d elem u v with
            | some r => stepAnd r acc
            | none => none
          | _, _ => none) (some (true, true))
      | none => none
    | some (.pointer _), .nilptr, .veptr .. => some (true, false)
    | some (.pointer _), .veptr .., .nilptr => some (true, false)
    | some (.slice _), .nilslc, .vslc _ _ z _ _ n _ => some (false, z && Nat.beq n 0)
    | some (.slice _), .vslc _ _ z _ _ n _, .nilslc => some (false, z && Nat.beq n 0)
    | _, _, _ => none
theorem eqFields_run {P : Program} {E : Nat → Nat} {w : World} {d d' : Nat} {xs ys : List SV}
    (ih : ∀ t x y l b, eqv P d t x y = some (l, b) → (Op.equalIn d' t (x.val E) (y.val E)).run P w = .ok b w ∧ (l = true → True)) :
    ∀ (fs : List Field) (l b : Bool), fs.foldr (fun f acc => if f.name = "_" then acc else match partOf P f.type xs f.offset, partOf P f.type ys f.offset with
          | some u, some v => match eqv P d f.type u v with
            | some r => stepAnd r acc
            | none => none
          | _, _ => none) (some (true, true)) = some (l, b) →
      (Op.eqFields d' (SV.vals E xs).toArray (SV.vals E ys).toArray fs).run P w = .ok b w := by
  intro fs
  induction fs with
  | nil => intro l b h; simp at h; obtain ⟨rfl, rfl⟩ := h; simp [Op.eqFields]
  | cons f r ihl =>
    intro l b h
    simp only [List.foldr_cons] at h
    by_cases hn : f.name = "_"
    · rw [if_pos hn] at h
      simp only [Op.eqFields]
      rw [if_neg (by simp [hn])]
      exact ihl l b h
    · rw [if_neg hn] at h
      simp only [Op.eqFields]
      rw [if_pos hn]
      split at h
      · rename_i u v hu hv
        split at h
        · rename_i q hq
          obtain ⟨ql, qb⟩ := q
          have hr := (ih _ _ _ _ _ hq).1
          simp only [Sem.run_bind, partOf_run hu, partOf_run hv, Result.andThen_ok, hr, Sem.run_ite]
          cases qb with
          | false =>
            simp only [Bool.not_false, if_true, Sem.run_pure]
            unfold stepAnd at h
            split at h
            · injection h with h; injection h with _ h; rw [h]
            · rename_i l0 b0 _ heq
              injection heq with e1 e2; subst e1; subst e2
              split at h
              · injection h with h; injection h with _ h; simp at h; rw [h]
              · cases h
          | true =>
            simp only [Bool.not_true, Bool.false_eq_true, if_false]
            unfold stepAnd at h
            split at h
            · rename_i heq; cases heq
            · rename_i l0 b0 _ heq
              injection heq with e1 e2; subst e1; subst e2
              split at h
              · rename_i l' b' hacc
                injection h with h; injection h with _ h
                simp at h; subst h
                exact ihl _ _ hacc
              · cases h
        · cases h
      · cases h
theorem eqItems_run {P : Program} {E : Nat → Nat} {w : World} {d d' n : Nat} {t : TypeId} {xs ys : List SV}
    (ih : ∀ t x y l b, eqv P d t x y = some (l, b) → (Op.equalIn d' t (x.val E) (y.val E)).run P w = .ok b w) :
    ∀ (fs : List Nat) (l b : Bool), fs.foldr (fun i acc => match partOf P t xs (i * n), partOf P t ys (i * n) with
          | some u, some v => match eqv P d t u v with
            | some r => stepAnd r acc
            | none => none
          | _, _ => none) (some (true, true)) = some (l, b) →
      (Op.eqItems d' t n (SV.vals E xs).toArray (SV.vals E ys).toArray fs).run P w = .ok b w := by
  intro fs
  induction fs with
  | nil => intro l b h; simp at h; obtain ⟨rfl, rfl⟩ := h; simp [Op.eqItems]
  | cons f r ihl =>
    intro l b h
    simp only [List.foldr_cons] at h
    simp only [Op.eqItems]
    split at h
    · rename_i u v hu hv
      split at h
      · rename_i q hq
        obtain ⟨ql, qb⟩ := q
        have hr := ih _ _ _ _ _ hq
        simp only [Sem.run_bind, partOf_run hu, partOf_run hv, Result.andThen_ok, hr, Sem.run_ite]
        cases qb with
        | false =>
          simp only [Bool.not_false, if_true, Sem.run_pure]
          unfold stepAnd at h
          split at h
          · injection h with h; injection h with _ h; rw [h]
          · rename_i l0 b0 _ heq
            injection heq with e1 e2; subst e1; subst e2
            split at h
            · injection h with h; injection h with _ h; simp at h; rw [h]
            · cases h
        | true =>
          simp only [Bool.not_true, Bool.false_eq_true, if_false]
          unfold stepAnd at h
          split at h
          · rename_i heq; cases heq
          · rename_i l0 b0 _ heq
            injection heq with e1 e2; subst e1; subst e2
            split at h
            · rename_i l' b' hacc
              injection h with h; injection h with _ h
              simp at h; subst h
              exact ihl _ _ hacc
            · cases h
      · cases h
    · cases h
set_option maxHeartbeats 2000000 in
theorem eqv_run {P : Program} {E : Nat → Nat} {w : World} : ∀ (d : Nat) (t : TypeId) (x y : SV) (l b : Bool), eqv P d t x y = some (l, b) → ∀ e, (Op.equalIn (d + e) t (x.val E) (y.val E)).run P w = .ok b w := by
  intro d
  induction d with
  | zero => intro t x y l b h; simp [eqv] at h
  | succ d ih =>
    intro t x y l b h e
    rw [show d + 1 + e = (d + e) + 1 by omega]
    unfold eqv at h
    split at h
    case h_1 => rename_i hd; injection h with h; injection h with _ h; subst h; simp [Op.equalIn, run_und hd, SV.val]
    case h_2 =>
      rename_i k l0 a k' l1 b1 hd
      split at h
      · rename_i hk; subst hk
        injection h with h; injection h with _ h; subst h; simp [Op.equalIn, run_und hd, SV.val]
        by_cases e : a = b1 <;> simp [e]
      · cases h
    case h_3 =>
      rename_i l0 a l1 b1 hd
      injection h with h; injection h with _ h; subst h
      simp [Op.equalIn, run_und hd, SV.val, beq_toListBytes]
      by_cases e : a = b1 <;> simp [e]
    case h_9 =>
      rename_i el key ol o key' ol' o' hd
      split at h
      · rename_i n hn
        split at h
        · rename_i hk; subst hk
          injection h with h; injection h with _ h; subst h
          simp [Op.equalIn, run_und hd, SV.val, run_sz hn, sameAddr]
          by_cases e : o = o' <;> simp [e]
        · cases h
      · cases h
    case h_13 =>
      rename_i ms tx vx ty vy hd
      split at h
      · rename_i ht; subst ht
        split at h
        · rename_i i hi
          split at h
          · rename_i hcmp
            simp only [Op.equalIn, Sem.run_bind, run_und hd, SV.val, Result.andThen_ok, ne_eq, not_true_eq_false, if_false, run_info hi, hcmp, Bool.not_true, Bool.false_eq_true]
            exact ih _ _ _ _ _ h e
          · cases h
        · cases h
      · rename_i ht
        injection h with h; injection h with _ h; subst h
        simp [Op.equalIn, run_und hd, SV.val, ht]
    case h_24 =>
      rename_i fs xs ys hd
      split at h
      · cases h
      · rename_i hs
        have hf : P.fieldsOf t = fs := by simp [Program.fieldsOf, hd]
        have := run_equalIn_struct (P := P) w (d + e) t (SV.vals E xs).toArray (SV.vals E ys).toArray (by rw [hf]; exact hd) (by simpa using hs)
        simp only [SV.val]
        rw [this, hf]
        exact eqFields_run (fun t x y l b hq => ⟨ih t x y l b hq e, fun _ => trivial⟩) fs.toList l b h
    case h_25 =>
      rename_i len elem xs ys hd
      split at h
      · rename_i n hn
        have hn' : ∃ i, P.info? elem = some i ∧ P.cellsOf elem = n := by
          unfold sz at hn
          split at hn
          · rename_i i hi; injection hn with hn; exact ⟨i, hi, by simp [Program.cellsOf, hi, hn]⟩
          · cases hn
        obtain ⟨i, hi, hc⟩ := hn'
        simp only [SV.val]
        rw [run_equalIn_array w (d + e) (SV.vals E xs).toArray (SV.vals E ys).toArray hd hi, hc]
        exact eqItems_run (fun t x y l b hq => ih t x y l b hq e) (List.range len) l b h
      · cases h
    all_goals first
      | (cases h; done)
      | (rename_i z _ n _ hd; cases hz : z && Nat.beq n 0 <;> rw [hz] at h <;> injection h with h <;> injection h with _ h <;> subst h <;> simp only [Op.equalIn, Sem.run_bind, run_und hd, SV.val, Result.andThen_ok, hz, cond_true, cond_false] <;> rfl)
      | (rename_i z _ _ n _ hd; cases hz : z && Nat.beq n 0 <;> rw [hz] at h <;> injection h with h <;> injection h with _ h <;> subst h <;> simp only [Op.equalIn, Sem.run_bind, run_und hd, SV.val, Result.andThen_ok, hz, cond_true, cond_false] <;> rfl)
      | (rename_i hd; injection h with h; injection h with _ h; subst h; simp only [Op.equalIn, Sem.run_bind, run_und hd, SV.val, Result.andThen_ok]; rfl)
      | (rename_i hd; injection h with h; injection h with _ h; subst h; simp [Op.equalIn, run_und hd, SV.val]; done)
end Go.Proofs.YtkfdcapnogklfaaGreatDoor.Sx
