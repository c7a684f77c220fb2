/-
  The framework's part 22: functions that read no memory of their caller's: what they answer, by cases, maybe in a new block.
-/
import Derived.Test.YtoalfimkkibpdaaGreatDoorMk
import Derived.Test.YtoalfimkkibpdaaGreatDoorProg
import Derived.Shelf.Strings.OnBuilder
namespace Go.Proofs.YtoalfimkkibpdaaGreatDoor.Sx
open Go
inductive Ans : Type 1 where
  | ret (v : SV)
  | new (v : Nat → SV) (B : SB)
  | all (α : Type) (f : α → Ans)
  | req (p : Prop) (a : Ans)
  | fork (b : Bool) (f : Bool → Ans)
def Ans.vc (m : Mem) (nx : Nat) (K : SV → Mem → Nat → VC) : Ans → VC
  | .ret v => K v m nx
  | .new v B => K (v nx) ((nx, B) :: m) (nx + 1)
  | .all α f => .all α fun x => (f x).vc m nx K
  | .req p a => .imp p (a.vc m nx K)
  | .fork b f => Sx.fork b fun b => (f b).vc m nx K
def Ans.Ok : Ans → Prop
  | .ret v => v.wf 0 = true
  | .new v B => B.wf 0 = true ∧ B.ro = false ∧ (∀ k, (v k).wf (k + 1) = true) ∧ ∀ (E E' : Nat → Nat) k k', (B.no = false → E k = E' k') → (v k).val E = (v k').val E'
  | .all _α f => ∀ x, (f x).Ok
  | .req _ a => a.Ok
  | .fork _ f => ∀ b, (f b).Ok
mutual
def SV.key : SV → Option Nat
  | .ptr k _ _ => some k
  | .slc k _ _ _ _ => some k
  | .rslc k _ _ _ _ _ => some k
  | .tup vs => SV.keys vs
  | .agg vs => SV.keys vs
  | .iface _ v => v.key
  | _ => none
def SV.keys : List SV → Option Nat
  | [] => none
  | v :: r => match v.key with
    | some k => some k
    | none => SV.keys r
end
def Ans.fit (v : SV) (m : Mem) : Ans → VC
  | .ret r => .atom (sameVal v r)
  | .new r B => (match v.key with
    | some k => (match m.get k with
      | some X => .and (.atom (SBle X B)) (.atom (sameVal v (r k)))
      | none => .fail "no block")
    | none => .fail "no key")
  | .all α f => .ex α fun x => (f x).fit v m
  | .req p a => .and (.atom p) (a.fit v m)
  | .fork b f => Sx.fork b fun b => (f b).fit v m
noncomputable def ansPT (spec : List SV → Option (Prop × Ans)) : PT := fun args m nx K => match spec (args.map unlit) with
  | some (p, a) => .and (.atom p) (a.vc m nx K)
  | none => .fail "arguments that nothing is said of"
theorem Ans.vc_mono {m : Mem} {nx : Nat} {K K' : SV → Mem → Nat → VC} (hK : ∀ v m nx, (K v m nx).holds → (K' v m nx).holds) : ∀ {a : Ans}, (a.vc m nx K).holds → (a.vc m nx K').holds
  | .ret _, h => hK _ _ _ h
  | .new _ _, h => hK _ _ _ h
  | .all _ _, h => fun x => Ans.vc_mono hK (h x)
  | .req _ _, h => fun x => Ans.vc_mono hK (h x)
  | .fork _ _, h => fork_iff.2 (Ans.vc_mono hK (fork_iff.1 h))
theorem ansPT_mono (spec : List SV → Option (Prop × Ans)) : MonoPT (ansPT spec) := by
  intro args m nx K K' hK h
  unfold ansPT at h ⊢
  split at h
  · exact ⟨h.1, Ans.vc_mono hK h.2⟩
  · exact h
theorem BlkOk.le {E : Nat → Nat} {X B : SB} {o : Obj} (h : SBle X B) (hn : B.no = false) (hb : BlkOk E X o) : BlkOk E B o := (h hn).2.1 E o hb
theorem SatM.new {Γ E m nx w} (h : SatM Γ E m nx w) (hw : Mem.wf nx m = true) {E1 : Nat → Nat} {m1 : Mem} {nx1 : Nat} {w' : World}
    {gl gm} (h1 : SatM (Base.at w (fun _ => False) gl gm) E1 m1 nx1 w') {j : Nat} {X B : SB} (hX : m1.get j = some X) (hle : SBle X B) (hw2 : B.wf 0 = true) (hr2 : B.ro = false) :
    ∃ E', (∀ i, i < nx → E' i = E i) ∧ (B.no = false → E' nx = E1 j) ∧ SatM Γ E' ((nx, B) :: m) (nx + 1) w' := by
  have hf := h.still h1.ext
  have hlt : ∀ i X, m.get i = some X → X.no = false → E i < w.heap.size := fun i X hi hX => by
    obtain ⟨o, ho, _⟩ := h.blk i X hi hX
    exact (Array.getElem?_eq_some_iff.1 ho).1
  cases hno : B.no with
  | true =>
    refine ⟨fun i => if i = nx then w.heap.size else E i, fun i hi => by simp [Nat.ne_of_lt hi], (fun h => by cases h), ?_⟩
    exact hf.push hw (fun _ _ h => h) (fun i X hi hX => Nat.ne_of_lt (hlt i X hi hX)) (fun _ _ _ => rfl) hf.ext (fun hx => by rw [hno] at hx; cases hx) (fun D hD => Nat.ne_of_lt (Array.getElem?_eq_some_iff.1 (h.kp D hD)).1) (fun hx => by rw [hno] at hx; cases hx)
  | false =>
    obtain ⟨g1, g2, g3⟩ := hle hno
    obtain ⟨o, ho, hb⟩ := h1.blk j X hX g1
    have hge : w.heap.size ≤ E1 j := by
      rcases h1.own j X hX g1 (g3 hr2) with e | e
      · exact e.elim
      · exact e
    refine ⟨fun i => if i = nx then E1 j else E i, fun i hi => by simp [Nat.ne_of_lt hi], fun _ => by simp, ?_⟩
    refine hf.push hw (fun _ _ h => h) (fun i X hi hX e => ?_) (fun _ _ _ => rfl) hf.ext (fun _ _ => .inr (Nat.le_trans h.ext.size hge)) (fun D hD => Nat.ne_of_lt (Nat.lt_of_lt_of_le (Array.getElem?_eq_some_iff.1 (h.kp D hD)).1 hge)) (fun _ => ⟨o, ho, (g2 E1 o hb).pure hw2⟩)
    have := hlt i X hi hX
    omega
theorem Ans.told {Γ E m nx w} (h : SatM Γ E m nx w) (hw : Mem.wf nx m = true) {E1 : Nat → Nat} {m1 : Mem} {nx1 : Nat} {w' : World}
    {gl gm} (h1 : SatM (Base.at w (fun _ => False) gl gm) E1 m1 nx1 w') {v : SV} {K : SV → Mem → Nat → VC} : ∀ {a : Ans}, a.Ok → (a.fit v m1).holds → (a.vc m nx K).holds → After (lift K) Γ E nx (v.val E1) w'
  | .ret r, hO, hf, hK => ⟨E, some r, m, nx, fun _ _ => rfl, Nat.le_refl _, fun x hx => by
      injection hx with hx; subst hx
      have hf : sameVal v r := hf
      rw [hf E1]; exact SV.val_pure hO E1 E, h.still h1.ext, hK⟩
  | .new r B, hO, hf, hK => by
    obtain ⟨o1, o2, o3, o4⟩ := hO
    simp only [Ans.fit] at hf
    split at hf
    · rename_i k hk
      split at hf
      · rename_i X hX
        obtain ⟨f1, f2⟩ := hf
        have f1 : SBle X B := f1
        have f2 : sameVal v (r k) := f2
        obtain ⟨E', e1, e2, e3⟩ := SatM.new h hw h1 hX f1 o1 o2
        refine ⟨E', some (r nx), _, nx + 1, e1, Nat.le_succ _, fun x hx => ?_, e3, hK⟩
        injection hx with hx; subst hx
        rw [f2 E1]
        exact o4 E1 E' k nx fun hb => (e2 hb).symm
      · exact hf.elim
    · exact hf.elim
  | .all _ f, hO, ⟨x, hx⟩, hK => Ans.told h hw h1 (hO x) hx (hK x)
  | .req _ a, hO, hf, hK => Ans.told (a := a) h hw h1 hO hf.2 (hK hf.1)
  | .fork _ _, hO, hf, hK => Ans.told h hw h1 (hO _) (fork_iff.1 hf) (fork_iff.1 hK)
theorem ans_ok {P : Program} {f : FuncId} {fn : Func} (hf : P.funcs[f]? = some fn) (hn : (fn.name == "runtime.NumGoroutine") = false) (hb : fn.body.isSome = true) {n : Nat} {spec : List SV → Option (Prop × Ans)}
    (h : ∀ args p a, spec args = some (p, a) → p → ∃ cfg, Good P cfg ∧ SV.wfs 0 args = true ∧ a.Ok ∧ Holds (runFn P (calling P cfg n) [] noP (cfg.anns f) cfg.rounds fn args [] 0 (fun v m _ => a.fit v m))) : CallOk P f (ansPT spec) := by
  intro args m nx K hk hwf hargs Γ E w hs
  unfold ansPT at hk
  split at hk
  · rename_i p a hr
    obtain ⟨hp, hk⟩ := hk
    obtain ⟨cfg, hg, h1, h2, h3⟩ := h _ _ _ hr hp
    have hc := calls_of_holds hg hf hn hb h3 rfl h1 (SatM.none w hs.glob)
    rw [SV.vals_pure h1 (fun _ => 0) E, unlit_vals] at hc
    refine out_of_calls hf hn hb (hc.mono ?_)
    rintro e w' ⟨v, rfl, E', sv, m', nx', _, _, g3, g4, g5⟩
    refine ⟨v, rfl, ?_⟩
    cases sv with
    | none => exact g5.elim
    | some u => rw [g3 u rfl]; exact Ans.told hs hwf g4 h2 g5 hk
  · exact hk.elim
theorem SV.wfs_append {nx : Nat} : ∀ {a b : List SV}, SV.wfs nx a = true → SV.wfs nx b = true → SV.wfs nx (a ++ b) = true
  | [], _, _, h => h
  | x :: a, b, h, h' => by
    simp only [SV.wfs, Bool.and_eq_true] at h
    simp only [List.cons_append, SV.wfs, Bool.and_eq_true]
    exact ⟨h.1, SV.wfs_append h.2 h'⟩
end Go.Proofs.YtoalfimkkibpdaaGreatDoor.Sx
/-
  Rlp: the first item: what it is; the set-up of 'length', whose loop is annotated.
-/
namespace Go.Proofs.YtoalfimkkibpdaaGreatDoor
open Go Sx
set_option maxRecDepth 20000
def num (l : List UInt8) : Int := l.foldl (fun a b => a * 256 + (b.toNat : Int)) 0
def part (s : List UInt8) (i : Int) : Int := num ((s.drop 1).take (i - 1).toNat)
def lenB (s : List UInt8) (to : Int) : Bool := decide (to ≤ s.length) && !decide (byteAt s 1 = 0) && decide (part s to ≤ 1048576) && decide (55 < part s to)
noncomputable def annLen (s : List UInt8) (to : Int) : LoopAnn :=
  { α := Int, pre := fun _ i => 1 ≤ i ∧ i ≤ to ∧ part s i ≤ 1048576, mea := fun _ i => (to - i).toNat, fresh := 0, slots := fun _ i => [(6, .int .i64 false (part s i)), (7, .int .i64 false i)], mem := fun _ _ => [] }
noncomputable def cfgL (s : List UInt8) (to : Int) : Cfg := { cfg1 with anns := fun f => if f = 181 then [(7, always (annLen s to))] else [] }
noncomputable def runA (cfg : Cfg) (f : Nat) (fn : Func) (args : List SV) (a : Ans) : VC := runFn Tryz.prog (calling Tryz.prog cfg 20) [] noP (cfg.anns f) cfg.rounds fn args [] 0 (fun v m _ => a.fit v m)
def faultA (z : List SV) : Ans := .all Int fun at' => .new (fun k => .tup (z ++ [.iface 272 (.ptr k true 0)])) (.cells [.int .i64 false at', .iface 27 (.int .i64 true 2)] 2 274)
def lengthA (s : List UInt8) (to : Int) : Ans := .fork (lenB s to) fun b => match b with
  | true => .ret (.tup [.int .i64 false (part s to), .niliface])
  | false => faultA [.int .i64 true 0]
end Go.Proofs.YtoalfimkkibpdaaGreatDoor
/-
  Conditions that the executor computes, written out by a program (vcgen.py).
-/
namespace Go.Proofs.YtoalfimkkibpdaaGreatDoor
open Go Sx
set_option maxRecDepth 20000
theorem vcLength (s : List UInt8) (to : Int) : VC.holds (runA (cfgL s to) 181 Tryz.f181 [.str false s, .int .i64 false to] (lengthA s to)) = (((decide ((s.length : Int) < to) = true → (lenB s to = true → sameVal (SV.tup [SV.int .i64 true 0, SV.iface 272 (SV.ptr 0 true 0)]) (SV.tup [SV.int .i64 false (part s to), SV.niliface])) ∧ (lenB s to = false → ∃ (u7 : Int), SBle (SB.cells [SV.int .i64 false (s.length : Int), SV.iface 27 (SV.int .i64 true 2)] 2 274) (SB.cells [SV.int .i64 false u7, SV.iface 27 (SV.int .i64 true 2)] 2 274) ∧ sameVal (SV.tup [SV.int .i64 true 0, SV.iface 272 (SV.ptr 0 true 0)]) (SV.tup ([SV.int .i64 true 0] ++ [SV.iface 272 (SV.ptr 0 true 0)])))) ∧ (decide ((s.length : Int) < to) = false → ((0 : Int) ≤ (1 : Int) ∧ 1 < (s.length : Int)) ∧ (decide (byteAt s 1 = 0) = true → (lenB s to = true → sameVal (SV.tup [SV.int .i64 true 0, SV.iface 272 (SV.ptr 0 true 0)]) (SV.tup [SV.int .i64 false (part s to), SV.niliface])) ∧ (lenB s to = false → ∃ (u6 : Int), SBle (SB.cells [SV.int .i64 true 1, SV.iface 27 (SV.int .i64 true 2)] 2 274) (SB.cells [SV.int .i64 false u6, SV.iface 27 (SV.int .i64 true 2)] 2 274) ∧ sameVal (SV.tup [SV.int .i64 true 0, SV.iface 272 (SV.ptr 0 true 0)]) (SV.tup ([SV.int .i64 true 0] ++ [SV.iface 272 (SV.ptr 0 true 0)])))) ∧ (decide (byteAt s 1 = 0) = false → (∃ (u5 : Int), (1 ≤ u5 ∧
 u5 ≤ to ∧ part s u5 ≤ 1048576) ∧ 0 = part s u5 ∧ 1 = u5 ∧ True) ∧ ∀ (u4 : Int), 1 ≤ u4 ∧ u4 ≤ to ∧ part s u4 ≤ 1048576 → (decide (u4 < to) = true → ((-9223372036854775808 : Int) ≤ part s u4 * 256 ∧ part s u4 * 256 ≤ (9223372036854775807 : Int)) ∧ (0 ≤ u4 ∧ u4 < (s.length : Int)) ∧ ((-9223372036854775808 : Int) ≤ byteAt s u4 ∧ byteAt s u4 ≤ 9223372036854775807) ∧ (0 ≤ part s u4 * 256 ∧ part s u4 * 256 ≤ (9223372036854775807 : Int) ∧ 0 ≤ byteAt s u4 ∧ byteAt s u4 ≤ 9223372036854775807) ∧ (decide (1048576 < bitsOf BinOp.or (part s u4 * 256) (byteAt s u4)) = true → (lenB s to = true → sameVal (SV.tup [SV.int .i64 true 0, SV.iface 272 (SV.ptr ((0 : Nat) + (0 : Nat)) true 0)]) (SV.tup [SV.int .i64 false (part s to), SV.niliface])) ∧ (lenB s to = false → ∃ (u3 : Int), SBle (SB.cells [SV.int .i64 false u4, SV.iface 27 (SV.int .i64 true 2)] 2 274) (SB.cells [SV.int .i64 false u3, SV.iface 27 (SV.int .i64 true 2)] 2 274) ∧ sameVal (SV.tup [SV.int .i64 true 0, SV.iface 272 (SV.ptr ((0 : Nat) + (0 : Nat)) true 0)]) (SV.tup ([SV.int .i64 true 0] ++ [SV.iface 272 (SV.ptr ((0 : Nat) + (0 : Nat)) true 0)])))) ∧ (decide (1048576 < bitsOf BinOp.or (part s u4 * 256) (byteAt s u4)) = false →
 ((-9223372036854775808 : Int) ≤ u4 + 1 ∧ u4 + 1 ≤ (9223372036854775807 : Int)) ∧ ∃ (u2 : Int), ((1 ≤ u2 ∧ u2 ≤ to ∧ part s u2 ≤ 1048576) ∧ (to - u2).toNat < (to - u4).toNat) ∧ bitsOf BinOp.or (part s u4 * 256) (byteAt s u4) = part s u2 ∧ u4 + 1 = u2 ∧ True)) ∧ (decide (u4 < to) = false → (decide (part s u4 ≤ 55) = true → (lenB s to = true → sameVal (SV.tup [SV.int .i64 true 0, SV.iface 272 (SV.ptr ((0 : Nat) + (0 : Nat)) true 0)]) (SV.tup [SV.int .i64 false (part s to), SV.niliface])) ∧ (lenB s to = false → ∃ (u1 : Int), SBle (SB.cells [SV.int .i64 true 1, SV.iface 27 (SV.int .i64 true 2)] 2 274) (SB.cells [SV.int .i64 false u1, SV.iface 27 (SV.int .i64 true 2)] 2 274) ∧ sameVal (SV.tup [SV.int .i64 true 0, SV.iface 272 (SV.ptr ((0 : Nat) + (0 : Nat)) true 0)]) (SV.tup ([SV.int .i64 true 0] ++ [SV.iface 272 (SV.ptr ((0 : Nat) + (0 : Nat)) true 0)])))) ∧ (decide (part s u4 ≤ 55) = false → (lenB s to = true → sameVal (SV.tup [SV.int .i64 false (part s u4), SV.niliface]) (SV.tup [SV.int .i64 false (part s to), SV.niliface])) ∧ (lenB s to = false → ∃ (_u0 : Int), False))))))) := by kernel_rfl
end Go.Proofs.YtoalfimkkibpdaaGreatDoor
/-
  Rlp: the length that stands ahead: the contract.
-/
namespace Go.Proofs.YtoalfimkkibpdaaGreatDoor
open Go Sx
set_option maxRecDepth 20000
theorem byteAt_lt (s : List UInt8) (i : Int) : 0 ≤ byteAt s i ∧ byteAt s i < 256 := by
  unfold byteAt; have := (s.getD i.toNat 0).toNat_lt; omega
theorem num_snoc (l : List UInt8) (b : UInt8) : num (l ++ [b]) = num l * 256 + (b.toNat : Int) := by simp [num]
theorem part_one (s : List UInt8) : part s 1 = 0 := by simp [part, num]
theorem part_succ {s : List UInt8} {x : Int} (h : 1 ≤ x) (h2 : x < s.length) : part s (x + 1) = part s x * 256 + byteAt s x := by
  unfold part
  have e : (x + 1 - 1).toNat = (x - 1).toNat + 1 := by omega
  have hx : (x - 1).toNat < (s.drop 1).length := by simp; omega
  rw [e, List.take_add_one, List.getElem?_eq_getElem hx]
  simp only [Option.toList, num_snoc]
  have e2 : byteAt s x = ((s.drop 1)[(x - 1).toNat].toNat : Int) := by
    have : 1 + (x - 1).toNat = x.toNat := by omega
    unfold byteAt
    rw [List.getElem_drop, List.getD_eq_getElem?_getD, List.getElem?_eq_getElem (by omega)]
    simp only [Option.getD_some, this]
  rw [e2]
theorem part_nn (s : List UInt8) (x : Int) : 0 ≤ part s x := by
  unfold part num
  suffices ∀ (l : List UInt8) (a : Int), 0 ≤ a → 0 ≤ l.foldl (fun a b => a * 256 + (b.toNat : Int)) a from this _ _ (Int.le_refl _)
  intro l
  induction l with
  | nil => exact fun _ h => h
  | cons b r ih => intro a h; exact ih _ (show 0 ≤ a * 256 + (b.toNat : Int) by omega)
theorem part_mono {s : List UInt8} {x : Int} (h : 1 ≤ x) : ∀ (n : Nat), x + n ≤ s.length → part s x ≤ part s (x + n)
  | 0, _ => by simp
  | n + 1, hn => by
    have h1 := part_mono (s := s) h n (by omega)
    have h2 := part_succ (s := s) (x := x + n) (by omega) (by omega)
    have h3 := byteAt_lt s (x + n)
    have h4 := part_nn s (x + n)
    have : x + ((n + 1 : Nat) : Int) = x + n + 1 := by omega
    rw [this, h2]; omega
theorem part_le {s : List UInt8} {x y : Int} (h : 1 ≤ x) (hy : y ≤ s.length) (hxy : x ≤ y) : part s x ≤ part s y := by
  have := part_mono (s := s) h (y - x).toNat (by omega)
  rwa [show x + ((y - x).toNat : Int) = y by omega] at this
theorem or_256 {a b : Int} (ha : 0 ≤ a) (hb : 0 ≤ b) (hb2 : b < 256) : bitsOf .or (a * 256) b = a * 256 + b := by
  obtain ⟨a, rfl⟩ := Int.eq_ofNat_of_zero_le ha
  obtain ⟨b, rfl⟩ := Int.eq_ofNat_of_zero_le hb
  have : ((a : Int) * 256) = ((a * 256 : Nat) : Int) := by omega
  rw [this]
  show ((((a * 256 : Nat) : Int).toNat ||| (b : Int).toNat : Nat) : Int) = _
  simp only [Int.toNat_natCast]
  have := Nat.two_pow_add_eq_or_of_lt (i := 8) (b := b) (by omega) a
  rw [show (2:Nat)^8 = 256 from rfl, Nat.mul_comm] at this
  omega
theorem lenB_iff {s : List UInt8} {to : Int} : lenB s to = true ↔ to ≤ s.length ∧ byteAt s 1 ≠ 0 ∧ part s to ≤ 1048576 ∧ 55 < part s to := by
  simp [lenB, and_assoc]
theorem length_holds {s : List UInt8} {to : Int} (h2 : 2 ≤ to) (h3 : to < 100) : Holds (runA (cfgL s to) 181 Tryz.f181 [.str false s, .int .i64 false to] (lengthA s to)) := by
  refine Holds.of_eq (vcLength s to) ?_
  have F : ∀ {p : Prop}, ¬ (to ≤ s.length ∧ byteAt s 1 ≠ 0 ∧ part s to ≤ 1048576 ∧ 55 < part s to) → lenB s to = true → p := fun h e => absurd (lenB_iff.1 e) h
  refine ⟨fun a => ⟨F (by simp at a; omega), fun _ => by (first | exact ⟨_, SBle.cells (fun _ => rfl) rfl, fun _ => rfl⟩ | exact fun _ => rfl | trivial)⟩, fun a => ?_⟩
  simp only [decide_eq_false_iff_not, Int.not_lt] at a
  refine ⟨by omega, fun b => ⟨F (by simp at b; simp [b]), fun _ => by (first | exact ⟨_, SBle.cells (fun _ => rfl) rfl, fun _ => rfl⟩ | exact fun _ => rfl | trivial)⟩, fun b => ?_⟩
  simp only [decide_eq_false_iff_not] at b
  refine ⟨⟨1, ⟨by omega, by omega, by rw [part_one]; decide⟩, (part_one s).symm, rfl, trivial⟩, fun x ⟨hx1, hx2, hx3⟩ => ?_⟩
  have g1 := part_nn s x
  have g2 := byteAt_lt s x
  rw [or_256 g1 g2.1 g2.2]
  refine ⟨fun c => ?_, fun c => ?_⟩
  · simp only [decide_eq_true_eq] at c
    have g3 := part_succ (s := s) hx1 (by omega)
    rw [← g3]
    refine ⟨by omega, by omega, by omega, by omega, fun d => ⟨F ?_, fun _ => by (first | exact ⟨_, SBle.cells (fun _ => rfl) rfl, fun _ => rfl⟩ | exact fun _ => rfl | trivial)⟩, fun d => ⟨by omega, x + 1, ⟨⟨by omega, by omega, by simpa using d⟩, by omega⟩, rfl, rfl, trivial⟩⟩
    simp only [decide_eq_true_eq] at d
    have := part_le (s := s) (x := x + 1) (by omega) a (by omega)
    omega
  · simp only [decide_eq_false_iff_not] at c
    obtain rfl : x = to := by omega
    refine ⟨fun d => ⟨F (by simp at d; omega), fun _ => by (first | exact ⟨_, SBle.cells (fun _ => rfl) rfl, fun _ => rfl⟩ | exact fun _ => rfl | trivial)⟩, fun d => ⟨fun _ => by (first | exact ⟨_, SBle.cells (fun _ => rfl) rfl, fun _ => rfl⟩ | exact fun _ => rfl | trivial), fun e => ?_⟩⟩
    simp only [decide_eq_false_iff_not] at d
    rw [lenB_iff.2 ⟨a, b, hx3, by omega⟩] at e
    cases e
def lengthSpec : List SV → Option (Prop × Ans)
  | [.str false s, .int .i64 false to] => some (2 ≤ to ∧ to < 100, lengthA s to)
  | _ => none
noncomputable def lengthPT : PT := ansPT lengthSpec
theorem goodL (s : List UInt8) (to : Int) : Sx.Good Tryz.prog (cfgL s to) := ⟨mixes, list1_ok, fns_ok⟩
theorem faultA_ok {z : List SV} (hz : SV.wfs 0 z = true) : (faultA z).Ok := by
  intro x
  refine ⟨rfl, rfl, fun k => SV.wfs_append (SV.wfs_mono (Nat.zero_le _) z hz) ?_, fun E E' k k' h => ?_⟩
  · simp [SV.wfs, SV.wf, Nat.blt_eq]
  · have hk : E k = E' k' := h rfl
    have hv := SV.vals_pure hz E E'
    simp only [SV.vals_eq] at hv
    simp [SV.val, SV.vals_eq, hk, hv]
theorem length_ok : CallOk Tryz.prog 181 lengthPT := by
  refine ans_ok (n := 20) (fn := Tryz.f181) Tryz.func181 (by kernel_rfl) (by kernel_rfl) ?_
  intro args p a h hp
  unfold lengthSpec at h
  split at h
  · rename_i s to
    injection h with h; injection h with h1 h2; subst h1; subst h2
    refine ⟨_, goodL s to, rfl, fun b => ?_, length_holds hp.1 hp.2⟩
    cases b
    · exact faultA_ok rfl
    · exact rfl
  · cases h
end Go.Proofs.YtoalfimkkibpdaaGreatDoor
/-
  Rlp: the first item of a text: what it is; the set-up.
-/
namespace Go.Proofs.YtoalfimkkibpdaaGreatDoor
open Go Sx
set_option maxRecDepth 20000
noncomputable def list2 : List (FuncId × PT) := (181, lengthPT) :: list1
theorem list2_ok : SummOk Tryz.prog (fun f => lookPT f list2) := .cons length_ok (ansPT_mono _) list1_ok
noncomputable def cfg2 : Cfg := { cfg0 with summ := fun f => lookPT f list2 }
theorem good2 : Sx.Good Tryz.prog cfg2 := ⟨mixes, list2_ok, fns_ok⟩
def lead (s : List UInt8) : Int := if byteAt s 0 < 192 then byteAt s 0 - 128 else byteAt s 0 - 192
def cutFrom (s : List UInt8) : Int := if byteAt s 0 < 128 then 0 else if 55 < lead s then lead s - 54 else 1
def cutN (s : List UInt8) : Int := if byteAt s 0 < 128 then 1 else if 55 < lead s then part s (lead s - 54) else lead s
def cutB (s : List UInt8) : Bool := decide (s ≠ []) && (decide (byteAt s 0 < 128) || ((!decide (55 < lead s) || lenB s (lead s - 54)) && decide (cutN s ≤ s.length - cutFrom s) && !(decide (byteAt s 0 < 192) && decide (lead s = 1) && decide (byteAt s 1 < 128))))
def cutL (s : List UInt8) : Bool := decide (192 ≤ byteAt s 0)
def cutIn (s : List UInt8) : List UInt8 := (s.drop (cutFrom s).toNat).take (cutN s).toNat
def cutRest (s : List UInt8) : List UInt8 := s.drop (cutFrom s + cutN s).toNat
def cutA (s : List UInt8) : Ans := .fork (cutB s) fun b => match b with
  | true => .ret (.tup [.bool false (cutL s), .str false (cutIn s), .str false (cutRest s), .niliface])
  | false => faultA [.bool true false, .str true [], .str true []]
end Go.Proofs.YtoalfimkkibpdaaGreatDoor
/-
  Conditions that the executor computes, written out by a program (vcgen.py).
-/
namespace Go.Proofs.YtoalfimkkibpdaaGreatDoor
open Go Sx
set_option maxRecDepth 20000
theorem vcHead (base n : Int) (R : SV → Prop) : VC.holds (runP cfg2 58 Tryz.f58 [.int .u8 false base, .int .i64 false n] R) = (((decide (n ≤ 55) = true → R (SV.str (false && true) [UInt8.ofNat ((base + n % 256) % 256).toNat])) ∧ (decide (n ≤ 55) = false → (0 ≤ n % 18446744073709551616 ∧ n % 18446744073709551616 < (18446744073709551616 : Int)) ∧ (↑(1 : Nat) : Int) + (↑(digits (n % 18446744073709551616)).length : Int) ≤ 9223372036854775807 ∧ R (SV.str false (cat [UInt8.ofNat (((base + 55) % 256 + (↑(digits (n % 18446744073709551616)).length : Int) % 256) % 256).toNat] (digits (n % 18446744073709551616))))))) := by kernel_rfl
theorem vcCut (s : List UInt8) : VC.holds (runA cfg2 158 Tryz.f158 [.str false s] (cutA s)) = ((fun P0 : SV => ((fun P1 : SV => ((fun P2 : SV => ((fun P3 : SV => ((fun P4 : SV => ((fun P5 : SB => (((decide (s = []) = true → (cutB s = true → sameVal P0 P1) ∧ (cutB s = false → ∃ (u17 : Int), SBle (SB.cells [SV.int .i64 true 0, SV.iface 27 (SV.int .i64 true 2)] 2 274) (SB.cells [SV.int .i64 false u17, SV.iface 27 (SV.int .i64 true 2)] 2 274) ∧ sameVal P0 P2)) ∧ (decide (s = []) = false → ((0 : Int) ≤ (0 : Int) ∧ 0 < (s.length : Int)) ∧ (decide (byteAt s 0 < 128) = true → ((0 : Int) ≤ (0 : Int) ∧ (0 : Int) ≤ (1 : Int) ∧ 1 ≤ (s.length : Int)) ∧ ((0 : Int) ≤ (1 : Int) ∧ 1 ≤ (s.length : Int) ∧ (s.length : Int) ≤ (s.length : Int)) ∧ (cutB s = true → sameVal (SV.tup [SV.bool true false, SV.str (false && true && true) (subStr s none (some (Operand.const (Value.int IntKind.i64 1))) 0 1), SV.str (false && true && false) (subStr s (some (Operand.const (Value.int IntKind.i64 1))) none 1 (s.length : Int)), SV.niliface]) P1) ∧ (cutB s = false → ∃ (_u16 : Int), False)) ∧ (decide (byteAt s 0 < 128) = false → ((0 : Int) ≤ (0 : Int) ∧ 0 < (s.length : Int)) ∧ (decide (byteAt s 0 < 192) = true → ((0 : Int) ≤ (0 : Int) ∧ 0 < (s.length : Int)) ∧ ((-9223372036854775808 : Int) ≤ (byteAt s 0 - 128) % 256 ∧ (byteAt s 0 - 128) % 256 ≤ (9223372036854775807 : Int)) ∧
 (decide (55 < (byteAt s 0 - 128) % 256) = true → ((-9223372036854775808 : Int) ≤ 1 + (byteAt s 0 - 128) % 256 ∧ 1 + (byteAt s 0 - 128) % 256 ≤ (9223372036854775807 : Int)) ∧ ((-9223372036854775808 : Int) ≤ 1 + (byteAt s 0 - 128) % 256 - (55 : Int) ∧ 1 + (byteAt s 0 - 128) % 256 - (55 : Int) ≤ (9223372036854775807 : Int)) ∧ ((2 : Int) ≤ 1 + (byteAt s 0 - 128) % 256 - (55 : Int) ∧ 1 + (byteAt s 0 - 128) % 256 - (55 : Int) < (100 : Int)) ∧ (lenB s (1 + (byteAt s 0 - 128) % 256 - (55 : Int)) = true → ((-9223372036854775808 : Int) ≤ (s.length : Int) - (1 + (byteAt s 0 - 128) % 256 - (55 : Int)) ∧ (s.length : Int) - (1 + (byteAt s 0 - 128) % 256 - (55 : Int)) ≤ 9223372036854775807) ∧ (decide ((s.length : Int) - (1 + (byteAt s 0 - 128) % 256 - (55 : Int)) < part s (1 + (byteAt s 0 - 128) % 256 - (55 : Int))) = true → (cutB s = true → sameVal P0 P1) ∧ (cutB s = false → ∃ (u15 : Int), SBle P5 (SB.cells [SV.int .i64 false u15, SV.iface 27 (SV.int .i64 true 2)] 2 274) ∧ sameVal P0 P2)) ∧ (decide ((s.length : Int) - (1 + (byteAt s 0 - 128) % 256 - (55 : Int)) < part s (1 + (byteAt s 0 - 128) % 256 - (55 : Int))) = false →
 (decide (part s (1 + (byteAt s 0 - 128) % 256 - (55 : Int)) = 1) = true → ((0 : Int) ≤ (1 : Int) ∧ 1 < (s.length : Int)) ∧ (decide (byteAt s 1 < 128) = true → (cutB s = true → sameVal P0 P1) ∧ (cutB s = false → ∃ (u14 : Int), SBle (SB.cells [SV.int .i64 true 1, SV.iface 27 (SV.int .i64 true 2)] 2 274) (SB.cells [SV.int .i64 false u14, SV.iface 27 (SV.int .i64 true 2)] 2 274) ∧ sameVal P0 P2)) ∧ (decide (byteAt s 1 < 128) = false → ((-9223372036854775808 : Int) ≤ 1 + (byteAt s 0 - 128) % 256 - 55 + part s (1 + (byteAt s 0 - 128) % 256 - (55 : Int)) ∧ 1 + (byteAt s 0 - 128) % 256 - 55 + part s (1 + (byteAt s 0 - 128) % 256 - (55 : Int)) ≤ 9223372036854775807) ∧ ((0 : Int) ≤ 1 + (byteAt s 0 - 128) % 256 - (55 : Int) ∧ 1 + (byteAt s 0 - 128) % 256 - (55 : Int) ≤ 1 + (byteAt s 0 - 128) % 256 - 55 + part s (1 + (byteAt s 0 - 128) % 256 - (55 : Int)) ∧ 1 + (byteAt s 0 - 128) % 256 - 55 + part s (1 + (byteAt s 0 - 128) % 256 - (55 : Int)) ≤ (s.length : Int)) ∧ ((-9223372036854775808 : Int) ≤ 1 + (byteAt s 0 - 128) % 256 - 55 + part s (1 + (byteAt s 0 - 128) % 256 - (55 : Int)) ∧
 1 + (byteAt s 0 - 128) % 256 - 55 + part s (1 + (byteAt s 0 - 128) % 256 - (55 : Int)) ≤ 9223372036854775807) ∧ ((0 : Int) ≤ 1 + (byteAt s 0 - 128) % 256 - 55 + part s (1 + (byteAt s 0 - 128) % 256 - (55 : Int)) ∧ 1 + (byteAt s 0 - 128) % 256 - 55 + part s (1 + (byteAt s 0 - 128) % 256 - (55 : Int)) ≤ (s.length : Int) ∧ (s.length : Int) ≤ (s.length : Int)) ∧ (cutB s = true → sameVal P3 P1) ∧ (cutB s = false → ∃ (_u13 : Int), False))) ∧ (decide (part s (1 + (byteAt s 0 - 128) % 256 - (55 : Int)) = 1) = false → ((-9223372036854775808 : Int) ≤ 1 + (byteAt s 0 - 128) % 256 - 55 + part s (1 + (byteAt s 0 - 128) % 256 - (55 : Int)) ∧ 1 + (byteAt s 0 - 128) % 256 - 55 + part s (1 + (byteAt s 0 - 128) % 256 - (55 : Int)) ≤ 9223372036854775807) ∧ ((0 : Int) ≤ 1 + (byteAt s 0 - 128) % 256 - (55 : Int) ∧ 1 + (byteAt s 0 - 128) % 256 - (55 : Int) ≤ 1 + (byteAt s 0 - 128) % 256 - 55 + part s (1 + (byteAt s 0 - 128) % 256 - (55 : Int)) ∧ 1 + (byteAt s 0 - 128) % 256 - 55 + part s (1 + (byteAt s 0 - 128) % 256 - (55 : Int)) ≤ (s.length : Int)) ∧ ((-9223372036854775808 : Int) ≤ 1 + (byteAt s 0 - 128) % 256 - 55 + part s (1 + (byteAt s 0 - 128) % 256 - (55 : Int)) ∧
 1 + (byteAt s 0 - 128) % 256 - 55 + part s (1 + (byteAt s 0 - 128) % 256 - (55 : Int)) ≤ 9223372036854775807) ∧ ((0 : Int) ≤ 1 + (byteAt s 0 - 128) % 256 - 55 + part s (1 + (byteAt s 0 - 128) % 256 - (55 : Int)) ∧ 1 + (byteAt s 0 - 128) % 256 - 55 + part s (1 + (byteAt s 0 - 128) % 256 - (55 : Int)) ≤ (s.length : Int) ∧ (s.length : Int) ≤ (s.length : Int)) ∧ (cutB s = true → sameVal P3 P1) ∧ (cutB s = false → ∃ (_u12 : Int), False)))) ∧ (lenB s (1 + (byteAt s 0 - 128) % 256 - (55 : Int)) = false → ∀ (u11 : Int), (cutB s = true → sameVal P0 P1) ∧ (cutB s = false → ∃ (u10 : Int), SBle (SB.cells [SV.int .i64 false u11, SV.iface 27 (SV.int .i64 true 2)] 2 274) (SB.cells [SV.int .i64 false u10, SV.iface 27 (SV.int .i64 true 2)] 2 274) ∧ sameVal P0 P2))) ∧ (decide (55 < (byteAt s 0 - 128) % 256) = false → ((-9223372036854775808 : Int) ≤ (s.length : Int) - 1 ∧ (s.length : Int) - 1 ≤ (9223372036854775807 : Int)) ∧ (decide ((s.length : Int) - 1 < (byteAt s 0 - 128) % 256) = true → (cutB s = true → sameVal P0 P1) ∧ (cutB s = false → ∃ (u9 : Int), SBle P5 (SB.cells [SV.int .i64 false u9, SV.iface 27 (SV.int .i64 true 2)] 2 274) ∧ sameVal P0 P2)) ∧
 (decide ((s.length : Int) - 1 < (byteAt s 0 - 128) % 256) = false → (decide ((byteAt s 0 - 128) % 256 = (1 : Int)) = true → ((0 : Int) ≤ (1 : Int) ∧ 1 < (s.length : Int)) ∧ (decide (byteAt s 1 < 128) = true → (cutB s = true → sameVal P0 P1) ∧ (cutB s = false → ∃ (u8 : Int), SBle (SB.cells [SV.int .i64 true 1, SV.iface 27 (SV.int .i64 true 2)] 2 274) (SB.cells [SV.int .i64 false u8, SV.iface 27 (SV.int .i64 true 2)] 2 274) ∧ sameVal P0 P2)) ∧ (decide (byteAt s 1 < 128) = false → ((-9223372036854775808 : Int) ≤ 1 + (byteAt s 0 - 128) % 256 ∧ 1 + (byteAt s 0 - 128) % 256 ≤ (9223372036854775807 : Int)) ∧ ((0 : Int) ≤ (1 : Int) ∧ (1 : Int) ≤ 1 + (byteAt s 0 - 128) % 256 ∧ 1 + (byteAt s 0 - 128) % 256 ≤ (s.length : Int)) ∧ ((-9223372036854775808 : Int) ≤ 1 + (byteAt s 0 - 128) % 256 ∧ 1 + (byteAt s 0 - 128) % 256 ≤ (9223372036854775807 : Int)) ∧ ((0 : Int) ≤ 1 + (byteAt s 0 - 128) % 256 ∧ 1 + (byteAt s 0 - 128) % 256 ≤ (s.length : Int) ∧ (s.length : Int) ≤ (s.length : Int)) ∧ (cutB s = true → sameVal P4 P1) ∧ (cutB s = false → ∃ (_u7 : Int), False))) ∧ (decide ((byteAt s 0 - 128) % 256 = (1 : Int)) = false → ((-9223372036854775808 : Int) ≤ 1 + (byteAt s 0 - 128) % 256 ∧
 1 + (byteAt s 0 - 128) % 256 ≤ (9223372036854775807 : Int)) ∧ ((0 : Int) ≤ (1 : Int) ∧ (1 : Int) ≤ 1 + (byteAt s 0 - 128) % 256 ∧ 1 + (byteAt s 0 - 128) % 256 ≤ (s.length : Int)) ∧ ((-9223372036854775808 : Int) ≤ 1 + (byteAt s 0 - 128) % 256 ∧ 1 + (byteAt s 0 - 128) % 256 ≤ (9223372036854775807 : Int)) ∧ ((0 : Int) ≤ 1 + (byteAt s 0 - 128) % 256 ∧ 1 + (byteAt s 0 - 128) % 256 ≤ (s.length : Int) ∧ (s.length : Int) ≤ (s.length : Int)) ∧ (cutB s = true → sameVal P4 P1) ∧ (cutB s = false → ∃ (_u6 : Int), False))))) ∧ (decide (byteAt s 0 < 192) = false → ((0 : Int) ≤ (0 : Int) ∧ 0 < (s.length : Int)) ∧ ((-9223372036854775808 : Int) ≤ (byteAt s 0 - 192) % 256 ∧ (byteAt s 0 - 192) % 256 ≤ (9223372036854775807 : Int)) ∧ (decide (55 < (byteAt s 0 - 192) % 256) = true → ((-9223372036854775808 : Int) ≤ 1 + (byteAt s 0 - 192) % 256 ∧ 1 + (byteAt s 0 - 192) % 256 ≤ (9223372036854775807 : Int)) ∧ ((-9223372036854775808 : Int) ≤ 1 + (byteAt s 0 - 192) % 256 - (55 : Int) ∧ 1 + (byteAt s 0 - 192) % 256 - (55 : Int) ≤ (9223372036854775807 : Int)) ∧ ((2 : Int) ≤ 1 + (byteAt s 0 - 192) % 256 - (55 : Int) ∧ 1 + (byteAt s 0 - 192) % 256 - (55 : Int) < (100 : Int)) ∧
 (lenB s (1 + (byteAt s 0 - 192) % 256 - (55 : Int)) = true → ((-9223372036854775808 : Int) ≤ (s.length : Int) - (1 + (byteAt s 0 - 192) % 256 - (55 : Int)) ∧ (s.length : Int) - (1 + (byteAt s 0 - 192) % 256 - (55 : Int)) ≤ 9223372036854775807) ∧ (decide ((s.length : Int) - (1 + (byteAt s 0 - 192) % 256 - (55 : Int)) < part s (1 + (byteAt s 0 - 192) % 256 - (55 : Int))) = true → (cutB s = true → sameVal P0 P1) ∧ (cutB s = false → ∃ (u5 : Int), SBle P5 (SB.cells [SV.int .i64 false u5, SV.iface 27 (SV.int .i64 true 2)] 2 274) ∧ sameVal P0 P2)) ∧ (decide ((s.length : Int) - (1 + (byteAt s 0 - 192) % 256 - (55 : Int)) < part s (1 + (byteAt s 0 - 192) % 256 - (55 : Int))) = false → ((-9223372036854775808 : Int) ≤ 1 + (byteAt s 0 - 192) % 256 - 55 + part s (1 + (byteAt s 0 - 192) % 256 - (55 : Int)) ∧ 1 + (byteAt s 0 - 192) % 256 - 55 + part s (1 + (byteAt s 0 - 192) % 256 - (55 : Int)) ≤ 9223372036854775807) ∧ ((0 : Int) ≤ 1 + (byteAt s 0 - 192) % 256 - (55 : Int) ∧ 1 + (byteAt s 0 - 192) % 256 - (55 : Int) ≤ 1 + (byteAt s 0 - 192) % 256 - 55 + part s (1 + (byteAt s 0 - 192) % 256 - (55 : Int)) ∧
 1 + (byteAt s 0 - 192) % 256 - 55 + part s (1 + (byteAt s 0 - 192) % 256 - (55 : Int)) ≤ (s.length : Int)) ∧ ((-9223372036854775808 : Int) ≤ 1 + (byteAt s 0 - 192) % 256 - 55 + part s (1 + (byteAt s 0 - 192) % 256 - (55 : Int)) ∧ 1 + (byteAt s 0 - 192) % 256 - 55 + part s (1 + (byteAt s 0 - 192) % 256 - (55 : Int)) ≤ 9223372036854775807) ∧ ((0 : Int) ≤ 1 + (byteAt s 0 - 192) % 256 - 55 + part s (1 + (byteAt s 0 - 192) % 256 - (55 : Int)) ∧ 1 + (byteAt s 0 - 192) % 256 - 55 + part s (1 + (byteAt s 0 - 192) % 256 - (55 : Int)) ≤ (s.length : Int) ∧ (s.length : Int) ≤ (s.length : Int)) ∧ (cutB s = true → sameVal (SV.tup [SV.bool (true && true) (decide ((192 : Int) = (192 : Int))), SV.str (false && false && false) (subStr s (some (Operand.tmp 70)) (some (Operand.tmp 73)) (1 + (byteAt s 0 - 192) % 256 - (55 : Int)) (1 + (byteAt s 0 - 192) % 256 - 55 + part s (1 + (byteAt s 0 - 192) % 256 - (55 : Int)))), SV.str (false && false && false) (subStr s (some (Operand.tmp 78)) none (1 + (byteAt s 0 - 192) % 256 - 55 + part s (1 + (byteAt s 0 - 192) % 256 - (55 : Int))) (s.length : Int)), SV.niliface]) P1) ∧ (cutB s = false → ∃ (_u4 : Int), False))) ∧
 (lenB s (1 + (byteAt s 0 - 192) % 256 - (55 : Int)) = false → ∀ (u3 : Int), (cutB s = true → sameVal P0 P1) ∧ (cutB s = false → ∃ (u2 : Int), SBle (SB.cells [SV.int .i64 false u3, SV.iface 27 (SV.int .i64 true 2)] 2 274) (SB.cells [SV.int .i64 false u2, SV.iface 27 (SV.int .i64 true 2)] 2 274) ∧ sameVal P0 P2))) ∧ (decide (55 < (byteAt s 0 - 192) % 256) = false → ((-9223372036854775808 : Int) ≤ (s.length : Int) - 1 ∧ (s.length : Int) - 1 ≤ (9223372036854775807 : Int)) ∧ (decide ((s.length : Int) - 1 < (byteAt s 0 - 192) % 256) = true → (cutB s = true → sameVal P0 P1) ∧ (cutB s = false → ∃ (u1 : Int), SBle P5 (SB.cells [SV.int .i64 false u1, SV.iface 27 (SV.int .i64 true 2)] 2 274) ∧ sameVal P0 P2)) ∧ (decide ((s.length : Int) - 1 < (byteAt s 0 - 192) % 256) = false → ((-9223372036854775808 : Int) ≤ 1 + (byteAt s 0 - 192) % 256 ∧ 1 + (byteAt s 0 - 192) % 256 ≤ (9223372036854775807 : Int)) ∧ ((0 : Int) ≤ (1 : Int) ∧ (1 : Int) ≤ 1 + (byteAt s 0 - 192) % 256 ∧ 1 + (byteAt s 0 - 192) % 256 ≤ (s.length : Int)) ∧ ((-9223372036854775808 : Int) ≤ 1 + (byteAt s 0 - 192) % 256 ∧ 1 + (byteAt s 0 - 192) % 256 ≤ (9223372036854775807 : Int)) ∧ ((0 : Int) ≤ 1 + (byteAt s 0 - 192) % 256 ∧
 1 + (byteAt s 0 - 192) % 256 ≤ (s.length : Int) ∧ (s.length : Int) ≤ (s.length : Int)) ∧ (cutB s = true → sameVal (SV.tup [SV.bool (true && true) (decide ((192 : Int) = (192 : Int))), SV.str (false && true && false) (subStr s (some (Operand.tmp 70)) (some (Operand.tmp 73)) 1 (1 + (byteAt s 0 - 192) % 256)), SV.str (false && false && false) (subStr s (some (Operand.tmp 78)) none (1 + (byteAt s 0 - 192) % 256) (s.length : Int)), SV.niliface]) P1) ∧ (cutB s = false → ∃ (_u0 : Int), False))))))))) (SB.cells [SV.int .i64 false (s.length : Int), SV.iface 27 (SV.int .i64 true 2)] 2 274))) (SV.tup [SV.bool (true && true) (decide ((128 : Int) = (192 : Int))), SV.str (false && true && false) (subStr s (some (Operand.tmp 70)) (some (Operand.tmp 73)) 1 (1 + (byteAt s 0 - 128) % 256)), SV.str (false && false && false) (subStr s (some (Operand.tmp 78)) none (1 + (byteAt s 0 - 128) % 256) (s.length : Int)), SV.niliface]))) (SV.tup [SV.bool (true && true) (decide ((128 : Int) = (192 : Int))), SV.str (false && false && false) (subStr s (some (Operand.tmp 70)) (some (Operand.tmp 73)) (1 + (byteAt s 0 - 128) % 256 - (55 : Int)) (1 + (byteAt s 0 - 128) % 256 - 55 + part s (1 + (byteAt s 0 - 128) % 256 - (55 : Int)))), SV.str (false && false && false) (subStr s (some (Operand.tmp 78)) none (1 + (byteAt s 0 - 128) % 256 - 55 + part s (1 + (byteAt s 0 - 128) % 256 - (55 : Int))) (s.length : Int)), SV.niliface]))) (SV.tup ([SV.bool true false, SV.str true [], SV.str true []] ++ [SV.iface 272 (SV.ptr 0 true 0)])))) (SV.tup [SV.bool false (cutL s), SV.str false (cutIn s), SV.str false (cutRest s), SV.niliface]))) (SV.tup [SV.bool true false, SV.str true [], SV.str true [], SV.iface 272 (SV.ptr 0 true 0)])) := by kernel_rfl
end Go.Proofs.YtoalfimkkibpdaaGreatDoor
/-
  Rlp: the first item: the contract.
-/
namespace Go.Proofs.YtoalfimkkibpdaaGreatDoor
open Go Sx
set_option maxRecDepth 20000
theorem lead_lt {s : List UInt8} (h : byteAt s 0 < 192) : lead s = byteAt s 0 - 128 := if_pos h
theorem lead_ge {s : List UInt8} (h : ¬ byteAt s 0 < 192) : lead s = byteAt s 0 - 192 := if_neg h
theorem cutB_iff {s : List UInt8} : cutB s = true ↔ s ≠ [] ∧ (byteAt s 0 < 128 ∨ (¬ byteAt s 0 < 128 ∧ 55 < lead s ∧ lenB s (lead s - 54) = true ∧ part s (lead s - 54) ≤ s.length - (lead s - 54)) ∨ (¬ byteAt s 0 < 128 ∧ ¬ 55 < lead s ∧ lead s ≤ s.length - 1 ∧ ¬ (byteAt s 0 < 192 ∧ lead s = 1 ∧ byteAt s 1 < 128))) := by
  unfold cutB cutN cutFrom
  by_cases hA : byteAt s 0 < 128
  · simp [hA]
  · by_cases hL : 55 < lead s
    · have : lead s ≠ 1 := by omega
      simp [hA, hL, this]
    · simp [hA, hL]
      intro _ _; omega
theorem same4 {a a' : Bool} {b b' c c' : List UInt8} {l1 l2 l3 l4 l5 l6 : Bool} (h1 : a = a') (h2 : b = b') (h3 : c = c') : sameVal (.tup [.bool l1 a, .str l2 b, .str l3 c, .niliface]) (.tup [.bool l4 a', .str l5 b', .str l6 c', .niliface]) := by
  subst h1; subst h2; subst h3; exact fun _ => rfl
theorem cut_short {s : List UInt8} (h : byteAt s 0 < 128) : cutL s = false ∧ cutIn s = s.take 1 ∧ cutRest s = s.drop 1 := by
  refine ⟨by simp [cutL]; omega, ?_, ?_⟩ <;> simp [cutIn, cutRest, cutFrom, cutN, h]
theorem cut_mid {s : List UInt8} (h : ¬ byteAt s 0 < 128) (h2 : ¬ 55 < lead s) : cutIn s = (s.drop (1 : Int).toNat).take (lead s).toNat ∧ cutRest s = s.drop (1 + lead s).toNat := by
  constructor <;> simp [cutIn, cutRest, cutFrom, cutN, h, h2]
theorem cut_long {s : List UInt8} (h : ¬ byteAt s 0 < 128) (h2 : 55 < lead s) : cutIn s = (s.drop (lead s - 54).toNat).take (part s (lead s - 54)).toNat ∧ cutRest s = s.drop (lead s - 54 + part s (lead s - 54)).toNat := by
  constructor <;> simp [cutIn, cutRest, cutFrom, cutN, h, h2]
theorem cut_holds {s : List UInt8} (hs : s.length < 9223372036854775808) : Holds (runA cfg2 158 Tryz.f158 [.str false s] (cutA s)) := by
  refine Holds.of_eq (vcCut s) ?_
  have g0 := byteAt_lt s 0
  have g1 := byteAt_lt s 1
  have g2 := part_nn s (lead s - 54)
  by_cases h0 : s = []
  · have hB : cutB s = false := by rw [Bool.eq_false_iff, ne_eq, cutB_iff]; simp [h0]
    simp only [h0, decide_true, forall_const, Bool.true_eq_false, false_imp_iff, and_true]
    rw [h0] at hB
    simp only [hB, Bool.false_eq_true, false_imp_iff, forall_const, true_and]
    (first | exact ⟨_, SBle.cells (fun _ => rfl) rfl, fun _ => rfl⟩ | exact fun _ => rfl | trivial)
  have hl : 0 < s.length := List.length_pos_iff.2 h0
  by_cases hA : byteAt s 0 < 128
  · have hB : cutB s = true := cutB_iff.2 ⟨h0, .inl hA⟩
    obtain ⟨k1, k2, k3⟩ := cut_short hA
    simp only [h0, hA, hB, decide_true, decide_false, forall_const, Bool.true_eq_false, Bool.false_eq_true, false_imp_iff, and_true, true_and, subStr]
    refine ⟨by omega, by omega, by omega, ?_⟩
    exact same4 k1.symm (by rw [k2]; rfl) (by rw [k3]; rfl)
  · have e2 : 1 + lead s - 55 = lead s - 54 := by omega
    by_cases hC : byteAt s 0 < 192
    · have e3 : cutL s = false := by simp [cutL]; omega
      have e1 : (byteAt s 0 - 128) % 256 = lead s := by rw [lead_lt hC]; omega
      have e4 := lead_lt hC
      by_cases hL : 55 < lead s
      · obtain ⟨k1, k2⟩ := cut_long hA hL
        have hB : cutB s = (lenB s (lead s - 54) && decide (part s (lead s - 54) ≤ s.length - (lead s - 54))) := by rw [Bool.eq_iff_iff, cutB_iff]; simp [h0, hA, hL]
        simp only [h0, hA, hC, hL, hB, e1, e2, decide_true, decide_false, forall_const, Bool.true_eq_false, Bool.false_eq_true, false_imp_iff, and_true, true_and, subStr]
        cases hb : lenB s (lead s - 54) with
        | false => simp only [Bool.false_and, Bool.false_eq_true, false_imp_iff, forall_const, true_and]; (repeat' first | apply And.intro | intro (_ : _ = true) | intro (_ : _ = false) | intro (_ : Int)) <;> first | omega | (first | exact ⟨_, SBle.cells (fun _ => rfl) rfl, fun _ => rfl⟩ | exact fun _ => rfl | trivial)
        | true =>
          have hb' := lenB_iff.1 hb
          have hn : ¬ part s (lead s - 54) = 1 := by omega
          simp only [hn, decide_false, Bool.true_and, Bool.true_eq_false, Bool.false_eq_true, false_imp_iff, forall_const, true_and, and_true]
          (repeat' first | apply And.intro | intro (_ : _ = true) | intro (_ : _ = false) | intro (_ : Int))
          all_goals simp only [decide_eq_true_eq, decide_eq_false_iff_not, Int.not_lt, Int.not_le] at *
          all_goals first
            | omega
            | (refine same4 ?_ ?_ ?_
               · simp [e3]
               · rw [k1, show (lead s - 54 + part s (lead s - 54)).toNat - (lead s - 54).toNat = (part s (lead s - 54)).toNat by omega]
               · rw [k2])
            | (first | exact ⟨_, SBle.cells (fun _ => rfl) rfl, fun _ => rfl⟩ | exact fun _ => rfl | trivial)
      · obtain ⟨k1, k2⟩ := cut_mid hA hL
        have hB : cutB s = (decide (lead s ≤ s.length - 1) && !(decide (byteAt s 0 < 192) && decide (lead s = 1) && decide (byteAt s 1 < 128))) := by
          rw [Bool.eq_iff_iff, cutB_iff]
          simp [h0, hA, hL, hC]
          try (intro _; omega)
        simp only [h0, hA, hC, hL, hB, e1, e2, decide_true, decide_false, forall_const, Bool.true_eq_false, Bool.false_eq_true, false_imp_iff, and_true, true_and, subStr]
        (repeat' first | apply And.intro | intro (_ : _ = true) | intro (_ : _ = false) | intro (_ : Int))
        all_goals simp only [decide_eq_true_eq, decide_eq_false_iff_not, Int.not_lt, Int.not_le, Bool.and_eq_true, Bool.and_eq_false_iff, Bool.not_eq_true', Bool.not_eq_false', Bool.true_and, Bool.false_and] at *
        all_goals first
          | omega
          | (refine same4 ?_ ?_ ?_
             · simp [e3]
             · rw [k1, show (1 + lead s).toNat - (1 : Int).toNat = (lead s).toNat by omega]
             · rw [k2])
          | (first | exact ⟨_, SBle.cells (fun _ => rfl) rfl, fun _ => rfl⟩ | exact fun _ => rfl | trivial)
    · have e3 : cutL s = true := by simp [cutL]; omega
      have e1 : (byteAt s 0 - 192) % 256 = lead s := by rw [lead_ge hC]; omega
      have e4 := lead_ge hC
      by_cases hL : 55 < lead s
      · obtain ⟨k1, k2⟩ := cut_long hA hL
        have hB : cutB s = (lenB s (lead s - 54) && decide (part s (lead s - 54) ≤ s.length - (lead s - 54))) := by rw [Bool.eq_iff_iff, cutB_iff]; simp [h0, hA, hL]
        simp only [h0, hA, hC, hL, hB, e1, e2, decide_true, decide_false, forall_const, Bool.true_eq_false, Bool.false_eq_true, false_imp_iff, and_true, true_and, subStr]
        cases hb : lenB s (lead s - 54) with
        | false => simp only [Bool.false_and, Bool.false_eq_true, false_imp_iff, forall_const, true_and]; (repeat' first | apply And.intro | intro (_ : _ = true) | intro (_ : _ = false) | intro (_ : Int)) <;> first | omega | (first | exact ⟨_, SBle.cells (fun _ => rfl) rfl, fun _ => rfl⟩ | exact fun _ => rfl | trivial)
        | true =>
          have hb' := lenB_iff.1 hb
          have hn : ¬ part s (lead s - 54) = 1 := by omega
          simp only [Bool.true_and, Bool.true_eq_false, false_imp_iff, forall_const, and_true]
          (repeat' first | apply And.intro | intro (_ : _ = true) | intro (_ : _ = false) | intro (_ : Int))
          all_goals simp only [decide_eq_true_eq, decide_eq_false_iff_not, Int.not_lt, Int.not_le] at *
          all_goals first
            | omega
            | (refine same4 ?_ ?_ ?_
               · simp [e3]
               · rw [k1, show (lead s - 54 + part s (lead s - 54)).toNat - (lead s - 54).toNat = (part s (lead s - 54)).toNat by omega]
               · rw [k2])
            | (first | exact ⟨_, SBle.cells (fun _ => rfl) rfl, fun _ => rfl⟩ | exact fun _ => rfl | trivial)
      · obtain ⟨k1, k2⟩ := cut_mid hA hL
        have hB : cutB s = (decide (lead s ≤ s.length - 1) && !(decide (byteAt s 0 < 192) && decide (lead s = 1) && decide (byteAt s 1 < 128))) := by
          rw [Bool.eq_iff_iff, cutB_iff]
          simp [h0, hA, hL, hC]
          try (intro _; omega)
        simp only [h0, hA, hC, hL, hB, e1, e2, decide_true, decide_false, forall_const, Bool.false_eq_true, false_imp_iff, true_and, subStr]
        (repeat' first | apply And.intro | intro (_ : _ = true) | intro (_ : _ = false) | intro (_ : Int))
        all_goals simp only [decide_eq_true_eq, decide_eq_false_iff_not, Int.not_lt, Int.not_le, Bool.and_eq_true, Bool.and_eq_false_iff, Bool.true_and, Bool.false_and, Bool.not_false, Bool.true_eq_false, or_false] at *
        all_goals first
          | omega
          | (refine same4 ?_ ?_ ?_
             · simp [e3]
             · rw [k1, show (1 + lead s).toNat - (1 : Int).toNat = (lead s).toNat by omega]
             · rw [k2])
          | (first | exact ⟨_, SBle.cells (fun _ => rfl) rfl, fun _ => rfl⟩ | exact fun _ => rfl | trivial)
end Go.Proofs.YtoalfimkkibpdaaGreatDoor
/-
  Rlp: texts as items; what is cut: the contracts.
-/
namespace Go.Proofs.YtoalfimkkibpdaaGreatDoor
open Go Sx
set_option maxRecDepth 20000
def cutSpec : List SV → Option (Prop × Ans)
  | [.str false s] => some (s.length < 9223372036854775808, cutA s)
  | _ => none
noncomputable def cutPT : PT := ansPT cutSpec
theorem cut_ok : CallOk Tryz.prog 158 cutPT := by
  refine ans_ok (n := 20) (fn := Tryz.f158) Tryz.func158 (by kernel_rfl) (by kernel_rfl) ?_
  intro args p a h hp
  unfold cutSpec at h
  split at h
  · rename_i s
    injection h with h; injection h with h1 h2; subst h1; subst h2
    refine ⟨_, good2, rfl, fun b => ?_, cut_holds hp⟩
    cases b
    · exact faultA_ok rfl
    · exact rfl
  · cases h
def headOf (base : Int) (n : Nat) : List UInt8 := if n ≤ 55 then [UInt8.ofNat (base + n).toNat] else UInt8.ofNat (base + 55 + (digits n).length).toNat :: digits n
def textOf (b : List UInt8) : List UInt8 := if b.length = 1 ∧ byteAt b 0 < 128 then b else headOf 128 b.length ++ b
theorem dig_len (k : Nat) (n : Int) : (dig k n).length ≤ k := by
  induction k generalizing n with
  | zero => simp [dig]
  | succ k ih =>
    unfold dig
    split
    · have := ih (n / 256)
      simp only [List.length_append, List.length_cons, List.length_nil]; omega
    · simp
theorem digits_len (n : Int) : (digits n).length ≤ 8 := dig_len 8 n
theorem head_holds {base n : Int} (h0 : 0 ≤ base) (h1 : base ≤ 192) (h2 : 0 ≤ n) (h3 : n < 1152921504606846976) : Holds (runP cfg2 58 Tryz.f58 [.int .u8 false base, .int .i64 false n] (fun v => sameVal v (.str false (headOf base n.toNat)))) := by
  refine Holds.of_eq (vcHead base n _) ?_
  have e : n % 18446744073709551616 = n := by omega
  have e1 : ((n.toNat : Nat) : Int) = n := by omega
  have hd := digits_len n
  rw [e]
  refine ⟨fun h => str_same ?_, fun h => ⟨by omega, by omega, str_same ?_⟩⟩
  · simp only [decide_eq_true_eq] at h
    unfold headOf
    rw [if_pos (by omega), e1]
    congr 3; omega
  · simp only [decide_eq_false_iff_not] at h
    unfold headOf
    rw [if_neg (by omega), e1]
    simp only [cat, List.cons_append, List.nil_append]
    congr 3; omega
def headSpec : List SV → Option (Prop × SV)
  | [.int .u8 false base, .int .i64 false n] => some ((0 ≤ base ∧ base ≤ 192) ∧ 0 ≤ n ∧ n < 1152921504606846976, .str false (headOf base n.toNat))
  | _ => none
noncomputable def headPT : PT := purePT headSpec
theorem head_ok : CallOk Tryz.prog 58 headPT := by
  refine pure_ok good2 (n := 20) (fn := Tryz.f58) Tryz.func58 (by kernel_rfl) (by kernel_rfl) ?_
  intro args p r h hp
  unfold headSpec at h
  split at h
  · injection h with h; injection h with h1 h2; subst h1; subst h2
    exact ⟨rfl, rfl, head_holds hp.1.1 hp.1.2 hp.2.1 hp.2.2⟩
  · cases h
noncomputable def list3 : List (FuncId × PT) := (158, cutPT) :: (58, headPT) :: list2
theorem list3_ok : SummOk Tryz.prog (fun f => lookPT f list3) := .cons cut_ok (ansPT_mono _) (.cons head_ok (purePT_mono _) list2_ok)
noncomputable def cfg3 : Cfg := { cfg0 with summ := fun f => lookPT f list3 }
theorem good3 : Sx.Good Tryz.prog cfg3 := ⟨mixes, list3_ok, fns_ok⟩
end Go.Proofs.YtoalfimkkibpdaaGreatDoor
/-
  Rlp: what Text, Split and GetNum answer: the set-up.
-/
namespace Go.Proofs.YtoalfimkkibpdaaGreatDoor
open Go Sx
set_option maxRecDepth 20000
def splitA (s : List UInt8) : Ans := .fork (cutB s) fun b => match b with
  | true => .ret (.tup [.bool false (cutL s), .str false (cutIn s), .str false (cutRest s), .int .i64 true 0])
  | false => .ret (.tup [.bool true false, .str true [], .str true [], .int .i64 true 2])
end Go.Proofs.YtoalfimkkibpdaaGreatDoor
/-
  Conditions that the executor computes, written out by a program (vcgen.py).
-/
namespace Go.Proofs.YtoalfimkkibpdaaGreatDoor
open Go Sx
set_option maxRecDepth 20000
theorem vcText (b : List UInt8) (R : SV → Prop) : VC.holds (runP cfg3 29 Tryz.f29 [.str false b] R) = (((decide ((b.length : Int) = 1) = true → ((0 : Int) ≤ (0 : Int) ∧ 0 < (b.length : Int)) ∧ (decide (byteAt b 0 < 128) = true → R (SV.str false b)) ∧ (decide (byteAt b 0 < 128) = false → (((0 : Int) ≤ (128 : Int) ∧ (128 : Int) ≤ (192 : Int)) ∧ 0 ≤ (b.length : Int) ∧ (b.length : Int) < 1152921504606846976) ∧ (↑(headOf 128 (b.length : Int).toNat).length : Int) + (b.length : Int) ≤ 9223372036854775807 ∧ R (SV.str false (cat (headOf 128 (b.length : Int).toNat) b)))) ∧ (decide ((b.length : Int) = 1) = false → (((0 : Int) ≤ (128 : Int) ∧ (128 : Int) ≤ (192 : Int)) ∧ 0 ≤ (b.length : Int) ∧ (b.length : Int) < 1152921504606846976) ∧ (↑(headOf 128 (b.length : Int).toNat).length : Int) + (b.length : Int) ≤ 9223372036854775807 ∧ R (SV.str false (cat (headOf 128 (b.length : Int).toNat) b))))) := by kernel_rfl
theorem vcSplit (s : List UInt8) : VC.holds (runA cfg3 119 Tryz.f119 [.str false s] (splitA s)) = ((fun P0 : SV => ((s.length < 9223372036854775808 ∧ (cutB s = true → (cutB s = true → sameVal P0 P0) ∧ (cutB s = false → sameVal P0 (SV.tup [SV.bool true false, SV.str true [], SV.str true [], SV.int .i64 true 2]))) ∧ (cutB s = false → ∀ (_u0 : Int), (cutB s = true → sameVal (SV.tup [SV.bool true false, SV.str true [], SV.str true [], SV.int .i64 true 2]) P0) ∧ (cutB s = false → sameVal (SV.tup [SV.bool true false, SV.str true [], SV.str true [], SV.int .i64 true 2]) (SV.tup [SV.bool true false, SV.str true [], SV.str true [], SV.int .i64 true 2])))))) (SV.tup [SV.bool false (cutL s), SV.str false (cutIn s), SV.str false (cutRest s), SV.int .i64 true 0])) := by kernel_rfl
end Go.Proofs.YtoalfimkkibpdaaGreatDoor
/-
  Rlp: Text, Split: the contracts; GetNum: the set-up.
-/
namespace Go.Proofs.YtoalfimkkibpdaaGreatDoor
open Go Sx
set_option maxRecDepth 20000
theorem head_len (base : Int) (n : Nat) : (headOf base n).length ≤ 9 := by
  unfold headOf
  have := digits_len n
  split <;> simp only [List.length_cons, List.length_nil] <;> omega
theorem text_long {b : List UInt8} (h : ¬ (b.length = 1 ∧ byteAt b 0 < 128)) : textOf b = headOf 128 b.length ++ b := if_neg h
theorem text_holds {b : List UInt8} (hb : b.length < 1152921504606846976) : Holds (runP cfg3 29 Tryz.f29 [.str false b] (fun v => sameVal v (.str false (textOf b)))) := by
  refine Holds.of_eq (vcText b _) ?_
  have hl := head_len 128 b.length
  simp only [Int.toNat_natCast]
  refine ⟨fun h => ⟨by simp at h; omega, fun h2 => str_same ?_, fun h2 => ⟨by omega, by omega, str_same ?_⟩⟩, fun h => ⟨by omega, by omega, str_same ?_⟩⟩
  · simp at h h2; exact (if_pos ⟨by omega, h2⟩).symm
  · simp only [decide_eq_false_iff_not] at h2
    exact (text_long fun x => h2 x.2).symm
  · simp only [decide_eq_false_iff_not] at h
    exact (text_long fun x => h (by omega)).symm
def textSpec : List SV → Option (Prop × SV)
  | [.str false b] => some (b.length < 1152921504606846976, .str false (textOf b))
  | _ => none
noncomputable def textPT : PT := purePT textSpec
theorem text_ok : CallOk Tryz.prog 29 textPT := by
  refine pure_ok good3 (n := 20) (fn := Tryz.f29) Tryz.func29 (by kernel_rfl) (by kernel_rfl) ?_
  intro args p r h hp
  unfold textSpec at h
  split at h
  · injection h with h; injection h with h1 h2; subst h1; subst h2
    exact ⟨rfl, rfl, text_holds hp⟩
  · cases h
theorem split_holds {s : List UInt8} (hs : s.length < 9223372036854775808) : Holds (runA cfg3 119 Tryz.f119 [.str false s] (splitA s)) := by
  refine Holds.of_eq (vcSplit s) ?_
  cases cutB s with
  | true => exact ⟨hs, fun _ => ⟨fun _ _ => rfl, (fun h => by cases h)⟩, fun h => by cases h⟩
  | false => exact ⟨hs, (fun h => by cases h), fun _ _ => ⟨(fun h => by cases h), fun _ _ => rfl⟩⟩
def splitSpec : List SV → Option (Prop × Ans)
  | [.str false s] => some (s.length < 9223372036854775808, splitA s)
  | _ => none
noncomputable def splitPT : PT := ansPT splitSpec
theorem split_ok : CallOk Tryz.prog 119 splitPT := by
  refine ans_ok (n := 20) (fn := Tryz.f119) Tryz.func119 (by kernel_rfl) (by kernel_rfl) ?_
  intro args p a h hp
  unfold splitSpec at h
  split at h
  · rename_i s
    injection h with h; injection h with h1 h2; subst h1; subst h2
    refine ⟨_, good3, rfl, fun b => ?_, split_holds hp⟩
    cases b <;> exact rfl
  · cases h
noncomputable def list4 : List (FuncId × PT) := (29, textPT) :: (119, splitPT) :: list3
theorem list4_ok : SummOk Tryz.prog (fun f => lookPT f list4) := .cons text_ok (purePT_mono _) (.cons split_ok (ansPT_mono _) list3_ok)
def getB (s : List UInt8) : Bool := cutB s && !cutL s && decide (cutRest s = []) && decide ((cutIn s).length ≤ 8) && !(decide (cutIn s ≠ []) && decide (byteAt (cutIn s) 0 = 0))
def getA (s : List UInt8) : Ans := .fork (getB s) fun b => match b with
  | true => .ret (.tup [.int .u64 false (num (cutIn s)), .int .i64 true 0])
  | false => .ret (.tup [.int .u64 true 0, .int .i64 true 2])
noncomputable def annGet (l : List UInt8) : LoopAnn :=
  { α := Int, pre := fun _ i => 0 ≤ i ∧ i ≤ l.length, mea := fun _ i => (l.length - i).toNat, fresh := 0, slots := fun _ i => [(8, .int .u64 false (num (l.take i.toNat))), (42, .int .i64 false i)], mem := fun _ _ => [] }
noncomputable def cfgG (l : List UInt8) : Cfg := { cfg0 with summ := fun f => lookPT f list4, anns := fun f => if f = 80 then [(10, always (annGet l))] else [] }
theorem goodG (l : List UInt8) : Sx.Good Tryz.prog (cfgG l) := ⟨mixes, list4_ok, fns_ok⟩
end Go.Proofs.YtoalfimkkibpdaaGreatDoor
/-
  Conditions that the executor computes, written out by a program (vcgen.py).
-/
namespace Go.Proofs.YtoalfimkkibpdaaGreatDoor
open Go Sx
set_option maxRecDepth 20000
theorem vcGet (s : List UInt8) : VC.holds (runA (cfgG (cutIn s)) 80 Tryz.f80 [.str false s] (getA s)) = ((fun P0 : SV => ((fun P1 : SV => ((s.length < 9223372036854775808 ∧ (cutB s = true → (cutL s = true → (getB s = true → sameVal P0 P1) ∧ (getB s = false → sameVal P0 P0)) ∧ (cutL s = false → ((!decide (cutRest s = [])) = true → (getB s = true → sameVal P0 P1) ∧ (getB s = false → sameVal P0 P0)) ∧ ((!decide (cutRest s = [])) = false → (decide (8 < (↑(cutIn s).length : Int)) = true → (getB s = true → sameVal P0 P1) ∧ (getB s = false → sameVal P0 P0)) ∧ (decide (8 < (↑(cutIn s).length : Int)) = false → ((!decide (cutIn s = [])) = true → ((0 : Int) ≤ (0 : Int) ∧ 0 < (↑(cutIn s).length : Int)) ∧ (decide (byteAt (cutIn s) 0 = (0 : Int)) = true → (getB s = true → sameVal P0 P1) ∧ (getB s = false → sameVal P0 P0)) ∧ (decide (byteAt (cutIn s) 0 = (0 : Int)) = false → (∃ (u5 : Int), (0 ≤ u5 ∧ u5 ≤ (↑(cutIn s).length : Int)) ∧ 0 = num (List.take u5.toNat (cutIn s)) ∧ 0 = u5 ∧ True) ∧ ∀ (u4 : Int), 0 ≤ u4 ∧ u4 ≤ (↑(cutIn s).length : Int) → (decide (u4 < (↑(cutIn s).length : Int)) = true → (0 ≤ u4 ∧ u4 < (↑(cutIn s).length : Int)) ∧ (0 ≤ byteAt (cutIn s) u4 ∧ byteAt (cutIn s) u4 ≤ 18446744073709551615) ∧ (0 ≤ num (List.take u4.toNat (cutIn s)) * 256 % (18446744073709551616 : Int) ∧
 num (List.take u4.toNat (cutIn s)) * 256 % (18446744073709551616 : Int) ≤ (18446744073709551615 : Int) ∧ 0 ≤ byteAt (cutIn s) u4 ∧ byteAt (cutIn s) u4 ≤ 18446744073709551615) ∧ ((-9223372036854775808 : Int) ≤ u4 + 1 ∧ u4 + 1 ≤ (9223372036854775807 : Int)) ∧ ∃ (u3 : Int), ((0 ≤ u3 ∧ u3 ≤ (↑(cutIn s).length : Int)) ∧ ((↑(cutIn s).length : Int) - u3).toNat < ((↑(cutIn s).length : Int) - u4).toNat) ∧ bitsOf BinOp.or (num (List.take u4.toNat (cutIn s)) * 256 % (18446744073709551616 : Int)) (byteAt (cutIn s) u4) = num (List.take u3.toNat (cutIn s)) ∧ u4 + 1 = u3 ∧ True) ∧ (decide (u4 < (↑(cutIn s).length : Int)) = false → (getB s = true → sameVal (SV.tup [SV.int .u64 false (num (List.take u4.toNat (cutIn s))), SV.int .i64 true 0]) P1) ∧ (getB s = false → sameVal (SV.tup [SV.int .u64 false (num (List.take u4.toNat (cutIn s))), SV.int .i64 true 0]) P0)))) ∧ ((!decide (cutIn s = [])) = false → (∃ (u2 : Int), (0 ≤ u2 ∧ u2 ≤ (↑(cutIn s).length : Int)) ∧ 0 = num (List.take u2.toNat (cutIn s)) ∧ 0 = u2 ∧ True) ∧ ∀ (u1 : Int), 0 ≤ u1 ∧ u1 ≤ (↑(cutIn s).length : Int) → (decide (u1 < (↑(cutIn s).length : Int)) = true → (0 ≤ u1 ∧ u1 < (↑(cutIn s).length : Int)) ∧ (0 ≤ byteAt (cutIn s) u1 ∧
 byteAt (cutIn s) u1 ≤ 18446744073709551615) ∧ (0 ≤ num (List.take u1.toNat (cutIn s)) * 256 % (18446744073709551616 : Int) ∧ num (List.take u1.toNat (cutIn s)) * 256 % (18446744073709551616 : Int) ≤ (18446744073709551615 : Int) ∧ 0 ≤ byteAt (cutIn s) u1 ∧ byteAt (cutIn s) u1 ≤ 18446744073709551615) ∧ ((-9223372036854775808 : Int) ≤ u1 + 1 ∧ u1 + 1 ≤ (9223372036854775807 : Int)) ∧ ∃ (u0 : Int), ((0 ≤ u0 ∧ u0 ≤ (↑(cutIn s).length : Int)) ∧ ((↑(cutIn s).length : Int) - u0).toNat < ((↑(cutIn s).length : Int) - u1).toNat) ∧ bitsOf BinOp.or (num (List.take u1.toNat (cutIn s)) * 256 % (18446744073709551616 : Int)) (byteAt (cutIn s) u1) = num (List.take u0.toNat (cutIn s)) ∧ u1 + 1 = u0 ∧ True) ∧ (decide (u1 < (↑(cutIn s).length : Int)) = false → (getB s = true → sameVal (SV.tup [SV.int .u64 false (num (List.take u1.toNat (cutIn s))), SV.int .i64 true 0]) P1) ∧ (getB s = false → sameVal (SV.tup [SV.int .u64 false (num (List.take u1.toNat (cutIn s))), SV.int .i64 true 0]) P0))))))) ∧ (cutB s = false → (getB s = true → sameVal P0 P1) ∧ (getB s = false → sameVal P0 P0))))) (SV.tup [SV.int .u64 false (num (cutIn s)), SV.int .i64 true 0]))) (SV.tup [SV.int .u64 true 0, SV.int .i64 true 2])) := by kernel_rfl
theorem vcNum (n : Int) (R : SV → Prop) : VC.holds (runP (cfgG []) 31 Tryz.f31 [.int .u64 false n] R) = (((0 ≤ n ∧ n < 18446744073709551616) ∧ (digits n).length < 1152921504606846976 ∧ R (SV.str false (textOf (digits n))))) := by kernel_rfl
end Go.Proofs.YtoalfimkkibpdaaGreatDoor
/-
  Rlp: numbers as items: the contracts.
-/
namespace Go.Proofs.YtoalfimkkibpdaaGreatDoor
open Go Sx
set_option maxRecDepth 20000
theorem num_nn (l : List UInt8) : 0 ≤ num l := by
  unfold num
  suffices ∀ (l : List UInt8) (a : Int), 0 ≤ a → 0 ≤ l.foldl (fun a b => a * 256 + (b.toNat : Int)) a from this _ _ (Int.le_refl _)
  intro l
  induction l with
  | nil => exact fun _ h => h
  | cons b r ih => intro a h; exact ih _ (show 0 ≤ a * 256 + (b.toNat : Int) by omega)
theorem num_take {l : List UInt8} {x : Int} (h : 0 ≤ x) (h2 : x < l.length) : num (l.take (x + 1).toNat) = num (l.take x.toNat) * 256 + byteAt l x := by
  have e : (x + 1).toNat = x.toNat + 1 := by omega
  have hx : x.toNat < l.length := by omega
  rw [e, List.take_add_one, List.getElem?_eq_getElem hx]
  simp only [Option.toList, num_snoc]
  congr 1
  unfold byteAt
  rw [List.getD_eq_getElem?_getD, List.getElem?_eq_getElem hx]
  rfl
theorem num_lt : ∀ (n : Nat) (l : List UInt8), l.length ≤ n → num l < 256 ^ n
  | 0, l, h => by
    have : l = [] := List.length_eq_zero_iff.1 (by omega)
    subst this; decide
  | n + 1, l, h => by
    rcases List.eq_nil_or_concat l with rfl | ⟨r, b, rfl⟩
    · have : (0 : Int) < 256 ^ (n + 1) := Int.pow_pos (by decide)
      exact this
    · simp only [List.length_concat] at h
      have := num_lt n r (by omega)
      have hb := b.toNat_lt
      rw [List.concat_eq_append, num_snoc, Int.pow_succ]
      omega
theorem num_lt7 {l : List UInt8} {x : Int} (_h0 : 0 ≤ x) (h : x < l.length) (h2 : l.length ≤ 8) : num (l.take x.toNat) < 72057594037927936 := by
  have := num_lt 7 (l.take x.toNat) (by simp only [List.length_take]; omega)
  exact this
theorem get_step {l : List UInt8} {x : Int} (h0 : 0 ≤ x) (h : x < l.length) (h2 : l.length ≤ 8) : bitsOf .or (num (l.take x.toNat) * 256 % 18446744073709551616) (byteAt l x) = num (l.take (x + 1).toNat) := by
  have h3 := num_lt7 h0 h h2
  have h4 := num_nn (l.take x.toNat)
  have h5 := byteAt_lt l x
  rw [show num (l.take x.toNat) * 256 % 18446744073709551616 = num (l.take x.toNat) * 256 by omega, or_256 h4 h5.1 h5.2, num_take h0 h]
theorem getB_iff {s : List UInt8} : getB s = true ↔ cutB s = true ∧ cutL s = false ∧ cutRest s = [] ∧ (cutIn s).length ≤ 8 ∧ (cutIn s = [] ∨ byteAt (cutIn s) 0 ≠ 0) := by
  unfold getB
  by_cases h : cutIn s = [] <;> simp [and_assoc, h]
theorem get_loop {l : List UInt8} (hl : l.length ≤ 8) {Q : Int → Prop} (hQ : Q l.length) : (∃ (y : Int), ((0 : Int) ≤ y ∧ y ≤ (↑l.length : Int)) ∧ (0 : Int) = num (List.take y.toNat l) ∧ (0 : Int) = y ∧ True) ∧
                        ∀ (x : Int),
                          (0 : Int) ≤ x ∧ x ≤ (↑l.length : Int) →
                            (decide (x < (↑l.length : Int)) = true →
                                ((0 : Int) ≤ x ∧ x < (↑l.length : Int)) ∧
                                  ((0 : Int) ≤ byteAt l x ∧ byteAt l x ≤ (18446744073709551615 : Int)) ∧
                                    ((0 : Int) ≤ num (List.take x.toNat l) * (256 : Int) % (18446744073709551616 : Int) ∧
                                        num (List.take x.toNat l) * (256 : Int) % (18446744073709551616 : Int) ≤ (18446744073709551615 : Int) ∧
                                          (0 : Int) ≤ byteAt l x ∧ byteAt l x ≤ (18446744073709551615 : Int)) ∧
                                      ((-9223372036854775808 : Int) ≤ x + (1 : Int) ∧ x + (1 : Int) ≤ (9223372036854775807 : Int)) ∧
                                        ∃ (y : Int),
                                          (((0 : Int) ≤ y ∧ y ≤ (↑l.length : Int)) ∧ ((↑l.length : Int) - y).toNat < ((↑l.length : Int) - x).toNat) ∧
                                            bitsOf BinOp.or (num (List.take x.toNat l) * (256 : Int) % (18446744073709551616 : Int)) (byteAt l x) = num (List.take y.toNat l) ∧
                                              x + (1 : Int) = y ∧ True) ∧
                              (decide (x < (↑l.length : Int)) = false → Q x) := by
  refine ⟨⟨0, by omega, rfl, rfl, trivial⟩, fun x ⟨h1, h2⟩ => ⟨fun h => ?_, fun h => ?_⟩⟩
  · simp only [decide_eq_true_eq] at h
    have h5 := byteAt_lt l x
    exact ⟨by omega, by omega, by omega, by omega, x + 1, by omega, get_step h1 h hl, rfl, trivial⟩
  · simp only [decide_eq_false_iff_not] at h
    obtain rfl : x = l.length := by omega
    exact hQ
theorem get_holds {s : List UInt8} (hs : s.length < 9223372036854775808) : Holds (runA (cfgG (cutIn s)) 80 Tryz.f80 [.str false s] (getA s)) := by
  refine Holds.of_eq (vcGet s) ?_
  have F : ∀ {p q : Prop}, ¬ (cutB s = true ∧ cutL s = false ∧ cutRest s = [] ∧ (cutIn s).length ≤ 8 ∧ (cutIn s = [] ∨ byteAt (cutIn s) 0 ≠ 0)) → q → (getB s = true → p) ∧ (getB s = false → q) := fun h hq => ⟨fun e => absurd (getB_iff.1 e) h, fun _ => hq⟩
  refine ⟨hs, fun a => ⟨fun b => F (by simp [b]) fun _ => rfl, fun b => ⟨fun c => F (by simp at c; simp [c]) fun _ => rfl, fun c => ⟨fun d => F (by simp at d; omega) fun _ => rfl, fun d => ?_⟩⟩⟩, fun a => F (by simp [a]) fun _ => rfl⟩
  simp only [decide_eq_false_iff_not, Int.not_lt, Bool.not_eq_false', decide_eq_true_eq] at c d
  have T : (cutIn s = [] ∨ byteAt (cutIn s) 0 ≠ 0) → getB s = true := fun e => getB_iff.2 ⟨a, b, c, by omega, e⟩
  have G : ∀ {p : Prop}, (cutIn s = [] ∨ byteAt (cutIn s) 0 ≠ 0) → (getB s = true → sameVal (SV.tup [SV.int IntKind.u64 false (num (List.take (((cutIn s).length : Int)).toNat (cutIn s))), SV.int IntKind.i64 true (0 : Int)])
                                      (SV.tup [SV.int IntKind.u64 false (num (cutIn s)), SV.int IntKind.i64 true (0 : Int)])) ∧ (getB s = false → p) := fun e => ⟨fun _ => by rw [Int.toNat_natCast, List.take_length]; exact fun _ => rfl, fun h => by rw [T e] at h; cases h⟩
  refine ⟨fun e => ⟨?_, fun f => F (by simp at e f; simp [e, f]) fun _ => rfl, fun f => ?_⟩, fun e => ?_⟩
  · simp only [Bool.not_eq_true', decide_eq_false_iff_not] at e
    have := List.length_pos_iff.2 e
    omega
  · exact get_loop (l := cutIn s) (by omega) (Q := fun x => (getB s = true → sameVal (SV.tup [SV.int IntKind.u64 false (num (List.take x.toNat (cutIn s))), SV.int IntKind.i64 true (0 : Int)]) _) ∧ (getB s = false → _)) (G (.inr (by simpa using f)))
  · exact get_loop (l := cutIn s) (by omega) (Q := fun x => (getB s = true → sameVal (SV.tup [SV.int IntKind.u64 false (num (List.take x.toNat (cutIn s))), SV.int IntKind.i64 true (0 : Int)]) _) ∧ (getB s = false → _)) (G (.inl (by simpa using e)))
def getSpec : List SV → Option (Prop × Ans)
  | [.str false s] => some (s.length < 9223372036854775808, getA s)
  | _ => none
noncomputable def getPT : PT := ansPT getSpec
theorem get_ok : CallOk Tryz.prog 80 getPT := by
  refine ans_ok (n := 20) (fn := Tryz.f80) Tryz.func80 (by kernel_rfl) (by kernel_rfl) ?_
  intro args p a h hp
  unfold getSpec at h
  split at h
  · rename_i s
    injection h with h; injection h with h1 h2; subst h1; subst h2
    refine ⟨_, goodG (cutIn s), rfl, fun b => ?_, get_holds hp⟩
    cases b <;> exact rfl
  · cases h
def numSpec : List SV → Option (Prop × SV)
  | [.int .u64 false n] => some (0 ≤ n ∧ n < 18446744073709551616, .str false (textOf (digits n)))
  | _ => none
noncomputable def numPT : PT := purePT numSpec
theorem num_ok : CallOk Tryz.prog 31 numPT := by
  refine pure_ok (goodG []) (n := 20) (fn := Tryz.f31) Tryz.func31 (by kernel_rfl) (by kernel_rfl) ?_
  intro args p r h hp
  unfold numSpec at h
  split at h
  · rename_i n
    injection h with h; injection h with h1 h2; subst h1; subst h2
    have := digits_len n
    exact ⟨rfl, rfl, Holds.of_eq (vcNum n _) ⟨hp, by omega, fun _ => rfl⟩⟩
  · cases h
noncomputable def list5 : List (FuncId × PT) := (80, getPT) :: (31, numPT) :: list4
theorem list5_ok : SummOk Tryz.prog (fun f => lookPT f list5) := .cons get_ok (ansPT_mono _) (.cons num_ok (purePT_mono _) list4_ok)
end Go.Proofs.YtoalfimkkibpdaaGreatDoor
/-
  strings.Join: the kit's shelf, laid at this program.
-/
namespace Go.Proofs
open Go.Shelf
def Tryz.laysJoin_ren : Go.Shelf.Ren := ⟨fun | 156 => 59 | 165 => 95 | 166 => 96 | 169 => 97 | 240 => 140 | 241 => 141 | 276 => 170 | 277 => 171 | n => n, fun | 31 => 22 | 9 => 9 | 3 => 3 | 4 => 4 | 0 => 0 | 20 => 20 | 72 => 167 | 76 => 169 | 70 => 165 | 37 => 163 | 75 => 80 | 127 => 235 | 164 => 121 | 5 => 5 | 80 => 171 | n => n, fun | n => n⟩
theorem Tryz.laysJoin : Go.Proofs.Lays.n156 Tryz.prog Tryz.laysJoin_ren := {
  mixed := by kernel_rfl,
  f156 := Tryz.func59.trans (congrArg some (by kernel_rfl)),
  f165 := Tryz.func95.trans (congrArg some (by kernel_rfl)),
  f166 := Tryz.func96.trans (congrArg some (by kernel_rfl)),
  f169 := Tryz.func97.trans (congrArg some (by kernel_rfl)),
  f240 := Tryz.func140.trans (congrArg some (by kernel_rfl)),
  f241 := Tryz.func141.trans (congrArg some (by kernel_rfl)),
  f276 := Tryz.func170.trans (congrArg some (by kernel_rfl)),
  f277 := Tryz.func171.trans (congrArg some (by kernel_rfl)),
  t0 := Tryz.underlying0,
  a0 := Tryz.isAgg0,
  z0 := Tryz.sizeOf0,
  v0 := Tryz.zeroValue0,
  t3 := Tryz.underlying3,
  a3 := Tryz.isAgg3,
  z3 := Tryz.sizeOf3,
  v3 := Tryz.zeroValue3,
  t4 := Tryz.underlying4,
  a4 := Tryz.isAgg4,
  z4 := Tryz.sizeOf4,
  v4 := Tryz.zeroValue4,
  t9 := Tryz.underlying9,
  a9 := Tryz.isAgg9,
  z9 := Tryz.sizeOf9,
  v9 := Tryz.zeroValue9,
  t20 := Tryz.underlying20,
  a20 := Tryz.isAgg20,
  z20 := Tryz.sizeOf20,
  v20 := Tryz.zeroValue20,
  t31 := Tryz.underlying22,
  a31 := Tryz.isAgg22,
  z31 := Tryz.sizeOf22,
  v31 := Tryz.zeroValue22,
  t37 := Tryz.underlying163,
  a37 := Tryz.isAgg163,
  z37 := Tryz.sizeOf163,
  v37 := Tryz.zeroValue163,
  t70 := Tryz.underlying165,
  a70 := Tryz.isAgg165,
  z70 := Tryz.sizeOf165,
  v70 := Tryz.zeroValue165,
  t72 := Tryz.underlying167,
  a72 := Tryz.isAgg167,
  z72 := Tryz.sizeOf167,
  v72 := Tryz.zeroValue167,
  t75 := Tryz.underlying80,
  a75 := Tryz.isAgg80,
  z75 := Tryz.sizeOf80,
  v75 := Tryz.zeroValue80,
  t76 := Tryz.underlying169,
  a76 := Tryz.isAgg169,
  z76 := Tryz.sizeOf169,
  v76 := Tryz.zeroValue169,
  t127 := Tryz.underlying235,
  a127 := Tryz.isAgg235,
  z127 := Tryz.sizeOf235,
  v127 := Tryz.zeroValue235,
  t164 := Tryz.underlying121,
  a164 := Tryz.isAgg121,
  z164 := Tryz.sizeOf121,
  v164 := Tryz.zeroValue121 }
end Go.Proofs
