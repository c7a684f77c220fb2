/-
  The framework's fourteenth part: a region that draws its order: the theorem.
-/
import Derived.Test.YtobbhdmbblhgaaaSxM
namespace Go.Proofs.Ytobbhdmbblhgaaa.Sx
open Go

def preserved (keys : List Nat) (m m' : Mem) (t : VC) : VC :=
  match keys with
  | [] => t
  | k :: r => .and (.atom (m'.get k = m.get k)) (preserved r m m' t)
theorem preserved_iff {keys : List Nat} {m m' : Mem} {t : VC} : (preserved keys m m' t).holds ↔ (∀ k ∈ keys, m'.get k = m.get k) ∧ t.holds := by
  induction keys with
  | nil => simp [preserved]
  | cons k r ih =>
    simp only [preserved, VC.holds, ih, List.mem_cons, forall_eq_or_imp]
    exact ⟨fun h => ⟨⟨h.1, h.2.1⟩, h.2.2⟩, fun h => ⟨h.1.1, h.1.2, h.2⟩⟩
def grows (nx nx' : Nat) (t : VC) : VC := match Nat.ble nx nx' with
  | true => t
  | false => .fail "keys"
theorem grows_iff {nx nx' : Nat} {t : VC} : (grows nx nx' t).holds ↔ nx ≤ nx' ∧ t.holds := by
  unfold grows
  cases h : Nat.ble nx nx' with
  | true => exact ⟨fun x => ⟨Nat.le_of_ble_eq_true h, x⟩, fun x => x.2⟩
  | false => exact ⟨fun x => x.elim, fun x => by have := Nat.ble_eq_true_of_le x.1; rw [h] at this; cases this⟩

section
variable {P : Program} {call : FuncId → PT} {ops : Array Oper}

theorem stepOp_mono (hm : ∀ f, MonoPT (call f)) {j : Nat} {o : Oper} {K K' : St → VC} {st : St}
    (h : ∀ u m nx, (K ⟨setSlot st.tmps o.dst u, m, nx⟩).holds → (K' ⟨setSlot st.tmps o.dst u, m, nx⟩).holds) (hh : (stepOp P call ops j o K st).holds) : (stepOp P call ops j o K' st).holds := by
  cases hq : isQuiet P o.op with
  | true =>
    rw [stepOp_quiet hq] at hh ⊢
    obtain ⟨p, u, hd⟩ := qtr_det P ops j o st.tmps st.m st.nx
    rw [hd] at hh ⊢
    exact ⟨hh.1, h _ _ _ hh.2⟩
  | false =>
    unfold stepOp at hh ⊢
    cases hg : guardOf ops o st.tmps with
    | none => rw [hg] at hh; exact hh.elim
    | some b =>
      rw [hg] at hh
      cases b with
      | false => exact h _ _ _ hh
      | true =>
        simp only [hq] at hh ⊢
        cases hw : Mem.wf st.nx st.m with
        | false => rw [hw] at hh; exact hh.elim
        | true =>
          rw [hw] at hh
          simp only at hh ⊢
          refine lop_mono hm (fun v m nx hp => ?_) hh
          obtain ⟨p, u, g1, _, _⟩ := putV_iff (isGuard ops j) v nx
          unfold putK at hp ⊢
          rw [g1] at hp ⊢
          exact ⟨hp.1, h _ _ _ hp.2⟩

def stepG (P : Program) (call : FuncId → PT) (ops : Array Oper) (i : Nat) (o : Oper) (H : List Nat) (K : St → VC) (st : St) : VC :=
  stepOp P call ops i o (fun st' => preserved H st.m st'.m (grows st.nx st'.nx (K st'))) st

theorem putV_grow {g : Bool} {v : Option SV} {nx nx' : Nat} (hn : nx ≤ nx') {k : Option SV → VC} (h : (putV g v nx k).holds) : (putV g v nx' k).holds := by
  have hw : wfO nx v = true → wfO nx' v = true := by cases v with
    | none => exact id
    | some v => exact SV.wf_mono hn v
  unfold putV at *
  split at h
  · exact h
  · rename_i g' v' hne
    cases hv : wfO nx v with
    | false => rw [hv] at h; exact h.elim
    | true =>
      rw [hv] at h
      rw [hw hv]; exact h
theorem qtr_grow {j : Nat} {o : Oper} {tmps : List (Option SV)} {m : Mem} {nx nx' : Nat} (hn : nx ≤ nx') {k : Option SV → VC} (h : (qtr P ops j o tmps m nx k).holds) : (qtr P ops j o tmps m nx' k).holds := by
  unfold qtr at h ⊢
  cases hg : guardOf ops o tmps with
  | none => rw [hg] at h; exact h.elim
  | some b =>
    rw [hg] at h
    cases b with
    | false => exact h
    | true =>
      obtain ⟨obl, sv, h1, _⟩ := qop_ok (P := P) (look := fun k => m.get k) (σ := ev tmps) o
      simp only at h ⊢
      rw [h1] at h ⊢
      refine ⟨h.1, ?_⟩
      exact putV_grow hn h.2

structure Apart (ops : Array Oper) (x y : Oper) : Prop where
  a : ∀ d, x.dst = some d → d ∉ y.looksAt ops
  b : ∀ d, x.dst = some d → y.dst ≠ some d
  c : ∀ d, y.dst = some d → d ∉ x.looksAt ops

/-- A quiet operation, and a loud one behind it, are exchanged. -/
theorem swap_loud (hm : ∀ f, MonoPT (call f)) {jp ji : Nat} {op oi : Oper} (hp : isQuiet P op.op = true) (hi : isQuiet P oi.op = false) (ha : Apart ops op oi) {H H1 : List Nat} {K : St → VC} {st : St}
    (hH : ∀ k ∈ H, k ∈ H1) (hk : ∀ k, keyOf (ev st.tmps) op.op = some k → k ∈ H1) (h : (stepOp P call ops jp op (stepG P call ops ji oi H1 K) st).holds) :
    (stepG P call ops ji oi H (stepOp P call ops jp op K) st).holds := by
  obtain ⟨tmps, m, nx⟩ := st
  rw [stepOp_quiet hp] at h
  obtain ⟨pp, u, hd⟩ := qtr_det P ops jp op tmps m nx
  obtain ⟨hpp, h⟩ := (hd _).1 h
  have hag : Agree ops oi (setSlot tmps op.dst u) tmps := agree_set ha.a
  have fin : ∀ (u' : Option SV) (m' : Mem) (nx' : Nat), (preserved H1 m m' (grows nx nx' (K ⟨setSlot (setSlot tmps op.dst u) oi.dst u', m', nx'⟩))).holds →
      (preserved H m m' (grows nx nx' (stepOp P call ops jp op K ⟨setSlot tmps oi.dst u', m', nx'⟩))).holds := by
    intro u' m' nx' hh
    rw [preserved_iff, grows_iff] at hh ⊢
    refine ⟨fun k hk' => hh.1 k (hH k hk'), hh.2.1, ?_⟩
    rw [stepOp_quiet hp]
    have h1 : (qtr P ops jp op tmps m nx (fun v => K ⟨setSlot (setSlot tmps oi.dst u') op.dst v, m', nx'⟩)).holds := by
      rw [hd]
      refine ⟨hpp, ?_⟩
      rw [setSlot_comm (fun d hd' he => ha.b d he hd')]
      exact hh.2.2
    have h2 := qtr_grow hh.2.1 h1
    rw [qtr_congr (tmps' := setSlot tmps oi.dst u') (m' := m') (fun t ht => ((agree_set (tmps := tmps) (v := u') ha.c) t ht).symm) (fun key hkey => (hh.1 key (hk key hkey)).symm)] at h2
    exact h2
  unfold stepG stepOp at h ⊢
  rw [hag.guard] at h
  cases hg : guardOf ops oi tmps with
  | none => rw [hg] at h; exact h.elim
  | some b =>
    rw [hg] at h
    cases b with
    | false => exact fin _ _ _ h
    | true =>
      simp only [hi] at h ⊢
      cases hw : Mem.wf nx m with
      | false => rw [hw] at h; exact h.elim
      | true =>
        rw [hw] at h
        simp only at h ⊢
        rw [lop_congr hag.ev] at h
        refine lop_mono hm (fun v m' nx' hpk => ?_) h
        obtain ⟨p', u', g1, _, _⟩ := putV_iff (isGuard ops ji) v nx'
        unfold putK at hpk ⊢
        rw [g1] at hpk ⊢
        exact ⟨hpk.1, fin _ _ _ hpk.2⟩
/-- Two quiet operations are exchanged. -/
theorem swap_quiet {jp ji : Nat} {op oi : Oper} (hp : isQuiet P op.op = true) (hi : isQuiet P oi.op = true) (ha : Apart ops op oi) {K : St → VC} {st : St}
    (h : (stepOp P call ops jp op (stepOp P call ops ji oi K) st).holds) : (stepOp P call ops ji oi (stepOp P call ops jp op K) st).holds := by
  obtain ⟨tmps, m, nx⟩ := st
  rw [stepOp_quiet hp] at h
  obtain ⟨pp, u, hd⟩ := qtr_det P ops jp op tmps m nx
  obtain ⟨hpp, h⟩ := (hd _).1 h
  rw [stepOp_quiet hi] at h ⊢
  rw [qtr_congr (tmps' := tmps) (agree_set ha.a) (fun _ _ => rfl)] at h
  obtain ⟨pi, v, hd2⟩ := qtr_det P ops ji oi tmps m nx
  rw [hd2] at h ⊢
  refine ⟨h.1, ?_⟩
  rw [stepOp_quiet hp]
  rw [qtr_congr (tmps' := tmps) (agree_set ha.c) (fun _ _ => rfl), hd]
  refine ⟨hpp, ?_⟩
  have h2 := h.2
  simp only at h2 ⊢
  rw [setSlot_comm (fun d hd' he => ha.b d he hd')]
  exact h2

/-! ### An order of our own -/
def keysFor (mask : Nat) (rd : List (Nat × Nat)) : List Nat :=
  match rd with
  | [] => []
  | (p, k) :: r => match mask.testBit p with
    | true => keysFor mask r
    | false => k :: keysFor mask r
theorem keysFor_mem {mask : Nat} {k : Nat} : ∀ {rd : List (Nat × Nat)}, k ∈ keysFor mask rd ↔ ∃ p, (p, k) ∈ rd ∧ mask.testBit p = false
  | [] => by simp [keysFor]
  | (p, x) :: r => by
    simp only [keysFor]
    cases h : mask.testBit p with
    | true =>
      simp only [keysFor_mem (rd := r), List.mem_cons, Prod.mk.injEq]
      constructor
      · rintro ⟨q, h1, h2⟩; exact ⟨q, .inr h1, h2⟩
      · rintro ⟨q, h1 | h1, h2⟩
        · obtain ⟨rfl, rfl⟩ := h1; rw [h] at h2; cases h2
        · exact ⟨q, h1, h2⟩
    | false =>
      simp only [List.mem_cons, keysFor_mem (rd := r), Prod.mk.injEq]
      constructor
      · rintro (rfl | ⟨q, h1, h2⟩)
        · exact ⟨p, .inl ⟨rfl, rfl⟩, h⟩
        · exact ⟨q, .inr h1, h2⟩
      · rintro ⟨q, h1 | h1, h2⟩
        · obtain ⟨rfl, rfl⟩ := h1; exact .inl rfl
        · exact .inr ⟨q, h1, h2⟩
def addKey (j : Nat) (k : Option Nat) (rd : List (Nat × Nat)) : List (Nat × Nat) :=
  match k with
  | some k => (j, k) :: rd
  | none => rd
def drawOps (P : Program) (call : FuncId → PT) (ops : Array Oper) (masks : List Nat) : List Nat → List (Nat × Nat) → (St → VC) → St → VC
  | [], _, K, st => K st
  | i :: r, rd, K, st => match ops[i]? with
    | some o => (match isQuiet P o.op with
      | true => stepOp P call ops i o (drawOps P call ops masks r (addKey i (keyOf (ev st.tmps) o.op) rd) K) st
      | false => stepG P call ops i o (keysFor (masks.getD i 0) rd) (drawOps P call ops masks r rd K) st)
    | none => .fail "no operation"
theorem drawOps_rd (hm : ∀ f, MonoPT (call f)) {masks : List Nat} {K : St → VC} : ∀ {l : List Nat} {rd rd' : List (Nat × Nat)} {st : St}, (∀ x ∈ rd, x ∈ rd') → (drawOps P call ops masks l rd' K st).holds → (drawOps P call ops masks l rd K st).holds
  | [], _, _, _, _, h => h
  | i :: r, rd, rd', st, hr, h => by
    simp only [drawOps] at h ⊢
    cases ho : ops[i]? with
    | none => rw [ho] at h; exact h.elim
    | some o =>
      rw [ho] at h
      simp only at h ⊢
      cases hq : isQuiet P o.op with
      | true =>
        rw [hq] at h
        refine stepOp_mono hm (fun u m nx hh => drawOps_rd hm (fun x hx => ?_) hh) h
        cases hk : keyOf (ev st.tmps) o.op with
        | none => rw [hk] at hx; exact hr x hx
        | some k =>
          rw [hk] at hx
          simp only [addKey, List.mem_cons] at hx ⊢
          exact hx.imp id (hr x)
      | false =>
        rw [hq] at h
        refine stepOp_mono hm (fun u m nx hh => ?_) h
        rw [preserved_iff, grows_iff] at hh ⊢
        refine ⟨fun k hk => hh.1 k ?_, hh.2.1, drawOps_rd hm hr hh.2.2⟩
        rw [keysFor_mem] at hk ⊢
        obtain ⟨p, h1, h2⟩ := hk
        exact ⟨p, hr _ h1, h2⟩
/-- The operation i is taken first: all ahead of it are quiet, and have nothing to do with it. -/
theorem bubble (hm : ∀ f, MonoPT (call f)) {masks : List Nat} {K : St → VC} {i : Nat} {oi : Oper} (ho : ops[i]? = some oi) {post : List Nat} : ∀ {pre : List Nat} {rd : List (Nat × Nat)} {st : St},
    (∀ p ∈ pre, ∃ op, ops[p]? = some op ∧ isQuiet P op.op = true ∧ Apart ops op oi ∧ (masks.getD i 0).testBit p = false) → (drawOps P call ops masks (pre ++ i :: post) rd K st).holds →
    (match isQuiet P oi.op with
      | true => stepOp P call ops i oi (drawOps P call ops masks (pre ++ post) rd K) st
      | false => stepG P call ops i oi (keysFor (masks.getD i 0) rd) (drawOps P call ops masks (pre ++ post) rd K) st).holds
  | [], rd, st, _, h => by
    simp only [List.nil_append, drawOps, ho] at h ⊢
    cases hq : isQuiet P oi.op with
    | true =>
      rw [hq] at h
      refine stepOp_mono hm (fun u m nx hh => drawOps_rd hm (fun x hx => ?_) hh) h
      cases keyOf (ev st.tmps) oi.op with
      | none => exact hx
      | some k => exact List.mem_cons_of_mem _ hx
    | false => rw [hq] at h; exact h
  | p :: pre, rd, st, hp, h => by
    obtain ⟨op, hop, hqp, hap, hbit⟩ := hp p (by simp)
    have ih : ∀ {rd : List (Nat × Nat)} {st : St}, _ := fun {rd st} => bubble hm (K := K) (rd := rd) (st := st) (post := post) (masks := masks) ho (pre := pre) fun q hq => hp q (by simp [hq])
    simp only [List.cons_append, drawOps, hop, hqp] at h
    cases hq : isQuiet P oi.op with
    | true =>
      simp only [hq] at ih ⊢
      have h1 := stepOp_mono hm (fun u m nx hh => ih hh) h
      have h2 := swap_quiet hqp hq hap h1
      refine stepOp_mono hm (fun u m nx hh => ?_) h2
      simp only [List.cons_append, drawOps, hop, hqp]
      have : keyOf (ev (setSlot st.tmps oi.dst u)) op.op = keyOf (ev st.tmps) op.op := keyOf_congr (agree_set hap.c).ev
      rw [this]; exact hh
    | false =>
      simp only [hq] at ih ⊢
      have h1 := stepOp_mono hm (fun u m nx hh => ih hh) h
      have h2 := swap_loud hm hqp hq hap (H := keysFor (masks.getD i 0) rd) (fun k hk => by
          rw [keysFor_mem] at hk ⊢
          obtain ⟨q, g1, g2⟩ := hk
          refine ⟨q, ?_, g2⟩
          cases keyOf (ev st.tmps) op.op with
          | none => exact g1
          | some k => exact List.mem_cons_of_mem _ g1) (fun k hk => by
          rw [keysFor_mem, hk]
          exact ⟨p, by simp [addKey], hbit⟩) h1
      unfold stepG at h2 ⊢
      refine stepOp_mono hm (fun u m nx hh => ?_) h2
      rw [preserved_iff, grows_iff] at hh ⊢
      refine ⟨hh.1, hh.2.1, ?_⟩
      simp only [List.cons_append, drawOps, hop, hqp]
      have : keyOf (ev (setSlot st.tmps oi.dst u)) op.op = keyOf (ev st.tmps) op.op := keyOf_congr (agree_set hap.c).ev
      rw [this]; exact hh.2.2
end
end Go.Proofs.Ytobbhdmbblhgaaa.Sx
