/-
  The framework's thirteenth part: a region that draws its order: one order of our own serves every order.
-/
import Derived.Test.YtobbhdmbblhgaaaSxL
namespace Go.Proofs.Ytobbhdmbblhgaaa.Sx
open Go

/-! ### What an operation looks at -/
theorem evs_congr {σ σ' : Operand → Option SV} : ∀ {l : List Operand}, (∀ x ∈ l, σ x = σ' x) → evs σ l = evs σ' l
  | [], _ => rfl
  | x :: r, h => by simp only [evs]; rw [h x (by simp), evs_congr fun y hy => h y (by simp [hy])]
theorem partsOf_congr {σ σ' : Operand → Option SV} : ∀ {l : List (Nat × Operand)}, (∀ p ∈ l, σ p.2 = σ' p.2) → partsOf σ l = partsOf σ' l
  | [], _ => rfl
  | (i, x) :: r, h => by simp only [partsOf]; rw [h (i, x) (by simp), partsOf_congr fun p hp => h p (by simp [hp])]
theorem bound_congr {σ σ' : Operand → Option SV} {d : Bool × Int} {x : Option Operand} (h : ∀ y, x = some y → σ y = σ' y) : bound σ d x = bound σ' d x := by
  cases x with
  | none => rfl
  | some y => simp only [bound, h y rfl]
/-- The block that a load reads. -/
def keyOf (σ : Operand → Option SV) : Op → Option Nat
  | .load _ a => (match σ a with
    | some (.ptr key _ _) => some key
    | some (.eptr key _ _ _) => some key
    | some (.veptr key _ _ _ _) => some key
    | some (.aptr key _ _ _) => some key
    | _ => none)
  | _ => none
theorem qop_congr {P : Program} {look look' : Look} {σ σ' : Operand → Option SV} {o : Op} {K : Option SV → VC} (h : ∀ x ∈ o.operands, σ x = σ' x) (hl : ∀ k, keyOf σ o = some k → look k = look' k) :
    qop P look σ o K = qop P look' σ' o K := by
  cases o <;> simp only [Op.operands] at h <;> simp only [qop]
  case move x => rw [h x (by simp)]
  case assign x => rw [h x (by simp)]
  case pick c a b => rw [h c (by simp), h a (by simp), h b (by simp)]
  case load t a =>
    simp only [keyOf] at hl
    rw [h a (by simp)] at hl ⊢
    unfold qload
    cases P.underlying t with
    | none => rfl
    | some d =>
      simp only
      split
      · rename_i key o hx; rw [hx] at hl; rw [hl key rfl]
      · rename_i key w i k hx; rw [hx] at hl; rw [hl key rfl]
      · rename_i key w o i k hx; rw [hx] at hl; rw [hl key rfl]
      · rename_i key base n i hx; rw [hx] at hl; rw [hl key rfl]
      · rfl
  case nilCheck x => rw [h x (by simp)]
  case binOp op t x y yt => rw [h x (by simp), h y (by simp)]
  case unOp op t x => rw [h x (by simp)]
  case convert s d x => rw [h x (by simp)]
  case makeInterface t x => rw [h x (by simp)]
  case makeFunc fn a b =>
    rw [evs_congr (l := a.toList) fun x hx => h x (by simp; exact .inl (by simpa using hx)), evs_congr (l := b.toList) fun x hx => h x (by simp; exact .inr (by simpa using hx))]
  case slice t x lo hi mx =>
    have hx := h x (by simp)
    have hlo : ∀ d, bound σ d lo = bound σ' d lo := fun d => bound_congr fun y hy => h y (by simp [hy])
    have hhi : ∀ d, bound σ d hi = bound σ' d hi := fun d => bound_congr fun y hy => h y (by simp [hy])
    unfold qslice
    rw [hx]
    simp only [qsliceStr, qsliceSlc, qsliceRow, hlo, hhi]
  case fieldAddr s x f => rw [h x (by simp)]
  case field t x f => rw [h x (by simp)]
  case indexAddr t x i => rw [h x (by simp), h i (by simp)]
  case index t x i => rw [h x (by simp), h i (by simp)]
  case typeAssert x t at_ ok => rw [h x (by simp)]
  case extract x i => rw [h x (by simp)]
  case build t parts =>
    unfold qbuild
    rw [partsOf_congr (l := parts.toList) fun p hp => h p.2 (by simp; exact ⟨p.1, by simpa using hp⟩)]
  case call c =>
    obtain ⟨callee, args, ats⟩ := c
    cases callee with
    | value f => rfl
    | invoke r m => rfl
    | builtin b =>
      simp only [Call.operands] at h
      simp only
      unfold qcall
      split
      · rename_i x hx; rw [h x (by simp; have : x ∈ args.toList := by rw [hx]; simp
                                   simpa using this)]
      · rename_i x hx; rw [h x (by simp; have : x ∈ args.toList := by rw [hx]; simp
                                   simpa using this)]
      · rename_i x y hx
        have h1 : x ∈ args.toList := by rw [hx]; simp
        have h2 : y ∈ args.toList := by rw [hx]; simp
        rw [h x (by simpa using h1), h y (by simpa using h2)]
      · rename_i x y hx
        have h1 : x ∈ args.toList := by rw [hx]; simp
        have h2 : y ∈ args.toList := by rw [hx]; simp
        rw [h x (by simpa using h1), h y (by simpa using h2)]
      · rfl
theorem keyOf_congr {σ σ' : Operand → Option SV} {o : Op} (h : ∀ x ∈ o.operands, σ x = σ' x) : keyOf σ o = keyOf σ' o := by
  cases o <;> simp only [keyOf]
  case load t a => rw [h a (by simp [Op.operands])]
theorem lop_congr {P : Program} {call : FuncId → PT} {σ σ' : Operand → Option SV} {m : Mem} {nx : Nat} {o : Op} {K : KL} (h : ∀ x ∈ o.operands, σ x = σ' x) : lop P call σ m nx o K = lop P call σ' m nx o K := by
  cases o <;> simp only [Op.operands] at h <;> simp only [lop]
  case box t x => rw [h x (by simp)]
  case buildSlice t len parts =>
    unfold lbuildSlice
    rw [partsOf_congr (l := parts.toList) fun p hp => h p.2 (by simp; exact ⟨p.1, by simpa using hp⟩)]
  case makeSlice t x y => rw [h x (by simp), h y (by simp)]
  case store t a x => rw [h a (by simp), h x (by simp)]
  case call c =>
    obtain ⟨callee, args, ats⟩ := c
    have he : evs σ args.toList = evs σ' args.toList := evs_congr fun x hx => h x (by simp only [Call.operands]; cases callee <;> simp <;> first | exact .inr (by simpa using hx) | simpa using hx)
    unfold lcall
    simp only [he]
    cases evs σ' args.toList with
    | none => cases callee <;> first | rfl | (rename_i b; cases b <;> rfl)
    | some as =>
      cases callee with
      | value f => have := h f (by simp [Call.operands]); dsimp only; rw [this]
      | invoke r m => have := h r (by simp [Call.operands]); dsimp only; rw [this]
      | builtin b => cases b <;> first | rfl | (cases as with | nil => rfl | cons x r => cases r with | nil => rfl | cons y r => cases r <;> rfl)

/-! ### Monotone in what follows -/
def MonoPT (pt : PT) : Prop := ∀ args m nx (K K' : SV → Mem → Nat → VC), (∀ v m nx, (K v m nx).holds → (K' v m nx).holds) → (pt args m nx K).holds → (pt args m nx K').holds
theorem chk_mono {l : Bool} {c : Prop} [Decidable c] {t t' : VC} (h : t.holds → t'.holds) : (chk l c t).holds → (chk l c t').holds := by
  unfold chk
  cases l
  · exact fun x => ⟨x.1, h x.2⟩
  · by_cases hc : c
    · simp only [if_pos hc]; exact h
    · simp only [if_neg hc]; exact id
theorem need_mono {x : Option SV} {t t' : SV → VC} (h : ∀ v, (t v).holds → (t' v).holds) : (need x t).holds → (need x t').holds := by
  cases x with
  | none => exact id
  | some v => exact h v
theorem lop_mono {P : Program} {call : FuncId → PT} (hm : ∀ f, MonoPT (call f)) {σ : Operand → Option SV} {m : Mem} {nx : Nat} {o : Op} {K K' : KL} (h : ∀ v m nx, (K v m nx).holds → (K' v m nx).holds) :
    (lop P call σ m nx o K).holds → (lop P call σ m nx o K').holds := by
  have hnew : ∀ t z, (lnew t z m nx K).holds → (lnew t z m nx K').holds := by
    intro t z; unfold lnew; split
    · exact h _ _ _
    · exact id
  have hgrown : ∀ e n cs s m nx, (grown e n cs s m nx K).holds → (grown e n cs s m nx K').holds := fun e n cs s m nx x c hc => h _ _ _ (x c hc)
  unfold lop
  split
  · split
    · exact hnew _ _
    · exact id
  · exact need_mono fun v => hnew _ _
  · unfold lbuildSlice
    split
    · split
      · split
        · split
          · exact h _ _ _
          · exact id
        · exact id
      · exact id
    · exact id
  · refine need_mono fun a => need_mono fun b => ?_
    unfold lmake
    split
    · split
      · split
        · exact chk_mono (h _ _ _)
        · exact id
      · exact id
    · exact id
  · unfold lstore
    split
    · split
      · split
        · exact h _ _ _
        · exact id
      · exact id
    · split
      · split
        · split
          · exact fun x => ⟨x.1, h _ _ _ x.2⟩
          · exact id
        · exact id
      · exact id
    · exact id
  · unfold lcall
    split
    · split
      · exact hm _ _ _ _ _ _ fun v m nx => h _ _ _
      · exact id
    · split
      · split
        · split
          · exact hm _ _ _ _ _ _ fun v m nx => h _ _ _
          · exact id
        · exact id
      · exact id
    · unfold lappend2
      split
      · unfold lappend
        split
        · split
          · split
            · split
              · split
                · unfold lappendTo
                  split
                  · split
                    · split
                      · split
                        · exact h _ _ _
                        · exact hgrown _ _ _ _ _ _
                      · split
                        · split
                          · split
                            · exact h _ _ _
                            · exact id
                          · exact hgrown _ _ _ _ _ _
                        · exact id
                      · split
                        · split
                          · exact fun x => ⟨x.1, fun c hc => h _ _ _ (x.2 c hc)⟩
                          · exact id
                        · exact id
                      · exact id
                    · exact id
                  · exact id
                · exact id
              · exact id
            · exact id
          · exact id
        · exact id
      · split
        · split
          · split
            · split
              · exact lappendRows_mono fun u m nx => h _ _ _
              · exact id
            · exact id
          · exact id
        · exact id
    · unfold lcopy
      split
      · split
        · split
          · split
            · split
              · exact h _ _ _
              · exact id
            · exact id
          · exact id
        · exact id
      · exact id
    · exact id
  · exact id

/-! ### One operation, as a condition on what is put into its slot -/
/-- What an operation names: its operands, and its guard's slot. -/
def names (ops : Array Oper) (o : Oper) : List Nat := o.looksAt ops
def qtr (P : Program) (ops : Array Oper) (j : Nat) (o : Oper) (tmps : List (Option SV)) (m : Mem) (nx : Nat) (k : Option SV → VC) : VC :=
  match guardOf ops o tmps with
  | some true => qop P (fun k => m.get k) (ev tmps) o.op (fun v => putV (isGuard ops j) v nx k)
  | some false => k (some (.tup []))
  | none => .fail "a guard that is not known"
theorem stepOp_quiet {P : Program} {call : FuncId → PT} {ops : Array Oper} {j : Nat} {o : Oper} (hq : isQuiet P o.op = true) (K : St → VC) (st : St) :
    stepOp P call ops j o K st = qtr P ops j o st.tmps st.m st.nx (fun v => K ⟨setSlot st.tmps o.dst v, st.m, st.nx⟩) := by
  unfold stepOp qtr
  cases guardOf ops o st.tmps with
  | none => rfl
  | some b => cases b <;> simp only [hq] <;> rfl
theorem qtr_det (P : Program) (ops : Array Oper) (j : Nat) (o : Oper) (tmps : List (Option SV)) (m : Mem) (nx : Nat) :
    ∃ (p : Prop) (u : Option SV), (∀ k, (qtr P ops j o tmps m nx k).holds ↔ p ∧ (k u).holds) := by
  unfold qtr
  cases guardOf ops o tmps with
  | none => exact ⟨False, none, fun k => ⟨fun h => h.elim, fun h => h.1.elim⟩⟩
  | some b =>
    cases b with
    | false => exact ⟨True, some (.tup []), fun k => ⟨fun h => ⟨trivial, h⟩, fun h => h.2⟩⟩
    | true =>
      obtain ⟨obl, sv, h1, _⟩ := qop_ok (P := P) (look := fun k => m.get k) (σ := ev tmps) o
      obtain ⟨p, u, g1, _, _⟩ := putV_iff (isGuard ops j) sv nx
      exact ⟨obl ∧ p, u, fun k => by simp only [h1, g1]; exact ⟨fun h => ⟨⟨h.1, h.2.1⟩, h.2.2⟩, fun h => ⟨h.1.1, h.1.2, h.2⟩⟩⟩
theorem mem_looksAt_op {ops : Array Oper} {o : Oper} {t : Nat} (h : Operand.tmp t ∈ o.op.operands) : t ∈ o.looksAt ops := by
  simp only [Oper.looksAt, List.mem_append, List.mem_filterMap]
  exact .inl ⟨.tmp t, by simpa using h, rfl⟩
theorem mem_looksAt_guard {ops : Array Oper} {o oj : Oper} {j d : Nat} {b : Bool} (hg : o.guard = some (j, b)) (hj : ops[j]? = some oj) (hd : oj.dst = some d) : d ∈ o.looksAt ops := by
  simp only [Oper.looksAt, List.mem_append]
  right; simp [hg, hj, hd]
def Agree (ops : Array Oper) (o : Oper) (tmps tmps' : List (Option SV)) : Prop := ∀ t ∈ o.looksAt ops, slot tmps t = slot tmps' t
theorem Agree.ev {ops : Array Oper} {o : Oper} {tmps tmps' : List (Option SV)} (h : Agree ops o tmps tmps') : ∀ x ∈ o.op.operands, Sx.ev tmps x = Sx.ev tmps' x := by
  intro x hx
  cases x with
  | tmp t => exact h t (mem_looksAt_op hx)
  | _ => rfl
theorem Agree.guard {ops : Array Oper} {o : Oper} {tmps tmps' : List (Option SV)} (h : Agree ops o tmps tmps') : guardOf ops o tmps = guardOf ops o tmps' := by
  unfold guardOf
  split
  · rfl
  · rename_i j want hg
    split
    · rename_i oj hj
      split
      · rename_i d hd
        rw [h d (mem_looksAt_guard hg hj hd)]
      · rfl
    · rfl
theorem qtr_congr {P : Program} {ops : Array Oper} {j : Nat} {o : Oper} {tmps tmps' : List (Option SV)} {m m' : Mem} {nx : Nat} {k : Option SV → VC} (h : Agree ops o tmps tmps')
    (hl : ∀ key, keyOf (ev tmps) o.op = some key → m.get key = m'.get key) : qtr P ops j o tmps m nx k = qtr P ops j o tmps' m' nx k := by
  unfold qtr
  rw [h.guard]
  cases guardOf ops o tmps' with
  | none => rfl
  | some b =>
    cases b with
    | false => rfl
    | true => exact qop_congr h.ev hl
theorem slot_set_ne : ∀ {tmps : List (Option SV)} {d t : Nat} {v : Option SV}, d ≠ t → slot (tmps.set d v) t = slot tmps t
  | [], _, _, _, _ => rfl
  | _ :: _, 0, 0, _, h => absurd rfl h
  | _ :: _, 0, _ + 1, _, _ => rfl
  | _ :: _, _ + 1, 0, _, _ => rfl
  | _ :: r, d + 1, t + 1, v, h => slot_set_ne (tmps := r) (fun e => h (by rw [e]))
theorem agree_set {ops : Array Oper} {o : Oper} {tmps : List (Option SV)} {dst : Option Nat} {v : Option SV} (h : ∀ d, dst = some d → d ∉ o.looksAt ops) : Agree ops o (setSlot tmps dst v) tmps := by
  intro t ht
  cases dst with
  | none => rfl
  | some d => exact slot_set_ne (fun e => h d rfl (e ▸ ht))
theorem setSlot_comm {tmps : List (Option SV)} {x y : Option Nat} {v u : Option SV} (h : ∀ d, x = some d → y ≠ some d) : setSlot (setSlot tmps x v) y u = setSlot (setSlot tmps y u) x v := by
  cases x with
  | none => rfl
  | some d =>
    cases y with
    | none => rfl
    | some e =>
      have : d ≠ e := fun he => h d rfl (he ▸ rfl)
      simp only [setSlot]; exact List.set_comm _ _ this
end Go.Proofs.Ytobbhdmbblhgaaa.Sx
