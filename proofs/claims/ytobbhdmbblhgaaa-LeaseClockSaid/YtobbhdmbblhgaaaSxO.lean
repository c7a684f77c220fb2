/-
  The framework's fifteenth part: regions that draw their order, joined to the machine; code; functions.
-/
import Derived.Test.YtobbhdmbblhgaaaSxN
namespace Go.Proofs.Ytobbhdmbblhgaaa.Sx
open Go

/-! ### The order of our own, and what is looked at ahead -/
def depsOf (o : Oper) : List Nat := (o.after.toList.filter fun e => Region.binds .any e).map (·.on)
def maskStep (acc : List Nat) (ds : List Nat) : Nat := match ds with
  | [] => 0
  | d :: r => 2 ^ d ||| acc.getD d 0 ||| maskStep acc r
def masksGo : List Oper → List Nat → List Nat
  | [], acc => acc
  | o :: r, acc => masksGo r (acc ++ [maskStep acc (depsOf o)])
def Reach (ops : Array Oper) (i j : Nat) : Prop :=
  ∀ S : Nat → Prop, (∀ k o, ops[k]? = some o → S k → ∀ d ∈ depsOf o, S d) → (∀ o, ops[i]? = some o → ∀ d ∈ depsOf o, S d) → S j
theorem maskStep_bit {acc ds : List Nat} {j : Nat} (h : (maskStep acc ds).testBit j = true) : ∃ d ∈ ds, d = j ∨ (acc.getD d 0).testBit j = true := by
  induction ds with
  | nil => simp [maskStep] at h
  | cons d r ih =>
    simp only [maskStep, Nat.testBit_or, Bool.or_eq_true] at h
    rcases h with (h | h) | h
    · rw [Nat.testBit_two_pow] at h; exact ⟨d, by simp, .inl (by simpa using h)⟩
    · exact ⟨d, by simp, .inr h⟩
    · obtain ⟨e, he, hh⟩ := ih h; exact ⟨e, by simp [he], hh⟩
theorem masksGo_ok {ops : Array Oper} : ∀ (l : List Oper) (acc : List Nat), (∀ k, l[k]? = ops[acc.length + k]?) →
    (∀ i j, (acc.getD i 0).testBit j = true → Reach ops i j) → ∀ i j, ((masksGo l acc).getD i 0).testBit j = true → Reach ops i j
  | [], acc, _, h, i, j, hb => h i j hb
  | o :: r, acc, hl, h, i, j, hb => by
    refine masksGo_ok r (acc ++ [maskStep acc (depsOf o)]) (fun k => ?_) (fun i j hb => ?_) i j hb
    · have := hl (k + 1)
      simp only [List.getElem?_cons_succ] at this
      rw [this]; congr 1; simp; omega
    · rw [List.getD_eq_getElem?_getD] at hb
      by_cases hi : i < acc.length
      · rw [List.getElem?_append_left hi, ← List.getD_eq_getElem?_getD] at hb; exact h i j hb
      · rw [List.getElem?_append_right (by omega)] at hb
        by_cases he : i = acc.length
        · subst he
          simp only [Nat.sub_self, List.getElem?_cons_zero, Option.getD_some] at hb
          obtain ⟨d, hd, hh⟩ := maskStep_bit hb
          have ho : ops[acc.length]? = some o := by have := hl 0; simpa using this.symm
          intro S hS hi
          have hSd := hi o ho d hd
          rcases hh with rfl | hh
          · exact hSd
          · exact h d j hh S hS (fun o' ho' e he => hS d o' ho' hSd e he)
        · rw [List.getElem?_eq_none (by simp; omega)] at hb; simp at hb
def masksOf (ops : Array Oper) : List Nat := masksGo ops.toList []
theorem masksOf_ok {ops : Array Oper} {i j : Nat} (h : ((masksOf ops).getD i 0).testBit j = true) : Reach ops i j :=
  masksGo_ok ops.toList [] (fun k => by simp) (fun i j h => by simp at h) i j h

/-- The order: quiet ones as soon as they may be. -/
def pickB (P : Program) (ops : List Oper) (quiet : Bool) (done : Nat) (i : Nat) : Option Nat :=
  match ops with
  | [] => none
  | o :: r => if (!done.testBit i && (!quiet || isQuiet P o.op) && (depsOf o).all fun d => done.testBit d) = true then some i else pickB P r quiet done (i + 1)
def normGo (P : Program) (ops : List Oper) : Nat → Nat → List Nat
  | 0, _ => []
  | n + 1, done => match pickB P ops true done 0 with
    | some i => i :: normGo P ops n (done ||| 2 ^ i)
    | none => (match pickB P ops false done 0 with
      | some i => i :: normGo P ops n (done ||| 2 ^ i)
      | none => [])
def relB (P : Program) (ops : Array Oper) (masks : List Nat) (p i : Nat) : Bool :=
  match ops[p]?, ops[i]? with
  | some op, some oi => !(depsOf op).contains i && !Nat.beq p i && ((masks.getD i 0).testBit p || (isQuiet P op.op && Oper.apart ops op oi))
  | _, _ => false
def pairB (P : Program) (ops : Array Oper) (masks : List Nat) : List Nat → Bool
  | [] => true
  | p :: r => r.all (relB P ops masks p) && pairB P ops masks r
def goodB (P : Program) (ops : Array Oper) (masks N : List Nat) : Bool :=
  (List.range ops.size).all (fun i => N.contains i) && N.all (fun i => Nat.blt i ops.size && match ops[i]? with
    | some o => (depsOf o).all fun d => !Nat.beq d i && Nat.blt d ops.size
    | none => false) && pairB P ops masks N
def draw (P : Program) (call : FuncId → PT) (ops : Array Oper) (K : St → VC) (st : St) : VC :=
  let masks := masksOf ops
  let N := normGo P ops.toList ops.size 0
  match goodB P ops masks N with
  | true => drawOps P call ops masks N [] K st
  | false => .fail "a region that draws its order"

theorem ready_mem {md : Region.Mode} {ops : Array Oper} {listed : Array Bool} {i : Nat} : i ∈ Region.ready md ops listed ↔
    i < ops.size ∧ listed.getD i true = false ∧ ∃ o, ops[i]? = some o ∧ ∀ e ∈ o.after, Region.binds md e = true → listed.getD e.on false = true := by
  unfold Region.ready
  simp only [List.mem_filter, List.mem_range, Bool.and_eq_true, Bool.not_eq_true']
  constructor
  · rintro ⟨h1, h2, h3⟩
    refine ⟨h1, h2, ?_⟩
    have ho : ops[i]? = some ops[i] := Array.getElem?_eq_getElem h1
    rw [ho] at h3
    simp only [Option.map_some, Option.getD_some] at h3
    refine ⟨_, ho, fun e he hb => ?_⟩
    rw [Array.all_eq_true'] at h3
    have := h3 e he
    simpa [hb] using this
  · rintro ⟨h1, h2, o, ho, h3⟩
    refine ⟨h1, h2, ?_⟩
    rw [ho]
    simp only [Option.map_some, Option.getD_some, Array.all_eq_true']
    intro e he
    by_cases hb : Region.binds md e = true
    · simp [hb, h3 e he hb]
    · simp [hb]

section
variable {P : Program} {call : FuncId → PT} {ops : Array Oper}
theorem draw_go (hm : ∀ f, MonoPT (call f)) (hcall : ∀ f, CallOk P f (call f)) {masks : List Nat} (hmask : ∀ i j, (masks.getD i 0).testBit j = true → Reach ops i j)
    {Q : Exit → Act → World → Prop} {w0 : World} {M0 : Nat → Prop} {K : St → VC} : ∀ (fuel : Nat) (R : List Nat) (listed : Array Bool) {st : St} {E : Nat → Nat} {a : Act} {w : World},
      R.length ≤ fuel → (∀ i, i ∈ R ↔ i < ops.size ∧ listed.getD i true = false) → pairB P ops masks R = true → (∀ i ∈ R, ∀ o, ops[i]? = some o → ∀ d ∈ depsOf o, d ≠ i ∧ d < ops.size) →
      listed.size = ops.size → (∀ k o, ops[k]? = some o → listed.getD k false = true → ∀ d ∈ depsOf o, listed.getD d false = true) →
      (drawOps P call ops masks R [] K st).holds → Sat w0 M0 E st a w → (∀ a w, Behind K w0 M0 E st.nx a w → Q .normal a w) → wpAny P .any ops Q fuel listed a w := by
  intro fuel
  induction fuel with
  | zero =>
    intro R listed st E a w hlen hR hpair hself hsize hcl h hs hQ
    have hnil : R = [] := List.eq_nil_of_length_eq_zero (by omega)
    subst hnil
    refine ⟨?_, hQ _ _ ⟨E, st, fun _ _ => rfl, Nat.le_refl _, hs, h⟩⟩
    rw [List.eq_nil_iff_forall_not_mem]
    intro i hi
    rw [ready_mem] at hi
    have := (hR i).2 ⟨hi.1, hi.2.1⟩
    cases this
  | succ fuel ih =>
    intro R listed st E a w hlen hR hpair hself hsize hcl h hs hQ
    refine ⟨fun hnone => ?_, fun i hi => ?_⟩
    · -- nothing is ready: nothing is left
      cases R with
      | nil => exact hQ _ _ ⟨E, st, fun _ _ => rfl, Nat.le_refl _, hs, h⟩
      | cons r0 R =>
        exfalso
        have hr0 := (hR r0).1 (by simp)
        have ho : ops[r0]? = some ops[r0] := Array.getElem?_eq_getElem hr0.1
        have : r0 ∈ Region.ready .any ops listed := by
          rw [ready_mem]
          refine ⟨hr0.1, hr0.2, _, ho, fun e he hb => ?_⟩
          have hd : e.on ∈ depsOf ops[r0] := by
            simp only [depsOf, List.mem_map, List.mem_filter]
            exact ⟨e, ⟨by simpa using he, hb⟩, rfl⟩
          generalize e.on = d at hd ⊢
          cases hl : listed.getD d false with
          | true => rfl
          | false =>
            exfalso
            have hself0 := hself r0 (by simp) _ ho d hd
            have hlt := hself0.2
            have hmem : d ∈ r0 :: R := (hR d).2 ⟨hlt, by
              rw [Array.getD_eq_getD_getElem?] at hl ⊢
              rw [Array.getElem?_eq_getElem (by omega)] at hl ⊢
              exact hl⟩
            rw [List.mem_cons] at hmem
            rcases hmem with e1 | hmem
            · exact hself0.1 e1
            · simp only [pairB, Bool.and_eq_true, List.all_eq_true] at hpair
              have hrel := hpair.1 _ hmem
              simp only [relB, ho] at hrel
              split at hrel
              · rename_i op oi e1 _
                injection e1 with e1; subst e1
                simp only [Bool.and_eq_true, Bool.not_eq_true'] at hrel
                have h1 := hrel.1.1
                rw [List.contains_iff_mem.2 hd] at h1; cases h1
              · cases hrel
        rw [hnone] at this; cases this
    · rw [ready_mem] at hi
      obtain ⟨hlt, hnl, oi, ho, hdeps⟩ := hi
      have hmem : i ∈ R := (hR i).2 ⟨hlt, hnl⟩
      obtain ⟨pre, post, rfl⟩ := List.append_of_mem hmem
      -- all ahead of it are quiet, and apart
      have hdl : ∀ d ∈ depsOf oi, listed.getD d false = true := by
        intro d hd
        simp only [depsOf, List.mem_map, List.mem_filter] at hd
        obtain ⟨e, ⟨he, hb⟩, rfl⟩ := hd
        exact hdeps e (by simpa using he) hb
      have hpairs : ∀ (pre : List Nat), pairB P ops masks (pre ++ i :: post) = true → (∀ p ∈ pre, relB P ops masks p i = true) ∧ pairB P ops masks (pre ++ post) = true ∧ (∀ q ∈ post, relB P ops masks i q = true) := by
        intro pre
        induction pre with
        | nil =>
          intro hp
          simp only [List.nil_append, pairB, Bool.and_eq_true, List.all_eq_true] at hp
          exact ⟨fun p hp' => (List.not_mem_nil hp').elim, hp.2, hp.1⟩
        | cons q pre ihp =>
          intro hp
          simp only [List.cons_append, pairB, Bool.and_eq_true, List.all_eq_true] at hp
          obtain ⟨h1, h2, h3⟩ := ihp hp.2
          refine ⟨fun p hp' => ?_, ?_, h3⟩
          · rw [List.mem_cons] at hp'
            rcases hp' with rfl | hp'
            · exact hp.1 i (by simp)
            · exact h1 p hp'
          · simp only [List.cons_append, pairB, Bool.and_eq_true, List.all_eq_true]
            refine ⟨fun x hx => hp.1 x ?_, h2⟩
            rw [List.mem_append] at hx ⊢
            exact hx.imp id (List.mem_cons_of_mem _)
      obtain ⟨hpre, hpair', hpost⟩ := hpairs pre hpair
      have hap : ∀ p ∈ pre, ∃ op, ops[p]? = some op ∧ isQuiet P op.op = true ∧ Apart ops op oi ∧ (masks.getD i 0).testBit p = false := by
        intro p hp
        have hrel := hpre p hp
        simp only [relB, ho] at hrel
        split at hrel
        · rename_i op oi' e1 e2
          injection e2 with e2; subst e2
          simp only [Bool.and_eq_true, Bool.or_eq_true, Bool.not_eq_true'] at hrel
          have hbit : (masks.getD i 0).testBit p = false := by
            cases hb : (masks.getD i 0).testBit p with
            | false => rfl
            | true =>
              exfalso
              have := hmask i p hb (fun k => listed.getD k false = true) (fun k o hk hS d hd => hcl k o hk hS d hd) (fun o' ho' d hd => by rw [ho] at ho'; injection ho' with ho'; subst ho'; exact hdl d hd)
              have hpl := ((hR p).1 (by simp [hp])).2
              have hps := ((hR p).1 (by simp [hp])).1
              rw [Array.getD_eq_getD_getElem?] at this hpl
              rw [Array.getElem?_eq_getElem (by omega)] at this hpl
              simp only [Option.getD_some] at this hpl
              rw [this] at hpl; cases hpl
          rcases hrel.2 with hb | hb
          · rw [hb] at hbit; cases hbit
          · obtain ⟨s1, s2, s3⟩ := Oper.apart_spec hb.2
            exact ⟨op, e1, hb.1, ⟨s1, s2, s3⟩, hbit⟩
        · cases hrel
      have hb := bubble hm ho hap h
      have hstep : (stepOp P call ops i oi (fun st' => .and (.atom (st.nx ≤ st'.nx ∨ True)) (drawOps P call ops masks (pre ++ post) [] K st')) st).holds := by
        cases hq : isQuiet P oi.op with
        | true =>
          rw [hq] at hb
          exact stepOp_mono hm (fun u m nx hh => ⟨.inr trivial, hh⟩) hb
        | false =>
          rw [hq] at hb
          exact stepOp_mono hm (fun u m nx hh => by rw [preserved_iff, grows_iff] at hh; exact ⟨.inr trivial, hh.2.2⟩) hb
      have hsound := stepOp_sound hcall hstep hs Q
      have hni : i ∉ pre ∧ i ∉ post := by
        constructor
        · intro hp
          have hrel := hpre i hp
          simp only [relB, ho] at hrel
          simp at hrel
        · intro hp
          have hrel := hpost i hp
          simp only [relB, ho] at hrel
          simp at hrel
      have go : ∀ a' w', Behind (fun st' => .and (.atom (st.nx ≤ st'.nx ∨ True)) (drawOps P call ops masks (pre ++ post) [] K st')) w0 M0 E st.nx a' w' → wpAny P .any ops Q fuel (listed.setIfInBounds i true) a' w' := by
        rintro a' w' ⟨E', st', g1, g2, g3, g4⟩
        refine ih (pre ++ post) (listed.setIfInBounds i true) (by simp at hlen ⊢; omega) (fun j => ?_) hpair' (fun j hj => hself j (by rw [List.mem_append] at hj ⊢; exact hj.imp id (List.mem_cons_of_mem _))) (by simpa using hsize) (fun k o hk hl d hd => ?_) g4.2 g3
          (fun a'' w'' hbh => hQ a'' w'' ?_)
        · rw [Array.getD_eq_getD_getElem?, Array.getElem?_setIfInBounds]
          by_cases e : i = j
          · subst e
            simp only [if_true]
            rw [if_pos (by omega)]
            simp only [Option.getD_some]
            constructor
            · intro hj; rw [List.mem_append] at hj; rcases hj with hj | hj
              · exact absurd hj hni.1
              · exact absurd hj hni.2
            · rintro ⟨_, hh⟩; cases hh
          · rw [if_neg e, ← Array.getD_eq_getD_getElem?]
            have := hR j
            rw [List.mem_append, List.mem_cons] at this
            rw [List.mem_append, ← this]
            constructor
            · rintro (h | h)
              · exact .inl h
              · exact .inr (.inr h)
            · rintro (h | h | h)
              · exact .inl h
              · exact absurd h.symm e
              · exact .inr h
        · rw [Array.getD_eq_getD_getElem?, Array.getElem?_setIfInBounds] at hl ⊢
          by_cases ed : i = d
          · rw [if_pos ed, if_pos (by omega)]; rfl
          · rw [if_neg ed, ← Array.getD_eq_getD_getElem?]
            by_cases ek : i = k
            · subst ek
              rw [ho] at hk; injection hk with hk; subst hk
              exact hdl d hd
            · rw [if_neg ek, ← Array.getD_eq_getD_getElem?] at hl
              exact hcl k o hk hl d hd
        · obtain ⟨E'', st'', k1, k2, k3, k4⟩ := hbh
          exact ⟨E'', st'', fun k hk => (k1 k (Nat.lt_of_lt_of_le hk g2)).trans (g1 k hk), Nat.le_trans g2 k2, k3, k4⟩
      unfold wpOp
      rw [ho]
      simp only
      split
      · rename_i hw
        rw [if_pos hw] at hsound
        exact .inl (Oper.wp_mono go hsound)
      · rename_i hw
        rw [if_neg hw] at hsound
        exact go _ _ hsound
theorem draw_sound (hmix : P.follows .mixedOrders = true) (hm : ∀ f, MonoPT (call f)) (hcall : ∀ f, CallOk P f (call f)) {id : Nat} {Q : Exit → Act → World → Prop} {w0 : World} {M0 : Nat → Prop} {K : St → VC}
    {st : St} {E : Nat → Nat} {a : Act} {w : World} (h : (draw P call ops K st).holds) (hs : Sat w0 M0 E st a w) (hQ : ∀ a w, Behind K w0 M0 E st.nx a w → Q .normal a w) : (Code.region id ops true).wp P Q a w := by
  unfold draw at h
  simp only at h
  split at h
  · rename_i hg
    simp only [goodB, Bool.and_eq_true, List.all_eq_true] at hg
    obtain ⟨⟨h1, h2⟩, h3⟩ := hg
    refine wp_region_any hmix ?_
    have hs' : Sat w0 M0 E st a { w with drawn := w.drawn + 1 } := ⟨hs.tm, hs.wt, hs.df, hs.mm.drew _⟩
    have hlen : (normGo P ops.toList ops.size 0).length ≤ ops.size := by
      have : ∀ (n d : Nat), (normGo P ops.toList n d).length ≤ n := by
        intro n
        induction n with
        | zero => intro d; simp [normGo]
        | succ n ih =>
          intro d
          simp only [normGo]
          split
          · have := ih (d ||| 2 ^ (by assumption)); simp only [List.length_cons]; omega
          · split
            · have := ih (d ||| 2 ^ (by assumption)); simp only [List.length_cons]; omega
            · simp
      exact this _ _
    refine draw_go hm hcall (fun i j hb => masksOf_ok hb) ops.size (normGo P ops.toList ops.size 0) _ hlen (fun i => ?_) h3 (fun i hi o ho d hd => ?_) (by simp) (fun k o hk hl d hd => ?_) h hs' hQ
    · constructor
      · intro hi
        have := h2 i hi
        simp only [Nat.blt_eq] at this
        refine ⟨this.1, ?_⟩
        rw [Array.getD_eq_getD_getElem?, Array.getElem?_eq_getElem (by simpa using this.1)]; simp
      · rintro ⟨hi, _⟩
        have := h1 i (List.mem_range.2 hi)
        rwa [List.contains_iff_mem] at this
    · have := h2 i hi
      rw [ho] at this
      simp only [List.all_eq_true, Bool.and_eq_true, Bool.not_eq_true', Nat.blt_eq] at this
      have hd' := this.2 d hd
      refine ⟨fun e => ?_, hd'.2⟩
      have h5 := hd'.1
      rw [e] at h5
      simp at h5
    · exfalso
      rw [Array.getD_eq_getD_getElem?] at hl
      by_cases hks : k < ops.size
      · rw [Array.getElem?_eq_getElem (by simpa using hks)] at hl; simp at hl
      · rw [Array.getElem?_eq_none (by simpa using hks)] at hl; simp at hl
  · exact h.elim
end
end Go.Proofs.Ytobbhdmbblhgaaa.Sx
