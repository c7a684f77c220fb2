/-
  The framework's seventeenth part: code and functions: 'sx', and that it is sound.
-/
import Derived.Test.YtobbhdmbblhgaaaSxQ
import Derived.Scope
namespace Go.Proofs.Ytobbhdmbblhgaaa.Sx
open Go

def firstRegion : Code → Option Nat
  | .region id _ _ => some id
  | .seq a b => match firstRegion a with
    | some i => some i
    | none => firstRegion b
  | .cond _ a b => match firstRegion a with
    | some i => some i
    | none => firstRegion b
  | .block _ b => firstRegion b
  | .loop b => firstRegion b
  | .scope b => firstRegion b
  | _ => none
/-- One head for each tag: a loop whose memory has one of a few shapes. -/
structure Multi where
  tags : List Nat
  tag : St → Nat
  A : Nat → LoopAnn
def one (A : LoopAnn) : Multi := ⟨[0], fun _ => 0, fun _ => A⟩
/-- By a loop's first region: what is said of it, at the state in which it begins. -/
abbrev Anns := List (Nat × (St → Option Multi))
def always (A : LoopAnn) : St → Option Multi := fun _ => some (one A)
def Anns.find (anns : Anns) (i : Nat) (st : St) : Option Multi := match anns with
  | [] => none
  | (j, A) :: r => if j = i then A st else Anns.find r i st
def annAt (anns : Anns) (body : Code) (st : St) : Option Multi := match firstRegion body with
  | some i => anns.find i st
  | none => none
def unroll : Nat → (XK → St → VC) → XK → St → VC
  | 0, _, _, _ => .fail "loop: too many rounds"
  | n + 1, f, K, st => f (fun e st' => match e with
    | .normal => unroll n f K st'
    | e => K e st') st
def pickTag (t : Nat) (k : Nat → VC) : List Nat → VC
  | [] => .fail "loop: no such head"
  | a :: r => if t = a then k a else pickTag t k r
theorem pickTag_iff {t : Nat} {k : Nat → VC} : ∀ {l : List Nat}, (pickTag t k l).holds → t ∈ l ∧ (k t).holds
  | [], h => h.elim
  | a :: r, h => by
    simp only [pickTag] at h
    split at h
    · rename_i e; subst e; exact ⟨List.mem_cons_self .., h⟩
    · have := pickTag_iff h; exact ⟨List.mem_cons_of_mem _ this.1, this.2⟩
def entry (L : Multi) (body : Code) (st st1 : St) : VC :=
  pickTag (L.tag st1) (fun t => .ex (L.A t).α fun y => .and (.atom ((L.A t).pre st y)) (atHead body (L.A t) st y st1)) L.tags
def backTo (L : Multi) (body : Code) (st : St) (n : Nat) (st1 : St) : VC :=
  pickTag (L.tag st1) (fun t => .ex (L.A t).α fun y => .and (.atom ((L.A t).pre st y ∧ (L.A t).mea st y < n)) (atHead body (L.A t) st y st1)) L.tags
def roundAt (L : Multi) (body : Code) (f : XK → St → VC) (K : XK) (st : St) (t : Nat) : VC :=
  .all (L.A t).α fun x => .imp ((L.A t).pre st x) (match annOk body (L.A t) st x with
      | true => f (fun e st1 => match e with
        | .normal => backTo L body st ((L.A t).mea st x) st1
        | e => K e st1) (hd body (L.A t) st x)
      | false => .fail "loop: the annotation")
def roundsOf (g : Nat → VC) : List Nat → VC
  | [] => .tt
  | [t] => g t
  | t :: r => .and (g t) (roundsOf g r)
theorem roundsOf_mem {g : Nat → VC} : ∀ {l : List Nat}, (roundsOf g l).holds → ∀ t ∈ l, (g t).holds
  | [], _, t, ht => by cases ht
  | [a], h, t, ht => by simp at ht; subst ht; exact h
  | a :: b :: r, h, t, ht => by
    rw [List.mem_cons] at ht
    rcases ht with rfl | ht
    · exact h.1
    · exact roundsOf_mem (l := b :: r) h.2 t ht
theorem roundsOf_mono {g g' : Nat → VC} (hg : ∀ t, (g t).holds → (g' t).holds) : ∀ {l : List Nat}, (roundsOf g l).holds → (roundsOf g' l).holds
  | [], h => h
  | [a], h => hg a h
  | a :: b :: r, h => ⟨hg a h.1, roundsOf_mono hg (l := b :: r) h.2⟩
def annLoop (L : Multi) (body : Code) (f : XK → St → VC) (K : XK) (st : St) : VC :=
  .and (entry L body st st) (roundsOf (roundAt L body f K st) L.tags)
def condK (c : Option SV) (t f : VC) : VC := match c with
  | some (.bool true b) => (match b with
    | true => t
    | false => f)
  | some (.bool false b) => fork b (fun v => match v with
    | true => t
    | false => f)
  | _ => .fail "cond"
def sx (P : Program) (call : FuncId → PT) (anns : Anns) (n : Nat) : Code → XK → St → VC
  | .skip, K, st => K .normal st
  | .label _, K, st => K .normal st
  | .region _ ops d, K, st => (match d with
    | true => draw P call ops (K .normal) st
    | false => seqOps P call ops (List.range ops.size) (K .normal) st)
  | .seq a b, K, st => sx P call anns n a (fun e st' => match e with
    | .normal => sx P call anns n b K st'
    | e => K e st') st
  | .cond c a b, K, st => condK (ev st.tmps c) (sx P call anns n a K st) (sx P call anns n b K st)
  | .block id body, K, st => sx P call anns n body (fun e st' => match e with
    | .exit j => if j = id then K .normal st' else K (.exit j) st'
    | e => K e st') st
  | .loop body, K, st => (match annAt anns body st with
    | some A => annLoop A body (sx P call anns n body) K st
    | none => unroll n (sx P call anns n body) K st)
  | .exit id, K, st => K (.exit id) st
  | .ret, K, st => K .ret st
  | .scope body, K, st => sx P call anns n body K st
  | _, _, _ => .fail "code"

/-! ### Monotone, and which slots stay -/
structure Kp (l : List Nat) (t t' : List (Option SV)) : Prop where
  len : t'.length = t.length
  get : ∀ i, i ∉ l → t'[i]? = t[i]?
theorem Kp.refl (l : List Nat) (t : List (Option SV)) : Kp l t t := ⟨rfl, fun _ _ => rfl⟩
theorem Kp.trans {l : List Nat} {a b c : List (Option SV)} (h : Kp l a b) (h' : Kp l b c) : Kp l a c := ⟨h'.len.trans h.len, fun i hi => (h'.get i hi).trans (h.get i hi)⟩
theorem Kp.mono {l l' : List Nat} {a b : List (Option SV)} (h : Kp l a b) (hl : ∀ i ∈ l, i ∈ l') : Kp l' a b := ⟨h.len, fun i hi => h.get i fun x => hi (hl i x)⟩
theorem Kp.set {l : List Nat} {t : List (Option SV)} {dst : Option Nat} {u : Option SV} (h : ∀ d, dst = some d → d ∈ l) : Kp l t (setSlot t dst u) := by
  cases dst with
  | none => exact Kp.refl _ _
  | some d => exact ⟨by simp [setSlot], fun i hi => by simp only [setSlot]; rw [List.getElem?_set, if_neg (fun (e : d = i) => hi (by rw [← e]; exact h d rfl))]⟩
section
variable {P : Program} {call : FuncId → PT} {anns : Anns} {n : Nat}
theorem seqOps_mono (hm : ∀ f, MonoPT (call f)) {ops : Array Oper} {l0 : List Nat} (hl0 : ∀ (j : Nat) o d, ops[j]? = some o → o.dst = some d → d ∈ l0) {K K' : St → VC} {t0 : List (Option SV)}
    (hK : ∀ st', Kp l0 t0 st'.tmps → (K st').holds → (K' st').holds) : ∀ (l : List Nat) (st : St), Kp l0 t0 st.tmps → (seqOps P call ops l K st).holds → (seqOps P call ops l K' st).holds
  | [], st, hk, h => hK st hk h
  | j :: r, st, hk, h => by
    simp only [seqOps] at h ⊢
    cases ho : ops[j]? with
    | none => rw [ho] at h; exact h.elim
    | some o =>
      rw [ho] at h
      exact stepOp_mono hm (fun u m nx hh => seqOps_mono hm hl0 hK r _ (hk.trans (Kp.set fun d hd => hl0 j o d ho hd)) hh) h
theorem drawOps_mono (hm : ∀ f, MonoPT (call f)) {ops : Array Oper} {masks : List Nat} {l0 : List Nat} (hl0 : ∀ (j : Nat) o d, ops[j]? = some o → o.dst = some d → d ∈ l0) {K K' : St → VC} {t0 : List (Option SV)}
    (hK : ∀ st', Kp l0 t0 st'.tmps → (K st').holds → (K' st').holds) : ∀ (l : List Nat) (rd : List (Nat × Nat)) (st : St), Kp l0 t0 st.tmps → (drawOps P call ops masks l rd K st).holds → (drawOps P call ops masks l rd K' st).holds
  | [], _, st, hk, h => hK st hk h
  | j :: r, rd, st, hk, h => by
    simp only [drawOps] at h ⊢
    cases ho : ops[j]? with
    | none => rw [ho] at h; exact h.elim
    | some o =>
      rw [ho] at h
      simp only at h ⊢
      cases hq : isQuiet P o.op with
      | true =>
        rw [hq] at h
        exact stepOp_mono hm (fun u m nx hh => drawOps_mono hm hl0 hK r _ _ (hk.trans (Kp.set fun d hd => hl0 j o d ho hd)) hh) h
      | false =>
        rw [hq] at h
        refine stepOp_mono hm (fun u m nx hh => ?_) h
        rw [preserved_iff, grows_iff] at hh ⊢
        exact ⟨hh.1, hh.2.1, drawOps_mono hm hl0 hK r _ _ (hk.trans (Kp.set fun d hd => hl0 j o d ho hd)) hh.2.2⟩
theorem dst_mem {ops : Array Oper} {j : Nat} {o : Oper} {d : Nat} (ho : ops[j]? = some o) (hd : o.dst = some d) : d ∈ ops.toList.filterMap (·.dst) :=
  List.mem_filterMap.2 ⟨o, List.mem_of_getElem? (by rw [Array.getElem?_toList]; exact ho), hd⟩
theorem Kp.hd {body : Code} {A : LoopAnn} {st : St} {x : A.α} (h : annOk body A st x = true) : Kp (written body) st.tmps (Sx.hd body A st x).tmps := by
  simp only [annOk, Bool.and_eq_true, List.all_eq_true, List.contains_iff_mem] at h
  refine ⟨by simp [Sx.hd, override_length, forget_length], fun i hi => ?_⟩
  simp only [Sx.hd]
  rw [override_ne (fun u hu => hi (h.1 _ hu).1), forget_ne hi]
theorem condK_mono {c : Option SV} {t t' f f' : VC} (ht : t.holds → t'.holds) (hf : f.holds → f'.holds) : (condK c t f).holds → (condK c t' f').holds := by
  unfold condK
  split
  · split
    · exact ht
    · exact hf
  · intro h
    rw [fork_iff] at h ⊢
    split at h
    · exact ht h
    · exact hf h
  · exact id
theorem unroll_mono {l0 : List Nat} {f : XK → St → VC} (hf : ∀ (K K' : XK) st, (∀ e st', Kp l0 st.tmps st'.tmps → (K e st').holds → (K' e st').holds) → (f K st).holds → (f K' st).holds) : ∀ (n : Nat) (K K' : XK) (st : St),
    (∀ e st', Kp l0 st.tmps st'.tmps → (K e st').holds → (K' e st').holds) → (unroll n f K st).holds → (unroll n f K' st).holds
  | 0, _, _, _, _, h => h
  | n + 1, K, K', st, hK, h => by
    simp only [unroll] at h ⊢
    refine hf _ _ st (fun e st' hk hh => ?_) h
    cases e with
    | normal => exact unroll_mono hf n K K' st' (fun e st'' hk' => hK e st'' (hk.trans hk')) hh
    | exit id => exact hK _ _ hk hh
    | ret => exact hK _ _ hk hh
theorem sx_mono (hm : ∀ f, MonoPT (call f)) : ∀ (c : Code) (K K' : XK) (st : St), (∀ e st', Kp (written c) st.tmps st'.tmps → (K e st').holds → (K' e st').holds) →
    (sx P call anns n c K st).holds → (sx P call anns n c K' st).holds := by
  intro c
  induction c with
  | skip => intro K K' st hK h; exact hK _ _ (Kp.refl _ _) h
  | label l => intro K K' st hK h; exact hK _ _ (Kp.refl _ _) h
  | exit id => intro K K' st hK h; exact hK _ _ (Kp.refl _ _) h
  | ret => intro K K' st hK h; exact hK _ _ (Kp.refl _ _) h
  | region id ops d =>
    intro K K' st hK h
    simp only [sx] at h ⊢
    cases d with
    | true =>
      simp only at h ⊢
      unfold draw at h ⊢
      simp only at h ⊢
      split at h
      · exact drawOps_mono hm (l0 := ops.toList.filterMap (fun (o : Oper) => o.dst)) (t0 := st.tmps) (fun j o d ho hd => dst_mem ho hd) (fun st' hk => hK _ st' hk) _ _ st (Kp.refl _ _) h
      · exact h.elim
    | false => exact seqOps_mono hm (l0 := ops.toList.filterMap (fun (o : Oper) => o.dst)) (t0 := st.tmps) (fun j o d ho hd => dst_mem ho hd) (fun st' hk => hK _ st' hk) _ st (Kp.refl _ _) h
  | seq a b iha ihb =>
    intro K K' st hK h
    simp only [sx] at h ⊢
    refine iha _ _ st (fun e st' hk hh => ?_) h
    have hk1 := hk.mono (l' := written (.seq a b)) (fun i hi => by simp only [written, List.mem_append]; exact .inl hi)
    cases e with
    | normal => exact ihb _ _ st' (fun e st'' hk' => hK e st'' (hk1.trans (hk'.mono fun i hi => by simp only [written, List.mem_append]; exact .inr hi))) hh
    | exit id => exact hK _ _ hk1 hh
    | ret => exact hK _ _ hk1 hh
  | cond c a b iha ihb =>
    intro K K' st hK h
    simp only [sx] at h ⊢
    exact condK_mono (iha _ _ st fun e st' hk => hK e st' (hk.mono fun i hi => by simp only [written, List.mem_append]; exact .inl hi))
      (ihb _ _ st fun e st' hk => hK e st' (hk.mono fun i hi => by simp only [written, List.mem_append]; exact .inr hi)) h
  | block id body ih =>
    intro K K' st hK h
    simp only [sx] at h ⊢
    refine ih _ _ st (fun e st' hk hh => ?_) h
    cases e with
    | normal => exact hK _ _ hk hh
    | ret => exact hK _ _ hk hh
    | exit j =>
      simp only at hh ⊢
      split at hh
      · rename_i e; rw [if_pos e]; exact hK _ _ hk hh
      · rename_i e; rw [if_neg e]; exact hK _ _ hk hh
  | loop body ih =>
    intro K K' st hK h
    simp only [sx] at h ⊢
    cases ha : annAt anns body st with
    | none => rw [ha] at h; exact unroll_mono ih n K K' st hK h
    | some A =>
      rw [ha] at h
      simp only at h ⊢
      refine ⟨h.1, roundsOf_mono (g := roundAt A body (sx P call anns n body) K st) (g' := roundAt A body (sx P call anns n body) K' st) (fun t h2 => fun x hx => ?_) h.2⟩
      have h2 := h2 x hx
      cases hok : annOk body (A.A t) st x with
      | false => rw [hok] at h2; exact h2.elim
      | true =>
        rw [hok] at h2
        refine ih _ _ _ (fun e st1 hk hh => ?_) h2
        cases e with
        | normal => exact hh
        | exit id => exact hK _ _ ((Kp.hd hok).trans hk) hh
        | ret => exact hK _ _ ((Kp.hd hok).trans hk) hh
  | rangeFunc f ps a b iha ihb => intro K K' st hK h; exact h
  | scope b ih => intro K K' st hK h; simp only [sx] at h ⊢; exact ih K K' st hK h
  | goto l => intro K K' st hK h; exact h
  | refuse w => intro K K' st hK h; exact h

/-! ### Sound -/
def BehindX (K : XK) (w0 : World) (M0 : Nat → Prop) (E : Nat → Nat) (nx : Nat) (e : Exit) (a : Act) (w : World) : Prop :=
  ∃ ex : Ex, e = ex.to ∧ Behind (K ex) w0 M0 E nx a w
theorem condK_sound {E : Nat → Nat} {st : St} {a : Act} (ht : TmpsOk E st.tmps a) {c : Operand} {t f : VC} (h : (condK (ev st.tmps c) t f).holds) : ∃ b, a.eval c = .bool b ∧ (if b then t else f).holds := by
  unfold condK at h
  split at h
  · rename_i b hb
    have := ht.reads _ _ hb
    refine ⟨b, by rw [this]; rfl, ?_⟩
    cases b
    · exact h
    · exact h
  · rename_i b hb
    have := ht.reads _ _ hb
    rw [fork_iff] at h
    refine ⟨b, by rw [this]; rfl, ?_⟩
    cases b
    · exact h
    · exact h
  · exact h.elim
theorem BehindX.weaken {K : XK} {w0 : World} {M0 : Nat → Prop} {E E' : Nat → Nat} {nx nx' : Nat} {e : Exit} {a : Act} {w : World} (h : BehindX K w0 M0 E' nx' e a w) (hE : ∀ k, k < nx → E' k = E k) (hn : nx ≤ nx') :
    BehindX K w0 M0 E nx e a w := by
  obtain ⟨ex, he, E'', st'', k1, k2, k3, k4⟩ := h
  exact ⟨ex, he, E'', st'', fun k hk => (k1 k (Nat.lt_of_lt_of_le hk hn)).trans (hE k hk), Nat.le_trans hn k2, k3, k4⟩
theorem unroll_sound {body : Code} {f : XK → St → VC} {w0 : World} {M0 : Nat → Prop}
    (hf : ∀ (K : XK) st E a w, (f K st).holds → Sat w0 M0 E st a w → body.wp P (BehindX K w0 M0 E st.nx) a w) : ∀ (n : Nat) (K : XK) (st : St) (E : Nat → Nat) (a : Act) (w : World),
    (unroll n f K st).holds → Sat w0 M0 E st a w → ∀ (b : Frame) (k : List Item) (cs : List Frame), ∃ e a' w', BehindX K w0 M0 E st.nx e a' w' ∧ Arrives P (lone (b.at a (.code body :: .inLoop body :: k)) cs w) b k cs e a' w'
  | 0, _, _, _, _, _, h, _, _, _, _ => h.elim
  | n + 1, K, st, E, a, w, h, hs, b, k, cs => by
    simp only [unroll] at h
    obtain ⟨e, a1, w1, hq, harr⟩ := hf _ st E a w h hs b (.inLoop body :: k) cs
    obtain ⟨ex, rfl, E1, st1, g1, g2, g3, g4⟩ := hq
    cases ex with
    | normal =>
      obtain ⟨e2, a2, w2, hq2, harr2⟩ := unroll_sound hf n K st1 E1 a1 w1 g4 g3 b k cs
      exact ⟨e2, a2, w2, hq2.weaken g1 g2, .of_steps (Steps.trans harr (.one step_inLoop)) harr2⟩
    | exit id => exact ⟨_, a1, w1, ⟨.exit id, rfl, E1, st1, g1, g2, g3, g4⟩, .pass (x := .inLoop body) rfl (fun _ _ => .inl (by simp [Ex.to])) harr⟩
    | ret => exact ⟨_, a1, w1, ⟨.ret, rfl, E1, st1, g1, g2, g3, g4⟩, .pass (x := .inLoop body) rfl (fun _ _ => .inl (by simp [Ex.to])) harr⟩
theorem sx_sound (hmix : P.follows .mixedOrders = true) (hm : ∀ f, MonoPT (call f)) (hcall : ∀ f, CallOk P f (call f)) {w0 : World} {M0 : Nat → Prop} : ∀ (c : Code) (K : XK) (st : St) (E : Nat → Nat) (a : Act) (w : World),
    (sx P call anns n c K st).holds → Sat w0 M0 E st a w → c.wp P (BehindX K w0 M0 E st.nx) a w := by
  intro c
  induction c with
  | skip => intro K st E a w h hs; exact wp_skip ⟨.normal, rfl, E, st, fun _ _ => rfl, Nat.le_refl _, hs, h⟩
  | label l => intro K st E a w h hs; exact wp_label ⟨.normal, rfl, E, st, fun _ _ => rfl, Nat.le_refl _, hs, h⟩
  | exit id => intro K st E a w h hs; exact wp_exit ⟨.exit id, rfl, E, st, fun _ _ => rfl, Nat.le_refl _, hs, h⟩
  | ret => intro K st E a w h hs; exact wp_ret ⟨.ret, rfl, E, st, fun _ _ => rfl, Nat.le_refl _, hs, h⟩
  | region id ops d =>
    intro K st E a w h hs
    simp only [sx] at h
    cases d with
    | true => exact draw_sound hmix hm hcall h hs fun a w hb => ⟨.normal, rfl, hb⟩
    | false => exact wp_region (seqOps_sound hcall _ h hs fun a w hb => ⟨.normal, rfl, hb⟩)
  | seq x y ihx ihy =>
    intro K st E a w h hs
    simp only [sx] at h
    refine wp_seq (wp_mono (ihx _ st E a w h hs) ?_)
    rintro e a1 w1 ⟨ex, rfl, E1, st1, g1, g2, g3, g4⟩
    cases ex with
    | normal => exact wp_mono (ihy K st1 E1 a1 w1 g4 g3) fun e a2 w2 hb => hb.weaken g1 g2
    | exit id => exact ⟨.exit id, rfl, E1, st1, g1, g2, g3, g4⟩
    | ret => exact ⟨.ret, rfl, E1, st1, g1, g2, g3, g4⟩
  | cond c x y ihx ihy =>
    intro K st E a w h hs
    simp only [sx] at h
    obtain ⟨b, hb, hk⟩ := condK_sound hs.tm h
    refine wp_cond hb ?_
    cases b
    · exact ihy K st E a w hk hs
    · exact ihx K st E a w hk hs
  | block id body ih =>
    intro K st E a w h hs
    simp only [sx] at h
    refine wp_block (wp_mono (ih _ st E a w h hs) ?_)
    rintro e a1 w1 ⟨ex, rfl, E1, st1, g1, g2, g3, g4⟩
    cases ex with
    | normal => exact ⟨.normal, rfl, E1, st1, g1, g2, g3, g4⟩
    | ret => exact ⟨.ret, rfl, E1, st1, g1, g2, g3, g4⟩
    | exit j =>
      simp only [Ex.to, Exit.inBlock]
      simp only at g4
      split
      · rename_i e; rw [if_pos e] at g4; exact ⟨.normal, rfl, E1, st1, g1, g2, g3, g4⟩
      · rename_i e; rw [if_neg e] at g4; exact ⟨.exit j, rfl, E1, st1, g1, g2, g3, g4⟩
  | loop body ih =>
    intro K st E a w h hs
    simp only [sx] at h
    cases ha : annAt anns body st with
    | none =>
      rw [ha] at h
      intro b k cs
      obtain ⟨e, a', w', hq, harr⟩ := unroll_sound (fun K st E a w h hs => ih K st E a w h hs) n K st E a w h hs b k cs
      exact ⟨e, a', w', hq, .of_steps (.one step_loop) harr⟩
    | some L =>
      rw [ha] at h
      simp only at h
      obtain ⟨hent, hrounds⟩ := h
      have hent : (entry L body st st).holds := hent
      -- the invariant
      let Inv := fun (t : Nat) (x : (L.A t).α) (a : Act) (w : World) => t ∈ L.tags ∧ (L.A t).pre st x ∧ annOk body (L.A t) st x = true ∧ ∃ E', (∀ k, k < st.nx → E' k = E k) ∧ Sat w0 M0 E' (hd body (L.A t) st x) a w
      have hok : ∀ {A : LoopAnn} {y : A.α} {st1}, (atHead body A st y st1).holds → annOk body A st y = true := by
        intro A y st1 h
        unfold atHead at h
        split at h
        · rename_i h'; exact h'
        · exact h.elim
      have hent2 : ∃ t x, Inv t x a w := by
        unfold entry at hent
        obtain ⟨ht, x0, hx0, hat0⟩ := pickTag_iff hent
        obtain ⟨E', g1, g2⟩ := atHead_sound hat0 hs.wt (fun i _ => rfl) rfl hs
        exact ⟨L.tag st, x0, ht, hx0, hok hat0, E', g1, g2⟩
      obtain ⟨t0, x0, hinv0⟩ := hent2
      intro b k cs
      have key : ∀ (N : Nat) (t : Nat) (x : (L.A t).α) a w, (L.A t).mea st x = N → Inv t x a w → ∃ e a' w', BehindX K w0 M0 E st.nx e a' w' ∧ Arrives P (lone (b.at a (.code body :: .inLoop body :: k)) cs w) b k cs e a' w' := by
        intro N
        induction N using Nat.strongRecOn with
        | _ N ihN =>
          intro t x a w hN ⟨ht, hx, hokx, E1, hE1, hs1⟩
          have hr := roundsOf_mem hrounds t ht x hx
          rw [hokx] at hr
          have hr2 := sx_mono hm body _ (fun e st1 => .and (.atom (Kp (written body) (hd body (L.A t) st x).tmps st1.tmps)) (match e with
            | .normal => backTo L body st ((L.A t).mea st x) st1
            | e => K e st1)) (hd body (L.A t) st x) (fun e st1 hk hh => ⟨hk, by cases e <;> exact hh⟩) hr
          obtain ⟨e, a1, w1, hq, harr⟩ := ih _ _ E1 a w hr2 hs1 b (.inLoop body :: k) cs
          obtain ⟨ex, rfl, E2, st1, g1, g2, g3, g4⟩ := hq
          have hE2 : ∀ k, k < st.nx → E2 k = E k := fun k hk => (g1 k (Nat.lt_of_lt_of_le hk (Nat.le_add_right _ _))).trans (hE1 k hk)
          have hn2 : st.nx ≤ st1.nx := Nat.le_trans (Nat.le_add_right _ _) g2
          obtain ⟨hkp, g4⟩ := g4
          have hkp : Kp (written body) (hd body (L.A t) st x).tmps st1.tmps := hkp
          cases ex with
          | normal =>
            have g4 : (backTo L body st ((L.A t).mea st x) st1).holds := g4
            unfold backTo at g4
            obtain ⟨ht1, y, ⟨hy, hlt⟩, hat⟩ := pickTag_iff g4
            have hkp2 := (Kp.hd hokx).trans hkp
            obtain ⟨E3, q1, q2⟩ := atHead_sound hat hs.wt hkp2.get hkp2.len g3
            have hinv : Inv (L.tag st1) y a1 w1 := ⟨ht1, hy, hok hat, E3, fun k hk => (q1 k hk).trans (hE2 k hk), q2⟩
            obtain ⟨e2, a2, w2, hq2, harr2⟩ := ihN ((L.A (L.tag st1)).mea st y) (hN ▸ hlt) (L.tag st1) y a1 w1 rfl hinv
            exact ⟨e2, a2, w2, hq2, .of_steps (Steps.trans harr (.one step_inLoop)) harr2⟩
          | exit id => exact ⟨_, a1, w1, ⟨.exit id, rfl, E2, st1, hE2, hn2, g3, g4⟩, .pass (x := .inLoop body) rfl (fun _ _ => .inl (by simp [Ex.to])) harr⟩
          | ret => exact ⟨_, a1, w1, ⟨.ret, rfl, E2, st1, hE2, hn2, g3, g4⟩, .pass (x := .inLoop body) rfl (fun _ _ => .inl (by simp [Ex.to])) harr⟩
      obtain ⟨e, a', w', hq, harr⟩ := key _ t0 x0 a w rfl hinv0
      exact ⟨e, a', w', hq, .of_steps (.one step_loop) harr⟩
  | rangeFunc f ps a b iha ihb => intro K st E a w h; exact h.elim
  | scope b ih =>
    intro K st E a w h hs
    simp only [sx] at h
    refine wp_scope_straight (wp_mono (ih K st E a w h hs) ?_)
    rintro e a1 w1 ⟨ex, rfl, hb⟩
    cases ex <;> exact ⟨_, rfl, hb⟩
  | goto l => intro K st E a w h; exact h.elim
  | refuse w => intro K st E a w h; exact h.elim
end
end Go.Proofs.Ytobbhdmbblhgaaa.Sx
