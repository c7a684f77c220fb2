/-
  The framework's sixteenth part: code, loops, functions.
-/
import Derived.Test.YtkfdcapnogklfaaGreatDoorMe
import Derived.RangeFuncRecord
import Derived.Scope
namespace Go.Proofs.YtkfdcapnogklfaaGreatDoor.Sx
open Go
noncomputable section
/-! ### A loop's state at its head -/
structure LoopAnn where
  α : Type
  pre : St → α → Prop
  mea : St → α → Nat
  fresh : Nat
  slots : St → α → List (Nat × SV)
  mem : St → α → List (Nat × SB)
def written : Code → List Nat
  | .region _ ops _ => ops.toList.filterMap (·.dst)
  | .seq a b => written a ++ written b
  | .cond _ a b => written a ++ written b
  | .block _ b => written b
  | .loop b => written b
  | .scope b => written b
  | .rangeFunc _ _ a b => written a ++ written b
  | _ => []
def forget (l : List Nat) (tmps : List (Option SV)) : List (Option SV) := match l with
  | [] => tmps
  | i :: r => forget r (tmps.set i none)
def override (l : List (Nat × SV)) (tmps : List (Option SV)) : List (Option SV) := match l with
  | [] => tmps
  | (i, v) :: r => override r (tmps.set i (some v))
def SBle (B B' : SB) : Prop := B'.no = false → B.no = false ∧ (∀ E o, BlkOk E B o → BlkOk E B' o) ∧ (B'.ro = false → B.ro = false)
theorem SBle.refl (B : SB) : SBle B B := fun h => ⟨h, fun _ _ h => h, id⟩
theorem SBle.cells {cs cs' : List SV} {tot tot' : Nat} {ty : TypeId} (h : ∀ E, cs'.map (SV.val E) = cs.map (SV.val E)) (ht : tot' = tot) : SBle (.cells cs tot ty) (.cells cs' tot' ty) := by
  subst ht
  refine fun _ => ⟨rfl, fun E o ⟨c, fr, h1, h2, h3, h4⟩ => ⟨c, fr, h1, h2, fun i v hv => ?_, h4⟩, id⟩
  have he := h E
  have : (cs'.map (SV.val E))[i]? = some (v.val E) := by rw [List.getElem?_map, hv]; rfl
  rw [he, List.getElem?_map] at this
  cases hc : cs[i]? with
  | none => rw [hc] at this; cases this
  | some u =>
    rw [hc] at this; injection this with this
    rw [← this]; exact h3 i u hc
abbrev Ren := List (Nat × Nat)
def Ren.get (k : Nat) : Ren → Option Nat
  | [] => none
  | e :: r => if e.1 = k then some e.2 else Ren.get k r
def matchKey (base : Nat) (ren : Ren) (kh k1 : Nat) (t : Ren → VC) : VC :=
  match Nat.blt kh base with
  | true => if kh = k1 then t ren else .fail "loop: another block"
  | false => (match ren.get kh with
    | some k => if k = k1 then t ren else .fail "loop: two blocks for one"
    | none => t ((kh, k1) :: ren))
def zeq (z z' : Bool) (n : Nat) : VC := match z, z' with
  | true, true => .tt
  | false, false => .tt
  | _, _ => .atom (0 < n)
theorem zeq_iff {z z' : Bool} {n : Nat} (h : (zeq z z' n).holds) : (z && Nat.beq n 0) = (z' && Nat.beq n 0) := by
  have h0 : 0 < n → Nat.beq n 0 = false := fun h => by cases n with
    | zero => omega
    | succ n => rfl
  cases z <;> cases z' <;> simp only [zeq] at h
  · rfl
  · have := h0 h; simp [this]
  · have := h0 h; simp [this]
  · rfl
def sameCell (base : Nat) (ren : Ren) (h u : SV) (t : Ren → VC) : VC :=
  match h, u with
  | .int a _ n, .int b _ m => if a = b then .and (.atom (m = n)) (t ren) else .fail "loop: kinds"
  | .bool _ a, .bool _ b => .and (.atom (b = a)) (t ren)
  | .str _ a, .str _ b => .and (.atom (b = a)) (t ren)
  | .nilptr, .nilptr => t ren
  | .nilslc, .nilslc => t ren
  | .nilmap, .nilmap => t ren
  | .niliface, .niliface => t ren
  | .nilfunc, .nilfunc => t ren
  | .ptr kh _ o, .ptr k1 _ o' => matchKey base ren kh k1 (fun ren => .and (.atom (o' = o)) (t ren))
  | .eptr kh w i k, .eptr k1 w' i' k' => if w = w' ∧ k = k' then matchKey base ren kh k1 (fun ren => .and (.atom (i' = i)) (t ren)) else .fail "loop: rows"
  | .slc kh o n _ c, .slc k1 o' n' _ c' => matchKey base ren kh k1 (fun ren => .and (.atom (o' = o ∧ n' = n ∧ c' = c)) (t ren))
  | .rslc kh w z i n c, .rslc k1 w' z' i' n' c' => if w = w' then matchKey base ren kh k1 (fun ren => .and (.atom (i' = i ∧ n' = n ∧ c' = c)) (.and (zeq z z' n) (t ren))) else .fail "loop: rows"
  | .rslc kh w z i n c, .slc k1 o' n' _ c' => matchKey base ren kh k1 (fun ren => .and (.atom (o' = i * w ∧ n' = n ∧ c' = c)) (.and (zeq z false n) (t ren)))
  | .rslc _ _ true _ n _, .nilslc => .and (.atom (n = 0)) (t ren)
  | .slc kh o n _ c, .rslc k1 w z i n' c' => matchKey base ren kh k1 (fun ren => .and (.atom (i * w = o ∧ n' = n ∧ c' = c)) (.and (zeq z false n') (t ren)))
  | .map kh, .map k1 => matchKey base ren kh k1 t
  | .raw v, .raw v' => .and (.atom (v' = v)) (t ren)
  | h, u => (match h.wf 0 && u.wf 0 with
    | true => .and (.atom (∀ E, u.val E = h.val E)) (t ren)
    | false => .fail "loop: another value")
def sameCells (base : Nat) : List SV → List SV → Ren → (Ren → VC) → VC
  | [], [], ren, t => t ren
  | h :: hs, u :: us, ren, t => sameCell base ren h u (fun ren => sameCells base hs us ren t)
  | _, _, _, _ => .fail "loop: lengths"
def sameSV (base : Nat) (ren : Ren) (h u : SV) (t : Ren → VC) : VC :=
  match h, u with
  | .agg a, .agg b => sameCells base a b ren t
  | .tup a, .tup b => sameCells base a b ren t
  | .iface a v, .iface b v' => if a = b then (match v, v' with
      | .agg c, .agg d => sameCells base c d ren t
      | v, v' => sameCell base ren v v' t) else .fail "loop: another type"
  | h, u => sameCell base ren h u t
def sameSlots (base : Nat) : List (Nat × SV) → List (Option SV) → Ren → (Ren → VC) → VC
  | [], _, ren, t => t ren
  | (i, h) :: r, tmps, ren, t => match slot tmps i with
    | some u => sameSV base ren h u (fun ren => sameSlots base r tmps ren t)
    | none => .fail "loop: a slot that is not known"
def renKey (base : Nat) (ren : Ren) (kh : Nat) : Option Nat := match Nat.blt kh base with
  | true => some kh
  | false => ren.get kh
def sameMem (base : Nat) (m : Mem) : List (Nat × SB) → List Nat → Ren → (Ren → VC) → VC
  | [], _, ren, t => t ren
  | (kh, B') :: r, used, ren, t => match renKey base ren kh with
    | some k1 => if used.contains k1 then .fail "loop: one block for two" else (match m.get k1 with
      | some B => (match B'.wf base with
        | true => .and (.atom (SBle B B')) (sameMem base m r (k1 :: used) ren t)
        | false => (match B', B with
          | .cells cs' tot' ty', .cells cs tot ty => if ty' = ty then .and (.atom (tot' = tot)) (sameCells base cs' cs ren (fun ren => sameMem base m r (k1 :: used) ren t)) else .fail "loop: a block's type"
          | _, _ => .fail "loop: a block that names blocks"))
      | none => .fail "loop: no such block")
    | none => (match B'.wf base with
        | true => .and (.atom (B'.no = true)) (sameMem base m r used ren t)
        | false => .fail "loop: a block that names blocks")
def Ren.E (base : Nat) (ren : Ren) (E : Nat → Nat) (k : Nat) : Nat := match renKey base ren k with
  | some k1 => E k1
  | none => E k
def Ren.le (a b : Ren) : Prop := ∀ k v, a.get k = some v → b.get k = some v
theorem Ren.le_refl (a : Ren) : a.le a := fun _ _ h => h
theorem Ren.le_trans {a b c : Ren} (h : a.le b) (h' : b.le c) : a.le c := fun k v x => h' k v (h k v x)
theorem Ren.E_old {base : Nat} {ren : Ren} {E : Nat → Nat} {k : Nat} (h : k < base) : Ren.E base ren E k = E k := by
  have : Nat.blt k base = true := by simpa [Nat.blt_eq] using h
  simp [Ren.E, renKey, this]
theorem matchKey_sound {base : Nat} {ren : Ren} {kh k1 : Nat} {t : Ren → VC} (h : (matchKey base ren kh k1 t).holds) :
    ∃ ren', ren.le ren' ∧ (t ren').holds ∧ ∀ ren'' (E : Nat → Nat), ren'.le ren'' → Ren.E base ren'' E kh = E k1 := by
  unfold matchKey at h
  split at h
  · rename_i hb
    split at h
    · rename_i e; subst e
      exact ⟨ren, Ren.le_refl _, h, fun ren'' E _ => Ren.E_old (by simpa [Nat.blt_eq] using hb)⟩
    · exact h.elim
  · rename_i hb
    split at h
    · rename_i k hk
      split at h
      · rename_i e; subst e
        exact ⟨ren, Ren.le_refl _, h, fun ren'' E hle => by simp [Ren.E, renKey, hb, hle _ _ hk]⟩
      · exact h.elim
    · rename_i hk
      refine ⟨(kh, k1) :: ren, fun k v hv => ?_, h, fun ren'' E hle => ?_⟩
      · by_cases e : kh = k
        · subst e; rw [hk] at hv; cases hv
        · simp only [Ren.get, e, if_false]; exact hv
      · have := hle kh k1 (by simp [Ren.get])
        simp [Ren.E, renKey, hb, this]
theorem sameCell_sound {base : Nat} {ren : Ren} {h u : SV} {t : Ren → VC} (hh : (sameCell base ren h u t).holds) :
    ∃ ren', ren.le ren' ∧ (t ren').holds ∧ ∀ ren'' (E : Nat → Nat), ren'.le ren'' → h.val (Ren.E base ren'' E) = u.val E := by
  unfold sameCell at hh
  split at hh
  · split at hh
    · rename_i e; subst e
      exact ⟨ren, Ren.le_refl _, hh.2, fun _ _ _ => by have : _ = _ := hh.1; simp [SV.val, this]⟩
    · exact hh.elim
  · exact ⟨ren, Ren.le_refl _, hh.2, fun _ _ _ => by have : _ = _ := hh.1; simp [SV.val, this]⟩
  · exact ⟨ren, Ren.le_refl _, hh.2, fun _ _ _ => by have : _ = _ := hh.1; simp [SV.val, this]⟩
  · exact ⟨ren, Ren.le_refl _, hh, fun _ _ _ => rfl⟩
  · exact ⟨ren, Ren.le_refl _, hh, fun _ _ _ => rfl⟩
  · exact ⟨ren, Ren.le_refl _, hh, fun _ _ _ => rfl⟩
  · exact ⟨ren, Ren.le_refl _, hh, fun _ _ _ => rfl⟩
  · exact ⟨ren, Ren.le_refl _, hh, fun _ _ _ => rfl⟩
  · obtain ⟨r', h1, h2, h3⟩ := matchKey_sound hh
    exact ⟨r', h1, h2.2, fun r'' E hle => by have : _ = _ := h2.1; simp [SV.val, h3 r'' E hle, this]⟩
  · split at hh
    · rename_i e; obtain ⟨rfl, rfl⟩ := e
      obtain ⟨r', h1, h2, h3⟩ := matchKey_sound hh
      exact ⟨r', h1, h2.2, fun r'' E hle => by have : _ = _ := h2.1; simp [SV.val, h3 r'' E hle, this]⟩
    · exact hh.elim
  · obtain ⟨r', h1, h2, h3⟩ := matchKey_sound hh
    exact ⟨r', h1, h2.2, fun r'' E hle => by obtain ⟨a, b, c⟩ := h2.1; simp [SV.val, h3 r'' E hle, a, b, c]⟩
  · split at hh
    · rename_i e; subst e
      obtain ⟨r', h1, h2, h3⟩ := matchKey_sound hh
      exact ⟨r', h1, h2.2.2, fun r'' E hle => by obtain ⟨a, b, c⟩ := h2.1; have hz := zeq_iff h2.2.1; simp [SV.val, h3 r'' E hle, a, b, c, hz]⟩
    · exact hh.elim
  · obtain ⟨r', h1, h2, h3⟩ := matchKey_sound hh
    exact ⟨r', h1, h2.2.2, fun r'' E hle => by obtain ⟨a, b, c⟩ := h2.1; have hz := zeq_iff h2.2.1; simp [SV.val, h3 r'' E hle, a, b, c, hz]⟩
  · exact ⟨ren, Ren.le_refl _, hh.2, fun _ _ _ => by have : _ = _ := hh.1; simp [SV.val, this]⟩
  · obtain ⟨r', h1, h2, h3⟩ := matchKey_sound hh
    exact ⟨r', h1, h2.2.2, fun r'' E hle => by obtain ⟨a, b, c⟩ := h2.1; have hz := zeq_iff h2.2.1; simp [SV.val, h3 r'' E hle, a, ← b, c, hz]⟩
  · obtain ⟨r', h1, h2, h3⟩ := matchKey_sound hh
    exact ⟨r', h1, h2, fun r'' E hle => by simp [SV.val, h3 r'' E hle]⟩
  · exact ⟨ren, Ren.le_refl _, hh.2, fun _ _ _ => by have : _ = _ := hh.1; simp [SV.val, this]⟩
  · split at hh
    · rename_i hw
      simp only [Bool.and_eq_true] at hw
      refine ⟨ren, Ren.le_refl _, hh.2, fun ren'' E _ => ?_⟩
      have h1 : ∀ E, SV.val E _ = SV.val E _ := hh.1
      rw [h1 E]
      exact SV.val_congr (nx := 0) (fun k hk => absurd hk (Nat.not_lt_zero _)) _ hw.1
    · exact hh.elim
theorem sameCells_sound {base : Nat} : ∀ {hs us : List SV} {ren : Ren} {t : Ren → VC}, (sameCells base hs us ren t).holds →
    ∃ ren', ren.le ren' ∧ (t ren').holds ∧ ∀ ren'' (E : Nat → Nat), ren'.le ren'' → SV.vals (Ren.E base ren'' E) hs = SV.vals E us
  | [], [], ren, t, h => ⟨ren, Ren.le_refl _, h, fun _ _ _ => rfl⟩
  | h :: hs, u :: us, ren, t, hh => by
    simp only [sameCells] at hh
    obtain ⟨r1, h1, h2, h3⟩ := sameCell_sound hh
    obtain ⟨r2, g1, g2, g3⟩ := sameCells_sound h2
    exact ⟨r2, Ren.le_trans h1 g1, g2, fun r'' E hle => by simp only [SV.vals]; rw [h3 r'' E (Ren.le_trans g1 hle), g3 r'' E hle]⟩
  | [], _ :: _, _, _, h => h.elim
  | _ :: _, [], _, _, h => h.elim
theorem sameSV_sound {base : Nat} {ren : Ren} {h u : SV} {t : Ren → VC} (hh : (sameSV base ren h u t).holds) :
    ∃ ren', ren.le ren' ∧ (t ren').holds ∧ ∀ ren'' (E : Nat → Nat), ren'.le ren'' → h.val (Ren.E base ren'' E) = u.val E := by
  unfold sameSV at hh
  split at hh
  · obtain ⟨r', h1, h2, h3⟩ := sameCells_sound hh
    exact ⟨r', h1, h2, fun r'' E hle => by simp only [SV.val, h3 r'' E hle]⟩
  · obtain ⟨r', h1, h2, h3⟩ := sameCells_sound hh
    exact ⟨r', h1, h2, fun r'' E hle => by simp only [SV.val, h3 r'' E hle]⟩
  · split at hh
    · rename_i e; subst e
      split at hh
      · obtain ⟨r', h1, h2, h3⟩ := sameCells_sound hh
        exact ⟨r', h1, h2, fun r'' E hle => by simp only [SV.val, h3 r'' E hle]⟩
      · obtain ⟨r', h1, h2, h3⟩ := sameCell_sound hh
        exact ⟨r', h1, h2, fun r'' E hle => by simp only [SV.val, h3 r'' E hle]⟩
    · exact hh.elim
  · exact sameCell_sound hh
theorem sameSlots_sound {base : Nat} : ∀ {l : List (Nat × SV)} {tmps : List (Option SV)} {ren : Ren} {t : Ren → VC}, (sameSlots base l tmps ren t).holds →
    ∃ ren', ren.le ren' ∧ (t ren').holds ∧ ∀ ren'' (E : Nat → Nat), ren'.le ren'' → ∀ i h, (i, h) ∈ l → ∃ u, slot tmps i = some u ∧ h.val (Ren.E base ren'' E) = u.val E
  | [], _, ren, t, h => ⟨ren, Ren.le_refl _, h, fun _ _ _ i h hm => by cases hm⟩
  | (i, x) :: r, tmps, ren, t, hh => by
    simp only [sameSlots] at hh
    split at hh
    · rename_i u hu
      obtain ⟨r1, h1, h2, h3⟩ := sameSV_sound hh
      obtain ⟨r2, g1, g2, g3⟩ := sameSlots_sound h2
      refine ⟨r2, Ren.le_trans h1 g1, g2, fun r'' E hle j h hm => ?_⟩
      rw [List.mem_cons] at hm
      rcases hm with hm | hm
      · injection hm with e1 e2; subst e1; subst e2
        exact ⟨u, hu, h3 r'' E (Ren.le_trans g1 hle)⟩
      · exact g3 r'' E hle j h hm
    · exact hh.elim
theorem renKey_mono {base : Nat} {ren ren' : Ren} (h : ren.le ren') {kh k1 : Nat} (hk : renKey base ren kh = some k1) : renKey base ren' kh = some k1 := by
  unfold renKey at hk ⊢
  split at hk
  · exact hk
  · exact h _ _ hk
def BlkTo (base : Nat) (m : Mem) (used : List Nat) (ren : Ren) (kh : Nat) (B' : SB) : Prop :=
  B'.no = false → ∃ k1 B, renKey base ren kh = some k1 ∧ k1 ∉ used ∧ m.get k1 = some B ∧ B.no = false ∧ (∀ E o, BlkOk E B o → BlkOk (Ren.E base ren E) B' o) ∧ (B'.ro = false → B.ro = false)
theorem sameMem_sound {base : Nat} {m : Mem} : ∀ {l : List (Nat × SB)} {used : List Nat} {ren : Ren} {t : Ren → VC}, (sameMem base m l used ren t).holds →
    ∃ ren', ren.le ren' ∧ (t ren').holds ∧ ∀ ren'', ren'.le ren'' → (∀ kh B', Mem.get kh l = some B' → BlkTo base m used ren'' kh B') ∧
      (∀ kh kh' B B' k1, Mem.get kh l = some B → B.no = false → Mem.get kh' l = some B' → B'.no = false → renKey base ren'' kh = some k1 → renKey base ren'' kh' = some k1 → kh = kh')
  | [], _, ren, t, h => ⟨ren, Ren.le_refl _, h, fun _ _ => ⟨(fun _ _ h => by cases h), (fun _ _ _ _ _ h => by cases h)⟩⟩
  | (k0, B0) :: r, used, ren, t, hh => by
    simp only [sameMem] at hh
    split at hh
    · rename_i k1 hk1
      split at hh
      · exact hh.elim
      · rename_i hnu
        have hnu : k1 ∉ used := by simpa using hnu
        split at hh
        · rename_i B hB
          have key : ∀ {ren1 : Ren}, ren.le ren1 → (∀ ren'', ren1.le ren'' → BlkTo base m used ren'' k0 B0) → (sameMem base m r (k1 :: used) ren1 t).holds →
              ∃ ren', ren.le ren' ∧ (t ren').holds ∧ ∀ ren'', ren'.le ren'' → (∀ kh B', Mem.get kh ((k0, B0) :: r) = some B' → BlkTo base m used ren'' kh B') ∧
                (∀ kh kh' B B' k1, Mem.get kh ((k0, B0) :: r) = some B → B.no = false → Mem.get kh' ((k0, B0) :: r) = some B' → B'.no = false → renKey base ren'' kh = some k1 → renKey base ren'' kh' = some k1 → kh = kh') := by
            intro ren1 hle1 h0 hr
            obtain ⟨ren2, hle2, ht, g⟩ := sameMem_sound hr
            refine ⟨ren2, Ren.le_trans hle1 hle2, ht, fun ren'' hle => ?_⟩
            obtain ⟨g2, g3⟩ := g ren'' hle
            have hk1'' : renKey base ren'' k0 = some k1 := renKey_mono (Ren.le_trans hle1 (Ren.le_trans hle2 hle)) hk1
            refine ⟨fun kh B' hg => ?_, fun kh kh' X X' q hg hn hg' hn' hq hq' => ?_⟩
            · rcases Mem.get_cons hg with ⟨rfl, rfl⟩ | ⟨_, hg⟩
              · exact h0 ren'' (Ren.le_trans hle2 hle)
              · intro hn
                obtain ⟨q, Y, h1, h2, h3⟩ := g2 kh B' hg hn
                exact ⟨q, Y, h1, fun hm => h2 (List.mem_cons_of_mem _ hm), h3⟩
            · rcases Mem.get_cons hg with ⟨e1, _⟩ | ⟨_, hgr⟩ <;> rcases Mem.get_cons hg' with ⟨e2, _⟩ | ⟨_, hgr'⟩
              · exact e1.trans e2.symm
              · subst e1
                rw [hk1''] at hq; injection hq with hq; subst hq
                obtain ⟨q2, Y, h1, h2, _⟩ := g2 kh' X' hgr' hn'
                rw [hq'] at h1; injection h1 with h1; subst h1
                exact absurd (List.mem_cons_self ..) h2
              · subst e2
                rw [hk1''] at hq'; injection hq' with hq'; subst hq'
                obtain ⟨q2, Y, h1, h2, _⟩ := g2 kh X hgr hn
                rw [hq] at h1; injection h1 with h1; subst h1
                exact absurd (List.mem_cons_self ..) h2
              · exact g3 kh kh' X X' q hgr hn hgr' hn' hq hq'
          split at hh
          · rename_i hwf
            have hle : SBle B B0 := hh.1
            refine key (Ren.le_refl _) (fun ren'' hl hn => ?_) hh.2
            obtain ⟨a, b, c⟩ := hle hn
            exact ⟨k1, B, renKey_mono hl hk1, hnu, hB, a, fun E o ho => (b E o ho).congr (fun k hk => Ren.E_old hk) hwf, c⟩
          · split at hh
            · rename_i cs' tot' ty' cs tot ty _
              split at hh
              · rename_i hty
                obtain ⟨htot, hh⟩ := hh
                have htot : tot' = tot := htot
                obtain ⟨ren1, hle1, hr, hv⟩ := sameCells_sound hh
                refine key hle1 (fun ren'' hl hn => ⟨k1, _, renKey_mono (Ren.le_trans hle1 hl) hk1, hnu, hB, rfl, fun E o ho => ?_, id⟩) hr
                obtain ⟨c, fr, h1, h2, h3, h4⟩ := ho
                refine ⟨c, fr, by rw [hty]; exact h1, h2, fun i v hvi => ?_, by rw [htot]; exact h4⟩
                have hvv := hv ren'' E hl
                rw [SV.vals_eq, SV.vals_eq] at hvv
                have : (cs'.map (SV.val (Ren.E base ren'' E)))[i]? = some (v.val (Ren.E base ren'' E)) := by rw [List.getElem?_map, hvi]; rfl
                rw [hvv, List.getElem?_map] at this
                cases hc : cs[i]? with
                | none => rw [hc] at this; cases this
                | some u =>
                  rw [hc] at this; injection this with this
                  rw [← this]; exact h3 i u hc
              · exact hh.elim
            · exact hh.elim
        · exact hh.elim
    · split at hh
      · obtain ⟨ren2, hle2, ht, g⟩ := sameMem_sound hh.2
        have hno : B0.no = true := hh.1
        refine ⟨ren2, hle2, ht, fun ren'' hle => ?_⟩
        obtain ⟨g2, g3⟩ := g ren'' hle
        refine ⟨fun kh B' hg => ?_, fun kh kh' X X' q hg hn hg' hn' hq hq' => ?_⟩
        · rcases Mem.get_cons hg with ⟨rfl, rfl⟩ | ⟨_, hg⟩
          · exact fun hn => by rw [hn] at hno; cases hno
          · exact g2 kh B' hg
        · rcases Mem.get_cons hg with ⟨_, rfl⟩ | ⟨_, hgr⟩
          · rw [hn] at hno; cases hno
          · rcases Mem.get_cons hg' with ⟨_, rfl⟩ | ⟨_, hgr'⟩
            · rw [hn'] at hno; cases hno
            · exact g3 kh kh' X X' q hgr hn hgr' hn' hq hq'
      · exact hh.elim
def svKey : SV → Option Nat
  | .ptr k _ _ => some k
  | .eptr k _ _ _ => some k
  | .aptr k _ _ _ => some k
  | .slc k _ _ _ _ => some k
  | .rslc k _ _ _ _ _ => some k
  | .map k => some k
  | .yield k => some k
  | _ => none
def dropKeys (base : Nat) (tmps : List (Option SV)) : List (Nat × SV) → List Nat
  | [] => []
  | (i, h) :: r => match svKey h with
    | some kh => (match Nat.blt kh base with
      | true => dropKeys base tmps r
      | false => (match slot tmps i with
        | some u => (match svKey u with
          | some k1 => k1 :: dropKeys base tmps r
          | none => dropKeys base tmps r)
        | none => dropKeys base tmps r))
    | none => dropKeys base tmps r
def keepMem (ks : List Nat) : Mem → Mem
  | [] => []
  | e :: r => match ks.contains e.1 with
    | true => keepMem ks r
    | false => e :: keepMem ks r
def LoopAnn.memAt (A : LoopAnn) (st : St) (x : A.α) : Mem :=
  A.mem st x ++ keepMem ((A.mem st x).map (·.1) ++ dropKeys st.nx st.tmps (A.slots st x)) st.m
def hd (body : Code) (A : LoopAnn) (st : St) (x : A.α) : St :=
  ⟨override (A.slots st x) (forget (written body) st.tmps), A.memAt st x, st.nx + A.fresh⟩
def annOk (body : Code) (A : LoopAnn) (st : St) (x : A.α) : Bool :=
  (A.slots st x).all (fun p => (written body).contains p.1 && p.2.wf (st.nx + A.fresh)) && (A.memAt st x).all (fun p => Nat.blt p.1 (st.nx + A.fresh))
def atHead (body : Code) (A : LoopAnn) (st : St) (y : A.α) (st1 : St) : VC :=
  match annOk body A st y with
  | true => sameSlots st.nx (A.slots st y) st1.tmps [] (fun ren => sameMem st.nx st1.m (A.memAt st y) [] ren (fun _ => .tt))
  | false => .fail "loop: the annotation"
theorem forget_length : ∀ {l : List Nat} {tmps : List (Option SV)}, (forget l tmps).length = tmps.length
  | [], _ => rfl
  | i :: r, tmps => by simp [forget, forget_length (l := r)]
theorem override_length : ∀ {l : List (Nat × SV)} {tmps : List (Option SV)}, (override l tmps).length = tmps.length
  | [], _ => rfl
  | (i, v) :: r, tmps => by simp [override, override_length (l := r)]
theorem forget_get : ∀ {l : List Nat} {tmps : List (Option SV)} {i : Nat} {v : SV}, (forget l tmps)[i]? = some (some v) → tmps[i]? = some (some v) ∧ i ∉ l
  | [], _, _, _, h => ⟨h, by simp⟩
  | j :: r, tmps, i, v, h => by
    simp only [forget] at h
    have := forget_get h
    rw [List.getElem?_set] at this
    split at this
    · rename_i e; subst e
      split at this
      · simp at this
      · simp at this
    · rename_i e
      refine ⟨this.1, ?_⟩
      rw [List.mem_cons]; rintro (h1 | h1)
      · exact e h1.symm
      · exact this.2 h1
theorem forget_ne : ∀ {l : List Nat} {tmps : List (Option SV)} {i : Nat}, i ∉ l → (forget l tmps)[i]? = tmps[i]?
  | [], _, _, _ => rfl
  | j :: r, tmps, i, h => by
    rw [List.mem_cons] at h
    simp only [forget]
    rw [forget_ne (fun x => h (.inr x)), List.getElem?_set, if_neg (fun e => h (.inl e.symm))]
theorem override_get : ∀ {l : List (Nat × SV)} {tmps : List (Option SV)} {i : Nat} {v : SV}, (override l tmps)[i]? = some (some v) → (i, v) ∈ l ∨ (tmps[i]? = some (some v) ∧ ∀ u, (i, u) ∉ l)
  | [], _, _, _, h => .inr ⟨h, fun _ h => by cases h⟩
  | (j, x) :: r, tmps, i, v, h => by
    simp only [override] at h
    rcases override_get h with h | ⟨h', hn⟩
    · exact .inl (List.mem_cons_of_mem _ h)
    · rw [List.getElem?_set] at h'
      by_cases e : j = i
      · subst e
        rw [if_pos rfl] at h'
        split at h'
        · injection h' with h'; injection h' with h'; subst h'; exact .inl (List.mem_cons_self ..)
        · cases h'
      · rw [if_neg e] at h'
        refine .inr ⟨h', fun u hu => ?_⟩
        rw [List.mem_cons] at hu
        rcases hu with hu | hu
        · injection hu with e1 _; exact e e1.symm
        · exact hn u hu
theorem override_ne : ∀ {l : List (Nat × SV)} {tmps : List (Option SV)} {i : Nat}, (∀ u, (i, u) ∉ l) → (override l tmps)[i]? = tmps[i]?
  | [], _, _, _ => rfl
  | (j, x) :: r, tmps, i, h => by
    simp only [override]
    rw [override_ne (fun u hu => h u (List.mem_cons_of_mem _ hu)), List.getElem?_set, if_neg (fun e => h x (by subst e; exact List.mem_cons_self ..))]
theorem wfTmps_of {nx : Nat} : ∀ {l : List (Option SV)}, (∀ (i : Nat) (v : SV), l[i]? = some (some v) → v.wf nx = true) → wfTmps nx l = true
  | [], _ => rfl
  | none :: r, h => wfTmps_of (l := r) fun i v hv => h (i + 1) v (by simpa using hv)
  | some x :: r, h => by
    simp only [wfTmps, Bool.and_eq_true]
    exact ⟨h 0 x rfl, wfTmps_of fun i v hv => h (i + 1) v (by simpa using hv)⟩
theorem atHead_sound {body : Code} {A : LoopAnn} {st st1 : St} {y : A.α} (h : (atHead body A st y st1).holds) {Γ : Base} {E : Nat → Nat} {a : Act} {w : World}
    (hnx : Γ.nx0 ≤ st.nx) (hwt : wfTmps st.nx st.tmps = true) (hkeep : ∀ i, i ∉ written body → st1.tmps[i]? = st.tmps[i]?) (hlen : st1.tmps.length = st.tmps.length) (hs : Sat Γ E st1 a w) :
    ∃ E', (∀ k, k < st.nx → E' k = E k) ∧ Sat Γ E' (hd body A st y) a w := by
  unfold atHead at h
  split at h
  · rename_i hok
    simp only [annOk, Bool.and_eq_true, List.all_eq_true, Nat.blt_eq, List.contains_iff_mem] at hok
    obtain ⟨ren1, _, h1, h2⟩ := sameSlots_sound h
    obtain ⟨ren, hle, _, h34⟩ := sameMem_sound h1
    obtain ⟨h3, h4⟩ := h34 ren (Ren.le_refl _)
    have hold : ∀ k, k < st.nx → Ren.E st.nx ren E k = E k := fun k hk => Ren.E_old hk
    refine ⟨Ren.E st.nx ren E, hold, ⟨⟨by simp [hd, override_length, forget_length, hs.tm.size, hlen], fun i v hv => ?_⟩, wfTmps_of fun i v hv => ?_, hs.df, ?_⟩⟩
    · rcases override_get hv with hm | ⟨hv, _⟩
      · obtain ⟨u, hu, hval⟩ := h2 ren E hle i v hm
        rw [hval]; exact hs.tm.val i u (slot_eq hu)
      · obtain ⟨hv, hn⟩ := forget_get hv
        have := hs.tm.val i v (by rw [hkeep i hn]; exact hv)
        rw [SV.val_congr hold v (wfTmps_get hwt hv)]; exact this
    · rcases override_get hv with hm | ⟨hv, _⟩
      · exact (hok.1 (i, v) hm).2
      · obtain ⟨hv, hn⟩ := forget_get hv
        exact SV.wf_mono (Nat.le_add_right _ _) v (wfTmps_get hwt hv)
    · have hE : ∀ kh k1, renKey st.nx ren kh = some k1 → Ren.E st.nx ren E kh = E k1 := fun kh k1 hr => by simp [Ren.E, hr]
      refine ⟨fun kh B' hg hn => ?_, fun kh kh' B B' hg hn hg' hn' hr he => ?_, fun kh B' hg => ?_, fun kh B' hg hn hro => ?_, hs.mm.ext, ⟨Nat.le_trans hnx (Nat.le_add_right _ _), fun k hk => (hold k (Nat.lt_of_lt_of_le hk hnx)).trans (hs.mm.cx.2 k hk)⟩, hs.mm.kp⟩
      · obtain ⟨k1, B, g1, _, g3, g5, g6, _⟩ := h3 kh B' hg hn
        obtain ⟨o, ho, hb⟩ := hs.mm.blk k1 B g3 g5
        exact ⟨o, by rw [hE kh k1 g1]; exact ho, g6 E o hb⟩
      · obtain ⟨k1, X, g1, _, g3, g5, _, g7⟩ := h3 kh B hg hn
        obtain ⟨k1', X', g1', _, g3', g5', _, g7'⟩ := h3 kh' B' hg' hn'
        rw [hE kh k1 g1, hE kh' k1' g1'] at he
        have := hs.mm.inj k1 k1' X X' g3 g5 g3' g5' (hr.imp g7 g7') he
        subst this
        exact h4 kh kh' B B' k1 hg hn hg' hn' g1 g1'
      · have : ∀ (l : List (Nat × SB)), (∀ p ∈ l, p.1 < st.nx + A.fresh) → Mem.get kh l = some B' → kh < st.nx + A.fresh := by
          intro l
          induction l with
          | nil => intro _ h; cases h
          | cons e r ih =>
            intro ha hg
            by_cases e1 : e.1 = kh
            · rw [← e1]; exact ha e (by simp)
            · simp only [Mem.get, e1, if_false] at hg
              exact ih (fun p hp => ha p (by simp [hp])) hg
        exact this _ hok.2 hg
      · obtain ⟨k1, B, g1, _, g3, g5, _, g7⟩ := h3 kh B' hg hn
        rw [hE kh k1 g1]
        exact hs.mm.own k1 B g3 g5 (g7 hro)
  · exact h.elim
end
end Go.Proofs.YtkfdcapnogklfaaGreatDoor.Sx
/-
  The framework's part 16a: a range over a function: the meaning of its yield, and what lies behind it.
-/
namespace Go.Proofs.YtkfdcapnogklfaaGreatDoor.Sx
open Go
noncomputable section
/-! ### A function's return: blocks that nothing names any more go -/
def older (nx : Nat) : Mem → Mem
  | [] => []
  | e :: r => match Nat.blt e.1 nx with
    | true => e :: older nx r
    | false => older nx r
def retK (nx : Nat) (v : SV) (m' : Mem) (nx' : Nat) (K : SV → Mem → Nat → VC) : VC :=
  match v.wf nx && Mem.wf nx (older nx m') with
  | true => K v (older nx m') nx
  | false => K v m' nx'
theorem older_get {nx : Nat} : ∀ {m : Mem} {k : Nat} {B : SB}, (older nx m).get k = some B → m.get k = some B ∧ k < nx
  | [], _, _, h => by cases h
  | e :: r, k, B, h => by
    simp only [older] at h
    cases hb : Nat.blt e.1 nx with
    | true =>
      rw [hb] at h
      simp only at h
      by_cases he : e.1 = k
      · rw [Mem.get, if_pos he] at h ⊢
        exact ⟨h, by rw [← he]; simpa [Nat.blt_eq] using hb⟩
      · rw [Mem.get, if_neg he] at h ⊢
        exact older_get h
    | false =>
      rw [hb] at h
      have := older_get h
      refine ⟨?_, this.2⟩
      rw [Mem.get, if_neg (fun e1 => ?_)]
      · exact this.1
      · have h2 := this.2
        have h3 : ¬ (e.1 < nx) := by
          intro hlt
          have h4 : Nat.blt e.1 nx = true := by rw [Nat.blt_eq]; exact hlt
          rw [h4] at hb; cases hb
        omega
theorem retK_after {nx : Nat} {v : SV} {m' : Mem} {nx' : Nat} {K : SV → Mem → Nat → VC} {Γ : Base} {E E' : Nat → Nat} {w : World} (h : (retK nx v m' nx' K).holds) (hs : SatM Γ E' m' nx' w)
    (hg : Γ.nx0 ≤ nx) (hE : ∀ k, k < nx → E' k = E k) (hn : nx ≤ nx') : After (lift K) Γ E nx (v.val E') w := by
  unfold retK at h
  split at h
  · rename_i hw
    simp only [Bool.and_eq_true] at hw
    exact ⟨E', some v, older nx m', nx, hE, Nat.le_refl _, fun u hu => by injection hu with hu; subst hu; rfl, hs.sub (fun k B hk => (older_get hk).1) (fun k B hk => (older_get hk).2) (.inr hg), h⟩
  · exact ⟨E', some v, m', nx', hE, hn, fun u hu => by injection hu with hu; subst hu; rfl, hs, h⟩
theorem retK_mono {nx : Nat} {v : SV} {m' : Mem} {nx' : Nat} {K K' : SV → Mem → Nat → VC} (hK : ∀ v m nx, (K v m nx).holds → (K' v m nx).holds) (h : (retK nx v m' nx' K).holds) : (retK nx v m' nx' K').holds := by
  unfold retK at h ⊢
  split at h
  · exact hK _ _ _ h
  · exact hK _ _ _ h
/-! ### How a code may be left -/
inductive Ex where
  | normal
  | exit (id : Nat)
  | ret
def Ex.to : Ex → Exit
  | .normal => .normal
  | .exit id => .exit id
  | .ret => .ret
def Ex.jump : Ex → Option Code
  | .normal => none
  | .exit id => some (.exit id)
  | .ret => some .ret
abbrev XK := Ex → St → VC
def BehindX (K : XK) (Γ : Base) (E : Nat → Nat) (nx : Nat) (e : Exit) (a : Act) (w : World) : Prop :=
  ∃ ex : Ex, e = ex.to ∧ Behind (K ex) Γ E nx a w
theorem BehindX.weaken {K : XK} {Γ : Base} {E E' : Nat → Nat} {nx nx' : Nat} {e : Exit} {a : Act} {w : World} (h : BehindX K Γ E' nx' e a w) (hE : ∀ k, k < nx → E' k = E k) (hn : nx ≤ nx') :
    BehindX K Γ E nx e a w := by
  obtain ⟨ex, he, E'', st'', k1, k2, k3, k4⟩ := h
  exact ⟨ex, he, E'', st'', fun k hk => (k1 k (Nat.lt_of_lt_of_le hk hn)).trans (hE k hk), Nat.le_trans hn k2, k3, k4⟩
theorem Mem.wf_mono {n k : Nat} (h : n ≤ k) : ∀ {m : Mem}, Mem.wf n m = true → Mem.wf k m = true
  | [], _ => rfl
  | e :: r, hm => by
    simp only [Mem.wf, Bool.and_eq_true] at hm ⊢
    refine ⟨?_, Mem.wf_mono h hm.2⟩
    obtain ⟨a, B⟩ := e
    cases B <;> first | rfl | exact SV.wfs_mono h _ hm.1
/-! ### The parameters of a round -/
def setPs : List Nat → List SV → List (Option SV) → List (Option SV)
  | p :: ps, v :: vs, t => setPs ps vs (t.set p (some v))
  | _, _, t => t
theorem setPs_ok {E : Nat → Nat} {ds : List Deferred} : ∀ {ps : List Nat} {vs : List SV} {tmps : List (Option SV)} {ts : Array Value}, TmpsOk E tmps ⟨ts, ds⟩ →
    TmpsOk E (setPs ps vs tmps) ⟨(ps.zip (SV.vals E vs)).foldl (fun t (p, v) => t.setIfInBounds p v) ts, ds⟩
  | [], vs, tmps, ts, h => by simpa [setPs] using h
  | p :: ps, [], tmps, ts, h => by simpa [setPs, SV.vals] using h
  | p :: ps, v :: vs, tmps, ts, h => by
    simp only [setPs, SV.vals, List.zip_cons_cons, List.foldl_cons]
    refine setPs_ok ?_
    have := h.put (dst := some p) (sv := some v) (r := v.val E) (fun u hu => by injection hu with hu; subst hu; rfl)
    exact this
theorem setPs_wf {nx : Nat} : ∀ {ps : List Nat} {vs : List SV} {tmps : List (Option SV)}, wfTmps nx tmps = true → SV.wfs nx vs = true → wfTmps nx (setPs ps vs tmps) = true
  | [], vs, tmps, h, _ => by simpa [setPs] using h
  | p :: ps, [], tmps, h, _ => by simpa [setPs] using h
  | p :: ps, v :: vs, tmps, h, hv => by
    simp only [SV.wfs, Bool.and_eq_true] at hv
    simp only [setPs]
    exact setPs_wf (wfTmps_set h (fun u hu => by injection hu with hu; subst hu; exact hv.1)) hv.2
/-! ### The yield -/
def yieldPT (kl : Nat) (R : Loop) (ps : List Nat) (tmps0 : List (Option SV)) (fa fb : XK → St → VC) : PT := fun args m nx K =>
  match m.get kl, Nat.beq ps.length args.length with
  | some (.loop .ready none R'), true => .and (.atom (R' = R)) (fa (fun e st1 => match e with
      | .normal => (match st1.m.get kl with
        | some (.loop .ready pe R1) => fb (fun e st2 => match st2.m.get kl with
            | some (.loop _ _ R2) => (match e with
              | .normal => retK nx (.bool true true) (st2.m.put kl (.loop .ready none R2)) st2.nx K
              | .exit id => retK nx (.bool true false) (st2.m.put kl (.loop .done (some (.exit id)) R2)) st2.nx K
              | .ret => retK nx (.bool true false) (st2.m.put kl (.loop .done (some .ret) R2)) st2.nx K)
            | _ => .fail "yield: the record") ⟨st1.tmps, st1.m.put kl (.loop .busy pe R1), st1.nx⟩
        | _ => .fail "yield: the record")
      | _ => .fail "yield: a jump out of an assignment") ⟨setPs ps args tmps0, m, nx⟩)
  | _, _ => .fail "yield: the record"
section
variable {P : Program} {Γ : Base}
theorem SatM.putLoop {E : Nat → Nat} {m : Mem} {nx : Nat} {w : World} (h : SatM Γ E m nx w) {k : Nat} {st st' : LoopState} {pe pe' : Option Code} {R : Loop} (hk : m.get k = some (.loop st pe R)) :
    SatM Γ E (m.put k (.loop st' pe' R)) nx (w.putObj (E k) (.loop { R with state := st', pending := pe' })) :=
  h.write hk rfl rfl rfl rfl
theorem yieldPT_ok {kl l : Nat} {R : Loop} {tmps0 : List (Option SV)} {fa fb : XK → St → VC} {E1 : Nat → Nat} (hkl : kl < Γ.nx0) (hl : Γ.E0 kl = l) (h1 : ∀ k, k < kl → Γ.E0 k = E1 k)
    (ht : TmpsOk E1 tmps0 ⟨R.tmps, []⟩) (hw : wfTmps kl tmps0 = true)
    (ia : ∀ Δ, Γ.le Δ → ∀ K st E a w, (fa K st).holds → Sat Δ E st a w → R.assign.wpIn (Fr (some l)) 0 P (BehindX K Δ E st.nx) a w)
    (ib : ∀ Δ, Γ.le Δ → ∀ K st E a w, (fb K st).holds → Sat Δ E st a w → R.body.wpIn (Fr (some l)) 0 P (BehindX K Δ E st.nx) a w) :
    COk P Γ (.yield kl) (yieldPT kl R R.params.toList tmps0 fa fb) := by
  intro Δ hle args m nx K h hwf hargs E w hs
  unfold yieldPT at h
  have hkΔ : kl < Δ.nx0 := Nat.lt_of_lt_of_le hkl hle.nx
  have hEl : ∀ E' : Nat → Nat, (∀ k, k < Δ.nx0 → E' k = Δ.E0 k) → E' kl = l := fun E' hE' => (hE' kl hkΔ).trans ((hle.e kl hkl).trans hl)
  split at h
  · rename_i R' hk hlen
    obtain ⟨hR, h⟩ := h
    have hR : R' = R := hR
    subst hR
    have hlen : R'.params.toList.length = args.length := Nat.eq_of_beq_eq_true hlen
    have hE : E kl = l := hEl E hs.cx.2
    obtain ⟨o, ho, hb⟩ := hs.blk kl _ hk rfl
    have hb : o = .loop { R' with state := .ready, pending := none } := hb
    subst hb
    rw [hE] at ho
    have hrun : (Cal.sem E (.yield kl) (SV.vals E args).toArray).run P w = .ok (.round l R'.fn ((R'.params.zip (SV.vals E args).toArray).foldl (fun tmps (t, a) => tmps.setIfInBounds t a) R'.tmps) R'.assign R'.body) w := by
      simp only [Cal.sem, hE]
      exact run_yield (r := { R' with state := .ready, pending := none }) ho (by simpa [SV.vals_eq] using hlen.symm)
    rw [hrun]
    simp only [Out]
    have hE1 : ∀ k, k < kl → E k = E1 k := fun k hk => (hs.cx.2 k (Nat.lt_trans hk hkΔ)).trans ((hle.e k (Nat.lt_trans hk hkl)).trans (h1 k hk))
    have hnx : kl ≤ nx := Nat.le_of_lt (Nat.lt_of_lt_of_le hkΔ hs.cx.1)
    have hsat : Sat Δ E ⟨setPs R'.params.toList args tmps0, m, nx⟩ ⟨(R'.params.zip (SV.vals E args).toArray).foldl (fun tmps (t, a) => tmps.setIfInBounds t a) R'.tmps, []⟩ w := by
      refine ⟨?_, setPs_wf (wfTmps_mono hnx hw) hargs, Marks.nil _ _, hs⟩
      have := setPs_ok (ps := R'.params.toList) (vs := args) (ht.congr hw hE1)
      rw [← Array.foldl_toList, Array.toList_zip]
      exact this
    refine roundIn_of_wpIn (F := Fence.wide) trivial (wpIn_mono (ia Δ hle _ _ E _ w h hsat) ?_)
    rintro e a1 w1 ⟨ex, rfl, E2, st1, g1, g2, g3, g4⟩
    cases ex with
    | exit id => exact g4.elim
    | ret => exact g4.elim
    | normal =>
      simp only [Ex.to, Exit.then]
      simp only at g4
      split at g4
      · rename_i pe R1 hk1
        have hE2 : E2 kl = l := hEl E2 g3.mm.cx.2
        obtain ⟨o1, ho1, hb1⟩ := g3.mm.blk kl _ hk1 rfl
        have hb1 : o1 = .loop { R1 with state := .ready, pending := pe } := hb1
        subst hb1
        rw [hE2] at ho1
        refine ⟨_, run_beginRound ho1 rfl, ?_⟩
        have hm2 := g3.mm.putLoop (st' := .busy) (pe' := pe) hk1
        rw [hE2] at hm2
        have hsat2 : Sat Δ E2 ⟨st1.tmps, st1.m.put kl (.loop .busy pe R1), st1.nx⟩ a1 (w1.putObj l (.loop { R1 with state := .busy, pending := pe })) := by
          refine ⟨g3.tm, g3.wt, ?_, hm2⟩
          obtain ⟨Ds, d1, d2, d3⟩ := g3.df
          refine ⟨Ds, d1, d2, fun D hD => ⟨?_, (d3 D hD).2⟩⟩
          have hne : D ≠ l := fun e => by
            have := (d3 D hD).1
            rw [e, ho1] at this; cases this
          rw [World.putObj_heap_other hne]; exact (d3 D hD).1
        refine wpIn_mono (ib Δ hle _ _ E2 _ _ g4 hsat2) ?_
        rintro e a2 w2 ⟨ex, rfl, E3, st2, q1, q2, q3, q4⟩
        simp only at q4
        split at q4
        · rename_i s2 pe2 R2 hk2
          have hE3 : E3 kl = l := hEl E3 q3.mm.cx.2
          obtain ⟨o2, ho2, hb2⟩ := q3.mm.blk kl _ hk2 rfl
          have hb2 : o2 = .loop { R2 with state := s2, pending := pe2 } := hb2
          subst hb2
          rw [hE3] at ho2
          have hEE : ∀ k, k < nx → E3 k = E k := fun k hk => (q1 k (Nat.lt_of_lt_of_le hk g2)).trans (g1 k hk)
          have hnn : nx ≤ st2.nx := Nat.le_trans g2 q2
          have fin : ∀ (j : Option Code), (retK nx (.bool true j.isNone) (st2.m.put kl (.loop (if j.isNone then .ready else .done) j R2)) st2.nx K).holds →
              ∃ v w', (Instr.endRound l j).run P w2 = .ok v w' ∧ ∃ u, Ending.returned v = .returned u ∧ After (lift K) Δ E nx u w' := by
            intro j hh
            refine ⟨_, _, run_endRound j ho2, _, rfl, ?_⟩
            have hm3 := q3.mm.putLoop (st' := if j.isNone then .ready else .done) (pe' := j) hk2
            rw [hE3] at hm3
            exact retK_after (v := .bool true j.isNone) hh hm3 hs.cx.1 hEE hnn
          cases ex with
          | normal => exact fin none q4
          | exit id => exact fin (some (.exit id)) q4
          | ret => exact fin (some .ret) q4
        · exact q4.elim
      · exact g4.elim
  · exact h.elim
theorem yieldPT_mono {kl : Nat} {R : Loop} {ps : List Nat} {tmps0 : List (Option SV)} {fa fb : XK → St → VC} (ia : ∀ (K K' : XK) st, (∀ e st', (K e st').holds → (K' e st').holds) → (fa K st).holds → (fa K' st).holds)
    (ib : ∀ (K K' : XK) st, (∀ e st', (K e st').holds → (K' e st').holds) → (fb K st).holds → (fb K' st).holds) : MonoPT (yieldPT kl R ps tmps0 fa fb) := by
  intro args m nx K K' hK h
  unfold yieldPT at h ⊢
  split at h
  · refine ⟨h.1, ia _ _ _ (fun e st1 h1 => ?_) h.2⟩
    cases e with
    | exit id => exact h1
    | ret => exact h1
    | normal =>
      simp only at h1 ⊢
      split at h1
      · refine ib _ _ _ (fun e st2 h2 => ?_) h1
        split at h2
        · cases e <;> exact retK_mono hK h2
        · exact h2
      · exact h1
  · exact h
/-! ### Behind the function -/
theorem SatM.enter {E : Nat → Nat} {m : Mem} {nx : Nat} {w : World} (h : SatM Γ E m nx w) (hw : Mem.wf nx m = true) {R : Loop} (hR : R.state = .ready) (hp : R.pending = none) {Ds : List Nat} (hD : ∀ D ∈ Ds, w.heap[D]? = some (Obj.deferred (some []))) :
    ∃ Δ : Base, Γ.le Δ ∧ (∀ D, D ∈ w.heap.size :: (Ds ++ Γ.keep) → D ∈ Δ.keep) ∧ Δ.nx0 = nx + 1 ∧ Δ.E0 = (fun k => if k = nx then w.heap.size + 1 else E k) ∧
      SatM Δ Δ.E0 ((nx, .loop .ready none R) :: m) (nx + 1) ((w.alloc (Obj.deferred (some []))).alloc (.loop R)) := by
  have hE : ∀ k, k < nx → (fun k => if k = nx then w.heap.size + 1 else E k) k = E k := fun k hk => by simp [Nat.ne_of_lt hk]
  refine ⟨{ Γ with nx0 := nx + 1, E0 := fun k => if k = nx then w.heap.size + 1 else E k, keep := w.heap.size :: (Ds ++ Γ.keep) }, ⟨rfl, rfl, Nat.le_succ_of_le h.cx.1, fun k hk => ?_, fun D hD => List.mem_cons_of_mem _ (List.mem_append_right _ hD)⟩,
    fun D hD => hD, rfl, rfl, ?_⟩
  · exact (hE k (Nat.lt_of_lt_of_le hk h.cx.1)).trans (h.cx.2 k hk)
  · have hm1 : SatM { Γ with keep := w.heap.size :: (Ds ++ Γ.keep) } E m nx (w.alloc (Obj.deferred (some []))) := by
      have hold : ∀ i, i < w.heap.size → (w.alloc (Obj.deferred (some []))).heap[i]? = w.heap[i]? := fun i hi => by
        show (w.heap.push _)[i]? = _
        rw [Array.getElem?_push, if_neg (by omega)]
      refine ⟨fun k B hk hn => ?_, h.inj, h.lt, h.own, ⟨h.ext.os, h.ext.tape, h.ext.output, ?_, fun k hk hm => ?_⟩, h.cx, fun D hD2 => ?_⟩
      · obtain ⟨o, ho, hb⟩ := h.blk k B hk hn
        exact ⟨o, by rw [hold _ (Array.getElem?_eq_some_iff.1 ho).1]; exact ho, hb⟩
      · have := h.ext.size
        show _ ≤ (w.heap.push _).size
        simp; omega
      · rw [hold k (Nat.lt_of_lt_of_le hk h.ext.size)]; exact h.ext.block k hk hm
      · have hold2 : ∀ D, w.heap[D]? = some (Obj.deferred (some [])) → (w.alloc (Obj.deferred (some []))).heap[D]? = some (Obj.deferred (some [])) := fun D hd => by
          rw [hold D (Array.getElem?_eq_some_iff.1 hd).1]; exact hd
        rcases List.mem_cons.1 hD2 with e | hD2
        · subst e
          show (w.heap.push _)[w.heap.size]? = _
          simp
        · rcases List.mem_append.1 hD2 with h1 | h1
          · exact hold2 D (hD D h1)
          · exact hold2 D (h.kp D h1)
    have hsz : (w.alloc (Obj.deferred (some []))).heap.size = w.heap.size + 1 := by show (w.heap.push _).size = _; simp
    have hm2 := hm1.alloc hw (B := .loop .ready none R) (o := .loop R) (by
      show Obj.loop R = .loop { R with state := .ready, pending := none }
      rw [← hR, ← hp])
    rw [hsz] at hm2
    exact ⟨hm2.blk, hm2.inj, hm2.lt, hm2.own, hm2.ext, ⟨Nat.le_refl _, fun k hk => rfl⟩, hm2.kp⟩
theorem SatM.leave {E : Nat → Nat} {m : Mem} {nx : Nat} {w : World} (h : SatM Γ E m nx w) {k : Nat} {st st' : LoopState} {pe pe' : Option Code} {R : Loop} (hk : m.get k = some (.loop st pe R)) :
    SatM Γ E (m.drop k) nx (w.putObj (E k) (.loop { R with state := st', pending := pe' })) := by
  refine (h.putLoop (st' := st') (pe' := pe') hk).sub (fun j B hj => ?_) (fun j B hj => h.lt j B (Mem.get_drop hj).2) (.inl (Nat.le_refl _))
  obtain ⟨hne, hj⟩ := Mem.get_drop hj
  rw [Mem.get_put_ne hne]; exact hj
end
/-! ### A scope, in a round's frame too -/
theorem stepR_scope {P : Program} {b : Frame} {a : Act} {k : List Item} {cs : List Frame} {w : World} {c : Code} : step P (lone (b.atR a (.code (.scope c) :: k)) cs w) = .next (lone (b.atR a (.code c :: .inScope c :: k)) cs w) :=
  step_lone_go (by simp [Go.stepG, Go.stepG.exec, Frame.atR])
theorem stepR_inScope {P : Program} {b : Frame} {a : Act} {k : List Item} {cs : List Frame} {w : World} {c : Code} : step P (lone (b.atR a (.inScope c :: k)) cs w) = .next (lone (b.atR a k) cs w) :=
  step_lone_go (by simp [Go.stepG, Go.stepG.exec, Frame.atR])
theorem wpIn_scope_straight {F : Fence} {n : Nat} {P : Program} {Q : Exit → Act → World → Prop} {a : Act} {w : World} {c : Code} (h : c.wpIn F n P (Exit.noGoto Q) a w) : (Code.scope c).wpIn F n P Q a w := by
  intro b k cs hro hb hr
  have h0 : (lone (b.atR a (.code (.scope c) :: k)) cs w).fenced P F := fenced_calm hb hr rfl
  obtain ⟨e, a₁, w₁, hq, harr⟩ := h b (.inScope c :: k) cs hro hb hr
  cases e with
  | normal => exact ⟨.normal, a₁, w₁, hq, .head h0 stepR_scope (StepsIn.trans harr (.one (fenced_calm hb hr rfl) stepR_inScope))⟩
  | exit id =>
    have hx : exitTo id (.inScope c :: k) = exitTo id k := by simp [exitTo]
    exact ⟨.exit id, a₁, w₁, hq, fun k' hk => .head h0 stepR_scope (harr.1 k' (by rw [hx]; exact hk)),
      fun hr' hk => let ⟨k₁, h1, h2⟩ := harr.2 hr' (by rw [hx]; exact hk); ⟨k₁, h1, .head h0 stepR_scope h2⟩⟩
  | goto l => exact hq.elim
  | ret => exact ⟨_, a₁, w₁, hq, .of_steps (.one h0 stepR_scope) harr⟩
  | panic ch => exact ⟨_, a₁, w₁, hq, .of_steps (.one h0 stepR_scope) harr⟩
  | outgrown => exact ⟨_, a₁, w₁, hq, .of_steps (.one h0 stepR_scope) harr⟩
end
end Go.Proofs.YtkfdcapnogklfaaGreatDoor.Sx
/-
  The framework's seventeenth part: code and functions: 'sx', and that it is sound.
-/
namespace Go.Proofs.YtkfdcapnogklfaaGreatDoor.Sx
open Go
noncomputable section
def firstRegion : Code → Option Nat
  | .region id _ _ => some id
  | .seq a b => match firstRegion a with
    | some i => some i
    | none => firstRegion b
  | .cond _ a b => match firstRegion a with
    | some i => some i
    | none => firstRegion b
  | .block _ b => firstRegion b
  | .loop b => firstRegion b
  | .scope b => firstRegion b
  | _ => none
structure Multi where
  tags : List Nat
  tag : St → Nat
  A : Nat → LoopAnn
def one (A : LoopAnn) : Multi := ⟨[0], fun _ => 0, fun _ => A⟩
abbrev Anns := List (Nat × (St → Option Multi))
def always (A : LoopAnn) : St → Option Multi := fun _ => some (one A)
def Anns.find (anns : Anns) (i : Nat) (st : St) : Option Multi := match anns with
  | [] => none
  | (j, A) :: r => if j = i then A st else Anns.find r i st
def annAt (anns : Anns) (body : Code) (st : St) : Option Multi := match firstRegion body with
  | some i => anns.find i st
  | none => none
def unroll : Nat → (XK → St → VC) → XK → St → VC
  | 0, _, _, _ => .fail "loop: too many rounds"
  | n + 1, f, K, st => f (fun e st' => match e with
    | .normal => unroll n f K st'
    | e => K e st') st
def pickTag (t : Nat) (k : Nat → VC) : List Nat → VC
  | [] => .fail "loop: no such head"
  | a :: r => if t = a then k a else pickTag t k r
theorem pickTag_iff {t : Nat} {k : Nat → VC} : ∀ {l : List Nat}, (pickTag t k l).holds → t ∈ l ∧ (k t).holds
  | [], h => h.elim
  | a :: r, h => by
    simp only [pickTag] at h
    split at h
    · rename_i e; subst e; exact ⟨List.mem_cons_self .., h⟩
    · have := pickTag_iff h; exact ⟨List.mem_cons_of_mem _ this.1, this.2⟩
def entry (L : Multi) (body : Code) (st st1 : St) : VC :=
  pickTag (L.tag st1) (fun t => .ex (L.A t).α fun y => .and (.atom ((L.A t).pre st y)) (atHead body (L.A t) st y st1)) L.tags
def backTo (L : Multi) (body : Code) (st : St) (n : Nat) (st1 : St) : VC :=
  pickTag (L.tag st1) (fun t => .ex (L.A t).α fun y => .and (.atom ((L.A t).pre st y ∧ (L.A t).mea st y < n)) (atHead body (L.A t) st y st1)) L.tags
def roundAt (L : Multi) (body : Code) (f : XK → St → VC) (K : XK) (st : St) (t : Nat) : VC :=
  .all (L.A t).α fun x => .imp ((L.A t).pre st x) (match annOk body (L.A t) st x with
      | true => f (fun e st1 => match e with
        | .normal => backTo L body st ((L.A t).mea st x) st1
        | e => K e st1) (hd body (L.A t) st x)
      | false => .fail "loop: the annotation")
def roundsOf (g : Nat → VC) : List Nat → VC
  | [] => .tt
  | [t] => g t
  | t :: r => .and (g t) (roundsOf g r)
theorem roundsOf_mem {g : Nat → VC} : ∀ {l : List Nat}, (roundsOf g l).holds → ∀ t ∈ l, (g t).holds
  | [], _, t, ht => by cases ht
  | [a], h, t, ht => by simp at ht; subst ht; exact h
  | a :: b :: r, h, t, ht => by
    rw [List.mem_cons] at ht
    rcases ht with rfl | ht
    · exact h.1
    · exact roundsOf_mem (l := b :: r) h.2 t ht
theorem roundsOf_mono {g g' : Nat → VC} (hg : ∀ t, (g t).holds → (g' t).holds) : ∀ {l : List Nat}, (roundsOf g l).holds → (roundsOf g' l).holds
  | [], h => h
  | [a], h => hg a h
  | a :: b :: r, h => ⟨hg a h.1, roundsOf_mono hg (l := b :: r) h.2⟩
def annLoop (L : Multi) (body : Code) (f : XK → St → VC) (K : XK) (st : St) : VC :=
  .and (entry L body st st) (roundsOf (roundAt L body f K st) L.tags)
def joinAt (anns : Anns) (a : Code) (st : St) : Option Multi := match anns with
  | [] => none
  | _ => (match firstRegion a with
    | some i => anns.find (1000 + i) st
    | none => none)
def joinRest (L : Multi) (a : Code) (f : St → VC) (st : St) (t : Nat) : VC :=
  .all (L.A t).α fun x => .imp ((L.A t).pre st x) (match annOk a (L.A t) st x with
      | true => f (hd a (L.A t) st x)
      | false => .fail "join: the annotation")
def condK (c : Option SV) (t f : VC) : VC := match c with
  | some (.bool true b) => (match b with
    | true => t
    | false => f)
  | some (.bool false b) => fork b (fun v => match v with
    | true => t
    | false => f)
  | _ => .fail "cond"
abbrev Env := List (Nat × PT)
def Env.find (env : Env) (k : Nat) : Option PT := match env with
  | [] => none
  | e :: r => if e.1 = k then some e.2 else Env.find r k
def rangeEnd (kl : Nat) (tmps : List (Option SV)) (K : XK) : SV → Mem → Nat → VC := fun _ m nx =>
  match m.get kl with
  | some (.loop .ready none _) => K .normal ⟨tmps, m.drop kl, nx⟩
  | some (.loop .done (some .ret) _) => K .ret ⟨tmps, m.drop kl, nx⟩
  | some (.loop .done (some (.exit id)) _) => K (.exit id) ⟨tmps, m.drop kl, nx⟩
  | _ => .fail "range: the record"
structure Calling where
  callE : Env → Cal → PT
  bd : FuncId → Bool
def sx (P : Program) (C : Calling) (env : Env) (anns : Anns) (n : Nat) : Code → Bool → XK → St → VC
  | .skip, _, K, st => K .normal st
  | .label _, _, K, st => K .normal st
  | .region _ ops d, _, K, st => (match d with
    | true => draw P (C.callE env) ops (K .normal) st
    | false => seqOps P (C.callE env) ops (List.range ops.size) (K .normal) st)
  | .seq a b, r, K, st => (match joinAt anns a st with
    | some L => .and (sx P C env anns n a r (fun e st' => match e with
      | .normal => entry L a st st'
      | e => K e st') st) (roundsOf (joinRest L a (sx P C env anns n b r K) st) L.tags)
    | none => sx P C env anns n a r (fun e st' => match e with
      | .normal => sx P C env anns n b r K st'
      | e => K e st') st)
  | .cond c a b, r, K, st => condK (ev st.tmps c) (sx P C env anns n a r K st) (sx P C env anns n b r K st)
  | .block id body, r, K, st => sx P C env anns n body r (fun e st' => match e with
    | .exit j => if j = id then K .normal st' else K (.exit j) st'
    | e => K e st') st
  | .loop body, r, K, st => (match annAt anns body st with
    | some A => annLoop A body (sx P C env anns n body r) K st
    | none => unroll n (sx P C env anns n body r) K st)
  | .exit id, _, K, st => K (.exit id) st
  | .ret, _, K, st => K .ret st
  | .scope body, r, K, st => sx P C env anns n body r K st
  | .rangeFunc g ps assign body, false, K, st => (match ev st.tmps g, Mem.wf st.nx st.m with
    | some (.func (.func f) first captured), true => (match C.bd f with
      | true => .all Loop fun R => C.callE ((st.nx, yieldPT st.nx R ps.toList st.tmps (sx P C env anns n assign true) (sx P C env anns n body true)) :: env) (.fn f)
          (first ++ [.yield st.nx] ++ captured) ((st.nx, .loop .ready none R) :: st.m) (st.nx + 1) (rangeEnd st.nx st.tmps K)
      | false => .fail "range: over what")
    | _, _ => .fail "range: over what")
  | _, _, _, _ => .fail "code"
structure CallingOk (P : Program) (C : Calling) : Prop where
  mono : ∀ env, (∀ p ∈ env, MonoPT p.2) → ∀ c, MonoPT (C.callE env c)
  ok : ∀ (Γ : Base) env, (∀ p ∈ env, MonoPT p.2) → (∀ p ∈ env, COk P Γ (.yield p.1) p.2) → ∀ c, COk P Γ c (C.callE env c)
  bd : ∀ f, C.bd f = true → ∀ (args : Array Value) (w : World), (callFunc f args).run P w = .ok (.enter f args) w
/-! ### Monotone, and which slots stay -/
structure Kp (l : List Nat) (t t' : List (Option SV)) : Prop where
  len : t'.length = t.length
  get : ∀ i, i ∉ l → t'[i]? = t[i]?
theorem Kp.refl (l : List Nat) (t : List (Option SV)) : Kp l t t := ⟨rfl, fun _ _ => rfl⟩
theorem Kp.trans {l : List Nat} {a b c : List (Option SV)} (h : Kp l a b) (h' : Kp l b c) : Kp l a c := ⟨h'.len.trans h.len, fun i hi => (h'.get i hi).trans (h.get i hi)⟩
theorem Kp.mono {l l' : List Nat} {a b : List (Option SV)} (h : Kp l a b) (hl : ∀ i ∈ l, i ∈ l') : Kp l' a b := ⟨h.len, fun i hi => h.get i fun x => hi (hl i x)⟩
theorem Kp.set {l : List Nat} {t : List (Option SV)} {dst : Option Nat} {u : Option SV} (h : ∀ d, dst = some d → d ∈ l) : Kp l t (setSlot t dst u) := by
  cases dst with
  | none => exact Kp.refl _ _
  | some d => exact ⟨by simp [setSlot], fun i hi => by simp only [setSlot]; rw [List.getElem?_set, if_neg (fun (e : d = i) => hi (by rw [← e]; exact h d rfl))]⟩
section
variable {P : Program} {call : Cal → PT} {C : Calling} {env : Env} {anns : Anns} {n : Nat}
theorem seqOps_mono (hm : ∀ f, MonoPT (call f)) {ops : Array Oper} {l0 : List Nat} (hl0 : ∀ (j : Nat) o d, ops[j]? = some o → o.dst = some d → d ∈ l0) {K K' : St → VC} {t0 : List (Option SV)}
    (hK : ∀ st', Kp l0 t0 st'.tmps → (K st').holds → (K' st').holds) : ∀ (l : List Nat) (st : St), Kp l0 t0 st.tmps → (seqOps P call ops l K st).holds → (seqOps P call ops l K' st).holds
  | [], st, hk, h => hK st hk h
  | j :: r, st, hk, h => by
    simp only [seqOps] at h ⊢
    cases ho : ops[j]? with
    | none => rw [ho] at h; exact h.elim
    | some o =>
      rw [ho] at h
      exact stepOp_mono hm (fun u m nx hh => seqOps_mono hm hl0 hK r _ (hk.trans (Kp.set fun d hd => hl0 j o d ho hd)) hh) h
theorem drawOps_mono (hm : ∀ f, MonoPT (call f)) {ops : Array Oper} {masks : List Nat} {l0 : List Nat} (hl0 : ∀ (j : Nat) o d, ops[j]? = some o → o.dst = some d → d ∈ l0) {K K' : St → VC} {t0 : List (Option SV)}
    (hK : ∀ st', Kp l0 t0 st'.tmps → (K st').holds → (K' st').holds) : ∀ (n : Nat) (l : List Nat) (rd : List (Nat × Nat)) (st : St), Kp l0 t0 st.tmps → (drawOps P call ops masks n l rd K st).holds → (drawOps P call ops masks n l rd K' st).holds
  | n, [], _, st, hk, h => by rw [drawOps_nil] at h ⊢; exact hK st hk h
  | 0, _ :: _, _, _, _, h => h.elim
  | n + 1, x :: r, rd, st, hk, h => by
    simp only [drawOps] at h ⊢
    split at h
    · rename_i i _
      cases ho : ops[i]? with
      | none => rw [ho] at h; exact h.elim
      | some o =>
        rw [ho] at h
        exact stepOp_mono hm (fun u m nx hh => drawOps_mono hm hl0 hK n _ _ _ (hk.trans (Kp.set fun d hd => hl0 i o d ho hd)) hh) h
    · refine branches_mono (fun j hj => ?_) h
      cases hoj : ops[j]? with
      | none => rw [hoj] at hj; exact hj.elim
      | some oj =>
        rw [hoj] at hj
        simp only at hj ⊢
        refine stepOp_mono hm (fun u m nx hh => ?_) hj
        rw [preserved_iff, grows_iff] at hh ⊢
        exact ⟨hh.1, hh.2.1, drawOps_mono hm hl0 hK n _ _ _ (hk.trans (Kp.set fun d hd => hl0 j oj d hoj hd)) hh.2.2⟩
theorem dst_mem {ops : Array Oper} {j : Nat} {o : Oper} {d : Nat} (ho : ops[j]? = some o) (hd : o.dst = some d) : d ∈ ops.toList.filterMap (·.dst) :=
  List.mem_filterMap.2 ⟨o, List.mem_of_getElem? (by rw [Array.getElem?_toList]; exact ho), hd⟩
theorem Kp.hd {body : Code} {A : LoopAnn} {st : St} {x : A.α} (h : annOk body A st x = true) : Kp (written body) st.tmps (Sx.hd body A st x).tmps := by
  simp only [annOk, Bool.and_eq_true, List.all_eq_true, List.contains_iff_mem] at h
  refine ⟨by simp [Sx.hd, override_length, forget_length], fun i hi => ?_⟩
  simp only [Sx.hd]
  rw [override_ne (fun u hu => hi (h.1 _ hu).1), forget_ne hi]
theorem condK_mono {c : Option SV} {t t' f f' : VC} (ht : t.holds → t'.holds) (hf : f.holds → f'.holds) : (condK c t f).holds → (condK c t' f').holds := by
  unfold condK
  split
  · split
    · exact ht
    · exact hf
  · intro h
    rw [fork_iff] at h ⊢
    split at h
    · exact ht h
    · exact hf h
  · exact id
theorem unroll_mono {l0 : List Nat} {f : XK → St → VC} (hf : ∀ (K K' : XK) st, (∀ e st', Kp l0 st.tmps st'.tmps → (K e st').holds → (K' e st').holds) → (f K st).holds → (f K' st).holds) : ∀ (n : Nat) (K K' : XK) (st : St),
    (∀ e st', Kp l0 st.tmps st'.tmps → (K e st').holds → (K' e st').holds) → (unroll n f K st).holds → (unroll n f K' st).holds
  | 0, _, _, _, _, h => h
  | n + 1, K, K', st, hK, h => by
    simp only [unroll] at h ⊢
    refine hf _ _ st (fun e st' hk hh => ?_) h
    cases e with
    | normal => exact unroll_mono hf n K K' st' (fun e st'' hk' => hK e st'' (hk.trans hk')) hh
    | exit id => exact hK _ _ hk hh
    | ret => exact hK _ _ hk hh
theorem sx_mono (hC : ∀ env, (∀ p ∈ env, MonoPT p.2) → ∀ c, MonoPT (C.callE env c)) (he : ∀ p ∈ env, MonoPT p.2) : ∀ (c : Code) (r : Bool) (K K' : XK) (st : St), (∀ e st', Kp (written c) st.tmps st'.tmps → (K e st').holds → (K' e st').holds) →
    (sx P C env anns n c r K st).holds → (sx P C env anns n c r K' st).holds := by
  have hm := hC env he
  intro c
  induction c with
  | skip => intro r K K' st hK h; exact hK _ _ (Kp.refl _ _) h
  | label l => intro r K K' st hK h; exact hK _ _ (Kp.refl _ _) h
  | exit id => intro r K K' st hK h; exact hK _ _ (Kp.refl _ _) h
  | ret => intro r K K' st hK h; exact hK _ _ (Kp.refl _ _) h
  | region id ops d =>
    intro r K K' st hK h
    simp only [sx] at h ⊢
    cases d with
    | true =>
      simp only at h ⊢
      unfold draw at h ⊢
      simp only at h ⊢
      split at h
      · exact drawOps_mono hm (l0 := ops.toList.filterMap (fun (o : Oper) => o.dst)) (t0 := st.tmps) (fun j o d ho hd => dst_mem ho hd) (fun st' hk => hK _ st' hk) _ _ _ st (Kp.refl _ _) h
      · exact h.elim
    | false => exact seqOps_mono hm (l0 := ops.toList.filterMap (fun (o : Oper) => o.dst)) (t0 := st.tmps) (fun j o d ho hd => dst_mem ho hd) (fun st' hk => hK _ st' hk) _ st (Kp.refl _ _) h
  | seq a b iha ihb =>
    intro r K K' st hK h
    simp only [sx] at h ⊢
    cases hj : joinAt anns a st
    · rw [hj] at h
      simp only at h ⊢
      refine iha r _ _ st (fun e st' hk hh => ?_) h
      have hk1 := hk.mono (l' := written (.seq a b)) (fun i hi => by simp only [written, List.mem_append]; exact .inl hi)
      cases e with
      | normal => exact ihb r _ _ st' (fun e st'' hk' => hK e st'' (hk1.trans (hk'.mono fun i hi => by simp only [written, List.mem_append]; exact .inr hi))) hh
      | exit id => exact hK _ _ hk1 hh
      | ret => exact hK _ _ hk1 hh
    · rename_i L
      rw [hj] at h
      simp only at h ⊢
      refine ⟨iha r _ _ st (fun e st' hk hh => ?_) h.1, roundsOf_mono (g := joinRest L a (sx P C env anns n b r K) st) (g' := joinRest L a (sx P C env anns n b r K') st) (fun t h2 => fun x hx => ?_) h.2⟩
      · have hk1 := hk.mono (l' := written (.seq a b)) (fun i hi => by simp only [written, List.mem_append]; exact .inl hi)
        cases e with
        | normal => exact hh
        | exit id => exact hK _ _ hk1 hh
        | ret => exact hK _ _ hk1 hh
      · have h2 := h2 x hx
        cases hok : annOk a (L.A t) st x with
        | false => rw [hok] at h2; exact h2.elim
        | true =>
          rw [hok] at h2
          have hk1 := (Kp.hd hok).mono (l' := written (.seq a b)) (fun i hi => by simp only [written, List.mem_append]; exact .inl hi)
          exact ihb r _ _ _ (fun e st'' hk' => hK e st'' (hk1.trans (hk'.mono fun i hi => by simp only [written, List.mem_append]; exact .inr hi))) h2
  | cond c a b iha ihb =>
    intro r K K' st hK h
    simp only [sx] at h ⊢
    exact condK_mono (iha r _ _ st fun e st' hk => hK e st' (hk.mono fun i hi => by simp only [written, List.mem_append]; exact .inl hi))
      (ihb r _ _ st fun e st' hk => hK e st' (hk.mono fun i hi => by simp only [written, List.mem_append]; exact .inr hi)) h
  | block id body ih =>
    intro r K K' st hK h
    simp only [sx] at h ⊢
    refine ih r _ _ st (fun e st' hk hh => ?_) h
    cases e with
    | normal => exact hK _ _ hk hh
    | ret => exact hK _ _ hk hh
    | exit j =>
      simp only at hh ⊢
      split at hh
      · rename_i e; rw [if_pos e]; exact hK _ _ hk hh
      · rename_i e; rw [if_neg e]; exact hK _ _ hk hh
  | loop body ih =>
    intro r K K' st hK h
    simp only [sx] at h ⊢
    cases ha : annAt anns body st with
    | none => rw [ha] at h; exact unroll_mono (ih r) n K K' st hK h
    | some A =>
      rw [ha] at h
      simp only at h ⊢
      refine ⟨h.1, roundsOf_mono (g := roundAt A body (sx P C env anns n body r) K st) (g' := roundAt A body (sx P C env anns n body r) K' st) (fun t h2 => fun x hx => ?_) h.2⟩
      have h2 := h2 x hx
      cases hok : annOk body (A.A t) st x with
      | false => rw [hok] at h2; exact h2.elim
      | true =>
        rw [hok] at h2
        refine ih r _ _ _ (fun e st1 hk hh => ?_) h2
        cases e with
        | normal => exact hh
        | exit id => exact hK _ _ ((Kp.hd hok).trans hk) hh
        | ret => exact hK _ _ ((Kp.hd hok).trans hk) hh
  | rangeFunc g ps a b iha ihb =>
    intro r K K' st hK h
    cases r with
    | true => exact h
    | false =>
      simp only [sx] at h ⊢
      split at h
      · split at h
        · intro R
          refine hC _ (fun p hp => ?_) _ _ _ _ _ _ (fun v m nx hh => ?_) (h R)
          · rcases List.mem_cons.1 hp with e | hp
            · subst e
              exact yieldPT_mono (fun K K' st hK => iha true K K' st fun e st' _ => hK e st') (fun K K' st hK => ihb true K K' st fun e st' _ => hK e st')
            · exact he p hp
          · unfold rangeEnd at hh ⊢
            split at hh
            · exact hK _ _ (Kp.refl _ _) hh
            · exact hK _ _ (Kp.refl _ _) hh
            · exact hK _ _ (Kp.refl _ _) hh
            · exact hh
        · exact h
      · exact h
  | scope b ih => intro r K K' st hK h; simp only [sx] at h ⊢; exact ih r K K' st hK h
  | goto l => intro r K K' st hK h; exact h
  | refuse w => intro r K K' st hK h; exact h
/-! ### Sound -/
theorem condK_sound {E : Nat → Nat} {st : St} {a : Act} (ht : TmpsOk E st.tmps a) {c : Operand} {t f : VC} (h : (condK (ev st.tmps c) t f).holds) : ∃ b, a.eval c = .bool b ∧ (if b then t else f).holds := by
  unfold condK at h
  split at h
  · rename_i b hb
    have := ht.reads _ _ hb
    refine ⟨b, by rw [this]; rfl, ?_⟩
    cases b
    · exact h
    · exact h
  · rename_i b hb
    have := ht.reads _ _ hb
    rw [fork_iff] at h
    refine ⟨b, by rw [this]; rfl, ?_⟩
    cases b
    · exact h
    · exact h
  · exact h.elim
theorem unroll_sound {body : Code} {f : XK → St → VC} {Γ : Base} {ro : Option Nat}
    (hf : ∀ (K : XK) st E a w, (f K st).holds → Sat Γ E st a w → body.wpIn (Fr ro) 0 P (BehindX K Γ E st.nx) a w) : ∀ (n : Nat) (K : XK) (st : St) (E : Nat → Nat) (a : Act) (w : World),
    (unroll n f K st).holds → Sat Γ E st a w → ∀ (b : Frame) (k : List Item) (cs : List Frame), b.roundOf = (Fr ro).round → (Fr ro).fn b.fn → (Fr ro).room (cs.length + 1 + 0) → ∃ e a' w', BehindX K Γ E st.nx e a' w' ∧ ArrivesIn (Machine.fenced P (Fr ro)) P (lone (b.atR a (.code body :: .inLoop body :: k)) cs w) b k cs e a' w'
  | 0, _, _, _, _, _, h, _, _, _, _, _, _, _ => h.elim
  | n + 1, K, st, E, a, w, h, hs, b, k, cs, hro, hb, hr => by
    simp only [unroll] at h
    obtain ⟨e, a1, w1, hq, harr⟩ := hf _ st E a w h hs b (.inLoop body :: k) cs hro hb hr
    obtain ⟨ex, rfl, E1, st1, g1, g2, g3, g4⟩ := hq
    cases ex with
    | normal =>
      obtain ⟨e2, a2, w2, hq2, harr2⟩ := unroll_sound hf n K st1 E1 a1 w1 g4 g3 b k cs hro hb hr
      exact ⟨e2, a2, w2, hq2.weaken g1 g2, .of_steps (StepsIn.trans harr (.one (fenced_calm hb hr rfl) stepR_inLoop)) harr2⟩
    | exit id => exact ⟨_, a1, w1, ⟨.exit id, rfl, E1, st1, g1, g2, g3, g4⟩, .pass (x := .inLoop body) rfl (fun _ _ => .inl (by simp [Ex.to])) harr⟩
    | ret => exact ⟨_, a1, w1, ⟨.ret, rfl, E1, st1, g1, g2, g3, g4⟩, .pass (x := .inLoop body) rfl (fun _ _ => .inl (by simp [Ex.to])) harr⟩
theorem sx_sound (hmix : P.follows .mixedOrders = true) (hC : CallingOk P C) (hem : ∀ p ∈ env, MonoPT p.2) : ∀ (c : Code) (r : Bool) (ro : Option Nat), (r = false → ro = none) → ∀ (Γ : Base), (∀ p ∈ env, COk P Γ (.yield p.1) p.2) →
    ∀ (K : XK) (st : St) (E : Nat → Nat) (a : Act) (w : World),
    (sx P C env anns n c r K st).holds → Sat Γ E st a w → c.wpIn (Fr ro) 0 P (BehindX K Γ E st.nx) a w := by
  have hm := hC.mono env hem
  intro c
  induction c with
  | skip => intro r ro hrr Γ hek K st E a w h hs; exact wpIn_skip ⟨.normal, rfl, E, st, fun _ _ => rfl, Nat.le_refl _, hs, h⟩
  | label l => intro r ro hrr Γ hek K st E a w h hs; exact wpIn_label ⟨.normal, rfl, E, st, fun _ _ => rfl, Nat.le_refl _, hs, h⟩
  | exit id => intro r ro hrr Γ hek K st E a w h hs; exact wpIn_exit ⟨.exit id, rfl, E, st, fun _ _ => rfl, Nat.le_refl _, hs, h⟩
  | ret => intro r ro hrr Γ hek K st E a w h hs; exact wpIn_ret ⟨.ret, rfl, E, st, fun _ _ => rfl, Nat.le_refl _, hs, h⟩
  | region id ops d =>
    intro r ro hrr Γ hek K st E a w h hs
    simp only [sx] at h
    cases d with
    | true => exact draw_sound hmix hm (hC.ok Γ env hem hek) h hs fun a w hb => ⟨.normal, rfl, hb⟩
    | false => exact wpIn_region (seqOps_sound (hC.ok Γ env hem hek) _ h hs fun a w hb => ⟨.normal, rfl, hb⟩)
  | seq x y ihx ihy =>
    intro r ro hrr Γ hek K st E a w h hs
    simp only [sx] at h
    cases hj : joinAt anns x st
    · rw [hj] at h
      simp only at h
      refine wpIn_seq (wpIn_mono (ihx r ro hrr Γ hek _ st E a w h hs) ?_)
      rintro e a1 w1 ⟨ex, rfl, E1, st1, g1, g2, g3, g4⟩
      cases ex with
      | normal => exact wpIn_mono (ihy r ro hrr Γ hek K st1 E1 a1 w1 g4 g3) fun e a2 w2 hb => hb.weaken g1 g2
      | exit id => exact ⟨.exit id, rfl, E1, st1, g1, g2, g3, g4⟩
      | ret => exact ⟨.ret, rfl, E1, st1, g1, g2, g3, g4⟩
    · rename_i L
      rw [hj] at h
      simp only at h
      obtain ⟨h1, h2⟩ := h
      have hx := sx_mono hC.mono hem x r _ (fun e st1 => .and (.atom (Kp (written x) st.tmps st1.tmps)) (match e with
        | .normal => entry L x st st1
        | e => K e st1)) st (fun e st1 hk hh => ⟨hk, by cases e <;> exact hh⟩) h1
      refine wpIn_seq (wpIn_mono (ihx r ro hrr Γ hek _ st E a w hx hs) ?_)
      rintro e a1 w1 ⟨ex, rfl, E1, st1, g1, g2, g3, hkp, g4⟩
      have hkp : Kp (written x) st.tmps st1.tmps := hkp
      cases ex with
      | normal =>
        have g4 : (entry L x st st1).holds := g4
        unfold entry at g4
        obtain ⟨ht, y0, hy0, hat⟩ := pickTag_iff g4
        obtain ⟨E', q1, q2⟩ := atHead_sound hat hs.mm.cx.1 hs.wt hkp.get hkp.len g3
        have hr := roundsOf_mem h2 _ ht y0 hy0
        have hok : annOk x (L.A (L.tag st1)) st y0 = true := by
          unfold atHead at hat
          split at hat
          · rename_i h'; exact h'
          · exact hat.elim
        rw [hok] at hr
        exact wpIn_mono (ihy r ro hrr Γ hek K _ E' a1 w1 hr q2) fun e a2 w2 hb => hb.weaken (fun k hk => (q1 k hk).trans (g1 k hk)) (Nat.le_add_right _ _)
      | exit id => exact ⟨.exit id, rfl, E1, st1, g1, g2, g3, g4⟩
      | ret => exact ⟨.ret, rfl, E1, st1, g1, g2, g3, g4⟩
  | cond c x y ihx ihy =>
    intro r ro hrr Γ hek K st E a w h hs
    simp only [sx] at h
    obtain ⟨b, hb, hk⟩ := condK_sound hs.tm h
    refine wpIn_cond hb ?_
    cases b
    · exact ihy r ro hrr Γ hek K st E a w hk hs
    · exact ihx r ro hrr Γ hek K st E a w hk hs
  | block id body ih =>
    intro r ro hrr Γ hek K st E a w h hs
    simp only [sx] at h
    refine wpIn_block (wpIn_mono (ih r ro hrr Γ hek _ st E a w h hs) ?_)
    rintro e a1 w1 ⟨ex, rfl, E1, st1, g1, g2, g3, g4⟩
    cases ex with
    | normal => exact ⟨.normal, rfl, E1, st1, g1, g2, g3, g4⟩
    | ret => exact ⟨.ret, rfl, E1, st1, g1, g2, g3, g4⟩
    | exit j =>
      simp only [Ex.to, Exit.inBlock]
      simp only at g4
      split
      · rename_i e; rw [if_pos e] at g4; exact ⟨.normal, rfl, E1, st1, g1, g2, g3, g4⟩
      · rename_i e; rw [if_neg e] at g4; exact ⟨.exit j, rfl, E1, st1, g1, g2, g3, g4⟩
  | loop body ih =>
    intro r ro hrr Γ hek K st E a w h hs
    simp only [sx] at h
    cases ha : annAt anns body st with
    | none =>
      rw [ha] at h
      intro b k cs hro hb hr
      obtain ⟨e, a', w', hq, harr⟩ := unroll_sound (fun K st E a w h hs => ih r ro hrr Γ hek K st E a w h hs) n K st E a w h hs b k cs hro hb hr
      exact ⟨e, a', w', hq, .of_steps (.one (fenced_calm hb hr rfl) stepR_loop) harr⟩
    | some L =>
      rw [ha] at h
      simp only at h
      obtain ⟨hent, hrounds⟩ := h
      have hent : (entry L body st st).holds := hent
      -- the invariant
      let Inv := fun (t : Nat) (x : (L.A t).α) (a : Act) (w : World) => t ∈ L.tags ∧ (L.A t).pre st x ∧ annOk body (L.A t) st x = true ∧ ∃ E', (∀ k, k < st.nx → E' k = E k) ∧ Sat Γ E' (hd body (L.A t) st x) a w
      have hok : ∀ {A : LoopAnn} {y : A.α} {st1}, (atHead body A st y st1).holds → annOk body A st y = true := by
        intro A y st1 h
        unfold atHead at h
        split at h
        · rename_i h'; exact h'
        · exact h.elim
      have hent2 : ∃ t x, Inv t x a w := by
        unfold entry at hent
        obtain ⟨ht, x0, hx0, hat0⟩ := pickTag_iff hent
        obtain ⟨E', g1, g2⟩ := atHead_sound hat0 hs.mm.cx.1 hs.wt (fun i _ => rfl) rfl hs
        exact ⟨L.tag st, x0, ht, hx0, hok hat0, E', g1, g2⟩
      obtain ⟨t0, x0, hinv0⟩ := hent2
      intro b k cs hro hb hr
      have key : ∀ (N : Nat) (t : Nat) (x : (L.A t).α) a w, (L.A t).mea st x = N → Inv t x a w → ∃ e a' w', BehindX K Γ E st.nx e a' w' ∧ ArrivesIn (Machine.fenced P (Fr ro)) P (lone (b.atR a (.code body :: .inLoop body :: k)) cs w) b k cs e a' w' := by
        intro N
        induction N using Nat.strongRecOn with
        | _ N ihN =>
          intro t x a w hN ⟨ht, hx, hokx, E1, hE1, hs1⟩
          have hrd := roundsOf_mem hrounds t ht x hx
          rw [hokx] at hrd
          have hr2 := sx_mono hC.mono hem body r _ (fun e st1 => .and (.atom (Kp (written body) (hd body (L.A t) st x).tmps st1.tmps)) (match e with
            | .normal => backTo L body st ((L.A t).mea st x) st1
            | e => K e st1)) (hd body (L.A t) st x) (fun e st1 hk hh => ⟨hk, by cases e <;> exact hh⟩) hrd
          obtain ⟨e, a1, w1, hq, harr⟩ := ih r ro hrr Γ hek _ _ E1 a w hr2 hs1 b (.inLoop body :: k) cs hro hb hr
          obtain ⟨ex, rfl, E2, st1, g1, g2, g3, g4⟩ := hq
          have hE2 : ∀ k, k < st.nx → E2 k = E k := fun k hk => (g1 k (Nat.lt_of_lt_of_le hk (Nat.le_add_right _ _))).trans (hE1 k hk)
          have hn2 : st.nx ≤ st1.nx := Nat.le_trans (Nat.le_add_right _ _) g2
          obtain ⟨hkp, g4⟩ := g4
          have hkp : Kp (written body) (hd body (L.A t) st x).tmps st1.tmps := hkp
          cases ex with
          | normal =>
            have g4 : (backTo L body st ((L.A t).mea st x) st1).holds := g4
            unfold backTo at g4
            obtain ⟨ht1, y, ⟨hy, hlt⟩, hat⟩ := pickTag_iff g4
            have hkp2 := (Kp.hd hokx).trans hkp
            obtain ⟨E3, q1, q2⟩ := atHead_sound hat hs.mm.cx.1 hs.wt hkp2.get hkp2.len g3
            have hinv : Inv (L.tag st1) y a1 w1 := ⟨ht1, hy, hok hat, E3, fun k hk => (q1 k hk).trans (hE2 k hk), q2⟩
            obtain ⟨e2, a2, w2, hq2, harr2⟩ := ihN ((L.A (L.tag st1)).mea st y) (hN ▸ hlt) (L.tag st1) y a1 w1 rfl hinv
            exact ⟨e2, a2, w2, hq2, .of_steps (StepsIn.trans harr (.one (fenced_calm hb hr rfl) stepR_inLoop)) harr2⟩
          | exit id => exact ⟨_, a1, w1, ⟨.exit id, rfl, E2, st1, hE2, hn2, g3, g4⟩, .pass (x := .inLoop body) rfl (fun _ _ => .inl (by simp [Ex.to])) harr⟩
          | ret => exact ⟨_, a1, w1, ⟨.ret, rfl, E2, st1, hE2, hn2, g3, g4⟩, .pass (x := .inLoop body) rfl (fun _ _ => .inl (by simp [Ex.to])) harr⟩
      obtain ⟨e, a', w', hq, harr⟩ := key _ t0 x0 a w rfl hinv0
      exact ⟨e, a', w', hq, .of_steps (.one (fenced_calm hb hr rfl) stepR_loop) harr⟩
  | rangeFunc g ps assign body iha ihb =>
    intro r ro hrr Γ hek K st E a w h hs
    cases r with
    | true => exact h.elim
    | false =>
      have hro := hrr rfl
      subst hro
      simp only [sx] at h
      split at h
      · rename_i f first captured hg hwf
        split at h
        · rename_i hbd
          refine wpIn_rangeFunc fun fn _ => ?_
          have hgv : a.eval g = (SV.func (.func f) first captured).val E := hs.tm.reads _ _ hg
          have hgw := TmpsOk.wf hs.wt _ _ hg
          simp only [SV.wf, Bool.and_eq_true] at hgw
          obtain ⟨Ds, d1, d2, d3⟩ := hs.df
          obtain ⟨Δ, hle, hkeep, hnx, hE0, hsm⟩ := hs.mm.enter hwf (R := { state := .ready, pending := none, fn, tmps := a.tmps, params := ps, assign, body, defers := w.heap.size }) rfl rfl (fun D hD => (d3 D hD).1)
          have hEk : ∀ k, k < st.nx → Δ.E0 k = E k := fun k hk => by rw [hE0]; simp [Nat.ne_of_lt hk]
          have hEn : Δ.E0 st.nx = w.heap.size + 1 := by rw [hE0]; simp
          generalize hw1 : (w.alloc (Obj.deferred (some []))).alloc (.loop { state := .ready, pending := none, fn, tmps := a.tmps, params := ps, assign, body, defers := w.heap.size }) = w1 at hsm
          refine ⟨w.heap.size + 1, [markOf w.heap.size], w1, { target := .fn (.func f) (SV.vals Δ.E0 captured).toArray, args := (SV.vals Δ.E0 (first ++ [.yield st.nx])).toArray }, w1, f,
            (SV.vals Δ.E0 (first ++ [.yield st.nx] ++ captured)).toArray, w1, by rw [← hw1]; exact run_enterLoop_outer _ _ _ _ _, ?_, fun _ _ => trivial, ?_, fun h => (by cases h), ?_⟩
          · have hc1 : SV.vals Δ.E0 captured = SV.vals E captured := SV.vals_congr hEk captured hgw.2
            have hc2 : SV.vals Δ.E0 first = SV.vals E first := SV.vals_congr hEk first hgw.1
            simp only [resolve, hgv, SV.val, Deferred.ofValue, Sem.run_pure]
            rw [vals_append, hc1, hc2]
            simp [SV.vals, SV.val, hEn, Act.eval]
          · simp only [invoke]
            have := hC.bd f hbd (SV.vals Δ.E0 (first ++ [.yield st.nx] ++ captured)).toArray w1
            rw [show (SV.vals Δ.E0 (first ++ [SV.yield st.nx])).toArray ++ (SV.vals Δ.E0 captured).toArray = (SV.vals Δ.E0 (first ++ [.yield st.nx] ++ captured)).toArray by rw [vals_append Δ.E0 (first ++ [SV.yield st.nx]) captured]; simp only [List.append_toArray]]
            exact this
          · refine callsIn_fr.2 ?_
            have hek2 : ∀ p ∈ (st.nx, yieldPT st.nx { state := .ready, pending := none, fn, tmps := a.tmps, params := ps, assign, body, defers := w.heap.size } ps.toList st.tmps (sx P C env anns n assign true) (sx P C env anns n body true)) :: env, COk P Δ (.yield p.1) p.2 := by
              intro p hp
              rcases List.mem_cons.1 hp with e | hp
              · subst e
                exact yieldPT_ok (Γ := Δ) (R := { state := .ready, pending := none, fn, tmps := a.tmps, params := ps, assign, body, defers := w.heap.size }) (by omega) hEn hEk ⟨hs.tm.size, hs.tm.val⟩ hs.wt
                  (fun Θ hΘ K st E a w h hs => iha true _ (fun h => by cases h) Θ (fun p hp => (hek p hp).mono (Base.le_trans hle hΘ)) K st E a w h hs)
                  (fun Θ hΘ K st E a w h hs => ihb true _ (fun h => by cases h) Θ (fun p hp => (hek p hp).mono (Base.le_trans hle hΘ)) K st E a w h hs)
              · exact (hek p hp).mono hle
            have hem2 : ∀ p ∈ (st.nx, yieldPT st.nx { state := .ready, pending := none, fn, tmps := a.tmps, params := ps, assign, body, defers := w.heap.size } ps.toList st.tmps (sx P C env anns n assign true) (sx P C env anns n body true)) :: env, MonoPT p.2 := by
              intro p hp
              rcases List.mem_cons.1 hp with e | hp
              · subst e
                exact yieldPT_mono (fun K K' st hK => sx_mono hC.mono hem assign true K K' st fun e st' _ => hK e st') (fun K K' st hK => sx_mono hC.mono hem body true K K' st fun e st' _ => hK e st')
              · exact hem p hp
            have hcall := hC.ok Δ _ hem2 hek2 (.fn f) Δ Δ.le_refl _ _ _ _ (h _) (by
                simp only [Mem.wf, Bool.and_eq_true]
                exact ⟨rfl, Mem.wf_mono (Nat.le_succ _) hwf⟩) (by
                refine wfs_append (wfs_append (SV.wfs_mono (Nat.le_succ _) _ hgw.1) ?_) (SV.wfs_mono (Nat.le_succ _) _ hgw.2)
                simp [SV.wfs, SV.wf]) _ _ hsm
            simp only [Cal.sem] at hcall
            rw [hC.bd f hbd] at hcall
            refine Calls.mono hcall ?_
            rintro e w3 ⟨v, rfl, haft⟩
            obtain ⟨E3, sv, m3, nx3, q1, q2, _, q4, q5⟩ := haft
            have hEe : ∀ k, k < st.nx → E3 k = E k := fun k hk => (q1 k (Nat.lt_succ_of_lt hk)).trans (hEk k hk)
            have hEl : E3 st.nx = w.heap.size + 1 := (q1 st.nx (Nat.lt_succ_self _)).trans hEn
            have hnn : st.nx ≤ nx3 := Nat.le_trans (Nat.le_succ _) q2
            cases sv with
            | none => exact q5.elim
            | some u =>
              simp only [lift] at q5
              have fin : ∀ stt pe R3, m3.get st.nx = some (.loop stt pe R3) → stt ≠ .busy → ∃ w4, (Instr.endLoop (w.heap.size + 1)).run P w3 = .ok pe w4 ∧
                  Sat Γ E3 ⟨st.tmps, m3.drop st.nx, nx3⟩ { a with defers := [markOf w.heap.size] ++ a.defers } w4 := by
                intro stt pe R3 hk hb
                obtain ⟨o, ho, hbk⟩ := q4.blk st.nx _ hk rfl
                have hbk : o = .loop { R3 with state := stt, pending := pe } := hbk
                subst hbk
                rw [hEl] at ho
                refine ⟨_, run_endLoop ho hb, ?_⟩
                have hl := q4.leave (st' := .exhausted) (pe' := pe) hk
                rw [hEl] at hl
                refine ⟨⟨hs.tm.size, fun i v hv => (hs.tm.congr hs.wt hEe).val i v hv⟩, wfTmps_mono hnn hs.wt, ?_, hl.weaken hle⟩
                refine ⟨w.heap.size :: Ds, by simp [d1], ?_, fun D hD => ?_⟩
                · refine List.nodup_cons.2 ⟨fun hm => ?_, d2⟩
                  have := (Array.getElem?_eq_some_iff.1 (d3 _ hm).1).1
                  omega
                · refine ⟨hl.kp D (hkeep D (by rcases List.mem_cons.1 hD with e | e; subst e; simp; simp [e])), ?_⟩
                  rcases List.mem_cons.1 hD with e | e
                  · subst e
                    refine ⟨fun hm => ?_, hs.mm.ext.size⟩
                    have := (Array.getElem?_eq_some_iff.1 (hs.mm.kp _ hm)).1
                    omega
                  · exact (d3 D e).2
              unfold rangeEnd at q5
              split at q5
              · rename_i R3 hk
                obtain ⟨w4, hw4, hsat⟩ := fin _ _ _ hk (by simp)
                exact ⟨_, w4, hw4, .normal, rfl, E3, _, hEe, hnn, hsat, q5⟩
              · rename_i R3 hk
                obtain ⟨w4, hw4, hsat⟩ := fin _ _ _ hk (by simp)
                exact ⟨_, w4, hw4, wpIn_ret ⟨.ret, rfl, E3, _, hEe, hnn, hsat, q5⟩⟩
              · rename_i id R3 hk
                obtain ⟨w4, hw4, hsat⟩ := fin _ _ _ hk (by simp)
                exact ⟨_, w4, hw4, wpIn_exit ⟨.exit id, rfl, E3, _, hEe, hnn, hsat, q5⟩⟩
              · exact q5.elim
        · exact h.elim
      · exact h.elim
  | scope b ih =>
    intro r ro hrr Γ hek K st E a w h hs
    simp only [sx] at h
    refine wpIn_scope_straight (wpIn_mono (ih r ro hrr Γ hek K st E a w h hs) ?_)
    rintro e a1 w1 ⟨ex, rfl, hb⟩
    cases ex <;> exact ⟨_, rfl, hb⟩
  | goto l => intro r ro hrr Γ hek K st E a w h; exact h.elim
  | refuse w => intro r ro hrr Γ hek K st E a w h; exact h.elim
end
end
end Go.Proofs.YtkfdcapnogklfaaGreatDoor.Sx
/-
  The framework's eighteenth part: functions; what a run of the executor says of a call.
-/
namespace Go.Proofs.YtkfdcapnogklfaaGreatDoor.Sx
open Go
noncomputable section
def resOne (P : Program) (st : St) : ResultVar → Option SV
  | .tmp t => slot st.tmps t
  | .cell a t => (match slot st.tmps a with
    | some (.ptr key true o) => (match st.m.get key with
      | some (.cells cs _ _) => partOf P t cs o
      | _ => none)
    | _ => none)
def resAll (P : Program) (st : St) : List ResultVar → Option (List SV)
  | [] => some []
  | r :: rs => match resOne P st r, resAll P st rs with
    | some v, some l => some (v :: l)
    | _, _ => none
def resVal : List SV → SV
  | [v] => v
  | l => .tup l
def runFn (P : Program) (C : Calling) (env : Env) (anns : Anns) (n : Nat) (fn : Func) : PT := fun args m nx K =>
  match fn.body with
  | some body => sx P C env anns n body false (fun e st => match e with
      | .exit _ => .fail "a jump out of a function"
      | _ => (match resAll P st fn.results.toList with
        | some vs => retK nx (resVal vs) st.m st.nx K
        | none => .fail "a result that is not known"))
      ⟨args.map some ++ List.replicate (fn.ntmps - args.length) none, m, nx⟩
  | none => .fail "a function without a body"
structure Cfg where
  summ : FuncId → Option PT
  fns : FuncId → Option Func
  anns : FuncId → Anns
  rounds : Nat
def Cfg.bd (cfg : Cfg) (f : FuncId) : Bool := match cfg.fns f with
  | some fn => fn.body.isSome
  | none => false
def callOf (P : Program) (cfg : Cfg) : Nat → Env → Cal → PT
  | _, env, .yield k => (match env.find k with
    | some pt => pt
    | none => fun _ _ _ _ => .fail "a yield that is not known")
  | 0, _, .fn _ => fun _ _ _ _ => .fail "calls too deep"
  | n + 1, env, .fn f => match cfg.summ f with
    | some pt => pt
    | none => (match cfg.fns f with
      | some fn => runFn P ⟨callOf P cfg n, cfg.bd⟩ env (cfg.anns f) cfg.rounds fn
      | none => fun _ _ _ _ => .fail "a function that is not known")
def calling (P : Program) (cfg : Cfg) (n : Nat) : Calling := ⟨callOf P cfg n, cfg.bd⟩
structure Good (P : Program) (cfg : Cfg) : Prop where
  mix : P.follows .mixedOrders = true
  summ : ∀ f pt, cfg.summ f = some pt → CallOk P f pt ∧ MonoPT pt
  fns : ∀ f fn, cfg.fns f = some fn → P.funcs[f]? = some fn ∧ (fn.name == "runtime.NumGoroutine") = false
section
variable {P : Program}
theorem resOne_run {Γ : Base} {E : Nat → Nat} {st : St} {a : Act} {w : World} (hs : Sat Γ E st a w) {r : ResultVar} {v : SV} (h : resOne P st r = some v) :
    (match r with
      | .tmp t => (pure (a.tmps.getD t undef) : Sem Value)
      | .cell b t => do loadVar t (← asAddr (a.tmps.getD b undef))).run P w = .ok (v.val E) w := by
  cases r with
  | tmp t =>
    have := hs.tm.val t v (slot_eq h)
    simp [Array.getD_eq_getD_getElem?, this]
  | cell b t =>
    simp only [resOne] at h
    split at h
    · rename_i key o hb
      split at h
      · rename_i cs tot ty hk
        have hv := hs.tm.val b _ (slot_eq hb)
        obtain ⟨ob, ho, c, fr, rfl, _, h2, _⟩ := hs.mm.blk key _ hk rfl
        simp only [Array.getD_eq_getD_getElem?, hv, Option.getD_some, SV.val, asAddr, Sem.run_bind, Sem.run_pure, Result.andThen_ok]
        unfold partOf at h
        split at h
        · cases h
        · rename_i d hd
          split at h
          · rename_i ha
            split at h
            · rename_i n hn
              split at h
              · rename_i l hl
                injection h with h; subst h
                have hg := takeAt_get hl
                have hll := run_loadCells (P := P) ho o (l.map (SV.val E)) (fun j v hj => by
                  rw [List.getElem?_map] at hj
                  cases hjl : l[j]? with
                  | none => rw [hjl] at hj; cases hj
                  | some u => rw [hjl] at hj; injection hj with hj; subst hj; exact h2 _ _ (hg.2 j u hjl))
                rw [List.length_map, hg.1] at hll
                simp only [loadVar, Sem.run_bind, run_isAgg hd, ha, Result.andThen_ok, if_true, run_sz hn, hll, Sem.run_pure, SV.vals_eq, SV.val]
              · cases h
            · cases h
          · rename_i ha
            simp only [loadVar, Sem.run_bind, run_isAgg hd, ha, Result.andThen_ok, Bool.false_eq_true, if_false, run_load, cell_of ho, h2 _ _ h]
      · cases h
    · cases h
theorem resAll_run {Γ : Base} {E : Nat → Nat} {st : St} {a : Act} {w : World} (hs : Sat Γ E st a w) : ∀ {rs : List ResultVar} {l : List SV}, resAll P st rs = some l →
    (rs.mapM (fun r => match r with
      | .tmp t => (pure (a.tmps.getD t undef) : Sem Value)
      | .cell b t => do loadVar t (← asAddr (a.tmps.getD b undef))) : Sem (List Value)).run P w = .ok (SV.vals E l) w
  | [], l, h => by simp [resAll] at h; subst h; simp [SV.vals]
  | r :: rs, l, h => by
    simp only [resAll] at h
    split at h
    · rename_i v l' hv hl
      injection h with h; subst h
      simp only [List.mapM_cons, Sem.run_bind, resOne_run hs hv, Result.andThen_ok, resAll_run hs hl, Sem.run_pure, SV.vals]
    · cases h
theorem results_run {Γ : Base} {E : Nat → Nat} {st : St} {a : Act} {w : World} (hs : Sat Γ E st a w) {fn : Func} {vs : List SV} (h : resAll P st fn.results.toList = some vs) :
    (results fn a.tmps).run P w = .ok ((resVal vs).val E) w := by
  have := resAll_run (P := P) hs h
  unfold results
  rw [Array.mapM_eq_mapM_toList]
  simp only [Sem.run_bind, Sem.run_map]
  have key : ∀ r : Result (List Value), r = .ok (SV.vals E vs) w → ((r.andThen fun a w' => Result.ok a.toArray w').andThen fun a w' => Sem.run P (pure (if h : a.size = 1 then a[0] else Value.tuple a)) w') = Result.ok ((resVal vs).val E) w := by
    rintro r rfl
    simp only [Result.andThen_ok, Sem.run_pure]
    congr 1
    match vs with
    | [] => rfl
    | [v] => rfl
    | _ :: _ :: _ => simp [SV.vals, resVal, SV.val]
  exact key _ this
theorem callFunc_run {f : FuncId} {fn : Func} (hf : P.funcs[f]? = some fn) (hn : (fn.name == "runtime.NumGoroutine") = false) {body : Code} (hb : fn.body = some body) (args : Array Value) (w : World) :
    (callFunc f args).run P w = .ok (.enter f args) w := by
  simp only [callFunc, Sem.run_bind, run_program, Result.andThen_ok, hf, hn, hb]
  rfl
theorem SatM.shut {Γ : Base} {E : Nat → Nat} {m : Mem} {nx : Nat} {w : World} (h : SatM Γ E m nx w) {D : Nat} {ds : Option (List Deferred)} (hd : w.heap[D]? = some (.deferred ds)) (hk : D ∉ Γ.keep) (hD : Γ.w0.heap.size ≤ D) (o : Obj) :
    SatM Γ E m nx (w.putObj D o) := by
  refine ⟨fun k B hm hn => ?_, h.inj, h.lt, h.own, ⟨h.ext.os, h.ext.tape, h.ext.output, by simpa using h.ext.size, fun k hk' hm => ?_⟩, h.cx, fun D' hD' => ?_⟩
  · obtain ⟨o', ho, hb⟩ := h.blk k B hm hn
    refine ⟨o', ?_, hb⟩
    rw [World.putObj_heap_other (fun e => ?_)]
    · exact ho
    · rw [e, hd] at ho
      injection ho with ho
      exact hb.not_mark _ ho.symm
  · rw [World.putObj_heap_other (by omega)]; exact h.ext.block k hk' hm
  · rw [World.putObj_heap_other (fun e => hk (by rw [← e]; exact hD'))]; exact h.kp D' hD'
theorem leaves_marks {fn : Func} {Γ : Base} {E E0 : Nat → Nat} {st : St} {tmps : Array Value} {vs : List SV} (hvs : resAll P st fn.results.toList = some vs) (htm : TmpsOk E st.tmps ⟨tmps, []⟩) (hwt : wfTmps st.nx st.tmps = true)
    {nx : Nat} {K : SV → Mem → Nat → VC} (hk : (retK nx (resVal vs) st.m st.nx K).holds) (hnx0 : Γ.nx0 ≤ nx) (hE : ∀ k, k < nx → E k = E0 k) (hn : nx ≤ st.nx) : ∀ (Ds : List Nat) (w : World), Ds.Nodup →
    (∀ D ∈ Ds, w.heap[D]? = some (.deferred (some [])) ∧ D ∉ Γ.keep ∧ Γ.w0.heap.size ≤ D) → SatM Γ E st.m st.nx w →
    LeavesInM Fence.wide 0 P fn tmps (fun e w' => ∃ v, e = .returned v ∧ After (lift K) Γ E0 nx v w') (Ds.map markOf) .returning w
  | [], w, _, _, hm => ⟨_, results_run ⟨htm, hwt, Marks.nil _ _, hm⟩ hvs, _, rfl, retK_after hk hm hnx0 hE hn⟩
  | D :: Ds, w, hnd, hD, hm => by
    obtain ⟨h1, h2, h3⟩ := hD D (by simp)
    rw [List.nodup_cons] at hnd
    refine ⟨by simp, .inl ⟨D, _, rfl, run_takeDeferred h1, leaves_marks hvs htm hwt hk hnx0 hE hn Ds _ hnd.2 (fun D' hD' => ?_) (hm.shut h1 h2 h3 _)⟩⟩
    obtain ⟨g1, g2⟩ := hD D' (by simp [hD'])
    exact ⟨by rw [World.putObj_heap_other (fun e => hnd.1 (by rw [← e]; exact hD'))]; exact g1, g2⟩
theorem runFn_ok {C : Calling} {env : Env} (hmix : P.follows .mixedOrders = true) (hC : CallingOk P C) (hem : ∀ p ∈ env, MonoPT p.2) {Γ : Base} (hek : ∀ p ∈ env, COk P Γ (.yield p.1) p.2) {anns : Anns} {n : Nat} {f : FuncId} {fn : Func} (hf : P.funcs[f]? = some fn)
    (hname : (fn.name == "runtime.NumGoroutine") = false) : COk P Γ (.fn f) (runFn P C env anns n fn) := by
  intro Δ hle args m nx K h hwf hargs E w hs
  unfold runFn at h
  split at h
  · rename_i body hb
    simp only [Cal.sem]
    rw [callFunc_run hf hname hb]
    simp only [Out]
    have hsize : (SV.vals E args).toArray.size = args.length := by simp [SV.vals_eq]
    refine callsIn_wide.1 (callsIn_of_wp_marks (F := Fence.wide) (n := 0) hf hb trivial ?_)
    have hsat : Sat Δ E ⟨args.map some ++ List.replicate (fn.ntmps - args.length) none, m, nx⟩ ⟨(SV.vals E args).toArray ++ Array.replicate (fn.ntmps - (SV.vals E args).toArray.size) undef, []⟩ w := by
      refine ⟨⟨by simp [SV.vals_eq], fun i v hv => ?_⟩, wfTmps_of fun i v hv => ?_, Marks.nil _ _, hs⟩
      · rw [List.getElem?_append] at hv
        rw [Array.getElem?_append]
        split at hv
        · rename_i hlt
          rw [List.length_map] at hlt
          rw [if_pos (by rw [hsize]; exact hlt)]
          rw [List.getElem?_map] at hv
          rw [List.getElem?_toArray, SV.vals_eq, List.getElem?_map]
          cases ha : args[i]? with
          | none => rw [ha] at hv; cases hv
          | some u => rw [ha] at hv; injection hv with hv; injection hv with hv; subst hv; rfl
        · rw [List.getElem?_replicate] at hv
          split at hv <;> cases hv
      · rw [List.getElem?_append] at hv
        split at hv
        · rw [List.getElem?_map] at hv
          cases ha : args[i]? with
          | none => rw [ha] at hv; cases hv
          | some u => rw [ha] at hv; injection hv with hv; injection hv with hv; subst hv; exact SV.wfs_get hargs ha
        · rw [List.getElem?_replicate] at hv
          split at hv <;> cases hv
    refine wpIn_mono (sx_sound hmix hC hem body false none (fun _ => rfl) Δ (fun p hp => (hek p hp).mono hle) _ _ E _ w h hsat) (fun e a' w' hq => ?_)
    obtain ⟨ex, rfl, E', st', g1, g2, g3, g4⟩ := hq
    obtain ⟨Ds, d1, d2, d3⟩ := g3.df
    have fin : ∀ vs, resAll P st' fn.results.toList = some vs → (retK nx (resVal vs) st'.m st'.nx K).holds →
        LeavesInM Fence.wide 0 P fn a'.tmps (fun e w' => ∃ v, e = .returned v ∧ After (lift K) Δ E nx v w') a'.defers .returning w' := by
      intro vs hvs hk
      rw [d1]
      exact leaves_marks hvs ⟨g3.tm.size, g3.tm.val⟩ g3.wt hk hs.cx.1 g1 g2 Ds w' d2 d3 g3.mm
    cases ex with
    | exit id => exact g4.elim
    | normal =>
      simp only at g4
      cases hvs : resAll P st' fn.results.toList with
      | none => rw [hvs] at g4; exact g4.elim
      | some vs => rw [hvs] at g4; exact fin vs hvs g4
    | ret =>
      simp only at g4
      cases hvs : resAll P st' fn.results.toList with
      | none => rw [hvs] at g4; exact g4.elim
      | some vs => rw [hvs] at g4; exact fin vs hvs g4
  · exact h.elim
theorem runFn_mono {C : Calling} {env : Env} (hC : ∀ env, (∀ p ∈ env, MonoPT p.2) → ∀ c, MonoPT (C.callE env c)) (hem : ∀ p ∈ env, MonoPT p.2) {anns : Anns} {n : Nat} {fn : Func} : MonoPT (runFn P C env anns n fn) := by
  intro args m nx K K' hK h
  unfold runFn at h ⊢
  split at h
  · refine sx_mono hC hem _ _ _ _ _ (fun e st' _ hh => ?_) h
    cases e with
    | exit id => exact hh
    | normal =>
      simp only at hh ⊢
      cases hvs : resAll P st' fn.results.toList with
      | none => rw [hvs] at hh; exact hh
      | some vs => rw [hvs] at hh; exact retK_mono hK hh
    | ret =>
      simp only at hh ⊢
      cases hvs : resAll P st' fn.results.toList with
      | none => rw [hvs] at hh; exact hh
      | some vs => rw [hvs] at hh; exact retK_mono hK hh
  · exact h
theorem Env.find_mem {env : Env} {k : Nat} {pt : PT} (h : env.find k = some pt) : (k, pt) ∈ env := by
  induction env with
  | nil => cases h
  | cons e r ih =>
    unfold Env.find at h
    split at h
    · rename_i he
      injection h with h
      obtain ⟨a, b⟩ := e
      simp only at he h
      subst he; subst h; simp
    · exact List.mem_cons_of_mem _ (ih h)
theorem callOf_ok {cfg : Cfg} (hg : Good P cfg) (n : Nat) : CallingOk P (calling P cfg n) := by
    have hyo : ∀ (n : Nat) (Γ : Base) env, (∀ p ∈ env, COk P Γ (.yield p.1) p.2) → ∀ k, COk P Γ (.yield k) (callOf P cfg n env (.yield k)) := by
      intro n Γ env he k
      have : callOf P cfg n env (.yield k) = (match env.find k with
        | some pt => pt
        | none => fun _ _ _ _ => .fail "a yield that is not known") := by cases n <;> rfl
      rw [this]
      split
      · rename_i pt hp; exact he _ (Env.find_mem hp)
      · exact fun Δ _ args m nx K h => h.elim
    have hym : ∀ (n : Nat) env, (∀ p ∈ env, MonoPT p.2) → ∀ k, MonoPT (callOf P cfg n env (.yield k)) := by
      intro n env he k
      have : callOf P cfg n env (.yield k) = (match env.find k with
        | some pt => pt
        | none => fun _ _ _ _ => .fail "a yield that is not known") := by cases n <;> rfl
      rw [this]
      split
      · rename_i pt hp; exact he _ (Env.find_mem hp)
      · exact fun args m nx K K' _ h => h.elim
    have hbd : ∀ f, cfg.bd f = true → ∀ (args : Array Value) (w : World), (callFunc f args).run P w = .ok (.enter f args) w := by
      intro f hf args w
      unfold Cfg.bd at hf
      split at hf
      · rename_i fn hfn
        obtain ⟨body, hb⟩ := Option.isSome_iff_exists.1 hf
        exact callFunc_run (hg.fns f fn hfn).1 (hg.fns f fn hfn).2 hb args w
      · cases hf
    induction n with
    | zero =>
      refine ⟨fun env he c => ?_, fun Γ env hem he c => ?_, hbd⟩
      · cases c with
        | yield k => exact hym 0 env he k
        | fn f => exact fun args m nx K K' _ h => h
      · cases c with
        | yield k => exact hyo 0 Γ env he k
        | fn f => exact fun Δ _ args m nx K h => h.elim
    | succ n ih =>
      refine ⟨fun env he c => ?_, fun Γ env hem he c => ?_, hbd⟩
      · cases c with
        | yield k => exact hym (n + 1) env he k
        | fn f =>
          show MonoPT (callOf P cfg (n + 1) env (.fn f))
          simp only [callOf]
          cases hs : cfg.summ f with
          | some pt => exact (hg.summ f pt hs).2
          | none =>
            simp only
            cases hf : cfg.fns f with
            | some fn => exact runFn_mono ih.mono he
            | none => exact fun args m nx K K' _ h => h
      · cases c with
        | yield k => exact hyo (n + 1) Γ env he k
        | fn f =>
          show COk P Γ (.fn f) (callOf P cfg (n + 1) env (.fn f))
          simp only [callOf]
          cases hs : cfg.summ f with
          | some pt => exact (hg.summ f pt hs).1.cok Γ
          | none =>
            simp only
            cases hf : cfg.fns f with
            | some fn =>
              exact runFn_ok hg.mix ih hem he (hg.fns f fn hf).1 (hg.fns f fn hf).2
            | none => exact fun Δ _ args m nx K h => h.elim
theorem calls_of_run {cfg : Cfg} (hg : Good P cfg) {f : FuncId} {fn : Func} (hf : P.funcs[f]? = some fn) (hn : (fn.name == "runtime.NumGoroutine") = false) (hb : fn.body.isSome = true) {n : Nat} {args : List SV} {m : Mem} {nx : Nat} {K : SV → Mem → Nat → VC}
    (h : (runFn P (calling P cfg n) [] (cfg.anns f) cfg.rounds fn args m nx K).holds) (hm : Mem.wf nx m = true) (ha : SV.wfs nx args = true) {Γ : Base} {E : Nat → Nat} {w : World} (hs : SatM Γ E m nx w) :
    Calls P f (SV.vals E args).toArray w fun e w' => ∃ v, e = .returned v ∧ After (lift K) Γ E nx v w' := by
  have := runFn_ok hg.mix (callOf_ok hg n) (env := []) (fun p hp => by cases hp) (Γ := Γ) (fun p hp => by cases hp) (anns := cfg.anns f) (n := cfg.rounds) hf hn Γ Γ.le_refl args m nx K h hm ha E w hs
  obtain ⟨body, hb⟩ := Option.isSome_iff_exists.1 hb
  simp only [Cal.sem] at this
  rw [callFunc_run hf hn hb] at this
  exact this
end
end
end Go.Proofs.YtkfdcapnogklfaaGreatDoor.Sx
/-
  The framework's nineteenth part: a call's contract, shown on the blocks that it reaches, holds whatever else there is.
-/
namespace Go.Proofs.YtkfdcapnogklfaaGreatDoor.Sx
open Go
noncomputable section
theorem BlkOk.pure {B : SB} (hw : B.wf 0 = true) {E E' : Nat → Nat} {o : Obj} (h : BlkOk E B o) : BlkOk E' B o := h.congr (nx := 0) (fun k hk => by omega) hw
theorem SV.val_pure {v : SV} (hw : v.wf 0 = true) (E E' : Nat → Nat) : v.val E = v.val E' := SV.val_congr (nx := 0) (fun k hk => by omega) v hw
theorem SV.vals_pure {l : List SV} (hw : SV.wfs 0 l = true) (E E' : Nat → Nat) : SV.vals E l = SV.vals E' l := SV.vals_congr (nx := 0) (fun k hk => by omega) l hw
theorem Mem.get_putEq {key : Nat} {B X : SB} : ∀ {m : Mem}, m.get key = some X → (Mem.put key B m).get key = some B
  | [], h => by cases h
  | e :: r, h => by
    by_cases he : e.1 = key
    · rw [Mem.put, if_pos he, Mem.get, if_pos he]
    · rw [Mem.get, if_neg he] at h
      rw [Mem.put, if_neg he, Mem.get, if_neg he]; exact Mem.get_putEq h
def Base.at (w : World) (M : Nat → Prop) (gl : GlobOk w) (gm : ∀ p ∈ globList, ¬ M p.1) : Base := ⟨w, M, fun _ => 0, 0, [], gl, gm⟩
theorem SatM.notGlob {Γ E m nx w} (h : SatM Γ E m nx w) {k : Nat} {B : SB} (hk : m.get k = some B) (hn : B.no = false) (hro : B.ro = false) : ∀ p ∈ globList, ¬ (p.1 = E k) := by
  intro p hp e
  obtain ⟨_, ty, fr, hg, _⟩ := Γ.gl p hp
  rcases h.own k B hk hn hro with h1 | h1
  · exact Γ.gm p hp (e ▸ h1)
  · have := (Array.getElem?_eq_some_iff.1 hg).1
    omega
theorem SatM.one {Γ E m nx w} (h : SatM Γ E m nx w) {k : Nat} {B B' : SB} (hk : m.get k = some B) (hB : SBle B B') (hn : B'.no = false) (hro : B'.ro = false) (hw : B'.wf 0 = true) :
    SatM (Base.at w (fun b => b = E k) h.glob (h.notGlob hk (hB hn).1 ((hB hn).2.2 hro))) (fun _ => E k) [(0, B')] 1 w := by
  obtain ⟨h1, h2, _⟩ := hB hn
  obtain ⟨o, ho, hb⟩ := h.blk k B hk h1
  refine ⟨fun j X hj hx => ?_, fun j j' X X' hj _ hj' _ _ _ => ?_, fun j X hj => ?_, fun j X hj _ _ => .inl rfl, Ext.refl _ _, ⟨Nat.zero_le _, fun k hk => absurd hk (Nat.not_lt_zero _)⟩, fun D hD => by cases hD⟩
  · rcases Mem.get_cons hj with ⟨rfl, rfl⟩ | ⟨_, hj⟩
    · exact ⟨o, ho, (h2 E o hb).pure hw⟩
    · cases hj
  · rcases Mem.get_cons hj with ⟨e, _⟩ | ⟨_, hj⟩
    · rcases Mem.get_cons hj' with ⟨e', _⟩ | ⟨_, hj'⟩
      · exact e.trans e'.symm
      · cases hj'
    · cases hj
  · rcases Mem.get_cons hj with ⟨rfl, _⟩ | ⟨_, hj⟩
    · omega
    · cases hj
theorem SatM.none (w : World) (hg : GlobOk w) : SatM (Base.at w (fun _ => False) hg (fun _ _ h => h)) (fun _ => 0) [] 0 w :=
  ⟨(fun _ _ h => by cases h), (fun _ _ _ _ h => by cases h), (fun _ _ h => by cases h), (fun _ _ h => by cases h), Ext.refl _ _, ⟨Nat.zero_le _, fun k hk => absurd hk (Nat.not_lt_zero _)⟩, fun D hD => by cases hD⟩
theorem SatM.still {Γ E m nx w} (h : SatM Γ E m nx w) {w' : World} (hx : Ext (fun _ => False) w w') : SatM Γ E m nx w' := by
  refine ⟨fun k B hk hn => ?_, h.inj, h.lt, h.own, h.ext.trans ⟨hx.os, hx.tape, hx.output, hx.size, fun k hk _ => hx.block k hk (fun h => h)⟩, h.cx, fun D hD => ?_⟩
  · obtain ⟨o, ho, hb⟩ := h.blk k B hk hn
    exact ⟨o, by rw [hx.block _ (Array.getElem?_eq_some_iff.1 ho).1 (fun h => h)]; exact ho, hb⟩
  · have := h.kp D hD
    rw [hx.block _ (Array.getElem?_eq_some_iff.1 this).1 (fun h => h)]; exact this
theorem SatM.frame {Γ E m nx w} (h : SatM Γ E m nx w) {k : Nat} {B : SB} (hk : m.get k = some B) (hn : B.no = false) (hro : B.ro = false) {E1 : Nat → Nat} {m1 : Mem} {nx1 : Nat} {w' : World} {gl gm}
    (h1 : SatM (Base.at w (fun b => b = E k) gl gm) E1 m1 nx1 w') (hE : E1 0 = E k) {B1 : SB} (hB1 : m1.get 0 = some B1) (hn1 : B1.no = false) (hr1 : B1.ro = false) (hw1 : B1.wf 0 = true) : SatM Γ E (m.put k B1) nx w' := by
  have hx : Ext (fun b => b = E k) w w' := h1.ext
  refine ⟨fun j X hj hx => ?_, fun j j' X X' hj hnj hj' hnj' hr e => ?_, fun j X hj => ?_, fun j X hj hnj hr => ?_, ⟨hx.os.trans h.ext.os, hx.tape.trans h.ext.tape, hx.output.trans h.ext.output, Nat.le_trans h.ext.size hx.size, fun i hi hm => (hx.block i (Nat.lt_of_lt_of_le hi h.ext.size) (fun e => ?_)).trans (h.ext.block i hi hm)⟩, h.cx, fun D hD => ?_⟩
  · rcases Mem.get_put hj with ⟨rfl, rfl, _⟩ | ⟨hne, hj⟩
    · obtain ⟨o, ho, hb⟩ := h1.blk 0 X hB1 hn1
      exact ⟨o, by rw [← hE]; exact ho, hb.pure hw1⟩
    · obtain ⟨o, ho, hb⟩ := h.blk j X hj hx
      have hd : ¬ (E j = E k) := fun e => hne (h.inj j k X B hj hx hk hn (.inr hro) e)
      exact ⟨o, by rw [h1.ext.block _ (Array.getElem?_eq_some_iff.1 ho).1 hd]; exact ho, hb⟩
  · rcases Mem.get_put hj with ⟨e1, _, _⟩ | ⟨_, hj1⟩ <;> rcases Mem.get_put hj' with ⟨e2, _, _⟩ | ⟨_, hj2⟩
    · exact e1.trans e2.symm
    · subst e1; exact h.inj _ _ _ _ hk hn hj2 hnj' (.inl hro) e
    · subst e2; exact h.inj _ _ _ _ hj1 hnj hk hn (.inr hro) e
    · exact h.inj _ _ _ _ hj1 hnj hj2 hnj' hr e
  · rcases Mem.get_put hj with ⟨rfl, _, _⟩ | ⟨_, hj⟩
    · exact h.lt _ _ hk
    · exact h.lt _ _ hj
  · rcases Mem.get_put hj with ⟨rfl, _, _⟩ | ⟨_, hj⟩
    · exact h.own _ _ hk hn hro
    · exact h.own _ _ hj hnj hr
  · -- a block of 'w' that was not to be changed
    subst e
    rcases h.own k B hk hn hro with h' | h'
    · exact hm h'
    · omega
  · have := h.kp D hD
    rw [hx.block _ (Array.getElem?_eq_some_iff.1 this).1 (h.not_mark hk hn D hD)]; exact this
section
variable {P : Program} {cfg : Cfg}
theorem out_of_calls {f : FuncId} {fn : Func} (hf : P.funcs[f]? = some fn) (hn : (fn.name == "runtime.NumGoroutine") = false) (hb : fn.body.isSome = true) {args : Array Value} {w : World} {Q : Value → World → Prop}
    (h : Calls P f args w fun e w' => ∃ v, e = .returned v ∧ Q v w') : Out P Q ((callFunc f args).run P w) := by
  obtain ⟨body, hb⟩ := Option.isSome_iff_exists.1 hb
  rw [callFunc_run hf hn hb]
  exact h
end
structure Holds (v : VC) : Prop where
  out : v.holds
theorem Holds.of_eq {v : VC} {p : Prop} (e : v.holds = p) (h : p) : Holds v := ⟨e.symm ▸ h⟩
theorem calls_of_holds {P : Program} {cfg : Cfg} (hg : Good P cfg) {f : FuncId} {fn : Func} (hf : P.funcs[f]? = some fn) (hn : (fn.name == "runtime.NumGoroutine") = false) (hb : fn.body.isSome = true) {n : Nat} {args : List SV} {m : Mem} {nx : Nat} {K : SV → Mem → Nat → VC}
    (h : Holds (runFn P (calling P cfg n) [] (cfg.anns f) cfg.rounds fn args m nx K)) (hm : Mem.wf nx m = true) (ha : SV.wfs nx args = true) {Γ : Base} {E : Nat → Nat} {w : World} (hs : SatM Γ E m nx w) :
    Calls P f (SV.vals E args).toArray w fun e w' => ∃ v, e = .returned v ∧ After (lift K) Γ E nx v w' := calls_of_run hg hf hn hb h.out hm ha hs
def lookPT (f : FuncId) : List (FuncId × PT) → Option PT
  | [] => none
  | e :: r => if e.1 = f then some e.2 else lookPT f r
def SummOk (P : Program) (s : FuncId → Option PT) : Prop := ∀ f pt, s f = some pt → CallOk P f pt ∧ MonoPT pt
theorem SummOk.nil {P : Program} : SummOk P (fun f => lookPT f []) := fun _ _ h => by cases h
theorem SummOk.cons {P : Program} {f : FuncId} {pt : PT} {l : List (FuncId × PT)} (h1 : CallOk P f pt) (h2 : MonoPT pt) (h : SummOk P (fun f => lookPT f l)) : SummOk P (fun g => lookPT g ((f, pt) :: l)) := by
  intro g q hq
  simp only [lookPT] at hq
  split at hq
  · rename_i e; subst e; injection hq with hq; subst hq; exact ⟨h1, h2⟩
  · exact h g q hq
end
end Go.Proofs.YtkfdcapnogklfaaGreatDoor.Sx
