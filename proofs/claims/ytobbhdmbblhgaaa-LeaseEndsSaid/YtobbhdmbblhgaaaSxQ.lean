/-
  The framework's sixteenth part: code, loops, functions.
-/
import Derived.Test.YtobbhdmbblhgaaaSxO
namespace Go.Proofs.Ytobbhdmbblhgaaa.Sx
open Go

inductive Ex where
  | normal
  | exit (id : Nat)
  | ret
def Ex.to : Ex → Exit
  | .normal => .normal
  | .exit id => .exit id
  | .ret => .ret
abbrev XK := Ex → St → VC

/-! ### A loop's state at its head -/
/-- What is said of a loop, at the state in which it begins: 'pre' of a ghost value; a measure; what its slots and blocks hold at its head ('fresh': so many blocks of its own). -/
structure LoopAnn where
  α : Type
  pre : St → α → Prop
  mea : St → α → Nat
  fresh : Nat
  slots : St → α → List (Nat × SV)
  mem : St → α → List (Nat × SB)
def written : Code → List Nat
  | .region _ ops _ => ops.toList.filterMap (·.dst)
  | .seq a b => written a ++ written b
  | .cond _ a b => written a ++ written b
  | .block _ b => written b
  | .loop b => written b
  | .scope b => written b
  | .rangeFunc _ _ a b => written a ++ written b
  | _ => []
def forget (l : List Nat) (tmps : List (Option SV)) : List (Option SV) := match l with
  | [] => tmps
  | i :: r => forget r (tmps.set i none)
def override (l : List (Nat × SV)) (tmps : List (Option SV)) : List (Option SV) := match l with
  | [] => tmps
  | (i, v) :: r => override r (tmps.set i (some v))
/-- One block serves for another one. -/
def SBle (B B' : SB) : Prop := B'.no = false → B.no = false ∧ (∀ E o, BlkOk E B o → BlkOk E B' o) ∧ (B'.ro = false → B.ro = false)
theorem SBle.refl (B : SB) : SBle B B := fun h => ⟨h, fun _ _ h => h, id⟩
theorem SBle.cells {cs cs' : List SV} {tot tot' : Nat} {ty : TypeId} (h : ∀ E, cs'.map (SV.val E) = cs.map (SV.val E)) (ht : tot' = tot) : SBle (.cells cs tot ty) (.cells cs' tot' ty) := by
  subst ht
  refine fun _ => ⟨rfl, fun E o ⟨c, fr, h1, h2, h3, h4⟩ => ⟨c, fr, h1, h2, fun i v hv => ?_, h4⟩, id⟩
  have he := h E
  have : (cs'.map (SV.val E))[i]? = some (v.val E) := by rw [List.getElem?_map, hv]; rfl
  rw [he, List.getElem?_map] at this
  cases hc : cs[i]? with
  | none => rw [hc] at this; cases this
  | some u =>
    rw [hc] at this; injection this with this
    rw [← this]; exact h3 i u hc

/-- The keys of the head, and what they stand for. -/
abbrev Ren := List (Nat × Nat)
def Ren.get (k : Nat) : Ren → Option Nat
  | [] => none
  | e :: r => if e.1 = k then some e.2 else Ren.get k r
def matchKey (base : Nat) (ren : Ren) (kh k1 : Nat) (t : Ren → VC) : VC :=
  match Nat.blt kh base with
  | true => if kh = k1 then t ren else .fail "loop: another block"
  | false => (match ren.get kh with
    | some k => if k = k1 then t ren else .fail "loop: two blocks for one"
    | none => t ((kh, k1) :: ren))
/-- Is it nil just if the other one is? -/
def zeq (z z' : Bool) (n : Nat) : VC := match z, z' with
  | true, true => .tt
  | false, false => .tt
  | _, _ => .atom (0 < n)
theorem zeq_iff {z z' : Bool} {n : Nat} (h : (zeq z z' n).holds) : (z && Nat.beq n 0) = (z' && Nat.beq n 0) := by
  have h0 : 0 < n → Nat.beq n 0 = false := fun h => by cases n with
    | zero => omega
    | succ n => rfl
  cases z <;> cases z' <;> simp only [zeq] at h
  · rfl
  · have := h0 h; simp [this]
  · have := h0 h; simp [this]
  · rfl
def sameCell (base : Nat) (ren : Ren) (h u : SV) (t : Ren → VC) : VC :=
  match h, u with
  | .int a _ n, .int b _ m => if a = b then .and (.atom (m = n)) (t ren) else .fail "loop: kinds"
  | .bool _ a, .bool _ b => .and (.atom (b = a)) (t ren)
  | .str _ a, .str _ b => .and (.atom (b = a)) (t ren)
  | .nilptr, .nilptr => t ren
  | .nilslc, .nilslc => t ren
  | .nilmap, .nilmap => t ren
  | .niliface, .niliface => t ren
  | .nilfunc, .nilfunc => t ren
  | .ptr kh _ o, .ptr k1 _ o' => matchKey base ren kh k1 (fun ren => .and (.atom (o' = o)) (t ren))
  | .eptr kh w i k, .eptr k1 w' i' k' => if w = w' ∧ k = k' then matchKey base ren kh k1 (fun ren => .and (.atom (i' = i)) (t ren)) else .fail "loop: rows"
  | .slc kh o n _ c, .slc k1 o' n' _ c' => matchKey base ren kh k1 (fun ren => .and (.atom (o' = o ∧ n' = n ∧ c' = c)) (t ren))
  | .rslc kh w z i n c, .rslc k1 w' z' i' n' c' => if w = w' then matchKey base ren kh k1 (fun ren => .and (.atom (i' = i ∧ n' = n ∧ c' = c)) (.and (zeq z z' n) (t ren))) else .fail "loop: rows"
  | .rslc kh w z i n c, .slc k1 o' n' _ c' => matchKey base ren kh k1 (fun ren => .and (.atom (o' = i * w ∧ n' = n ∧ c' = c)) (.and (zeq z false n) (t ren)))
  | .rslc _ _ true _ n _, .nilslc => .and (.atom (n = 0)) (t ren)
  | .map kh, .map k1 => matchKey base ren kh k1 t
  | .raw v, .raw v' => .and (.atom (v' = v)) (t ren)
  | _, _ => .fail "loop: another value"
def sameCells (base : Nat) : List SV → List SV → Ren → (Ren → VC) → VC
  | [], [], ren, t => t ren
  | h :: hs, u :: us, ren, t => sameCell base ren h u (fun ren => sameCells base hs us ren t)
  | _, _, _, _ => .fail "loop: lengths"
def sameSV (base : Nat) (ren : Ren) (h u : SV) (t : Ren → VC) : VC :=
  match h, u with
  | .agg a, .agg b => sameCells base a b ren t
  | .tup a, .tup b => sameCells base a b ren t
  | .iface a v, .iface b v' => if a = b then (match v, v' with
      | .agg c, .agg d => sameCells base c d ren t
      | v, v' => sameCell base ren v v' t) else .fail "loop: another type"
  | h, u => sameCell base ren h u t
def sameSlots (base : Nat) : List (Nat × SV) → List (Option SV) → Ren → (Ren → VC) → VC
  | [], _, ren, t => t ren
  | (i, h) :: r, tmps, ren, t => match slot tmps i with
    | some u => sameSV base ren h u (fun ren => sameSlots base r tmps ren t)
    | none => .fail "loop: a slot that is not known"
def renKey (base : Nat) (ren : Ren) (kh : Nat) : Option Nat := match Nat.blt kh base with
  | true => some kh
  | false => ren.get kh
def sameMem (base : Nat) (ren : Ren) (m : Mem) : List (Nat × SB) → List Nat → VC → VC
  | [], _, t => t
  | (kh, B') :: r, used, t => match renKey base ren kh with
    | some k1 => if used.contains k1 then .fail "loop: one block for two" else (match m.get k1 with
      | some B => (match B'.wf base with
        | true => .and (.atom (SBle B B')) (sameMem base ren m r (k1 :: used) t)
        | false => .fail "loop: a block that names blocks")
      | none => .fail "loop: no such block")
    | none => (match B'.wf base with
        | true => .and (.atom (B'.no = true)) (sameMem base ren m r used t)
        | false => .fail "loop: a block that names blocks")

def Ren.E (base : Nat) (ren : Ren) (E : Nat → Nat) (k : Nat) : Nat := match renKey base ren k with
  | some k1 => E k1
  | none => E k
def Ren.le (a b : Ren) : Prop := ∀ k v, a.get k = some v → b.get k = some v
theorem Ren.le_refl (a : Ren) : a.le a := fun _ _ h => h
theorem Ren.le_trans {a b c : Ren} (h : a.le b) (h' : b.le c) : a.le c := fun k v x => h' k v (h k v x)
theorem Ren.E_old {base : Nat} {ren : Ren} {E : Nat → Nat} {k : Nat} (h : k < base) : Ren.E base ren E k = E k := by
  have : Nat.blt k base = true := by simpa [Nat.blt_eq] using h
  simp [Ren.E, renKey, this]
theorem matchKey_sound {base : Nat} {ren : Ren} {kh k1 : Nat} {t : Ren → VC} (h : (matchKey base ren kh k1 t).holds) :
    ∃ ren', ren.le ren' ∧ (t ren').holds ∧ ∀ ren'' (E : Nat → Nat), ren'.le ren'' → Ren.E base ren'' E kh = E k1 := by
  unfold matchKey at h
  split at h
  · rename_i hb
    split at h
    · rename_i e; subst e
      exact ⟨ren, Ren.le_refl _, h, fun ren'' E _ => Ren.E_old (by simpa [Nat.blt_eq] using hb)⟩
    · exact h.elim
  · rename_i hb
    split at h
    · rename_i k hk
      split at h
      · rename_i e; subst e
        exact ⟨ren, Ren.le_refl _, h, fun ren'' E hle => by simp [Ren.E, renKey, hb, hle _ _ hk]⟩
      · exact h.elim
    · rename_i hk
      refine ⟨(kh, k1) :: ren, fun k v hv => ?_, h, fun ren'' E hle => ?_⟩
      · by_cases e : kh = k
        · subst e; rw [hk] at hv; cases hv
        · simp only [Ren.get, e, if_false]; exact hv
      · have := hle kh k1 (by simp [Ren.get])
        simp [Ren.E, renKey, hb, this]
theorem sameCell_sound {base : Nat} {ren : Ren} {h u : SV} {t : Ren → VC} (hh : (sameCell base ren h u t).holds) :
    ∃ ren', ren.le ren' ∧ (t ren').holds ∧ ∀ ren'' (E : Nat → Nat), ren'.le ren'' → h.val (Ren.E base ren'' E) = u.val E := by
  unfold sameCell at hh
  split at hh
  · split at hh
    · rename_i e; subst e
      exact ⟨ren, Ren.le_refl _, hh.2, fun _ _ _ => by have : _ = _ := hh.1; simp [SV.val, this]⟩
    · exact hh.elim
  · exact ⟨ren, Ren.le_refl _, hh.2, fun _ _ _ => by have : _ = _ := hh.1; simp [SV.val, this]⟩
  · exact ⟨ren, Ren.le_refl _, hh.2, fun _ _ _ => by have : _ = _ := hh.1; simp [SV.val, this]⟩
  · exact ⟨ren, Ren.le_refl _, hh, fun _ _ _ => rfl⟩
  · exact ⟨ren, Ren.le_refl _, hh, fun _ _ _ => rfl⟩
  · exact ⟨ren, Ren.le_refl _, hh, fun _ _ _ => rfl⟩
  · exact ⟨ren, Ren.le_refl _, hh, fun _ _ _ => rfl⟩
  · exact ⟨ren, Ren.le_refl _, hh, fun _ _ _ => rfl⟩
  · obtain ⟨r', h1, h2, h3⟩ := matchKey_sound hh
    exact ⟨r', h1, h2.2, fun r'' E hle => by have : _ = _ := h2.1; simp [SV.val, h3 r'' E hle, this]⟩
  · split at hh
    · rename_i e; obtain ⟨rfl, rfl⟩ := e
      obtain ⟨r', h1, h2, h3⟩ := matchKey_sound hh
      exact ⟨r', h1, h2.2, fun r'' E hle => by have : _ = _ := h2.1; simp [SV.val, h3 r'' E hle, this]⟩
    · exact hh.elim
  · obtain ⟨r', h1, h2, h3⟩ := matchKey_sound hh
    exact ⟨r', h1, h2.2, fun r'' E hle => by obtain ⟨a, b, c⟩ := h2.1; simp [SV.val, h3 r'' E hle, a, b, c]⟩
  · split at hh
    · rename_i e; subst e
      obtain ⟨r', h1, h2, h3⟩ := matchKey_sound hh
      exact ⟨r', h1, h2.2.2, fun r'' E hle => by obtain ⟨a, b, c⟩ := h2.1; have hz := zeq_iff h2.2.1; simp [SV.val, h3 r'' E hle, a, b, c, hz]⟩
    · exact hh.elim
  · obtain ⟨r', h1, h2, h3⟩ := matchKey_sound hh
    exact ⟨r', h1, h2.2.2, fun r'' E hle => by obtain ⟨a, b, c⟩ := h2.1; have hz := zeq_iff h2.2.1; simp [SV.val, h3 r'' E hle, a, b, c, hz]⟩
  · exact ⟨ren, Ren.le_refl _, hh.2, fun _ _ _ => by have : _ = _ := hh.1; simp [SV.val, this]⟩
  · obtain ⟨r', h1, h2, h3⟩ := matchKey_sound hh
    exact ⟨r', h1, h2, fun r'' E hle => by simp [SV.val, h3 r'' E hle]⟩
  · exact ⟨ren, Ren.le_refl _, hh.2, fun _ _ _ => by have : _ = _ := hh.1; simp [SV.val, this]⟩
  · exact hh.elim
theorem sameCells_sound {base : Nat} : ∀ {hs us : List SV} {ren : Ren} {t : Ren → VC}, (sameCells base hs us ren t).holds →
    ∃ ren', ren.le ren' ∧ (t ren').holds ∧ ∀ ren'' (E : Nat → Nat), ren'.le ren'' → SV.vals (Ren.E base ren'' E) hs = SV.vals E us
  | [], [], ren, t, h => ⟨ren, Ren.le_refl _, h, fun _ _ _ => rfl⟩
  | h :: hs, u :: us, ren, t, hh => by
    simp only [sameCells] at hh
    obtain ⟨r1, h1, h2, h3⟩ := sameCell_sound hh
    obtain ⟨r2, g1, g2, g3⟩ := sameCells_sound h2
    exact ⟨r2, Ren.le_trans h1 g1, g2, fun r'' E hle => by simp only [SV.vals]; rw [h3 r'' E (Ren.le_trans g1 hle), g3 r'' E hle]⟩
  | [], _ :: _, _, _, h => h.elim
  | _ :: _, [], _, _, h => h.elim
theorem sameSV_sound {base : Nat} {ren : Ren} {h u : SV} {t : Ren → VC} (hh : (sameSV base ren h u t).holds) :
    ∃ ren', ren.le ren' ∧ (t ren').holds ∧ ∀ ren'' (E : Nat → Nat), ren'.le ren'' → h.val (Ren.E base ren'' E) = u.val E := by
  unfold sameSV at hh
  split at hh
  · obtain ⟨r', h1, h2, h3⟩ := sameCells_sound hh
    exact ⟨r', h1, h2, fun r'' E hle => by simp only [SV.val, h3 r'' E hle]⟩
  · obtain ⟨r', h1, h2, h3⟩ := sameCells_sound hh
    exact ⟨r', h1, h2, fun r'' E hle => by simp only [SV.val, h3 r'' E hle]⟩
  · split at hh
    · rename_i e; subst e
      split at hh
      · obtain ⟨r', h1, h2, h3⟩ := sameCells_sound hh
        exact ⟨r', h1, h2, fun r'' E hle => by simp only [SV.val, h3 r'' E hle]⟩
      · obtain ⟨r', h1, h2, h3⟩ := sameCell_sound hh
        exact ⟨r', h1, h2, fun r'' E hle => by simp only [SV.val, h3 r'' E hle]⟩
    · exact hh.elim
  · exact sameCell_sound hh
theorem sameSlots_sound {base : Nat} : ∀ {l : List (Nat × SV)} {tmps : List (Option SV)} {ren : Ren} {t : Ren → VC}, (sameSlots base l tmps ren t).holds →
    ∃ ren', ren.le ren' ∧ (t ren').holds ∧ ∀ ren'' (E : Nat → Nat), ren'.le ren'' → ∀ i h, (i, h) ∈ l → ∃ u, slot tmps i = some u ∧ h.val (Ren.E base ren'' E) = u.val E
  | [], _, ren, t, h => ⟨ren, Ren.le_refl _, h, fun _ _ _ i h hm => by cases hm⟩
  | (i, x) :: r, tmps, ren, t, hh => by
    simp only [sameSlots] at hh
    split at hh
    · rename_i u hu
      obtain ⟨r1, h1, h2, h3⟩ := sameSV_sound hh
      obtain ⟨r2, g1, g2, g3⟩ := sameSlots_sound h2
      refine ⟨r2, Ren.le_trans h1 g1, g2, fun r'' E hle j h hm => ?_⟩
      rw [List.mem_cons] at hm
      rcases hm with hm | hm
      · injection hm with e1 e2; subst e1; subst e2
        exact ⟨u, hu, h3 r'' E (Ren.le_trans g1 hle)⟩
      · exact g3 r'' E hle j h hm
    · exact hh.elim
theorem sameMem_sound {base : Nat} {ren : Ren} {m : Mem} : ∀ {l : List (Nat × SB)} {used : List Nat} {t : VC}, (sameMem base ren m l used t).holds →
    t.holds ∧ (∀ kh B', Mem.get kh l = some B' → B'.wf base = true ∧ (B'.no = false → ∃ k1 B, renKey base ren kh = some k1 ∧ k1 ∉ used ∧ m.get k1 = some B ∧ SBle B B')) ∧
      (∀ kh kh' B B' k1, Mem.get kh l = some B → B.no = false → Mem.get kh' l = some B' → B'.no = false → renKey base ren kh = some k1 → renKey base ren kh' = some k1 → kh = kh')
  | [], _, t, h => ⟨h, (fun _ _ h => by cases h), (fun _ _ _ _ _ h => by cases h)⟩
  | (k0, B0) :: r, used, t, hh => by
    simp only [sameMem] at hh
    split at hh
    · rename_i k1 hk1
      split at hh
      · exact hh.elim
      · rename_i hnu
        have hnu : k1 ∉ used := by simpa using hnu
        split at hh
        · rename_i B hB
          split at hh
          · rename_i hwf
            obtain ⟨g1, g2, g3⟩ := sameMem_sound hh.2
            have hle : SBle B B0 := hh.1
            refine ⟨g1, fun kh B' hg => ?_, fun kh kh' X X' q hg hn hg' hn' hq hq' => ?_⟩
            · rcases Mem.get_cons hg with ⟨rfl, rfl⟩ | ⟨_, hg⟩
              · exact ⟨hwf, fun _ => ⟨k1, B, hk1, hnu, hB, hle⟩⟩
              · obtain ⟨h0, g2⟩ := g2 kh B' hg
                refine ⟨h0, fun hn => ?_⟩
                obtain ⟨q, Y, h1, h2, h3, h4⟩ := g2 hn
                exact ⟨q, Y, h1, fun hm => h2 (List.mem_cons_of_mem _ hm), h3, h4⟩
            · rcases Mem.get_cons hg with ⟨e1, _⟩ | ⟨_, hgr⟩ <;> rcases Mem.get_cons hg' with ⟨e2, _⟩ | ⟨_, hgr'⟩
              · exact e1.trans e2.symm
              · subst e1
                rw [hk1] at hq; injection hq with hq; subst hq
                obtain ⟨q2, Y, h1, h2, _⟩ := (g2 kh' X' hgr').2 hn'
                rw [hq'] at h1; injection h1 with h1; subst h1
                exact absurd (List.mem_cons_self ..) h2
              · subst e2
                rw [hk1] at hq'; injection hq' with hq'; subst hq'
                obtain ⟨q2, Y, h1, h2, _⟩ := (g2 kh X hgr).2 hn
                rw [hq] at h1; injection h1 with h1; subst h1
                exact absurd (List.mem_cons_self ..) h2
              · exact g3 kh kh' X X' q hgr hn hgr' hn' hq hq'
          · exact hh.elim
        · exact hh.elim
    · split at hh
      · rename_i hwf
        obtain ⟨g1, g2, g3⟩ := sameMem_sound hh.2
        have hno : B0.no = true := hh.1
        refine ⟨g1, fun kh B' hg => ?_, fun kh kh' X X' q hg hn hg' hn' hq hq' => ?_⟩
        · rcases Mem.get_cons hg with ⟨rfl, rfl⟩ | ⟨_, hg⟩
          · exact ⟨hwf, fun hn => by rw [hn] at hno; cases hno⟩
          · exact g2 kh B' hg
        · rcases Mem.get_cons hg with ⟨_, rfl⟩ | ⟨_, hgr⟩
          · rw [hn] at hno; cases hno
          · rcases Mem.get_cons hg' with ⟨_, rfl⟩ | ⟨_, hgr'⟩
            · rw [hn'] at hno; cases hno
            · exact g3 kh kh' X X' q hgr hn hgr' hn' hq hq'
      · exact hh.elim

def svKey : SV → Option Nat
  | .ptr k _ _ => some k
  | .eptr k _ _ _ => some k
  | .aptr k _ _ _ => some k
  | .slc k _ _ _ _ => some k
  | .rslc k _ _ _ _ _ => some k
  | .map k => some k
  | _ => none
/-- Blocks that the head knows by another key. -/
def dropKeys (base : Nat) (tmps : List (Option SV)) : List (Nat × SV) → List Nat
  | [] => []
  | (i, h) :: r => match svKey h with
    | some kh => (match Nat.blt kh base with
      | true => dropKeys base tmps r
      | false => (match slot tmps i with
        | some u => (match svKey u with
          | some k1 => k1 :: dropKeys base tmps r
          | none => dropKeys base tmps r)
        | none => dropKeys base tmps r))
    | none => dropKeys base tmps r
def keepMem (ks : List Nat) : Mem → Mem
  | [] => []
  | e :: r => match ks.contains e.1 with
    | true => keepMem ks r
    | false => e :: keepMem ks r
/-- The memory at the head: what the annotation tells, and what else there was. -/
def LoopAnn.memAt (A : LoopAnn) (st : St) (x : A.α) : Mem :=
  A.mem st x ++ keepMem ((A.mem st x).map (·.1) ++ dropKeys st.nx st.tmps (A.slots st x)) st.m
def hd (body : Code) (A : LoopAnn) (st : St) (x : A.α) : St :=
  ⟨override (A.slots st x) (forget (written body) st.tmps), A.memAt st x, st.nx + A.fresh⟩
def annOk (body : Code) (A : LoopAnn) (st : St) (x : A.α) : Bool :=
  (A.slots st x).all (fun p => (written body).contains p.1 && p.2.wf (st.nx + A.fresh)) && (A.memAt st x).all (fun p => Nat.blt p.1 (st.nx + A.fresh))
def atHead (body : Code) (A : LoopAnn) (st : St) (y : A.α) (st1 : St) : VC :=
  match annOk body A st y with
  | true => sameSlots st.nx (A.slots st y) st1.tmps [] (fun ren => sameMem st.nx ren st1.m (A.memAt st y) [] .tt)
  | false => .fail "loop: the annotation"

theorem forget_length : ∀ {l : List Nat} {tmps : List (Option SV)}, (forget l tmps).length = tmps.length
  | [], _ => rfl
  | i :: r, tmps => by simp [forget, forget_length (l := r)]
theorem override_length : ∀ {l : List (Nat × SV)} {tmps : List (Option SV)}, (override l tmps).length = tmps.length
  | [], _ => rfl
  | (i, v) :: r, tmps => by simp [override, override_length (l := r)]
theorem forget_get : ∀ {l : List Nat} {tmps : List (Option SV)} {i : Nat} {v : SV}, (forget l tmps)[i]? = some (some v) → tmps[i]? = some (some v) ∧ i ∉ l
  | [], _, _, _, h => ⟨h, by simp⟩
  | j :: r, tmps, i, v, h => by
    simp only [forget] at h
    have := forget_get h
    rw [List.getElem?_set] at this
    split at this
    · rename_i e; subst e
      split at this
      · simp at this
      · simp at this
    · rename_i e
      refine ⟨this.1, ?_⟩
      rw [List.mem_cons]; rintro (h1 | h1)
      · exact e h1.symm
      · exact this.2 h1
theorem forget_ne : ∀ {l : List Nat} {tmps : List (Option SV)} {i : Nat}, i ∉ l → (forget l tmps)[i]? = tmps[i]?
  | [], _, _, _ => rfl
  | j :: r, tmps, i, h => by
    rw [List.mem_cons] at h
    simp only [forget]
    rw [forget_ne (fun x => h (.inr x)), List.getElem?_set, if_neg (fun e => h (.inl e.symm))]
theorem override_get : ∀ {l : List (Nat × SV)} {tmps : List (Option SV)} {i : Nat} {v : SV}, (override l tmps)[i]? = some (some v) → (i, v) ∈ l ∨ (tmps[i]? = some (some v) ∧ ∀ u, (i, u) ∉ l)
  | [], _, _, _, h => .inr ⟨h, fun _ h => by cases h⟩
  | (j, x) :: r, tmps, i, v, h => by
    simp only [override] at h
    rcases override_get h with h | ⟨h', hn⟩
    · exact .inl (List.mem_cons_of_mem _ h)
    · rw [List.getElem?_set] at h'
      by_cases e : j = i
      · subst e
        rw [if_pos rfl] at h'
        split at h'
        · injection h' with h'; injection h' with h'; subst h'; exact .inl (List.mem_cons_self ..)
        · cases h'
      · rw [if_neg e] at h'
        refine .inr ⟨h', fun u hu => ?_⟩
        rw [List.mem_cons] at hu
        rcases hu with hu | hu
        · injection hu with e1 _; exact e e1.symm
        · exact hn u hu
theorem override_ne : ∀ {l : List (Nat × SV)} {tmps : List (Option SV)} {i : Nat}, (∀ u, (i, u) ∉ l) → (override l tmps)[i]? = tmps[i]?
  | [], _, _, _ => rfl
  | (j, x) :: r, tmps, i, h => by
    simp only [override]
    rw [override_ne (fun u hu => h u (List.mem_cons_of_mem _ hu)), List.getElem?_set, if_neg (fun e => h x (by subst e; exact List.mem_cons_self ..))]
theorem wfTmps_of {nx : Nat} : ∀ {l : List (Option SV)}, (∀ (i : Nat) (v : SV), l[i]? = some (some v) → v.wf nx = true) → wfTmps nx l = true
  | [], _ => rfl
  | none :: r, h => wfTmps_of (l := r) fun i v hv => h (i + 1) v (by simpa using hv)
  | some x :: r, h => by
    simp only [wfTmps, Bool.and_eq_true]
    exact ⟨h 0 x rfl, wfTmps_of fun i v hv => h (i + 1) v (by simpa using hv)⟩

/-- What is matched with the head holds there. -/
theorem atHead_sound {body : Code} {A : LoopAnn} {st st1 : St} {y : A.α} (h : (atHead body A st y st1).holds) {w0 : World} {M0 : Nat → Prop} {E : Nat → Nat} {a : Act} {w : World}
    (hwt : wfTmps st.nx st.tmps = true) (hkeep : ∀ i, i ∉ written body → st1.tmps[i]? = st.tmps[i]?) (hlen : st1.tmps.length = st.tmps.length) (hs : Sat w0 M0 E st1 a w) :
    ∃ E', (∀ k, k < st.nx → E' k = E k) ∧ Sat w0 M0 E' (hd body A st y) a w := by
  unfold atHead at h
  split at h
  · rename_i hok
    simp only [annOk, Bool.and_eq_true, List.all_eq_true, Nat.blt_eq, List.contains_iff_mem] at hok
    obtain ⟨ren, _, h1, h2⟩ := sameSlots_sound h
    obtain ⟨_, h3, h4⟩ := sameMem_sound h1
    have hold : ∀ k, k < st.nx → Ren.E st.nx ren E k = E k := fun k hk => Ren.E_old hk
    refine ⟨Ren.E st.nx ren E, hold, ⟨⟨by simp [hd, override_length, forget_length, hs.tm.size, hlen], fun i v hv => ?_⟩, wfTmps_of fun i v hv => ?_, hs.df, ?_⟩⟩
    · rcases override_get hv with hm | ⟨hv, _⟩
      · obtain ⟨u, hu, hval⟩ := h2 ren E (Ren.le_refl _) i v hm
        rw [hval]; exact hs.tm.val i u (slot_eq hu)
      · obtain ⟨hv, hn⟩ := forget_get hv
        have := hs.tm.val i v (by rw [hkeep i hn]; exact hv)
        rw [SV.val_congr hold v (wfTmps_get hwt hv)]; exact this
    · rcases override_get hv with hm | ⟨hv, _⟩
      · exact (hok.1 (i, v) hm).2
      · obtain ⟨hv, hn⟩ := forget_get hv
        exact SV.wf_mono (Nat.le_add_right _ _) v (wfTmps_get hwt hv)
    · have hE : ∀ kh k1, renKey st.nx ren kh = some k1 → Ren.E st.nx ren E kh = E k1 := fun kh k1 hr => by simp [Ren.E, hr]
      refine ⟨fun kh B' hg hn => ?_, fun kh kh' B B' hg hn hg' hn' he => ?_, fun kh B' hg => ?_, fun kh B' hg hn hro => ?_, hs.mm.ext⟩
      · obtain ⟨g4, h3⟩ := h3 kh B' hg
        obtain ⟨k1, B, g1, _, g3, g5⟩ := h3 hn
        obtain ⟨g5, g6, g7⟩ := g5 hn
        obtain ⟨o, ho, hb⟩ := hs.mm.blk k1 B g3 g5
        exact ⟨o, by rw [hE kh k1 g1]; exact ho, (g6 E o hb).congr hold g4⟩
      · obtain ⟨k1, X, g1, _, g3, g5⟩ := (h3 kh B hg).2 hn
        obtain ⟨k1', X', g1', _, g3', g5'⟩ := (h3 kh' B' hg').2 hn'
        rw [hE kh k1 g1, hE kh' k1' g1'] at he
        have := hs.mm.inj k1 k1' X X' g3 (g5 hn).1 g3' (g5' hn').1 he
        subst this
        exact h4 kh kh' B B' k1 hg hn hg' hn' g1 g1'
      · have : ∀ (l : List (Nat × SB)), (∀ p ∈ l, p.1 < st.nx + A.fresh) → Mem.get kh l = some B' → kh < st.nx + A.fresh := by
          intro l
          induction l with
          | nil => intro _ h; cases h
          | cons e r ih =>
            intro ha hg
            by_cases e1 : e.1 = kh
            · rw [← e1]; exact ha e (by simp)
            · simp only [Mem.get, e1, if_false] at hg
              exact ih (fun p hp => ha p (by simp [hp])) hg
        exact this _ hok.2 hg
      · obtain ⟨k1, B, g1, _, g3, g5⟩ := (h3 kh B' hg).2 hn
        rw [hE kh k1 g1]
        exact hs.mm.own k1 B g3 (g5 hn).1 ((g5 hn).2.2 hro)
  · exact h.elim
end Go.Proofs.Ytobbhdmbblhgaaa.Sx
