/-
  Lease: LeaseRoom's run.
-/
import Derived.Test.YtobbhdmbblhgaaaLsV6
namespace Go.Proofs.Ytobbhdmbblhgaaa
open Go Sx

theorem new_le (most term : Int) {cs : List SV} (h : ∀ E : Nat → Nat, (newTb most term).svO.map (SV.val E) = cs.map (SV.val E)) : SBle (SB.cells cs 49 tableT) (newTb most term).sbO := SBle.cells h rfl
theorem act_open {T : Tb} {a : Ac} (h : a.k = 0) (he : (T.act a).1.e = 0) : (T.act a).1.n = T.opened + 1 ∧ (T.act a).2.opened = T.opened + 1 := by
  simp only [Tb.act, h, if_true] at he ⊢
  split at he
  · cases he
  · rename_i hn
    simp [hn, Tb.open]
theorem act_other {T : Tb} {a : Ac} (h : ¬ (a.k = 0 ∧ (T.act a).1.e = 0)) : (T.act a).2.opened = T.opened := by
  by_cases h0 : a.k = 0
  · have he : ¬ (T.act a).1.e = 0 := fun e => h ⟨h0, e⟩
    simp only [Tb.act, h0, if_true] at he ⊢
    split at he
    · rename_i hf; simp [Tb.open, hf]
    · simp at he
  · simp only [Tb.act, h0, if_false]
    split
    · rfl
    split
    · simp only [Tb.mod]; split <;> rfl
    split
    · simp only [Tb.mod]; split <;> rfl
    split
    · simp only [Tb.rel]; split <;> rfl
    split
    · exact (tells_same T _).2.2
    split
    · simp only [Tb.store]; split <;> rfl
    · rfl
theorem getD_mem {l : List Sl} {i : Nat} (h : i < l.length) : l.getD i Sl.zero ∈ l := by
  rw [List.getD_eq_getElem?_getD, List.getElem?_eq_getElem h]; exact List.getElem_mem h
theorem getD_lt {l : List Sl} (h : l.Pairwise fun a b => a.id < b.id) {i : Nat} (hi : i + 1 < l.length) : (l.getD i Sl.zero).id < (l.getD (i + 1) Sl.zero).id := by
  rw [List.getD_eq_getElem?_getD, List.getElem?_eq_getElem (by omega), List.getD_eq_getElem?_getD, List.getElem?_eq_getElem hi]
  exact List.pairwise_iff_getElem.1 h i (i + 1) (by omega) hi (by omega)
set_option maxRecDepth 10000 in
set_option maxHeartbeats 4000000 in
theorem room_holds (most term : Int) (z : Bool) (o n c : Nat) (g : Nat → Ac) : Holds (roomVC most term z o n c 1 g fun v => ∃ l, v = .bool l true) := by
  refine Holds.of_eq (vcRoom most term z o n c g _) ?_
  refine ⟨g, SBle.refl _, fun b hb => ⟨fun h => ⟨_, rfl⟩, fun h => ⟨⟨⟨0, newTb most term⟩, ⟨Nat.zero_le _, inv_new most term⟩, rfl, rfl, new_le most term fun E => rfl, SBle.refl _, trivial⟩, fun x hx => ⟨fun hlt => ?_, fun _ => ⟨_, rfl⟩⟩⟩⟩⟩
  have hb1 : b = true := by cases b <;> simp at h ⊢
  obtain ⟨hf1, hf2⟩ := hb hb1
  obtain ⟨hxi, hI⟩ := hx
  have hlt' : x.i < n := by simpa using hlt
  have hcl := hf2 x.i hlt'
  clear hb h hb1 hlt
  have hI' := hI.act (by omega) (g x.i)
  have hm := hI.most
  have ho := hI.opened
  simp only [Int.toNat_natCast, Nat.zero_add]
  refine ⟨⟨by omega, by omega⟩, ⟨trivial, hlt'⟩, x.T, SBle.refl _, ⟨hI.ok, hcl⟩, fun c1 hc1 => ⟨⟨by omega, by omega⟩, ⟨trivial, hlt'⟩, fun hk => ⟨fun he => ⟨⟨by omega, by omega⟩, fun hne => ?_, fun hok => ?_⟩, fun he => ?_⟩, fun hk => ?_⟩⟩
  · exfalso
    have := (act_open (of_decide_eq_true hk) (of_decide_eq_true he)).1
    simp [this] at hne
  · have hlast : (x.T.act (g x.i)).1.n = (x.T.act (g x.i)).2.opened := by
      obtain ⟨q1, q2⟩ := act_open (of_decide_eq_true hk) (of_decide_eq_true he)
      rw [q1, q2]
    clear hok he hk
    have hmm : min (max most 1) 4 = topM most := rfl
    have hlen := hI'.len
    have hkept := kept_le hI'.ok.stored
    have hlen4 : (x.T.act (g x.i)).2.ss.length ≤ 4 := by omega
    refine ⟨(x.T.act (g x.i)).2, SBle.refl _, ⟨hI'.ok, trivial⟩, fun c2 hc2 => ⟨fun q => absurd (of_decide_eq_true q) (by rw [hmm]; omega), fun _ => ⟨(x.T.act (g x.i)).2, SBle.refl _, ⟨hI'.ok, trivial⟩, ⟨by omega, by omega⟩, fun q => absurd (of_decide_eq_true q) (by omega), fun _ =>
      ⟨⟨0, by omega, rfl, SBle.refl _, SBle.refl _, SBle.refl _, SBle.refl _, SBle.refl _, trivial⟩, fun k hk => ⟨fun hkl => ?_, fun hkl => ⟨⟨by omega, by omega⟩, ⟨x.i + 1, (x.T.act (g x.i)).2⟩, ⟨⟨by show x.i + 1 ≤ n; omega, hI'⟩, by show n - (x.i + 1) < n - x.i; omega⟩, by show (x.i : Int) + 1 = ((x.i + 1 : Nat) : Int); omega, hlast, SBle.refl _, SBle.refl _, trivial⟩⟩⟩⟩⟩⟩
    have hkl' : k < (x.T.act (g x.i)).2.ss.length := by simpa using hkl
    try simp only [Int.toNat_natCast, Nat.zero_add]
    refine ⟨⟨by omega, by omega⟩, hkl', fun q => absurd (of_decide_eq_true q) (by have := (hI'.pos _ (getD_mem hkl')).2; omega), fun _ => ⟨fun hk0 => ?_, fun _ => ⟨⟨by omega, by omega⟩, k + 1, ⟨by omega, by omega⟩, by omega, SBle.refl _, SBle.refl _, SBle.refl _, SBle.refl _, SBle.refl _, trivial⟩⟩⟩
    have hk0' : 0 < k := by simpa using hk0
    have hkm : ((k : Int) - 1).toNat = k - 1 := by omega
    rw [hkm]
    refine ⟨⟨by omega, by omega⟩, ⟨by omega, by omega⟩, by omega, ⟨by omega, by omega⟩, hkl', fun q => absurd (of_decide_eq_true q) ?_, fun _ => ⟨⟨by omega, by omega⟩, k + 1, ⟨by omega, by omega⟩, by omega, SBle.refl _, SBle.refl _, SBle.refl _, SBle.refl _, SBle.refl _, trivial⟩⟩
    have := getD_lt hI'.ids (i := k - 1) (by omega)
    rw [show k - 1 + 1 = k by omega] at this
    omega
  · have hlast : x.T.opened = (x.T.act (g x.i)).2.opened := (act_other fun q => of_decide_eq_false he q.2).symm
    clear he hk
    have hmm : min (max most 1) 4 = topM most := rfl
    have hlen := hI'.len
    have hkept := kept_le hI'.ok.stored
    have hlen4 : (x.T.act (g x.i)).2.ss.length ≤ 4 := by omega
    refine ⟨(x.T.act (g x.i)).2, SBle.refl _, ⟨hI'.ok, trivial⟩, fun c2 hc2 => ⟨fun q => absurd (of_decide_eq_true q) (by rw [hmm]; omega), fun _ => ⟨(x.T.act (g x.i)).2, SBle.refl _, ⟨hI'.ok, trivial⟩, ⟨by omega, by omega⟩, fun q => absurd (of_decide_eq_true q) (by omega), fun _ =>
      ⟨⟨0, by omega, rfl, SBle.refl _, SBle.refl _, SBle.refl _, SBle.refl _, SBle.refl _, trivial⟩, fun k hk => ⟨fun hkl => ?_, fun hkl => ⟨⟨by omega, by omega⟩, ⟨x.i + 1, (x.T.act (g x.i)).2⟩, ⟨⟨by show x.i + 1 ≤ n; omega, hI'⟩, by show n - (x.i + 1) < n - x.i; omega⟩, by show (x.i : Int) + 1 = ((x.i + 1 : Nat) : Int); omega, hlast, SBle.refl _, SBle.refl _, trivial⟩⟩⟩⟩⟩⟩
    have hkl' : k < (x.T.act (g x.i)).2.ss.length := by simpa using hkl
    try simp only [Int.toNat_natCast, Nat.zero_add]
    refine ⟨⟨by omega, by omega⟩, hkl', fun q => absurd (of_decide_eq_true q) (by have := (hI'.pos _ (getD_mem hkl')).2; omega), fun _ => ⟨fun hk0 => ?_, fun _ => ⟨⟨by omega, by omega⟩, k + 1, ⟨by omega, by omega⟩, by omega, SBle.refl _, SBle.refl _, SBle.refl _, SBle.refl _, SBle.refl _, trivial⟩⟩⟩
    have hk0' : 0 < k := by simpa using hk0
    have hkm : ((k : Int) - 1).toNat = k - 1 := by omega
    rw [hkm]
    refine ⟨⟨by omega, by omega⟩, ⟨by omega, by omega⟩, by omega, ⟨by omega, by omega⟩, hkl', fun q => absurd (of_decide_eq_true q) ?_, fun _ => ⟨⟨by omega, by omega⟩, k + 1, ⟨by omega, by omega⟩, by omega, SBle.refl _, SBle.refl _, SBle.refl _, SBle.refl _, SBle.refl _, trivial⟩⟩
    have := getD_lt hI'.ids (i := k - 1) (by omega)
    rw [show k - 1 + 1 = k by omega] at this
    omega
  · have hlast : x.T.opened = (x.T.act (g x.i)).2.opened := (act_other fun q => of_decide_eq_false hk q.1).symm
    clear hk
    have hmm : min (max most 1) 4 = topM most := rfl
    have hlen := hI'.len
    have hkept := kept_le hI'.ok.stored
    have hlen4 : (x.T.act (g x.i)).2.ss.length ≤ 4 := by omega
    refine ⟨(x.T.act (g x.i)).2, SBle.refl _, ⟨hI'.ok, trivial⟩, fun c2 hc2 => ⟨fun q => absurd (of_decide_eq_true q) (by rw [hmm]; omega), fun _ => ⟨(x.T.act (g x.i)).2, SBle.refl _, ⟨hI'.ok, trivial⟩, ⟨by omega, by omega⟩, fun q => absurd (of_decide_eq_true q) (by omega), fun _ =>
      ⟨⟨0, by omega, rfl, SBle.refl _, SBle.refl _, SBle.refl _, SBle.refl _, SBle.refl _, trivial⟩, fun k hk => ⟨fun hkl => ?_, fun hkl => ⟨⟨by omega, by omega⟩, ⟨x.i + 1, (x.T.act (g x.i)).2⟩, ⟨⟨by show x.i + 1 ≤ n; omega, hI'⟩, by show n - (x.i + 1) < n - x.i; omega⟩, by show (x.i : Int) + 1 = ((x.i + 1 : Nat) : Int); omega, hlast, SBle.refl _, SBle.refl _, trivial⟩⟩⟩⟩⟩⟩
    have hkl' : k < (x.T.act (g x.i)).2.ss.length := by simpa using hkl
    try simp only [Int.toNat_natCast, Nat.zero_add]
    refine ⟨⟨by omega, by omega⟩, hkl', fun q => absurd (of_decide_eq_true q) (by have := (hI'.pos _ (getD_mem hkl')).2; omega), fun _ => ⟨fun hk0 => ?_, fun _ => ⟨⟨by omega, by omega⟩, k + 1, ⟨by omega, by omega⟩, by omega, SBle.refl _, SBle.refl _, SBle.refl _, SBle.refl _, SBle.refl _, trivial⟩⟩⟩
    have hk0' : 0 < k := by simpa using hk0
    have hkm : ((k : Int) - 1).toNat = k - 1 := by omega
    rw [hkm]
    refine ⟨⟨by omega, by omega⟩, ⟨by omega, by omega⟩, by omega, ⟨by omega, by omega⟩, hkl', fun q => absurd (of_decide_eq_true q) ?_, fun _ => ⟨⟨by omega, by omega⟩, k + 1, ⟨by omega, by omega⟩, by omega, SBle.refl _, SBle.refl _, SBle.refl _, SBle.refl _, SBle.refl _, trivial⟩⟩
    have := getD_lt hI'.ids (i := k - 1) (by omega)
    rw [show k - 1 + 1 = k by omega] at this
    omega
end Go.Proofs.Ytobbhdmbblhgaaa
