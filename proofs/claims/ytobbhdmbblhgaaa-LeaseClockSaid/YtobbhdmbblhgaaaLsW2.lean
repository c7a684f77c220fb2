/-
  Lease: what Store, Replay, Kept, All do, shown from the conditions that the executor computes.
-/
import Derived.Test.YtobbhdmbblhgaaaLsW1
namespace Go.Proofs.Ytobbhdmbblhgaaa
open Go Sx

set_option maxHeartbeats 2000000 in
theorem store_holds {T : Tb} (hT : T.Ok) (id seq : Int) (text : List UInt8) : ∃ i : Int, Holds (runT 19 Try.f19 T i [iv id, iv seq, .str false text] (postK (MPost (storeS id seq text T).2.1 (storeS id seq text T).2.2))) := by
  have hlen := hT.len
  obtain ⟨o1, o2⟩ := hT.opened
  obtain ⟨t1, t2⟩ := hT.term
  obtain ⟨n1, n2⟩ := hT.ends
  have hst := hT.stored
  have hmost := hT.most
  refine ⟨0, Holds.mk ?_⟩
  obtain ⟨most, term, ss, opened, e0, e1, e2, e3, e4, e5, e6, e7, ends⟩ := T
  simp only at hlen o1 o2 t1 t2 n1 n2 hst hmost
  match ss, hlen, hst with
  | [], _, hst =>
    have hv := vcStore0 ⟨most, term, [], opened, e0, e1, e2, e3, e4, e5, e6, e7, ends⟩  id seq text (MPost (storeS id seq text ⟨most, term, [], opened, e0, e1, e2, e3, e4, e5, e6, e7, ends⟩).2.1 (storeS id seq text ⟨most, term, [], opened, e0, e1, e2, e3, e4, e5, e6, e7, ends⟩).2.2)
    dsimp only at hv
    rw [hv]
    clear hv
    repeat' first
      | refine ends_loop ⟨most, term, [], opened, e0, e1, e2, e3, e4, e5, e6, e7, ends⟩ rfl rfl n1 (SBle.refl _) ⟨SBle.refl _, trivial⟩ (SBle.refl _) ⟨SBle.refl _, trivial⟩ (fun hr => ?_) (fun hr => ?_)
      | refine ends_loop ⟨most, term, [], opened, e0, e1, e2, e3, e4, e5, e6, e7, ends⟩ rfl rfl n1 (SBle.refl _) trivial (SBle.refl _) trivial (fun hr => ?_) (fun hr => ?_)
      | refine And.intro ?_ ?_
      | (intro hh; simp [-Int.not_le, -Int.not_lt] at hh)
      | intro hh
    all_goals first
      | trivial
      | omega
      | (refine ⟨fun E => ?_, ?_⟩ <;> simp [storeS, Tb.store, Tb.storeE, modSl, storeSl, Tb.of, Tb.live, findSl, iv, SV.val, SV.vals, IsTb, pad4, *] <;> (try decide) <;> (try omega))
  | [a], _, hst =>
    have hv := vcStore1 ⟨most, term, [a], opened, e0, e1, e2, e3, e4, e5, e6, e7, ends⟩ a id seq text (MPost (storeS id seq text ⟨most, term, [a], opened, e0, e1, e2, e3, e4, e5, e6, e7, ends⟩).2.1 (storeS id seq text ⟨most, term, [a], opened, e0, e1, e2, e3, e4, e5, e6, e7, ends⟩).2.2)
    dsimp only at hv
    rw [hv]
    clear hv
    simp only [List.mem_cons, List.not_mem_nil, or_false, forall_eq_or_imp, forall_eq] at hst
    repeat' first
      | refine ends_loop ⟨most, term, [a], opened, e0, e1, e2, e3, e4, e5, e6, e7, ends⟩ rfl rfl n1 (SBle.refl _) ⟨SBle.refl _, trivial⟩ (SBle.refl _) ⟨SBle.refl _, trivial⟩ (fun hr => ?_) (fun hr => ?_)
      | refine ends_loop ⟨most, term, [a], opened, e0, e1, e2, e3, e4, e5, e6, e7, ends⟩ rfl rfl n1 (SBle.refl _) trivial (SBle.refl _) trivial (fun hr => ?_) (fun hr => ?_)
      | refine And.intro ?_ ?_
      | (intro hh; simp [-Int.not_le, -Int.not_lt] at hh)
      | intro hh
    all_goals first
      | trivial
      | omega
      | (refine ⟨fun E => ?_, ?_⟩ <;> simp [storeS, Tb.store, Tb.storeE, modSl, storeSl, Tb.of, Tb.live, findSl, iv, SV.val, SV.vals, IsTb, pad4, *] <;> (try decide) <;> (try omega))
  | [a, b], _, hst =>
    have hv := vcStore2 ⟨most, term, [a, b], opened, e0, e1, e2, e3, e4, e5, e6, e7, ends⟩ a b id seq text (MPost (storeS id seq text ⟨most, term, [a, b], opened, e0, e1, e2, e3, e4, e5, e6, e7, ends⟩).2.1 (storeS id seq text ⟨most, term, [a, b], opened, e0, e1, e2, e3, e4, e5, e6, e7, ends⟩).2.2)
    dsimp only at hv
    rw [hv]
    clear hv
    simp only [List.mem_cons, List.not_mem_nil, or_false, forall_eq_or_imp, forall_eq] at hst
    repeat' first
      | refine ends_loop ⟨most, term, [a, b], opened, e0, e1, e2, e3, e4, e5, e6, e7, ends⟩ rfl rfl n1 (SBle.refl _) ⟨SBle.refl _, trivial⟩ (SBle.refl _) ⟨SBle.refl _, trivial⟩ (fun hr => ?_) (fun hr => ?_)
      | refine ends_loop ⟨most, term, [a, b], opened, e0, e1, e2, e3, e4, e5, e6, e7, ends⟩ rfl rfl n1 (SBle.refl _) trivial (SBle.refl _) trivial (fun hr => ?_) (fun hr => ?_)
      | refine And.intro ?_ ?_
      | (intro hh; simp [-Int.not_le, -Int.not_lt] at hh)
      | intro hh
    all_goals first
      | trivial
      | omega
      | (refine ⟨fun E => ?_, ?_⟩ <;> simp [storeS, Tb.store, Tb.storeE, modSl, storeSl, Tb.of, Tb.live, findSl, iv, SV.val, SV.vals, IsTb, pad4, *] <;> (try decide) <;> (try omega))
  | [a, b, c], _, hst =>
    have hv := vcStore3 ⟨most, term, [a, b, c], opened, e0, e1, e2, e3, e4, e5, e6, e7, ends⟩ a b c id seq text (MPost (storeS id seq text ⟨most, term, [a, b, c], opened, e0, e1, e2, e3, e4, e5, e6, e7, ends⟩).2.1 (storeS id seq text ⟨most, term, [a, b, c], opened, e0, e1, e2, e3, e4, e5, e6, e7, ends⟩).2.2)
    dsimp only at hv
    rw [hv]
    clear hv
    simp only [List.mem_cons, List.not_mem_nil, or_false, forall_eq_or_imp, forall_eq] at hst
    repeat' first
      | refine ends_loop ⟨most, term, [a, b, c], opened, e0, e1, e2, e3, e4, e5, e6, e7, ends⟩ rfl rfl n1 (SBle.refl _) ⟨SBle.refl _, trivial⟩ (SBle.refl _) ⟨SBle.refl _, trivial⟩ (fun hr => ?_) (fun hr => ?_)
      | refine ends_loop ⟨most, term, [a, b, c], opened, e0, e1, e2, e3, e4, e5, e6, e7, ends⟩ rfl rfl n1 (SBle.refl _) trivial (SBle.refl _) trivial (fun hr => ?_) (fun hr => ?_)
      | refine And.intro ?_ ?_
      | (intro hh; simp [-Int.not_le, -Int.not_lt] at hh)
      | intro hh
    all_goals first
      | trivial
      | omega
      | (refine ⟨fun E => ?_, ?_⟩ <;> simp [storeS, Tb.store, Tb.storeE, modSl, storeSl, Tb.of, Tb.live, findSl, iv, SV.val, SV.vals, IsTb, pad4, *] <;> (try decide) <;> (try omega))
  | [a, b, c, d], _, hst =>
    have hv := vcStore4 ⟨most, term, [a, b, c, d], opened, e0, e1, e2, e3, e4, e5, e6, e7, ends⟩ a b c d id seq text (MPost (storeS id seq text ⟨most, term, [a, b, c, d], opened, e0, e1, e2, e3, e4, e5, e6, e7, ends⟩).2.1 (storeS id seq text ⟨most, term, [a, b, c, d], opened, e0, e1, e2, e3, e4, e5, e6, e7, ends⟩).2.2)
    dsimp only at hv
    rw [hv]
    clear hv
    simp only [List.mem_cons, List.not_mem_nil, or_false, forall_eq_or_imp, forall_eq] at hst
    repeat' first
      | refine ends_loop ⟨most, term, [a, b, c, d], opened, e0, e1, e2, e3, e4, e5, e6, e7, ends⟩ rfl rfl n1 (SBle.refl _) ⟨SBle.refl _, trivial⟩ (SBle.refl _) ⟨SBle.refl _, trivial⟩ (fun hr => ?_) (fun hr => ?_)
      | refine ends_loop ⟨most, term, [a, b, c, d], opened, e0, e1, e2, e3, e4, e5, e6, e7, ends⟩ rfl rfl n1 (SBle.refl _) trivial (SBle.refl _) trivial (fun hr => ?_) (fun hr => ?_)
      | refine And.intro ?_ ?_
      | (intro hh; simp [-Int.not_le, -Int.not_lt] at hh)
      | intro hh
    all_goals first
      | trivial
      | omega
      | (refine ⟨fun E => ?_, ?_⟩ <;> simp [storeS, Tb.store, Tb.storeE, modSl, storeSl, Tb.of, Tb.live, findSl, iv, SV.val, SV.vals, IsTb, pad4, *] <;> (try decide) <;> (try omega))
set_option maxHeartbeats 2000000 in
theorem replay_holds {T : Tb} (hT : T.Ok) (id seq : Int) : ∃ i : Int, Holds (runT 18 Try.f18 T i [iv id, iv seq] (postK (MPost (replayS id seq T).2.1 (replayS id seq T).2.2))) := by
  have hlen := hT.len
  obtain ⟨o1, o2⟩ := hT.opened
  obtain ⟨t1, t2⟩ := hT.term
  obtain ⟨n1, n2⟩ := hT.ends
  have hst := hT.stored
  have hmost := hT.most
  refine ⟨0, Holds.mk ?_⟩
  obtain ⟨most, term, ss, opened, e0, e1, e2, e3, e4, e5, e6, e7, ends⟩ := T
  simp only at hlen o1 o2 t1 t2 n1 n2 hst hmost
  match ss, hlen, hst with
  | [], _, hst =>
    have hv := vcReplay0 ⟨most, term, [], opened, e0, e1, e2, e3, e4, e5, e6, e7, ends⟩  id seq (MPost (replayS id seq ⟨most, term, [], opened, e0, e1, e2, e3, e4, e5, e6, e7, ends⟩).2.1 (replayS id seq ⟨most, term, [], opened, e0, e1, e2, e3, e4, e5, e6, e7, ends⟩).2.2)
    dsimp only at hv
    rw [hv]
    clear hv
    repeat' first
      | refine ends_loop ⟨most, term, [], opened, e0, e1, e2, e3, e4, e5, e6, e7, ends⟩ rfl rfl n1 (SBle.refl _) ⟨SBle.refl _, trivial⟩ (SBle.refl _) ⟨SBle.refl _, trivial⟩ (fun hr => ?_) (fun hr => ?_)
      | refine ends_loop ⟨most, term, [], opened, e0, e1, e2, e3, e4, e5, e6, e7, ends⟩ rfl rfl n1 (SBle.refl _) trivial (SBle.refl _) trivial (fun hr => ?_) (fun hr => ?_)
      | refine And.intro ?_ ?_
      | (intro hh; simp [-Int.not_le, -Int.not_lt] at hh)
      | intro hh
    all_goals first
      | trivial
      | omega
      | (refine ⟨fun E => ?_, ?_⟩ <;> simp [replayS, Tb.replay, Sl.replay, Tb.of, Tb.live, findSl, iv, SV.val, SV.vals, IsTb, pad4, *] <;> (try decide) <;> (try omega))
  | [a], _, hst =>
    have hv := vcReplay1 ⟨most, term, [a], opened, e0, e1, e2, e3, e4, e5, e6, e7, ends⟩ a id seq (MPost (replayS id seq ⟨most, term, [a], opened, e0, e1, e2, e3, e4, e5, e6, e7, ends⟩).2.1 (replayS id seq ⟨most, term, [a], opened, e0, e1, e2, e3, e4, e5, e6, e7, ends⟩).2.2)
    dsimp only at hv
    rw [hv]
    clear hv
    simp only [List.mem_cons, List.not_mem_nil, or_false, forall_eq_or_imp, forall_eq] at hst
    repeat' first
      | refine ends_loop ⟨most, term, [a], opened, e0, e1, e2, e3, e4, e5, e6, e7, ends⟩ rfl rfl n1 (SBle.refl _) ⟨SBle.refl _, trivial⟩ (SBle.refl _) ⟨SBle.refl _, trivial⟩ (fun hr => ?_) (fun hr => ?_)
      | refine ends_loop ⟨most, term, [a], opened, e0, e1, e2, e3, e4, e5, e6, e7, ends⟩ rfl rfl n1 (SBle.refl _) trivial (SBle.refl _) trivial (fun hr => ?_) (fun hr => ?_)
      | refine And.intro ?_ ?_
      | (intro hh; simp [-Int.not_le, -Int.not_lt] at hh)
      | intro hh
    all_goals first
      | trivial
      | omega
      | (refine ⟨fun E => ?_, ?_⟩ <;> simp [replayS, Tb.replay, Sl.replay, Tb.of, Tb.live, findSl, iv, SV.val, SV.vals, IsTb, pad4, *] <;> (try decide) <;> (try omega))
  | [a, b], _, hst =>
    have hv := vcReplay2 ⟨most, term, [a, b], opened, e0, e1, e2, e3, e4, e5, e6, e7, ends⟩ a b id seq (MPost (replayS id seq ⟨most, term, [a, b], opened, e0, e1, e2, e3, e4, e5, e6, e7, ends⟩).2.1 (replayS id seq ⟨most, term, [a, b], opened, e0, e1, e2, e3, e4, e5, e6, e7, ends⟩).2.2)
    dsimp only at hv
    rw [hv]
    clear hv
    simp only [List.mem_cons, List.not_mem_nil, or_false, forall_eq_or_imp, forall_eq] at hst
    repeat' first
      | refine ends_loop ⟨most, term, [a, b], opened, e0, e1, e2, e3, e4, e5, e6, e7, ends⟩ rfl rfl n1 (SBle.refl _) ⟨SBle.refl _, trivial⟩ (SBle.refl _) ⟨SBle.refl _, trivial⟩ (fun hr => ?_) (fun hr => ?_)
      | refine ends_loop ⟨most, term, [a, b], opened, e0, e1, e2, e3, e4, e5, e6, e7, ends⟩ rfl rfl n1 (SBle.refl _) trivial (SBle.refl _) trivial (fun hr => ?_) (fun hr => ?_)
      | refine And.intro ?_ ?_
      | (intro hh; simp [-Int.not_le, -Int.not_lt] at hh)
      | intro hh
    all_goals first
      | trivial
      | omega
      | (refine ⟨fun E => ?_, ?_⟩ <;> simp [replayS, Tb.replay, Sl.replay, Tb.of, Tb.live, findSl, iv, SV.val, SV.vals, IsTb, pad4, *] <;> (try decide) <;> (try omega))
  | [a, b, c], _, hst =>
    have hv := vcReplay3 ⟨most, term, [a, b, c], opened, e0, e1, e2, e3, e4, e5, e6, e7, ends⟩ a b c id seq (MPost (replayS id seq ⟨most, term, [a, b, c], opened, e0, e1, e2, e3, e4, e5, e6, e7, ends⟩).2.1 (replayS id seq ⟨most, term, [a, b, c], opened, e0, e1, e2, e3, e4, e5, e6, e7, ends⟩).2.2)
    dsimp only at hv
    rw [hv]
    clear hv
    simp only [List.mem_cons, List.not_mem_nil, or_false, forall_eq_or_imp, forall_eq] at hst
    repeat' first
      | refine ends_loop ⟨most, term, [a, b, c], opened, e0, e1, e2, e3, e4, e5, e6, e7, ends⟩ rfl rfl n1 (SBle.refl _) ⟨SBle.refl _, trivial⟩ (SBle.refl _) ⟨SBle.refl _, trivial⟩ (fun hr => ?_) (fun hr => ?_)
      | refine ends_loop ⟨most, term, [a, b, c], opened, e0, e1, e2, e3, e4, e5, e6, e7, ends⟩ rfl rfl n1 (SBle.refl _) trivial (SBle.refl _) trivial (fun hr => ?_) (fun hr => ?_)
      | refine And.intro ?_ ?_
      | (intro hh; simp [-Int.not_le, -Int.not_lt] at hh)
      | intro hh
    all_goals first
      | trivial
      | omega
      | (refine ⟨fun E => ?_, ?_⟩ <;> simp [replayS, Tb.replay, Sl.replay, Tb.of, Tb.live, findSl, iv, SV.val, SV.vals, IsTb, pad4, *] <;> (try decide) <;> (try omega))
  | [a, b, c, d], _, hst =>
    have hv := vcReplay4 ⟨most, term, [a, b, c, d], opened, e0, e1, e2, e3, e4, e5, e6, e7, ends⟩ a b c d id seq (MPost (replayS id seq ⟨most, term, [a, b, c, d], opened, e0, e1, e2, e3, e4, e5, e6, e7, ends⟩).2.1 (replayS id seq ⟨most, term, [a, b, c, d], opened, e0, e1, e2, e3, e4, e5, e6, e7, ends⟩).2.2)
    dsimp only at hv
    rw [hv]
    clear hv
    simp only [List.mem_cons, List.not_mem_nil, or_false, forall_eq_or_imp, forall_eq] at hst
    repeat' first
      | refine ends_loop ⟨most, term, [a, b, c, d], opened, e0, e1, e2, e3, e4, e5, e6, e7, ends⟩ rfl rfl n1 (SBle.refl _) ⟨SBle.refl _, trivial⟩ (SBle.refl _) ⟨SBle.refl _, trivial⟩ (fun hr => ?_) (fun hr => ?_)
      | refine ends_loop ⟨most, term, [a, b, c, d], opened, e0, e1, e2, e3, e4, e5, e6, e7, ends⟩ rfl rfl n1 (SBle.refl _) trivial (SBle.refl _) trivial (fun hr => ?_) (fun hr => ?_)
      | refine And.intro ?_ ?_
      | (intro hh; simp [-Int.not_le, -Int.not_lt] at hh)
      | intro hh
    all_goals first
      | trivial
      | omega
      | (refine ⟨fun E => ?_, ?_⟩ <;> simp [replayS, Tb.replay, Sl.replay, Tb.of, Tb.live, findSl, iv, SV.val, SV.vals, IsTb, pad4, *] <;> (try decide) <;> (try omega))
set_option maxHeartbeats 2000000 in
theorem kept_holds {T : Tb} (hT : T.Ok)  : ∃ i : Int, Holds (runT 12 Try.f12 T i [] (postK (MPost (keptS T).2.1 (keptS T).2.2))) := by
  have hlen := hT.len
  obtain ⟨o1, o2⟩ := hT.opened
  obtain ⟨t1, t2⟩ := hT.term
  obtain ⟨n1, n2⟩ := hT.ends
  have hst := hT.stored
  have hmost := hT.most
  refine ⟨0, Holds.mk ?_⟩
  obtain ⟨most, term, ss, opened, e0, e1, e2, e3, e4, e5, e6, e7, ends⟩ := T
  simp only at hlen o1 o2 t1 t2 n1 n2 hst hmost
  match ss, hlen, hst with
  | [], _, hst =>
    have hv := vcKept0 ⟨most, term, [], opened, e0, e1, e2, e3, e4, e5, e6, e7, ends⟩   (MPost (keptS ⟨most, term, [], opened, e0, e1, e2, e3, e4, e5, e6, e7, ends⟩).2.1 (keptS ⟨most, term, [], opened, e0, e1, e2, e3, e4, e5, e6, e7, ends⟩).2.2)
    dsimp only at hv
    rw [hv]
    clear hv
    repeat' first
      | refine ends_loop ⟨most, term, [], opened, e0, e1, e2, e3, e4, e5, e6, e7, ends⟩ rfl rfl n1 (SBle.refl _) ⟨SBle.refl _, trivial⟩ (SBle.refl _) ⟨SBle.refl _, trivial⟩ (fun hr => ?_) (fun hr => ?_)
      | refine ends_loop ⟨most, term, [], opened, e0, e1, e2, e3, e4, e5, e6, e7, ends⟩ rfl rfl n1 (SBle.refl _) trivial (SBle.refl _) trivial (fun hr => ?_) (fun hr => ?_)
      | refine And.intro ?_ ?_
      | (intro hh; simp [-Int.not_le, -Int.not_lt] at hh)
      | intro hh
    all_goals first
      | trivial
      | omega
      | (refine ⟨fun E => ?_, ?_⟩ <;> simp [keptS, kept, Tb.of, Tb.live, findSl, iv, SV.val, SV.vals, IsTb, pad4, *] <;> (try decide) <;> (try omega))
  | [a], _, hst =>
    have hv := vcKept1 ⟨most, term, [a], opened, e0, e1, e2, e3, e4, e5, e6, e7, ends⟩ a  (MPost (keptS ⟨most, term, [a], opened, e0, e1, e2, e3, e4, e5, e6, e7, ends⟩).2.1 (keptS ⟨most, term, [a], opened, e0, e1, e2, e3, e4, e5, e6, e7, ends⟩).2.2)
    dsimp only at hv
    rw [hv]
    clear hv
    simp only [List.mem_cons, List.not_mem_nil, or_false, forall_eq_or_imp, forall_eq] at hst
    repeat' first
      | refine ends_loop ⟨most, term, [a], opened, e0, e1, e2, e3, e4, e5, e6, e7, ends⟩ rfl rfl n1 (SBle.refl _) ⟨SBle.refl _, trivial⟩ (SBle.refl _) ⟨SBle.refl _, trivial⟩ (fun hr => ?_) (fun hr => ?_)
      | refine ends_loop ⟨most, term, [a], opened, e0, e1, e2, e3, e4, e5, e6, e7, ends⟩ rfl rfl n1 (SBle.refl _) trivial (SBle.refl _) trivial (fun hr => ?_) (fun hr => ?_)
      | refine And.intro ?_ ?_
      | (intro hh; simp [-Int.not_le, -Int.not_lt] at hh)
      | intro hh
    all_goals first
      | trivial
      | omega
      | (refine ⟨fun E => ?_, ?_⟩ <;> simp [keptS, kept, Tb.of, Tb.live, findSl, iv, SV.val, SV.vals, IsTb, pad4, *] <;> (try decide) <;> (try omega))
  | [a, b], _, hst =>
    have hv := vcKept2 ⟨most, term, [a, b], opened, e0, e1, e2, e3, e4, e5, e6, e7, ends⟩ a b  (MPost (keptS ⟨most, term, [a, b], opened, e0, e1, e2, e3, e4, e5, e6, e7, ends⟩).2.1 (keptS ⟨most, term, [a, b], opened, e0, e1, e2, e3, e4, e5, e6, e7, ends⟩).2.2)
    dsimp only at hv
    rw [hv]
    clear hv
    simp only [List.mem_cons, List.not_mem_nil, or_false, forall_eq_or_imp, forall_eq] at hst
    repeat' first
      | refine ends_loop ⟨most, term, [a, b], opened, e0, e1, e2, e3, e4, e5, e6, e7, ends⟩ rfl rfl n1 (SBle.refl _) ⟨SBle.refl _, trivial⟩ (SBle.refl _) ⟨SBle.refl _, trivial⟩ (fun hr => ?_) (fun hr => ?_)
      | refine ends_loop ⟨most, term, [a, b], opened, e0, e1, e2, e3, e4, e5, e6, e7, ends⟩ rfl rfl n1 (SBle.refl _) trivial (SBle.refl _) trivial (fun hr => ?_) (fun hr => ?_)
      | refine And.intro ?_ ?_
      | (intro hh; simp [-Int.not_le, -Int.not_lt] at hh)
      | intro hh
    all_goals first
      | trivial
      | omega
      | (refine ⟨fun E => ?_, ?_⟩ <;> simp [keptS, kept, Tb.of, Tb.live, findSl, iv, SV.val, SV.vals, IsTb, pad4, *] <;> (try decide) <;> (try omega))
  | [a, b, c], _, hst =>
    have hv := vcKept3 ⟨most, term, [a, b, c], opened, e0, e1, e2, e3, e4, e5, e6, e7, ends⟩ a b c  (MPost (keptS ⟨most, term, [a, b, c], opened, e0, e1, e2, e3, e4, e5, e6, e7, ends⟩).2.1 (keptS ⟨most, term, [a, b, c], opened, e0, e1, e2, e3, e4, e5, e6, e7, ends⟩).2.2)
    dsimp only at hv
    rw [hv]
    clear hv
    simp only [List.mem_cons, List.not_mem_nil, or_false, forall_eq_or_imp, forall_eq] at hst
    repeat' first
      | refine ends_loop ⟨most, term, [a, b, c], opened, e0, e1, e2, e3, e4, e5, e6, e7, ends⟩ rfl rfl n1 (SBle.refl _) ⟨SBle.refl _, trivial⟩ (SBle.refl _) ⟨SBle.refl _, trivial⟩ (fun hr => ?_) (fun hr => ?_)
      | refine ends_loop ⟨most, term, [a, b, c], opened, e0, e1, e2, e3, e4, e5, e6, e7, ends⟩ rfl rfl n1 (SBle.refl _) trivial (SBle.refl _) trivial (fun hr => ?_) (fun hr => ?_)
      | refine And.intro ?_ ?_
      | (intro hh; simp [-Int.not_le, -Int.not_lt] at hh)
      | intro hh
    all_goals first
      | trivial
      | omega
      | (refine ⟨fun E => ?_, ?_⟩ <;> simp [keptS, kept, Tb.of, Tb.live, findSl, iv, SV.val, SV.vals, IsTb, pad4, *] <;> (try decide) <;> (try omega))
  | [a, b, c, d], _, hst =>
    have hv := vcKept4 ⟨most, term, [a, b, c, d], opened, e0, e1, e2, e3, e4, e5, e6, e7, ends⟩ a b c d  (MPost (keptS ⟨most, term, [a, b, c, d], opened, e0, e1, e2, e3, e4, e5, e6, e7, ends⟩).2.1 (keptS ⟨most, term, [a, b, c, d], opened, e0, e1, e2, e3, e4, e5, e6, e7, ends⟩).2.2)
    dsimp only at hv
    rw [hv]
    clear hv
    simp only [List.mem_cons, List.not_mem_nil, or_false, forall_eq_or_imp, forall_eq] at hst
    repeat' first
      | refine ends_loop ⟨most, term, [a, b, c, d], opened, e0, e1, e2, e3, e4, e5, e6, e7, ends⟩ rfl rfl n1 (SBle.refl _) ⟨SBle.refl _, trivial⟩ (SBle.refl _) ⟨SBle.refl _, trivial⟩ (fun hr => ?_) (fun hr => ?_)
      | refine ends_loop ⟨most, term, [a, b, c, d], opened, e0, e1, e2, e3, e4, e5, e6, e7, ends⟩ rfl rfl n1 (SBle.refl _) trivial (SBle.refl _) trivial (fun hr => ?_) (fun hr => ?_)
      | refine And.intro ?_ ?_
      | (intro hh; simp [-Int.not_le, -Int.not_lt] at hh)
      | intro hh
    all_goals first
      | trivial
      | omega
      | (refine ⟨fun E => ?_, ?_⟩ <;> simp [keptS, kept, Tb.of, Tb.live, findSl, iv, SV.val, SV.vals, IsTb, pad4, *] <;> (try decide) <;> (try omega))
theorem all_holds {T : Tb} (hT : T.Ok) : Holds (runT 11 Try.f11 T 0 [] (rowK (IsRow false T.ss T))) := by
  refine Holds.mk ?_
  have hlen := hT.len
  obtain ⟨most, term, ss, opened, e0, e1, e2, e3, e4, e5, e6, e7, ends⟩ := T
  simp only at hlen
  match ss, hlen with
  | [], _ =>
    have hv := vcAll0 ⟨most, term, [], opened, e0, e1, e2, e3, e4, e5, e6, e7, ends⟩  (IsRow false [] ⟨most, term, [], opened, e0, e1, e2, e3, e4, e5, e6, e7, ends⟩)
    dsimp only at hv
    rw [hv]
    clear hv
    simp [IsRow, IsTb, pad4, Sl.bare, iv, SV.val]
  | [a], _ =>
    have hv := vcAll1 ⟨most, term, [a], opened, e0, e1, e2, e3, e4, e5, e6, e7, ends⟩ a (IsRow false [a] ⟨most, term, [a], opened, e0, e1, e2, e3, e4, e5, e6, e7, ends⟩)
    dsimp only at hv
    rw [hv]
    clear hv
    simp [IsRow, IsTb, pad4, Sl.bare, iv, SV.val]
  | [a, b], _ =>
    have hv := vcAll2 ⟨most, term, [a, b], opened, e0, e1, e2, e3, e4, e5, e6, e7, ends⟩ a b (IsRow false [a, b] ⟨most, term, [a, b], opened, e0, e1, e2, e3, e4, e5, e6, e7, ends⟩)
    dsimp only at hv
    rw [hv]
    clear hv
    simp [IsRow, IsTb, pad4, Sl.bare, iv, SV.val]
  | [a, b, c], _ =>
    have hv := vcAll3 ⟨most, term, [a, b, c], opened, e0, e1, e2, e3, e4, e5, e6, e7, ends⟩ a b c (IsRow false [a, b, c] ⟨most, term, [a, b, c], opened, e0, e1, e2, e3, e4, e5, e6, e7, ends⟩)
    dsimp only at hv
    rw [hv]
    clear hv
    simp [IsRow, IsTb, pad4, Sl.bare, iv, SV.val]
  | [a, b, c, d], _ =>
    have hv := vcAll4 ⟨most, term, [a, b, c, d], opened, e0, e1, e2, e3, e4, e5, e6, e7, ends⟩ a b c d (IsRow false [a, b, c, d] ⟨most, term, [a, b, c, d], opened, e0, e1, e2, e3, e4, e5, e6, e7, ends⟩)
    dsimp only at hv
    rw [hv]
    clear hv
    simp [IsRow, IsTb, pad4, Sl.bare, iv, SV.val]
end Go.Proofs.Ytobbhdmbblhgaaa
