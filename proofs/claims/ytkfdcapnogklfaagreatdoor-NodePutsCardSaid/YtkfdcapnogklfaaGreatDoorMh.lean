/-
  The framework's twentieth part: from a call's run to a law's row: arguments that are only read; a slice among them as a view.
-/
import Derived.Test.YtkfdcapnogklfaaGreatDoorMf
import Derived.ProofKit
import Derived.Below
import Derived.ChangeSame
import Derived.ChangeVars
import Derived.JoinedOf
import Derived.LaidLaws
import Derived.LaidHandle
import Derived.RowKitTokens
import Derived.Handed
namespace Go.Proofs.YtkfdcapnogklfaaGreatDoor.Sx
open Go Go.RowKit Go.WideShapes Go.ChangeShapes
section
variable {H : Type} {enc : TypeId × Value → H} {P : Program}
theorem post_of_below {f : Func} {s : ChangeSpec} {apart fresh handsOn again : Bool} {W W' : World} {args : Array Value} {v : Value} {ds gs : List (DataW H)} {before pa pv : List MemPlace}
    (hW : DataW.Whole enc P f.params.toList s.vars apart W args.toList ds gs before)
    (hres : ∀ (b : Nat) (sp : Nat → Bool) (hd : Bool), DataW.TrodAll enc P W' b sp hd f.resultTypes.toList (v.resultList f.resultTypes.size) (s.fn H (ds ++ gs)).results [])
    (hargs : ∀ sp : Nat → Bool, (∀ p ∈ before, sp p.block = true) → DataW.TrodAll enc P W' 0 sp true f.params.toList args.toList (s.fn H (ds ++ gs)).args pa)
    (hvars : ∀ sp : Nat → Bool, (∀ p ∈ before, sp p.block = true) → DataW.TrodVars enc P W' sp s.vars (s.fn H (ds ++ gs)).vars pv)
    (hps : before = pa ++ pv) (hb : Below W.heap.size W W')
    (hok : ∀ (j : Nat) (t : TypeId) (r : Value), f.resultTypes[j]? = some t → (v.resultList f.resultTypes.size)[j]? = some r → Value.okWide P W' .any 0 t r) :
    s.post enc P f apart fresh handsOn again W args v W' := by
  have hlt : ∀ p ∈ before, p.block < W.heap.size := fun p hp => hW.lt p hp
  have hold : ∀ p ∈ before, (fun b => decide (b < W.heap.size)) p.block = true := fun p hp => by simpa using hlt p hp
  refine ⟨ds, gs, before, [], pa, pv, hW, hres _ _ _, hargs _ hold, hvars _ hold, World.keptBut_mono (fun p hp => ⟨hp, ?_⟩) (hb.frame (· ∈ before)), fun _ => ?_⟩
  · rw [hps, List.mem_append] at hp
    exact Or.inr hp
  · obtain ⟨_, _, _, _, _, hz, hn⟩ := hW
    refine ⟨hok, _, _, ([] ++ pa) ++ pv, ⟨[] ++ pa, pv, trodAll_append (hargs _ (fun _ _ => rfl)) (hres _ _ _), hvars _ (fun _ _ => rfl), rfl, ?_, ?_⟩, ?_⟩
    · intro b off hp
      have hin : MemPlace.cell b off ∈ before := by rw [hps]; simpa using hp
      rw [hb.frozen (hlt _ hin)]
      exact hz b off hin
    · intro ha
      have := hn ha
      rw [hps] at this
      simpa using this
    · intro p hp _
      rw [hps]
      simpa using hp
theorem trodAll_stays (hl : laidOutB P = true) {W W' : World} (hb : Below W.heap.size W W') {sp : Nat → Bool} : ∀ {ts : List TypeId} {vs : List Value} {ds : List (DataW H)} {ps : List MemPlace},
    (∀ t ∈ ts, P.readableRec t = true ∧ t < P.types.size) → DataW.TrodAll enc P W 0 (fun _ => true) true ts vs ds ps → (∀ x ∈ ps, x.block < W.heap.size) → (∀ x ∈ ps, sp x.block = true) → DataW.TrodAll enc P W' 0 sp true ts vs ds ps
  | [], [], [], ps, _, h, _, _ => h
  | t :: ts, v :: vs, d :: ds, ps, ht, h, hlt, hsp => by
    obtain ⟨p, q, h1, h2, rfl⟩ := h
    refine ⟨p, q, ?_, trodAll_stays hl hb (fun t h => ht t (List.mem_cons_of_mem _ h)) h2 (fun x hx => hlt x (by simp [hx])) (fun x hx => hsp x (by simp [hx])), rfl⟩
    exact WideElems.Trod_stays hl (ht t (List.mem_cons_self ..)).1 (ht t (List.mem_cons_self ..)).2 h1 (fun x hx => hb.same (hlt x (by simp [hx]))) (fun x hx => hsp x (by simp [hx]))
theorem trodAll_len {W : World} {b : Nat} {sp : Nat → Bool} {hd : Bool} : ∀ {ts : List TypeId} {vs : List Value} {ds : List (DataW H)} {ps : List MemPlace}, DataW.TrodAll enc P W b sp hd ts vs ds ps → ds.length = ts.length ∧ vs.length = ts.length
  | [], [], [], _, _ => ⟨rfl, rfl⟩
  | _ :: _, _ :: _, _ :: _, _, h => by
    obtain ⟨p, q, _, h2, _⟩ := h
    have := trodAll_len h2
    simp [this.1, this.2]
  | [], [], _ :: _, _, h => h.elim
  | [], _ :: _, _, _, h => h.elim
  | _ :: _, [], _, _, h => h.elim
  | _ :: _, _ :: _, [], _, h => h.elim
end
/-! ### A slice among the arguments -/
end Go.Proofs.YtkfdcapnogklfaaGreatDoor.Sx
/-
  The framework's part 24: from a call's run to a law's row whose listed variables are laid by the program's text.
-/
namespace Go.Proofs.YtkfdcapnogklfaaGreatDoor.Sx
open Go Go.RowKit Go.WideShapes Go.ChangeShapes
theorem law_laid {H : Type} {enc : TypeId × Value → H} {C : Checked} {os : Os} {f : FuncId} {fn : Func} {s : ChangeSpec} {apart fresh handsOn again : Bool} {boolT : TypeId} {X : World → Prop}
    (hX : ∀ (w w' : World), w.heap = w'.heap → X w → X w')
    (own : ownKnob C.prog.godebug = none) (started : os.Started) (noInit : C.prog.inits.idxOf? f = none) (hfn : C.prog.funcs[f]? = some fn)
    (witness : ∃ (w : World) (tape : Tape) (i : Input), w.os = os ∧ (w.forCall tape i).Shaped C.prog ∧ i.vars = [] ∧ Input.okWide C.prog (w.forCall tape i) .any w.heap.size f i ∧
      ((s.pre enc C.prog fn [] apart (w.forCall tape i).memory i.args ∧ X (w.forCall tape i).memory) ∧ sizedMet enc C.prog fn (OpenSpec.ofChange s) apart (w.forCall tape i).memory i.args) ∧ ({} : Assume).holds C.prog (lone (Frame.enter C.prog f i.args .normal) [] (w.forCall tape i)))
    (hl : laidOutB C.prog = true) (hr : fn.resultTypes = #[boolT]) (hbt : C.prog.underlying boolT = some .bool) (_hformed : C.prog.cellsOf boolT = 1)
    (hp : ∀ t ∈ fn.params.toList, C.prog.readableRec t = true ∧ t < C.prog.types.size) (hvars : s.vars = [])
    (hspec : ∀ ds : List (DataW H), ds.length = fn.params.toList.length → s.fn H ds = { results := [.lit (.bool true)], args := ds })
    (hcall : ∀ (W : World) (args : Array Value) (ds : List (DataW H)) (ps : List MemPlace),
      (∀ (j : Nat) t v, fn.params[j]? = some t → args[j]? = some v → ∃ base, Value.okWide C.prog W .any base t v) →
      DataW.TrodAll enc C.prog W 0 (fun _ => true) true fn.params.toList args.toList ds ps → X W →
      Calls C.prog f args W fun e W' => e = .returned (.bool true) ∧ Below W.heap.size W W') :
    ReturnsInHanded {} C os f .any (fun w args => (s.pre enc C.prog fn [] apart w args ∧ X w) ∧ sizedMet enc C.prog fn (OpenSpec.ofChange s) apart w args) (s.post enc C.prog fn apart fresh handsOn again) := by
  refine returnsInHanded_of_change_and (C := C) (X := fun w _ => X w) (fun w w' _ hh h => hX w w' hh h) own started noInit hfn witness ?_
  intro W base args ds gs before hval hW _ _ hXW _
  have hW' := hW
  obtain ⟨p, q, hA, hV, rfl, hfz, hnd⟩ := hW
  rw [hvars] at hV
  obtain ⟨rfl, rfl⟩ := trodVars_none hV
  have hlen := (trodAll_len hA).1
  refine (hcall W args ds p (fun j t v h1 h2 => ⟨base, hval j t v h1 h2⟩) hA hXW).mono fun e W' ⟨he, hb⟩ => ?_
  subst he
  have hs := hspec ds hlen
  refine ⟨_, rfl, post_of_below (pa := p) (pv := []) hW' ?_ ?_ ?_ rfl hb ?_⟩
  · intro b sp hd
    rw [List.append_nil, hs, hr]
    exact trodAll_mk1 (shut_bool hbt true)
  · intro sp hsp
    rw [List.append_nil, hs]
    exact trodAll_stays hl hb hp hA (fun x hx => by have := hW'.lt x (by simpa using hx); exact this) (fun x hx => hsp x (by simpa using hx))
  · intro sp _
    rw [hvars, List.append_nil, hs]
    rfl
  · exact ok_one hr (by rfl) (okWide_bool_mk hbt _)
theorem cells_of_cell {W : World} {b : Nat} {v : Value} (h : W.cell? ⟨b, 0, none⟩ = some v) : ∃ c ty fr, W.heap[b]? = some (.cells c ty fr) ∧ c[0]? = some v := by
  unfold World.cell? at h
  cases hb : W.heap[b]? with
  | none => rw [hb] at h; cases h
  | some o =>
    rw [hb] at h
    cases o <;> first | exact ⟨_, _, _, rfl, h⟩ | cases h
end Go.Proofs.YtkfdcapnogklfaaGreatDoor.Sx
/-
  The framework's part 26: a law's arguments that are structs: their cells, one by one.
-/
namespace Go.Proofs.YtkfdcapnogklfaaGreatDoor.Sx
open Go Go.RowKit Go.WideShapes Go.ChangeShapes
theorem cell_int {P : Program} {w : World} {base : Nat} {u : TypeId} {k : IntKind} {x : Value} (hu : P.underlying u = some (.int k)) (h : Cell.okWide P w .any base u x) : ∃ n, x = .int k n ∧ k.has n := by
  unfold Cell.okWide Cell.ok at h
  rw [hu] at h
  cases x <;> simp only at h
  all_goals first
    | exact h.elim
    | (obtain ⟨rfl, h⟩ := h; exact ⟨_, rfl, h⟩)
theorem cell_str {P : Program} {w : World} {base : Nat} {u : TypeId} {x : Value} (hu : P.underlying u = some .string) (h : Cell.okWide P w .any base u x) : ∃ s : List UInt8, x = .string ⟨s.toArray⟩ := by
  unfold Cell.okWide Cell.ok at h
  rw [hu] at h
  cases x <;> simp only at h
  all_goals first
    | exact h.elim
    | (rename_i s; exact ⟨s.data.toList, by simp⟩)
theorem arg_row {P : Program} {w : World} {base : Nat} {t : TypeId} {fs : Array Field} {ts : List TypeId} {v : Value} (ht : P.underlying t = some (.struct fs)) (hts : P.cellTypes P.depth t = some ts) (hl : P.cellsOf t = ts.length)
    (h : Value.okWide P w .any base t v) : ∃ cs, v = .agg cs ∧ cs.size = ts.length ∧ ∀ (j : Nat) (u : TypeId), ts[j]? = some u → ∃ x, cs[j]? = some x ∧ Cell.okWide P w .any base u x := by
  unfold Value.okWide at h
  rw [ht] at h
  obtain ⟨cs, rfl, hs, ts', hts', _, hc⟩ := h
  rw [hts] at hts'; injection hts' with hts'; subst hts'
  refine ⟨cs, rfl, hs.trans hl, fun j u hu => ?_⟩
  have hj := (List.getElem?_eq_some_iff.1 hu).1
  have hj2 : j < cs.size := by omega
  obtain ⟨u', hu', hok⟩ := hc j cs[j] (Array.getElem?_eq_getElem hj2)
  rw [Nat.mod_eq_of_lt hj, hu] at hu'
  injection hu' with hu'; subst hu'
  exact ⟨_, Array.getElem?_eq_getElem hj2, hok⟩
theorem agg_of {cs : Array Value} {l : List Value} (hs : cs.size = l.length) (h : ∀ (j : Nat) (v : Value), l[j]? = some v → cs[j]? = some v) : cs = l.toArray := by
  refine Array.ext hs fun i h1 h2 => ?_
  have := h i l[i] (List.getElem?_eq_getElem (by omega))
  rw [Array.getElem?_eq_getElem h1] at this
  injection this with this
end Go.Proofs.YtkfdcapnogklfaaGreatDoor.Sx
