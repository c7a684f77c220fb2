/-
  The framework's eighteenth part: functions; what a run of the executor says of a call.
-/
import Derived.Test.YtobbhdmbblhgaaaSxR
namespace Go.Proofs.Ytobbhdmbblhgaaa.Sx
open Go

def resOne (P : Program) (st : St) : ResultVar → Option SV
  | .tmp t => slot st.tmps t
  | .cell a t => (match slot st.tmps a with
    | some (.ptr key true o) => (match st.m.get key with
      | some (.cells cs _ _) => partOf P t cs o
      | _ => none)
    | _ => none)
def resAll (P : Program) (st : St) : List ResultVar → Option (List SV)
  | [] => some []
  | r :: rs => match resOne P st r, resAll P st rs with
    | some v, some l => some (v :: l)
    | _, _ => none
def resVal : List SV → SV
  | [v] => v
  | l => .tup l
def older (nx : Nat) : Mem → Mem
  | [] => []
  | e :: r => match Nat.blt e.1 nx with
    | true => e :: older nx r
    | false => older nx r
def retK (nx : Nat) (v : SV) (m' : Mem) (nx' : Nat) (K : SV → Mem → Nat → VC) : VC :=
  match v.wf nx && Mem.wf nx (older nx m') with
  | true => K v (older nx m') nx
  | false => K v m' nx'
def runFn (P : Program) (call : FuncId → PT) (anns : Anns) (n : Nat) (fn : Func) : PT := fun args m nx K =>
  match fn.body with
  | some body => sx P call anns n body (fun e st => match e with
      | .exit _ => .fail "a jump out of a function"
      | _ => (match resAll P st fn.results.toList with
        | some vs => retK nx (resVal vs) st.m st.nx K
        | none => .fail "a result that is not known"))
      ⟨args.map some ++ List.replicate (fn.ntmps - args.length) none, m, nx⟩
  | none => .fail "a function without a body"

structure Cfg where
  summ : FuncId → Option PT
  fns : FuncId → Option Func
  anns : FuncId → Anns
  rounds : Nat
def callOf (P : Program) (cfg : Cfg) : Nat → FuncId → PT
  | 0, _ => fun _ _ _ _ => .fail "calls too deep"
  | n + 1, f => match cfg.summ f with
    | some pt => pt
    | none => (match cfg.fns f with
      | some fn => runFn P (callOf P cfg n) (cfg.anns f) cfg.rounds fn
      | none => fun _ _ _ _ => .fail "a function that is not known")
structure Good (P : Program) (cfg : Cfg) : Prop where
  mix : P.follows .mixedOrders = true
  summ : ∀ f pt, cfg.summ f = some pt → CallOk P f pt ∧ MonoPT pt
  fns : ∀ f fn, cfg.fns f = some fn → P.funcs[f]? = some fn ∧ (fn.name == "runtime.NumGoroutine") = false

section
variable {P : Program}
theorem resOne_run {w0 : World} {M0 : Nat → Prop} {E : Nat → Nat} {st : St} {a : Act} {w : World} (hs : Sat w0 M0 E st a w) {r : ResultVar} {v : SV} (h : resOne P st r = some v) :
    (match r with
      | .tmp t => (pure (a.tmps.getD t undef) : Sem Value)
      | .cell b t => do loadVar t (← asAddr (a.tmps.getD b undef))).run P w = .ok (v.val E) w := by
  cases r with
  | tmp t =>
    have := hs.tm.val t v (slot_eq h)
    simp [Array.getD_eq_getD_getElem?, this]
  | cell b t =>
    simp only [resOne] at h
    split at h
    · rename_i key o hb
      split at h
      · rename_i cs tot ty hk
        have hv := hs.tm.val b _ (slot_eq hb)
        obtain ⟨ob, ho, c, fr, rfl, _, h2, _⟩ := hs.mm.blk key _ hk rfl
        simp only [Array.getD_eq_getD_getElem?, hv, Option.getD_some, SV.val, asAddr, Sem.run_bind, Sem.run_pure, Result.andThen_ok]
        unfold partOf at h
        split at h
        · cases h
        · rename_i d hd
          split at h
          · rename_i ha
            split at h
            · rename_i n hn
              split at h
              · rename_i l hl
                injection h with h; subst h
                have hg := takeAt_get hl
                have hll := run_loadCells (P := P) ho o (l.map (SV.val E)) (fun j v hj => by
                  rw [List.getElem?_map] at hj
                  cases hjl : l[j]? with
                  | none => rw [hjl] at hj; cases hj
                  | some u => rw [hjl] at hj; injection hj with hj; subst hj; exact h2 _ _ (hg.2 j u hjl))
                rw [List.length_map, hg.1] at hll
                simp only [loadVar, Sem.run_bind, run_isAgg hd, ha, Result.andThen_ok, if_true, run_sz hn, hll, Sem.run_pure, SV.vals_eq, SV.val]
              · cases h
            · cases h
          · rename_i ha
            simp only [loadVar, Sem.run_bind, run_isAgg hd, ha, Result.andThen_ok, Bool.false_eq_true, if_false, run_load, cell_of ho, h2 _ _ h]
      · cases h
    · cases h
theorem resAll_run {w0 : World} {M0 : Nat → Prop} {E : Nat → Nat} {st : St} {a : Act} {w : World} (hs : Sat w0 M0 E st a w) : ∀ {rs : List ResultVar} {l : List SV}, resAll P st rs = some l →
    (rs.mapM (fun r => match r with
      | .tmp t => (pure (a.tmps.getD t undef) : Sem Value)
      | .cell b t => do loadVar t (← asAddr (a.tmps.getD b undef))) : Sem (List Value)).run P w = .ok (SV.vals E l) w
  | [], l, h => by simp [resAll] at h; subst h; simp [SV.vals]
  | r :: rs, l, h => by
    simp only [resAll] at h
    split at h
    · rename_i v l' hv hl
      injection h with h; subst h
      simp only [List.mapM_cons, Sem.run_bind, resOne_run hs hv, Result.andThen_ok, resAll_run hs hl, Sem.run_pure, SV.vals]
    · cases h
theorem results_run {w0 : World} {M0 : Nat → Prop} {E : Nat → Nat} {st : St} {a : Act} {w : World} (hs : Sat w0 M0 E st a w) {fn : Func} {vs : List SV} (h : resAll P st fn.results.toList = some vs) :
    (results fn a.tmps).run P w = .ok ((resVal vs).val E) w := by
  have := resAll_run (P := P) hs h
  unfold results
  rw [Array.mapM_eq_mapM_toList]
  simp only [Sem.run_bind, Sem.run_map]
  have key : ∀ r : Result (List Value), r = .ok (SV.vals E vs) w → ((r.andThen fun a w' => Result.ok a.toArray w').andThen fun a w' => Sem.run P (pure (if h : a.size = 1 then a[0] else Value.tuple a)) w') = Result.ok ((resVal vs).val E) w := by
    rintro r rfl
    simp only [Result.andThen_ok, Sem.run_pure]
    congr 1
    match vs with
    | [] => rfl
    | [v] => rfl
    | _ :: _ :: _ => simp [SV.vals, resVal, SV.val]
  exact key _ this
theorem older_get {nx : Nat} : ∀ {m : Mem} {k : Nat} {B : SB}, (older nx m).get k = some B → m.get k = some B ∧ k < nx
  | [], _, _, h => by cases h
  | e :: r, k, B, h => by
    simp only [older] at h
    cases hb : Nat.blt e.1 nx with
    | true =>
      rw [hb] at h
      simp only at h
      by_cases he : e.1 = k
      · rw [Mem.get, if_pos he] at h ⊢
        exact ⟨h, by rw [← he]; simpa [Nat.blt_eq] using hb⟩
      · rw [Mem.get, if_neg he] at h ⊢
        exact older_get h
    | false =>
      rw [hb] at h
      have := older_get h
      refine ⟨?_, this.2⟩
      rw [Mem.get, if_neg (fun e1 => ?_)]
      · exact this.1
      · have h2 := this.2
        have h3 : ¬ (e.1 < nx) := by
          intro hlt
          have h4 : Nat.blt e.1 nx = true := by rw [Nat.blt_eq]; exact hlt
          rw [h4] at hb; cases hb
        omega
theorem retK_after {nx : Nat} {v : SV} {st : St} {K : SV → Mem → Nat → VC} {w0 : World} {M0 : Nat → Prop} {E E' : Nat → Nat} {w : World} (h : (retK nx v st.m st.nx K).holds) (hs : SatM w0 M0 E' st.m st.nx w)
    (hE : ∀ k, k < nx → E' k = E k) (hn : nx ≤ st.nx) : After (lift K) w0 M0 E nx (v.val E') w := by
  unfold retK at h
  split at h
  · rename_i hw
    simp only [Bool.and_eq_true] at hw
    exact ⟨E', some v, older nx st.m, nx, hE, Nat.le_refl _, fun u hu => by injection hu with hu; subst hu; rfl, hs.sub (fun k B hk => (older_get hk).1) (fun k B hk => (older_get hk).2), h⟩
  · exact ⟨E', some v, st.m, st.nx, hE, hn, fun u hu => by injection hu with hu; subst hu; rfl, hs, h⟩
theorem callFunc_run {f : FuncId} {fn : Func} (hf : P.funcs[f]? = some fn) (hn : (fn.name == "runtime.NumGoroutine") = false) {body : Code} (hb : fn.body = some body) (args : Array Value) (w : World) :
    (callFunc f args).run P w = .ok (.enter f args) w := by
  simp only [callFunc, Sem.run_bind, run_program, Result.andThen_ok, hf, hn, hb]
  rfl
theorem runFn_ok {call : FuncId → PT} (hmix : P.follows .mixedOrders = true) (hm : ∀ f, MonoPT (call f)) (hcall : ∀ f, CallOk P f (call f)) {anns : Anns} {n : Nat} {f : FuncId} {fn : Func} (hf : P.funcs[f]? = some fn)
    (hname : (fn.name == "runtime.NumGoroutine") = false) : CallOk P f (runFn P call anns n fn) := by
  intro args m nx K h hwf hargs w0 M0 E w hs
  unfold runFn at h
  split at h
  · rename_i body hb
    rw [callFunc_run hf hname hb]
    simp only [Out]
    have hsize : (SV.vals E args).toArray.size = args.length := by simp [SV.vals_eq]
    refine calls_of_wp hf hb ?_
    have hsat : Sat w0 M0 E ⟨args.map some ++ List.replicate (fn.ntmps - args.length) none, m, nx⟩ ⟨(SV.vals E args).toArray ++ Array.replicate (fn.ntmps - (SV.vals E args).toArray.size) undef, []⟩ w := by
      refine ⟨⟨by simp [SV.vals_eq], fun i v hv => ?_⟩, wfTmps_of fun i v hv => ?_, rfl, hs⟩
      · rw [List.getElem?_append] at hv
        rw [Array.getElem?_append]
        split at hv
        · rename_i hlt
          rw [List.length_map] at hlt
          rw [if_pos (by rw [hsize]; exact hlt)]
          rw [List.getElem?_map] at hv
          rw [List.getElem?_toArray, SV.vals_eq, List.getElem?_map]
          cases ha : args[i]? with
          | none => rw [ha] at hv; cases hv
          | some u => rw [ha] at hv; injection hv with hv; injection hv with hv; subst hv; rfl
        · rw [List.getElem?_replicate] at hv
          split at hv <;> cases hv
      · rw [List.getElem?_append] at hv
        split at hv
        · rw [List.getElem?_map] at hv
          cases ha : args[i]? with
          | none => rw [ha] at hv; cases hv
          | some u => rw [ha] at hv; injection hv with hv; injection hv with hv; subst hv; exact SV.wfs_get hargs ha
        · rw [List.getElem?_replicate] at hv
          split at hv <;> cases hv
    refine Code.wp_mono (fun e a' w' hq => ?_) (sx_sound hmix hm hcall body _ _ E _ w h hsat)
    obtain ⟨ex, rfl, E', st', g1, g2, g3, g4⟩ := hq
    have fin : ∀ vs, resAll P st' fn.results.toList = some vs → (retK nx (resVal vs) st'.m st'.nx K).holds →
        a'.defers = [] ∧ ∃ v, (results fn a'.tmps).run P w' = .ok v w' ∧ ∃ u, Ending.returned v = .returned u ∧ After (lift K) w0 M0 E nx u w' := by
      intro vs hvs hk
      exact ⟨g3.df, _, results_run g3 hvs, _, rfl, retK_after hk g3.mm g1 g2⟩
    cases ex with
    | exit id => exact g4.elim
    | normal =>
      simp only at g4
      cases hvs : resAll P st' fn.results.toList with
      | none => rw [hvs] at g4; exact g4.elim
      | some vs => rw [hvs] at g4; exact fin vs hvs g4
    | ret =>
      simp only at g4
      cases hvs : resAll P st' fn.results.toList with
      | none => rw [hvs] at g4; exact g4.elim
      | some vs => rw [hvs] at g4; exact fin vs hvs g4
  · exact h.elim
theorem runFn_mono {call : FuncId → PT} (hm : ∀ f, MonoPT (call f)) {anns : Anns} {n : Nat} {fn : Func} : MonoPT (runFn P call anns n fn) := by
  intro args m nx K K' hK h
  unfold runFn at h ⊢
  split at h
  · refine sx_mono hm _ _ _ _ (fun e st' _ hh => ?_) h
    have go : ∀ vs, (retK nx (resVal vs) st'.m st'.nx K).holds → (retK nx (resVal vs) st'.m st'.nx K').holds := by
      intro vs hh
      unfold retK at hh ⊢
      split at hh
      · exact hK _ _ _ hh
      · exact hK _ _ _ hh
    cases e with
    | exit id => exact hh
    | normal =>
      simp only at hh ⊢
      cases hvs : resAll P st' fn.results.toList with
      | none => rw [hvs] at hh; exact hh
      | some vs => rw [hvs] at hh; exact go vs hh
    | ret =>
      simp only at hh ⊢
      cases hvs : resAll P st' fn.results.toList with
      | none => rw [hvs] at hh; exact hh
      | some vs => rw [hvs] at hh; exact go vs hh
  · exact h
theorem callOf_ok {cfg : Cfg} (hg : Good P cfg) : ∀ n, (∀ f, CallOk P f (callOf P cfg n f)) ∧ (∀ f, MonoPT (callOf P cfg n f))
  | 0 => ⟨fun f args m nx K h => h.elim, fun f args m nx K K' _ h => h⟩
  | n + 1 => by
    obtain ⟨ih1, ih2⟩ := callOf_ok hg n
    have key : ∀ f, CallOk P f (callOf P cfg (n + 1) f) ∧ MonoPT (callOf P cfg (n + 1) f) := by
      intro f
      unfold callOf
      cases hs : cfg.summ f with
      | some pt => exact hg.summ f pt hs
      | none =>
        simp only
        cases hf : cfg.fns f with
        | some fn => exact ⟨runFn_ok hg.mix ih2 ih1 (hg.fns f fn hf).1 (hg.fns f fn hf).2, runFn_mono ih2⟩
        | none => exact ⟨fun args m nx K h => h.elim, fun args m nx K K' _ h => h⟩
    exact ⟨fun f => (key f).1, fun f => (key f).2⟩

/-- WHAT A RUN SAYS OF A CALL. -/
theorem calls_of_run {cfg : Cfg} (hg : Good P cfg) {f : FuncId} {fn : Func} (hf : P.funcs[f]? = some fn) (hn : (fn.name == "runtime.NumGoroutine") = false) (hb : fn.body.isSome = true) {n : Nat} {args : List SV} {m : Mem} {nx : Nat} {K : SV → Mem → Nat → VC}
    (h : (runFn P (callOf P cfg n) (cfg.anns f) cfg.rounds fn args m nx K).holds) (hm : Mem.wf nx m = true) (ha : SV.wfs nx args = true) {w0 : World} {M0 : Nat → Prop} {E : Nat → Nat} {w : World} (hs : SatM w0 M0 E m nx w) :
    Calls P f (SV.vals E args).toArray w fun e w' => ∃ v, e = .returned v ∧ After (lift K) w0 M0 E nx v w' := by
  obtain ⟨h1, h2⟩ := callOf_ok hg n
  have := runFn_ok hg.mix h2 h1 (anns := cfg.anns f) (n := cfg.rounds) hf hn args m nx K h hm ha w0 M0 E w hs
  obtain ⟨body, hb⟩ := Option.isSome_iff_exists.1 hb
  rw [callFunc_run hf hn hb] at this
  exact this
end
end Go.Proofs.Ytobbhdmbblhgaaa.Sx
