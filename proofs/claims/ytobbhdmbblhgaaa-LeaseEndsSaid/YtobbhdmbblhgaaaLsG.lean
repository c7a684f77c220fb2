/-
  Lease: the laws' set-up.
-/
import Derived.Test.YtobbhdmbblhgaaaLsF
namespace Go.Proofs.Ytobbhdmbblhgaaa
open Go Sx

/-- What is so of each table that there can be after k acts. -/
structure Inv (M : Int) (k : Nat) (T : Tb) : Prop where
  ok : T.Ok
  most : T.most = M ∧ 1 ≤ M ∧ M ≤ 4
  len : T.ss.length ≤ M
  opened : 0 ≤ T.opened ∧ T.opened ≤ k
  few : k ≤ 60
  ids : T.ss.Pairwise fun a b => a.id < b.id
  pos : ∀ s ∈ T.ss, 1 ≤ s.id ∧ s.id ≤ T.opened
  ends : 0 ≤ T.ends ∧ T.ends + T.ss.length ≤ T.opened
  ring : ∀ id, T.recent id → id ≤ T.opened ∧ ∀ s ∈ T.ss, s.id ≠ id
noncomputable def cfgLaw (anns : FuncId → Anns) : Cfg := { summ := fun f => lookPT f listD, fns := fun f => Try.prog.funcs[f]?, anns := anns, rounds := 5 }
theorem goodLaw (anns : FuncId → Anns) : Good Try.prog (cfgLaw anns) := ⟨mixes, summD_ok, fns_ok⟩
/-- The acts, one behind the other. -/
structure ActG where
  i : Nat
  T : Tb
noncomputable def annActs (si key : Nat) (extra : Tb → List (Nat × SV)) (M : Int) (n : Nat) : LoopAnn :=
  { α := ActG, pre := fun _ x => x.i ≤ n ∧ Inv M x.i x.T, mea := fun _ x => n - x.i, fresh := 0, slots := fun _ x => (si, .int .i64 false x.i) :: extra x.T, mem := fun _ x => [(key, x.T.sbO)] }
/-- A count up to four. -/
noncomputable def annUpto (s : Nat) : LoopAnn := { α := Nat, pre := fun _ k => k ≤ 4, mea := fun _ k => 4 - k, fresh := 0, slots := fun _ k => [(s, .int .i64 false k)], mem := fun _ _ => [] }
noncomputable def topM (most : Int) : Int := min (max most 1) 4
noncomputable def cfgRoom (most : Int) (n key : Nat) : Cfg := cfgLaw fun f => if f = 3 then [(10, always (annActs 11 key (fun T => [(10, iv T.opened)]) (topM most) n)), (21, always (annUpto 14))] else []
noncomputable def roomVC (most term : Int) (z : Bool) (o n c key : Nat) (g : Nat → Ac) (post : SV → Prop) : VC := quietVC Try.prog (cfgRoom most n key) 3 Try.f3 [iv most, iv term, .vslc 0 6 z o 0 n c] [(0, .view z o n (acCols g))] 1 post
end Go.Proofs.Ytobbhdmbblhgaaa
