/-
  Lease: the other laws' set-up.
-/
import Derived.Test.YtobbhdmbblhgaaaLsH
namespace Go.Proofs.Ytobbhdmbblhgaaa
open Go Sx

/-- The row of sessions that a slot holds. -/
def rowSlot (st : Sx.St) (i : Nat) : Option (Nat × (Nat → Sl)) := match slot st.tmps i with
  | some (SV.rslc k _ _ _ _ _) => (match Mem.get k st.m with
    | some (SB.rows _ n [Col.int _ a, Col.int _ b, Col.int _ c, Col.int _ d] _ _ _) => some (n, fun i => ⟨a i, b i, c i, d i, 0, [], 0, [], 0⟩)
    | _ => none)
  | _ => none
noncomputable def cfgClock (most : Int) (n key : Nat) : Cfg := cfgLaw fun f => if f = 5 then [(9, always (annActs 16 key (fun _ => []) (topM most) n))] else []
noncomputable def clockVC (most term id a b : Int) (z : Bool) (o n c key : Nat) (g : Nat → Ac) (post : SV → Prop) : VC := quietVC Try.prog (cfgClock most n key) 5 Try.f5 [iv most, iv term, .vslc 0 6 z o 0 n c, iv id, iv a, iv b] [(0, .view z o n (acCols g))] 1 post
structure LeftG where
  k : Nat
  l : List Sl
  c : Nat
structure LeftPre (n : Nat) (p : Sl → Bool) (r : Nat → Sl) (x : LeftG) : Prop where
  le : x.k ≤ n
  few : x.l.length ≤ x.k
  cap : x.l.length ≤ x.c
  is : x.l.map Sl.bare = ((slN x.k r).filter p).map Sl.bare
noncomputable def annLeft (id : Int) (n : Nat) (r : Nat → Sl) : LoopAnn :=
  { α := LeftG, pre := fun _ x => LeftPre n (fun s => decide (s.id ≠ id)) r x, mea := fun _ x => n - x.k, fresh := 1,
    slots := fun st x => [(21, .int .i64 false x.k), (20, .rslc st.nx 4 true 0 x.l.length x.c)],
    mem := fun st x => [(st.nx, .rows true x.l.length (sessCols x.l) false (x.c * 4) sessT)] }
noncomputable def cfgRel (most id : Int) (n key : Nat) : Cfg := cfgLaw fun f => if f = 6 then [(9, always (annActs 14 key (fun _ => []) (topM most) n)), (19, fun st => match rowSlot st 17 with
  | some (m, r) => some (one (annLeft id m r))
  | none => none)] else []
noncomputable def relVC (most term id clock : Int) (z : Bool) (o n c key : Nat) (g : Nat → Ac) (post : SV → Prop) : VC := quietVC Try.prog (cfgRel most id n key) 6 Try.f6 [iv most, iv term, .vslc 0 6 z o 0 n c, iv id, iv clock] [(0, .view z o n (acCols g))] 1 post
structure TwoG where
  k : Nat
  l : List Sl
  c : Nat
  l' : List Sl
  c' : Nat
structure TwoPre (n : Nat) (clock : Int) (r : Nat → Sl) (x : TwoG) : Prop where
  le : x.k ≤ n
  few : x.l.length ≤ x.k ∧ x.l'.length ≤ x.k
  cap : x.l.length ≤ x.c ∧ x.l'.length ≤ x.c'
  is : x.l.map Sl.bare = (over clock (slN x.k r)).map Sl.bare
  is' : x.l'.map Sl.bare = (left clock (slN x.k r)).map Sl.bare
noncomputable def annTwo (clock : Int) (n : Nat) (r : Nat → Sl) : LoopAnn :=
  { α := TwoG, pre := fun _ x => TwoPre n clock r x, mea := fun _ x => n - x.k, fresh := 2,
    slots := fun st x => [(18, .int .i64 false x.k), (16, .rslc st.nx 4 true 0 x.l.length x.c), (17, .rslc (st.nx + 1) 4 true 0 x.l'.length x.c')],
    mem := fun st x => [(st.nx, .rows true x.l.length (sessCols x.l) false (x.c * 4) sessT), (st.nx + 1, .rows true x.l'.length (sessCols x.l') false (x.c' * 4) sessT)] }
noncomputable def cfgEnds (most clock : Int) (n key : Nat) : Cfg := cfgLaw fun f => if f = 4 then [(9, always (annActs 12 key (fun _ => []) (topM most) n)), (18, fun st => match rowSlot st 13 with
  | some (m, r) => some (one (annTwo clock m r))
  | none => none)] else []
noncomputable def endsVC (most term clock : Int) (z : Bool) (o n c key : Nat) (g : Nat → Ac) (post : SV → Prop) : VC := quietVC Try.prog (cfgEnds most clock n key) 4 Try.f4 [iv most, iv term, .vslc 0 6 z o 0 n c, iv clock] [(0, .view z o n (acCols g))] 1 post
end Go.Proofs.Ytobbhdmbblhgaaa
