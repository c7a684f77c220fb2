/-
  Conditions that the executor computes, written out by a program (vcgen.py).
-/
import Derived.Test.YtobbhdmbblhgaaaLsC
namespace Go.Proofs.Ytobbhdmbblhgaaa
open Go Sx

theorem vcExpire0 (T : Tb) (clock : Int) (post : Nat → Nat → SB → Tb × Int → Prop) : VC.holds (runC (cfgE {T with ss := []} clock) 13 Try.f13 {T with ss := []} [iv clock] (rowK2 post)) = ((∃ (y : ExpG),
    ExpPre { most := T.most, term := T.term, ss := [], opened := T.opened, e0 := T.e0, e1 := T.e1, e2 := T.e2, e3 := T.e3, e4 := T.e4, e5 := T.e5, e6 := T.e6, e7 := T.e7, ends := T.ends : Tb } clock
        (nat_lit 0) y.f y.T y.l y.c ∧
      y.l.length = (0 : Nat) ∧
        (SB.rows true y.l.length (sessCols y.l) false (y.c * (4 : Nat)) sessT).no = true ∧
          SBle
              (SB.cells
                [SV.int IntKind.i64 false T.most, SV.int IntKind.i64 false T.term, SV.int IntKind.i64 false (0 : Int), SV.int IntKind.i64 false (0 : Int), SV.int IntKind.i64 false (0 : Int),
                  SV.int IntKind.i64 false (0 : Int), SV.int IntKind.i64 false (0 : Int), SV.str false [], SV.int IntKind.i64 false (0 : Int), SV.str false [], SV.int IntKind.i64 false (0 : Int),
                  SV.int IntKind.i64 false (0 : Int), SV.int IntKind.i64 false (0 : Int), SV.int IntKind.i64 false (0 : Int), SV.int IntKind.i64 false (0 : Int), SV.int IntKind.i64 false (0 : Int),
                  SV.str false [], SV.int IntKind.i64 false (0 : Int), SV.str false [], SV.int IntKind.i64 false (0 : Int), SV.int IntKind.i64 false (0 : Int), SV.int IntKind.i64 false (0 : Int),
                  SV.int IntKind.i64 false (0 : Int), SV.int IntKind.i64 false (0 : Int), SV.int IntKind.i64 false (0 : Int), SV.str false [], SV.int IntKind.i64 false (0 : Int), SV.str false [],
                  SV.int IntKind.i64 false (0 : Int), SV.int IntKind.i64 false (0 : Int), SV.int IntKind.i64 false (0 : Int), SV.int IntKind.i64 false (0 : Int), SV.int IntKind.i64 false (0 : Int),
                  SV.int IntKind.i64 false (0 : Int), SV.str false [], SV.int IntKind.i64 false (0 : Int), SV.str false [], SV.int IntKind.i64 false (0 : Int),
                  SV.int IntKind.i64 true (↑(0 : Nat) : Int), SV.int IntKind.i64 false T.opened, SV.int IntKind.i64 false T.e0, SV.int IntKind.i64 false T.e1, SV.int IntKind.i64 false T.e2,
                  SV.int IntKind.i64 false T.e3, SV.int IntKind.i64 false T.e4, SV.int IntKind.i64 false T.e5, SV.int IntKind.i64 false T.e6, SV.int IntKind.i64 false T.e7,
                  SV.int IntKind.i64 false T.ends]
                (49 : Nat) tableT)
              (Tb.sb true
                { most := y.T.most, term := y.T.term, ss := slN (nat_lit 0) y.f, opened := y.T.opened, e0 := y.T.e0, e1 := y.T.e1, e2 := y.T.e2, e3 := y.T.e3, e4 := y.T.e4, e5 := y.T.e5, e6 := y.T.e6,
                  e7 := y.T.e7, ends := y.T.ends : Tb }) ∧
            True) ∧
  ∀ (x : ExpG),
    ExpPre { most := T.most, term := T.term, ss := [], opened := T.opened, e0 := T.e0, e1 := T.e1, e2 := T.e2, e3 := T.e3, e4 := T.e4, e5 := T.e5, e6 := T.e6, e7 := T.e7, ends := T.ends : Tb } clock
        (nat_lit 0) x.f x.T x.l x.c →
      post x.l.length x.c
        (SB.rows true x.l.length
          [Col.int IntKind.i64 fun (i : Nat) => (x.l.getD i Sl.zero).id, Col.int IntKind.i64 fun (i : Nat) => (x.l.getD i Sl.zero).block, Col.int IntKind.i64 fun (i : Nat) => (x.l.getD i Sl.zero).dl,
            Col.int IntKind.i64 fun (i : Nat) => (x.l.getD i Sl.zero).last]
          false (x.c * (4 : Nat)) sessT)
        ({ most := x.T.most, term := x.T.term, ss := [Sl.zero, Sl.zero, Sl.zero, Sl.zero], opened := x.T.opened, e0 := x.T.e0, e1 := x.T.e1, e2 := x.T.e2, e3 := x.T.e3, e4 := x.T.e4, e5 := x.T.e5,
            e6 := x.T.e6, e7 := x.T.e7, ends := x.T.ends : Tb },
          (↑(0 : Nat) : Int))) := by kernel_rfl
theorem vcExpire1 (T : Tb) (a : Sl) (clock : Int) (post : Nat → Nat → SB → Tb × Int → Prop) : VC.holds (runC (cfgE {T with ss := [a]} clock) 13 Try.f13 {T with ss := [a]} [iv clock] (rowK2 post)) = ((∃ (y : ExpG),
    ExpPre { most := T.most, term := T.term, ss := [a], opened := T.opened, e0 := T.e0, e1 := T.e1, e2 := T.e2, e3 := T.e3, e4 := T.e4, e5 := T.e5, e6 := T.e6, e7 := T.e7, ends := T.ends : Tb } clock
        (nat_lit 1) y.f y.T y.l y.c ∧
      y.l.length = (0 : Nat) ∧
        (SB.rows true y.l.length (sessCols y.l) false (y.c * (4 : Nat)) sessT).no = true ∧
          SBle
              (SB.cells
                [SV.int IntKind.i64 false T.most, SV.int IntKind.i64 false T.term, SV.int IntKind.i64 false a.id, SV.int IntKind.i64 false a.block, SV.int IntKind.i64 false a.dl,
                  SV.int IntKind.i64 false a.last, SV.int IntKind.i64 false a.s0, SV.str false a.r0, SV.int IntKind.i64 false a.s1, SV.str false a.r1, SV.int IntKind.i64 false a.stored,
                  SV.int IntKind.i64 false (0 : Int), SV.int IntKind.i64 false (0 : Int), SV.int IntKind.i64 false (0 : Int), SV.int IntKind.i64 false (0 : Int), SV.int IntKind.i64 false (0 : Int),
                  SV.str false [], SV.int IntKind.i64 false (0 : Int), SV.str false [], SV.int IntKind.i64 false (0 : Int), SV.int IntKind.i64 false (0 : Int), SV.int IntKind.i64 false (0 : Int),
                  SV.int IntKind.i64 false (0 : Int), SV.int IntKind.i64 false (0 : Int), SV.int IntKind.i64 false (0 : Int), SV.str false [], SV.int IntKind.i64 false (0 : Int), SV.str false [],
                  SV.int IntKind.i64 false (0 : Int), SV.int IntKind.i64 false (0 : Int), SV.int IntKind.i64 false (0 : Int), SV.int IntKind.i64 false (0 : Int), SV.int IntKind.i64 false (0 : Int),
                  SV.int IntKind.i64 false (0 : Int), SV.str false [], SV.int IntKind.i64 false (0 : Int), SV.str false [], SV.int IntKind.i64 false (0 : Int),
                  SV.int IntKind.i64 true (↑(1 : Nat) : Int), SV.int IntKind.i64 false T.opened, SV.int IntKind.i64 false T.e0, SV.int IntKind.i64 false T.e1, SV.int IntKind.i64 false T.e2,
                  SV.int IntKind.i64 false T.e3, SV.int IntKind.i64 false T.e4, SV.int IntKind.i64 false T.e5, SV.int IntKind.i64 false T.e6, SV.int IntKind.i64 false T.e7,
                  SV.int IntKind.i64 false T.ends]
                (49 : Nat) tableT)
              (Tb.sb true
                { most := y.T.most, term := y.T.term, ss := slN (nat_lit 1) y.f, opened := y.T.opened, e0 := y.T.e0, e1 := y.T.e1, e2 := y.T.e2, e3 := y.T.e3, e4 := y.T.e4, e5 := y.T.e5, e6 := y.T.e6,
                  e7 := y.T.e7, ends := y.T.ends : Tb }) ∧
            True) ∧
  (∀ (x : ExpG),
      ExpPre { most := T.most, term := T.term, ss := [a], opened := T.opened, e0 := T.e0, e1 := T.e1, e2 := T.e2, e3 := T.e3, e4 := T.e4, e5 := T.e5, e6 := T.e6, e7 := T.e7, ends := T.ends : Tb }
          clock (nat_lit 0) x.f x.T x.l x.c →
        post x.l.length x.c
          (SB.rows true x.l.length
            [Col.int IntKind.i64 fun (i : Nat) => (x.l.getD i Sl.zero).id, Col.int IntKind.i64 fun (i : Nat) => (x.l.getD i Sl.zero).block,
              Col.int IntKind.i64 fun (i : Nat) => (x.l.getD i Sl.zero).dl, Col.int IntKind.i64 fun (i : Nat) => (x.l.getD i Sl.zero).last]
            false (x.c * (4 : Nat)) sessT)
          ({ most := x.T.most, term := x.T.term, ss := [Sl.zero, Sl.zero, Sl.zero, Sl.zero], opened := x.T.opened, e0 := x.T.e0, e1 := x.T.e1, e2 := x.T.e2, e3 := x.T.e3, e4 := x.T.e4, e5 := x.T.e5,
              e6 := x.T.e6, e7 := x.T.e7, ends := x.T.ends : Tb },
            (↑(0 : Nat) : Int))) ∧
    ∀ (x : ExpG),
      ExpPre { most := T.most, term := T.term, ss := [a], opened := T.opened, e0 := T.e0, e1 := T.e1, e2 := T.e2, e3 := T.e3, e4 := T.e4, e5 := T.e5, e6 := T.e6, e7 := T.e7, ends := T.ends : Tb }
          clock (nat_lit 1) x.f x.T x.l x.c →
        (decide ((x.f (0 : Nat)).dl ≤ clock) = true →
            ((0 : Nat) + x.l.length ≤ x.l.length ∧ True ∧ (2 : Nat) * (x.l.length + (1 : Nat)) * (32 : Nat) ≤ (281474976710656 : Nat) ∧ x.l.length + (1 : Nat) < (9223372036854775808 : Nat)) ∧
              x.c * (4 : Nat) = x.c * (4 : Nat) ∧
                ∀ (c : Nat),
                  x.l.length + (1 : Nat) ≤ c →
                    ((0 : Int) ≤ x.T.ends ∧ x.T.ends ≤ (9223372036854775807 : Int) ∧ (0 : Int) < (8 : Int)) ∧
                      ((0 : Int) ≤ x.T.ends % (8 : Int) ∧ x.T.ends % (8 : Int) < (8 : Int)) ∧
                        (x.T.ends % (8 : Int)).toNat < (8 : Nat) ∧
                          ((-9223372036854775808 : Int) ≤ x.T.ends + (1 : Int) ∧ x.T.ends + (1 : Int) ≤ (9223372036854775807 : Int)) ∧
                            ∃ (y : ExpG),
                              (ExpPre
                                    { most := T.most, term := T.term, ss := [a], opened := T.opened, e0 := T.e0, e1 := T.e1, e2 := T.e2, e3 := T.e3, e4 := T.e4, e5 := T.e5, e6 := T.e6, e7 := T.e7,
                                      ends := T.ends : Tb }
                                    clock (nat_lit 0) y.f y.T y.l y.c ∧
                                  nat_lit 0 < nat_lit 1) ∧
                                ((0 : Nat) = (0 : Nat) ∧ x.l.length + (1 : Nat) = y.l.length ∧ c = y.c) ∧
                                  True ∧
                                    SBle
                                        (SB.rows true (x.l.length + (1 : Nat))
                                          [Col.int IntKind.i64 fun (j : Nat) => if j < x.l.length then (x.l.getD j Sl.zero).id else sel [(x.f (0 : Nat)).id] (j - x.l.length),
                                            Col.int IntKind.i64 fun (j : Nat) => if j < x.l.length then (x.l.getD j Sl.zero).block else sel [(x.f (0 : Nat)).block] (j - x.l.length),
                                            Col.int IntKind.i64 fun (j : Nat) => if j < x.l.length then (x.l.getD j Sl.zero).dl else sel [(x.f (0 : Nat)).dl] (j - x.l.length),
                                            Col.int IntKind.i64 fun (j : Nat) => if j < x.l.length then (x.l.getD j Sl.zero).last else sel [(x.f (0 : Nat)).last] (j - x.l.length)]
                                          false (c * (4 : Nat)) (29 : Nat))
                                        (SB.rows true y.l.length (sessCols y.l) false (y.c * (4 : Nat)) sessT) ∧
                                      SBle
                                          (SB.cells
                                            [SV.int IntKind.i64 false x.T.most, SV.int IntKind.i64 false x.T.term, SV.int IntKind.i64 true (0 : Int), SV.int IntKind.i64 true (0 : Int),
                                              SV.int IntKind.i64 true (0 : Int), SV.int IntKind.i64 true (0 : Int), SV.int IntKind.i64 true (0 : Int), SV.str true [],
                                              SV.int IntKind.i64 true (0 : Int), SV.str true [], SV.int IntKind.i64 true (0 : Int), SV.int IntKind.i64 false (0 : Int),
                                              SV.int IntKind.i64 false (0 : Int), SV.int IntKind.i64 false (0 : Int), SV.int IntKind.i64 false (0 : Int), SV.int IntKind.i64 false (0 : Int),
                                              SV.str false [], SV.int IntKind.i64 false (0 : Int), SV.str false [], SV.int IntKind.i64 false (0 : Int), SV.int IntKind.i64 false (0 : Int),
                                              SV.int IntKind.i64 false (0 : Int), SV.int IntKind.i64 false (0 : Int), SV.int IntKind.i64 false (0 : Int), SV.int IntKind.i64 false (0 : Int),
                                              SV.str false [], SV.int IntKind.i64 false (0 : Int), SV.str false [], SV.int IntKind.i64 false (0 : Int), SV.int IntKind.i64 false (0 : Int),
                                              SV.int IntKind.i64 false (0 : Int), SV.int IntKind.i64 false (0 : Int), SV.int IntKind.i64 false (0 : Int), SV.int IntKind.i64 false (0 : Int),
                                              SV.str false [], SV.int IntKind.i64 false (0 : Int), SV.str false [], SV.int IntKind.i64 false (0 : Int),
                                              SV.int IntKind.i64 true (IntKind.i64.wrap ((↑(1 : Nat) : Int) - (1 : Int))), SV.int IntKind.i64 false x.T.opened,
                                              SV.int IntKind.i64 false (if (x.T.ends % (8 : Int)).toNat = (0 : Nat) then (x.f (0 : Nat)).id else x.T.e0),
                                              SV.int IntKind.i64 false (if (x.T.ends % (8 : Int)).toNat = (1 : Nat) then (x.f (0 : Nat)).id else x.T.e1),
                                              SV.int IntKind.i64 false (if (x.T.ends % (8 : Int)).toNat = (2 : Nat) then (x.f (0 : Nat)).id else x.T.e2),
                                              SV.int IntKind.i64 false (if (x.T.ends % (8 : Int)).toNat = (3 : Nat) then (x.f (0 : Nat)).id else x.T.e3),
                                              SV.int IntKind.i64 false (if (x.T.ends % (8 : Int)).toNat = (4 : Nat) then (x.f (0 : Nat)).id else x.T.e4),
                                              SV.int IntKind.i64 false (if (x.T.ends % (8 : Int)).toNat = (5 : Nat) then (x.f (0 : Nat)).id else x.T.e5),
                                              SV.int IntKind.i64 false (if (x.T.ends % (8 : Int)).toNat = (6 : Nat) then (x.f (0 : Nat)).id else x.T.e6),
                                              SV.int IntKind.i64 false (if (x.T.ends % (8 : Int)).toNat = (7 : Nat) then (x.f (0 : Nat)).id else x.T.e7),
                                              SV.int IntKind.i64 false (x.T.ends + (1 : Int))]
                                            (49 : Nat) tableT)
                                          (Tb.sb true
                                            { most := y.T.most, term := y.T.term, ss := slN (nat_lit 0) y.f, opened := y.T.opened, e0 := y.T.e0, e1 := y.T.e1, e2 := y.T.e2, e3 := y.T.e3, e4 := y.T.e4,
                                              e5 := y.T.e5, e6 := y.T.e6, e7 := y.T.e7, ends := y.T.ends : Tb }) ∧
                                        True) ∧
          (decide ((x.f (0 : Nat)).dl ≤ clock) = false →
            post x.l.length x.c
              (SB.rows true x.l.length
                [Col.int IntKind.i64 fun (i : Nat) => (x.l.getD i Sl.zero).id, Col.int IntKind.i64 fun (i : Nat) => (x.l.getD i Sl.zero).block,
                  Col.int IntKind.i64 fun (i : Nat) => (x.l.getD i Sl.zero).dl, Col.int IntKind.i64 fun (i : Nat) => (x.l.getD i Sl.zero).last]
                false (x.c * (4 : Nat)) sessT)
              ({ most := x.T.most, term := x.T.term, ss := [x.f (0 : Nat), Sl.zero, Sl.zero, Sl.zero], opened := x.T.opened, e0 := x.T.e0, e1 := x.T.e1, e2 := x.T.e2, e3 := x.T.e3, e4 := x.T.e4,
                  e5 := x.T.e5, e6 := x.T.e6, e7 := x.T.e7, ends := x.T.ends : Tb },
                (↑(1 : Nat) : Int)))) := by kernel_rfl
theorem vcExpire2 (T : Tb) (a b : Sl) (clock : Int) (post : Nat → Nat → SB → Tb × Int → Prop) : VC.holds (runC (cfgE {T with ss := [a, b]} clock) 13 Try.f13 {T with ss := [a, b]} [iv clock] (rowK2 post)) = ((∃ (y : ExpG),
    ExpPre { most := T.most, term := T.term, ss := [a, b], opened := T.opened, e0 := T.e0, e1 := T.e1, e2 := T.e2, e3 := T.e3, e4 := T.e4, e5 := T.e5, e6 := T.e6, e7 := T.e7, ends := T.ends : Tb }
        clock (nat_lit 2) y.f y.T y.l y.c ∧
      y.l.length = (0 : Nat) ∧
        (SB.rows true y.l.length (sessCols y.l) false (y.c * (4 : Nat)) sessT).no = true ∧
          SBle
              (SB.cells
                [SV.int IntKind.i64 false T.most, SV.int IntKind.i64 false T.term, SV.int IntKind.i64 false a.id, SV.int IntKind.i64 false a.block, SV.int IntKind.i64 false a.dl,
                  SV.int IntKind.i64 false a.last, SV.int IntKind.i64 false a.s0, SV.str false a.r0, SV.int IntKind.i64 false a.s1, SV.str false a.r1, SV.int IntKind.i64 false a.stored,
                  SV.int IntKind.i64 false b.id, SV.int IntKind.i64 false b.block, SV.int IntKind.i64 false b.dl, SV.int IntKind.i64 false b.last, SV.int IntKind.i64 false b.s0, SV.str false b.r0,
                  SV.int IntKind.i64 false b.s1, SV.str false b.r1, SV.int IntKind.i64 false b.stored, SV.int IntKind.i64 false (0 : Int), SV.int IntKind.i64 false (0 : Int),
                  SV.int IntKind.i64 false (0 : Int), SV.int IntKind.i64 false (0 : Int), SV.int IntKind.i64 false (0 : Int), SV.str false [], SV.int IntKind.i64 false (0 : Int), SV.str false [],
                  SV.int IntKind.i64 false (0 : Int), SV.int IntKind.i64 false (0 : Int), SV.int IntKind.i64 false (0 : Int), SV.int IntKind.i64 false (0 : Int), SV.int IntKind.i64 false (0 : Int),
                  SV.int IntKind.i64 false (0 : Int), SV.str false [], SV.int IntKind.i64 false (0 : Int), SV.str false [], SV.int IntKind.i64 false (0 : Int),
                  SV.int IntKind.i64 true (↑(2 : Nat) : Int), SV.int IntKind.i64 false T.opened, SV.int IntKind.i64 false T.e0, SV.int IntKind.i64 false T.e1, SV.int IntKind.i64 false T.e2,
                  SV.int IntKind.i64 false T.e3, SV.int IntKind.i64 false T.e4, SV.int IntKind.i64 false T.e5, SV.int IntKind.i64 false T.e6, SV.int IntKind.i64 false T.e7,
                  SV.int IntKind.i64 false T.ends]
                (49 : Nat) tableT)
              (Tb.sb true
                { most := y.T.most, term := y.T.term, ss := slN (nat_lit 2) y.f, opened := y.T.opened, e0 := y.T.e0, e1 := y.T.e1, e2 := y.T.e2, e3 := y.T.e3, e4 := y.T.e4, e5 := y.T.e5, e6 := y.T.e6,
                  e7 := y.T.e7, ends := y.T.ends : Tb }) ∧
            True) ∧
  (∀ (x : ExpG),
      ExpPre { most := T.most, term := T.term, ss := [a, b], opened := T.opened, e0 := T.e0, e1 := T.e1, e2 := T.e2, e3 := T.e3, e4 := T.e4, e5 := T.e5, e6 := T.e6, e7 := T.e7, ends := T.ends : Tb }
          clock (nat_lit 0) x.f x.T x.l x.c →
        post x.l.length x.c
          (SB.rows true x.l.length
            [Col.int IntKind.i64 fun (i : Nat) => (x.l.getD i Sl.zero).id, Col.int IntKind.i64 fun (i : Nat) => (x.l.getD i Sl.zero).block,
              Col.int IntKind.i64 fun (i : Nat) => (x.l.getD i Sl.zero).dl, Col.int IntKind.i64 fun (i : Nat) => (x.l.getD i Sl.zero).last]
            false (x.c * (4 : Nat)) sessT)
          ({ most := x.T.most, term := x.T.term, ss := [Sl.zero, Sl.zero, Sl.zero, Sl.zero], opened := x.T.opened, e0 := x.T.e0, e1 := x.T.e1, e2 := x.T.e2, e3 := x.T.e3, e4 := x.T.e4, e5 := x.T.e5,
              e6 := x.T.e6, e7 := x.T.e7, ends := x.T.ends : Tb },
            (↑(0 : Nat) : Int))) ∧
    (∀ (x : ExpG),
        ExpPre { most := T.most, term := T.term, ss := [a, b], opened := T.opened, e0 := T.e0, e1 := T.e1, e2 := T.e2, e3 := T.e3, e4 := T.e4, e5 := T.e5, e6 := T.e6, e7 := T.e7, ends := T.ends : Tb }
            clock (nat_lit 1) x.f x.T x.l x.c →
          (decide ((x.f (0 : Nat)).dl ≤ clock) = true →
              ((0 : Nat) + x.l.length ≤ x.l.length ∧ True ∧ (2 : Nat) * (x.l.length + (1 : Nat)) * (32 : Nat) ≤ (281474976710656 : Nat) ∧ x.l.length + (1 : Nat) < (9223372036854775808 : Nat)) ∧
                x.c * (4 : Nat) = x.c * (4 : Nat) ∧
                  ∀ (c : Nat),
                    x.l.length + (1 : Nat) ≤ c →
                      ((0 : Int) ≤ x.T.ends ∧ x.T.ends ≤ (9223372036854775807 : Int) ∧ (0 : Int) < (8 : Int)) ∧
                        ((0 : Int) ≤ x.T.ends % (8 : Int) ∧ x.T.ends % (8 : Int) < (8 : Int)) ∧
                          (x.T.ends % (8 : Int)).toNat < (8 : Nat) ∧
                            ((-9223372036854775808 : Int) ≤ x.T.ends + (1 : Int) ∧ x.T.ends + (1 : Int) ≤ (9223372036854775807 : Int)) ∧
                              ∃ (y : ExpG),
                                (ExpPre
                                      { most := T.most, term := T.term, ss := [a, b], opened := T.opened, e0 := T.e0, e1 := T.e1, e2 := T.e2, e3 := T.e3, e4 := T.e4, e5 := T.e5, e6 := T.e6,
                                        e7 := T.e7, ends := T.ends : Tb }
                                      clock (nat_lit 0) y.f y.T y.l y.c ∧
                                    nat_lit 0 < nat_lit 1) ∧
                                  ((0 : Nat) = (0 : Nat) ∧ x.l.length + (1 : Nat) = y.l.length ∧ c = y.c) ∧
                                    True ∧
                                      SBle
                                          (SB.rows true (x.l.length + (1 : Nat))
                                            [Col.int IntKind.i64 fun (j : Nat) => if j < x.l.length then (x.l.getD j Sl.zero).id else sel [(x.f (0 : Nat)).id] (j - x.l.length),
                                              Col.int IntKind.i64 fun (j : Nat) => if j < x.l.length then (x.l.getD j Sl.zero).block else sel [(x.f (0 : Nat)).block] (j - x.l.length),
                                              Col.int IntKind.i64 fun (j : Nat) => if j < x.l.length then (x.l.getD j Sl.zero).dl else sel [(x.f (0 : Nat)).dl] (j - x.l.length),
                                              Col.int IntKind.i64 fun (j : Nat) => if j < x.l.length then (x.l.getD j Sl.zero).last else sel [(x.f (0 : Nat)).last] (j - x.l.length)]
                                            false (c * (4 : Nat)) (29 : Nat))
                                          (SB.rows true y.l.length (sessCols y.l) false (y.c * (4 : Nat)) sessT) ∧
                                        SBle
                                            (SB.cells
                                              [SV.int IntKind.i64 false x.T.most, SV.int IntKind.i64 false x.T.term, SV.int IntKind.i64 true (0 : Int), SV.int IntKind.i64 true (0 : Int),
                                                SV.int IntKind.i64 true (0 : Int), SV.int IntKind.i64 true (0 : Int), SV.int IntKind.i64 true (0 : Int), SV.str true [],
                                                SV.int IntKind.i64 true (0 : Int), SV.str true [], SV.int IntKind.i64 true (0 : Int), SV.int IntKind.i64 false (0 : Int),
                                                SV.int IntKind.i64 false (0 : Int), SV.int IntKind.i64 false (0 : Int), SV.int IntKind.i64 false (0 : Int), SV.int IntKind.i64 false (0 : Int),
                                                SV.str false [], SV.int IntKind.i64 false (0 : Int), SV.str false [], SV.int IntKind.i64 false (0 : Int), SV.int IntKind.i64 false (0 : Int),
                                                SV.int IntKind.i64 false (0 : Int), SV.int IntKind.i64 false (0 : Int), SV.int IntKind.i64 false (0 : Int), SV.int IntKind.i64 false (0 : Int),
                                                SV.str false [], SV.int IntKind.i64 false (0 : Int), SV.str false [], SV.int IntKind.i64 false (0 : Int), SV.int IntKind.i64 false (0 : Int),
                                                SV.int IntKind.i64 false (0 : Int), SV.int IntKind.i64 false (0 : Int), SV.int IntKind.i64 false (0 : Int), SV.int IntKind.i64 false (0 : Int),
                                                SV.str false [], SV.int IntKind.i64 false (0 : Int), SV.str false [], SV.int IntKind.i64 false (0 : Int),
                                                SV.int IntKind.i64 true (IntKind.i64.wrap ((↑(1 : Nat) : Int) - (1 : Int))), SV.int IntKind.i64 false x.T.opened,
                                                SV.int IntKind.i64 false (if (x.T.ends % (8 : Int)).toNat = (0 : Nat) then (x.f (0 : Nat)).id else x.T.e0),
                                                SV.int IntKind.i64 false (if (x.T.ends % (8 : Int)).toNat = (1 : Nat) then (x.f (0 : Nat)).id else x.T.e1),
                                                SV.int IntKind.i64 false (if (x.T.ends % (8 : Int)).toNat = (2 : Nat) then (x.f (0 : Nat)).id else x.T.e2),
                                                SV.int IntKind.i64 false (if (x.T.ends % (8 : Int)).toNat = (3 : Nat) then (x.f (0 : Nat)).id else x.T.e3),
                                                SV.int IntKind.i64 false (if (x.T.ends % (8 : Int)).toNat = (4 : Nat) then (x.f (0 : Nat)).id else x.T.e4),
                                                SV.int IntKind.i64 false (if (x.T.ends % (8 : Int)).toNat = (5 : Nat) then (x.f (0 : Nat)).id else x.T.e5),
                                                SV.int IntKind.i64 false (if (x.T.ends % (8 : Int)).toNat = (6 : Nat) then (x.f (0 : Nat)).id else x.T.e6),
                                                SV.int IntKind.i64 false (if (x.T.ends % (8 : Int)).toNat = (7 : Nat) then (x.f (0 : Nat)).id else x.T.e7),
                                                SV.int IntKind.i64 false (x.T.ends + (1 : Int))]
                                              (49 : Nat) tableT)
                                            (Tb.sb true
                                              { most := y.T.most, term := y.T.term, ss := slN (nat_lit 0) y.f, opened := y.T.opened, e0 := y.T.e0, e1 := y.T.e1, e2 := y.T.e2, e3 := y.T.e3,
                                                e4 := y.T.e4, e5 := y.T.e5, e6 := y.T.e6, e7 := y.T.e7, ends := y.T.ends : Tb }) ∧
                                          True) ∧
            (decide ((x.f (0 : Nat)).dl ≤ clock) = false →
              post x.l.length x.c
                (SB.rows true x.l.length
                  [Col.int IntKind.i64 fun (i : Nat) => (x.l.getD i Sl.zero).id, Col.int IntKind.i64 fun (i : Nat) => (x.l.getD i Sl.zero).block,
                    Col.int IntKind.i64 fun (i : Nat) => (x.l.getD i Sl.zero).dl, Col.int IntKind.i64 fun (i : Nat) => (x.l.getD i Sl.zero).last]
                  false (x.c * (4 : Nat)) sessT)
                ({ most := x.T.most, term := x.T.term, ss := [x.f (0 : Nat), Sl.zero, Sl.zero, Sl.zero], opened := x.T.opened, e0 := x.T.e0, e1 := x.T.e1, e2 := x.T.e2, e3 := x.T.e3, e4 := x.T.e4,
                    e5 := x.T.e5, e6 := x.T.e6, e7 := x.T.e7, ends := x.T.ends : Tb },
                  (↑(1 : Nat) : Int)))) ∧
      ∀ (x : ExpG),
        ExpPre { most := T.most, term := T.term, ss := [a, b], opened := T.opened, e0 := T.e0, e1 := T.e1, e2 := T.e2, e3 := T.e3, e4 := T.e4, e5 := T.e5, e6 := T.e6, e7 := T.e7, ends := T.ends : Tb }
            clock (nat_lit 2) x.f x.T x.l x.c →
          (decide ((x.f (0 : Nat)).dl ≤ clock) = true →
              ((0 : Nat) + x.l.length ≤ x.l.length ∧ True ∧ (2 : Nat) * (x.l.length + (1 : Nat)) * (32 : Nat) ≤ (281474976710656 : Nat) ∧ x.l.length + (1 : Nat) < (9223372036854775808 : Nat)) ∧
                x.c * (4 : Nat) = x.c * (4 : Nat) ∧
                  ∀ (c : Nat),
                    x.l.length + (1 : Nat) ≤ c →
                      ((0 : Int) ≤ x.T.ends ∧ x.T.ends ≤ (9223372036854775807 : Int) ∧ (0 : Int) < (8 : Int)) ∧
                        ((0 : Int) ≤ x.T.ends % (8 : Int) ∧ x.T.ends % (8 : Int) < (8 : Int)) ∧
                          (x.T.ends % (8 : Int)).toNat < (8 : Nat) ∧
                            ((-9223372036854775808 : Int) ≤ x.T.ends + (1 : Int) ∧ x.T.ends + (1 : Int) ≤ (9223372036854775807 : Int)) ∧
                              ∃ (y : ExpG),
                                (ExpPre
                                      { most := T.most, term := T.term, ss := [a, b], opened := T.opened, e0 := T.e0, e1 := T.e1, e2 := T.e2, e3 := T.e3, e4 := T.e4, e5 := T.e5, e6 := T.e6,
                                        e7 := T.e7, ends := T.ends : Tb }
                                      clock (nat_lit 1) y.f y.T y.l y.c ∧
                                    nat_lit 1 < nat_lit 2) ∧
                                  ((0 : Nat) = (0 : Nat) ∧ x.l.length + (1 : Nat) = y.l.length ∧ c = y.c) ∧
                                    True ∧
                                      SBle
                                          (SB.rows true (x.l.length + (1 : Nat))
                                            [Col.int IntKind.i64 fun (j : Nat) => if j < x.l.length then (x.l.getD j Sl.zero).id else sel [(x.f (0 : Nat)).id] (j - x.l.length),
                                              Col.int IntKind.i64 fun (j : Nat) => if j < x.l.length then (x.l.getD j Sl.zero).block else sel [(x.f (0 : Nat)).block] (j - x.l.length),
                                              Col.int IntKind.i64 fun (j : Nat) => if j < x.l.length then (x.l.getD j Sl.zero).dl else sel [(x.f (0 : Nat)).dl] (j - x.l.length),
                                              Col.int IntKind.i64 fun (j : Nat) => if j < x.l.length then (x.l.getD j Sl.zero).last else sel [(x.f (0 : Nat)).last] (j - x.l.length)]
                                            false (c * (4 : Nat)) (29 : Nat))
                                          (SB.rows true y.l.length (sessCols y.l) false (y.c * (4 : Nat)) sessT) ∧
                                        SBle
                                            (SB.cells
                                              [SV.int IntKind.i64 false x.T.most, SV.int IntKind.i64 false x.T.term, SV.int IntKind.i64 false (x.f (1 : Nat)).id,
                                                SV.int IntKind.i64 false (x.f (1 : Nat)).block, SV.int IntKind.i64 false (x.f (1 : Nat)).dl, SV.int IntKind.i64 false (x.f (1 : Nat)).last,
                                                SV.int IntKind.i64 false (x.f (1 : Nat)).s0, SV.str false (x.f (1 : Nat)).r0, SV.int IntKind.i64 false (x.f (1 : Nat)).s1,
                                                SV.str false (x.f (1 : Nat)).r1, SV.int IntKind.i64 false (x.f (1 : Nat)).stored, SV.int IntKind.i64 true (0 : Int), SV.int IntKind.i64 true (0 : Int),
                                                SV.int IntKind.i64 true (0 : Int), SV.int IntKind.i64 true (0 : Int), SV.int IntKind.i64 true (0 : Int), SV.str true [],
                                                SV.int IntKind.i64 true (0 : Int), SV.str true [], SV.int IntKind.i64 true (0 : Int), SV.int IntKind.i64 false (0 : Int),
                                                SV.int IntKind.i64 false (0 : Int), SV.int IntKind.i64 false (0 : Int), SV.int IntKind.i64 false (0 : Int), SV.int IntKind.i64 false (0 : Int),
                                                SV.str false [], SV.int IntKind.i64 false (0 : Int), SV.str false [], SV.int IntKind.i64 false (0 : Int), SV.int IntKind.i64 false (0 : Int),
                                                SV.int IntKind.i64 false (0 : Int), SV.int IntKind.i64 false (0 : Int), SV.int IntKind.i64 false (0 : Int), SV.int IntKind.i64 false (0 : Int),
                                                SV.str false [], SV.int IntKind.i64 false (0 : Int), SV.str false [], SV.int IntKind.i64 false (0 : Int),
                                                SV.int IntKind.i64 true (IntKind.i64.wrap ((↑(2 : Nat) : Int) - (1 : Int))), SV.int IntKind.i64 false x.T.opened,
                                                SV.int IntKind.i64 false (if (x.T.ends % (8 : Int)).toNat = (0 : Nat) then (x.f (0 : Nat)).id else x.T.e0),
                                                SV.int IntKind.i64 false (if (x.T.ends % (8 : Int)).toNat = (1 : Nat) then (x.f (0 : Nat)).id else x.T.e1),
                                                SV.int IntKind.i64 false (if (x.T.ends % (8 : Int)).toNat = (2 : Nat) then (x.f (0 : Nat)).id else x.T.e2),
                                                SV.int IntKind.i64 false (if (x.T.ends % (8 : Int)).toNat = (3 : Nat) then (x.f (0 : Nat)).id else x.T.e3),
                                                SV.int IntKind.i64 false (if (x.T.ends % (8 : Int)).toNat = (4 : Nat) then (x.f (0 : Nat)).id else x.T.e4),
                                                SV.int IntKind.i64 false (if (x.T.ends % (8 : Int)).toNat = (5 : Nat) then (x.f (0 : Nat)).id else x.T.e5),
                                                SV.int IntKind.i64 false (if (x.T.ends % (8 : Int)).toNat = (6 : Nat) then (x.f (0 : Nat)).id else x.T.e6),
                                                SV.int IntKind.i64 false (if (x.T.ends % (8 : Int)).toNat = (7 : Nat) then (x.f (0 : Nat)).id else x.T.e7),
                                                SV.int IntKind.i64 false (x.T.ends + (1 : Int))]
                                              (49 : Nat) tableT)
                                            (Tb.sb true
                                              { most := y.T.most, term := y.T.term, ss := slN (nat_lit 1) y.f, opened := y.T.opened, e0 := y.T.e0, e1 := y.T.e1, e2 := y.T.e2, e3 := y.T.e3,
                                                e4 := y.T.e4, e5 := y.T.e5, e6 := y.T.e6, e7 := y.T.e7, ends := y.T.ends : Tb }) ∧
                                          True) ∧
            (decide ((x.f (0 : Nat)).dl ≤ clock) = false →
              (decide ((x.f (1 : Nat)).dl ≤ clock) = true →
                  ((0 : Nat) + x.l.length ≤ x.l.length ∧ True ∧ (2 : Nat) * (x.l.length + (1 : Nat)) * (32 : Nat) ≤ (281474976710656 : Nat) ∧ x.l.length + (1 : Nat) < (9223372036854775808 : Nat)) ∧
                    x.c * (4 : Nat) = x.c * (4 : Nat) ∧
                      ∀ (c : Nat),
                        x.l.length + (1 : Nat) ≤ c →
                          ((0 : Int) ≤ x.T.ends ∧ x.T.ends ≤ (9223372036854775807 : Int) ∧ (0 : Int) < (8 : Int)) ∧
                            ((0 : Int) ≤ x.T.ends % (8 : Int) ∧ x.T.ends % (8 : Int) < (8 : Int)) ∧
                              (x.T.ends % (8 : Int)).toNat < (8 : Nat) ∧
                                ((-9223372036854775808 : Int) ≤ x.T.ends + (1 : Int) ∧ x.T.ends + (1 : Int) ≤ (9223372036854775807 : Int)) ∧
                                  ∃ (y : ExpG),
                                    (ExpPre
                                          { most := T.most, term := T.term, ss := [a, b], opened := T.opened, e0 := T.e0, e1 := T.e1, e2 := T.e2, e3 := T.e3, e4 := T.e4, e5 := T.e5, e6 := T.e6,
                                            e7 := T.e7, ends := T.ends : Tb }
                                          clock (nat_lit 1) y.f y.T y.l y.c ∧
                                        nat_lit 1 < nat_lit 2) ∧
                                      ((0 : Nat) = (0 : Nat) ∧ x.l.length + (1 : Nat) = y.l.length ∧ c = y.c) ∧
                                        True ∧
                                          SBle
                                              (SB.rows true (x.l.length + (1 : Nat))
                                                [Col.int IntKind.i64 fun (j : Nat) => if j < x.l.length then (x.l.getD j Sl.zero).id else sel [(x.f (1 : Nat)).id] (j - x.l.length),
                                                  Col.int IntKind.i64 fun (j : Nat) => if j < x.l.length then (x.l.getD j Sl.zero).block else sel [(x.f (1 : Nat)).block] (j - x.l.length),
                                                  Col.int IntKind.i64 fun (j : Nat) => if j < x.l.length then (x.l.getD j Sl.zero).dl else sel [(x.f (1 : Nat)).dl] (j - x.l.length),
                                                  Col.int IntKind.i64 fun (j : Nat) => if j < x.l.length then (x.l.getD j Sl.zero).last else sel [(x.f (1 : Nat)).last] (j - x.l.length)]
                                                false (c * (4 : Nat)) (29 : Nat))
                                              (SB.rows true y.l.length (sessCols y.l) false (y.c * (4 : Nat)) sessT) ∧
                                            SBle
                                                (SB.cells
                                                  [SV.int IntKind.i64 false x.T.most, SV.int IntKind.i64 false x.T.term, SV.int IntKind.i64 false (x.f (0 : Nat)).id,
                                                    SV.int IntKind.i64 false (x.f (0 : Nat)).block, SV.int IntKind.i64 false (x.f (0 : Nat)).dl, SV.int IntKind.i64 false (x.f (0 : Nat)).last,
                                                    SV.int IntKind.i64 false (x.f (0 : Nat)).s0, SV.str false (x.f (0 : Nat)).r0, SV.int IntKind.i64 false (x.f (0 : Nat)).s1,
                                                    SV.str false (x.f (0 : Nat)).r1, SV.int IntKind.i64 false (x.f (0 : Nat)).stored, SV.int IntKind.i64 true (0 : Int),
                                                    SV.int IntKind.i64 true (0 : Int), SV.int IntKind.i64 true (0 : Int), SV.int IntKind.i64 true (0 : Int), SV.int IntKind.i64 true (0 : Int),
                                                    SV.str true [], SV.int IntKind.i64 true (0 : Int), SV.str true [], SV.int IntKind.i64 true (0 : Int), SV.int IntKind.i64 false (0 : Int),
                                                    SV.int IntKind.i64 false (0 : Int), SV.int IntKind.i64 false (0 : Int), SV.int IntKind.i64 false (0 : Int), SV.int IntKind.i64 false (0 : Int),
                                                    SV.str false [], SV.int IntKind.i64 false (0 : Int), SV.str false [], SV.int IntKind.i64 false (0 : Int), SV.int IntKind.i64 false (0 : Int),
                                                    SV.int IntKind.i64 false (0 : Int), SV.int IntKind.i64 false (0 : Int), SV.int IntKind.i64 false (0 : Int), SV.int IntKind.i64 false (0 : Int),
                                                    SV.str false [], SV.int IntKind.i64 false (0 : Int), SV.str false [], SV.int IntKind.i64 false (0 : Int),
                                                    SV.int IntKind.i64 true (IntKind.i64.wrap ((↑(2 : Nat) : Int) - (1 : Int))), SV.int IntKind.i64 false x.T.opened,
                                                    SV.int IntKind.i64 false (if (x.T.ends % (8 : Int)).toNat = (0 : Nat) then (x.f (1 : Nat)).id else x.T.e0),
                                                    SV.int IntKind.i64 false (if (x.T.ends % (8 : Int)).toNat = (1 : Nat) then (x.f (1 : Nat)).id else x.T.e1),
                                                    SV.int IntKind.i64 false (if (x.T.ends % (8 : Int)).toNat = (2 : Nat) then (x.f (1 : Nat)).id else x.T.e2),
                                                    SV.int IntKind.i64 false (if (x.T.ends % (8 : Int)).toNat = (3 : Nat) then (x.f (1 : Nat)).id else x.T.e3),
                                                    SV.int IntKind.i64 false (if (x.T.ends % (8 : Int)).toNat = (4 : Nat) then (x.f (1 : Nat)).id else x.T.e4),
                                                    SV.int IntKind.i64 false (if (x.T.ends % (8 : Int)).toNat = (5 : Nat) then (x.f (1 : Nat)).id else x.T.e5),
                                                    SV.int IntKind.i64 false (if (x.T.ends % (8 : Int)).toNat = (6 : Nat) then (x.f (1 : Nat)).id else x.T.e6),
                                                    SV.int IntKind.i64 false (if (x.T.ends % (8 : Int)).toNat = (7 : Nat) then (x.f (1 : Nat)).id else x.T.e7),
                                                    SV.int IntKind.i64 false (x.T.ends + (1 : Int))]
                                                  (49 : Nat) tableT)
                                                (Tb.sb true
                                                  { most := y.T.most, term := y.T.term, ss := slN (nat_lit 1) y.f, opened := y.T.opened, e0 := y.T.e0, e1 := y.T.e1, e2 := y.T.e2, e3 := y.T.e3,
                                                    e4 := y.T.e4, e5 := y.T.e5, e6 := y.T.e6, e7 := y.T.e7, ends := y.T.ends : Tb }) ∧
                                              True) ∧
                (decide ((x.f (1 : Nat)).dl ≤ clock) = false →
                  post x.l.length x.c
                    (SB.rows true x.l.length
                      [Col.int IntKind.i64 fun (i : Nat) => (x.l.getD i Sl.zero).id, Col.int IntKind.i64 fun (i : Nat) => (x.l.getD i Sl.zero).block,
                        Col.int IntKind.i64 fun (i : Nat) => (x.l.getD i Sl.zero).dl, Col.int IntKind.i64 fun (i : Nat) => (x.l.getD i Sl.zero).last]
                      false (x.c * (4 : Nat)) sessT)
                    ({ most := x.T.most, term := x.T.term, ss := [x.f (0 : Nat), x.f (1 : Nat), Sl.zero, Sl.zero], opened := x.T.opened, e0 := x.T.e0, e1 := x.T.e1, e2 := x.T.e2, e3 := x.T.e3,
                        e4 := x.T.e4, e5 := x.T.e5, e6 := x.T.e6, e7 := x.T.e7, ends := x.T.ends : Tb },
                      (↑(2 : Nat) : Int))))) := by kernel_rfl
theorem vcExpire3 (T : Tb) (a b c : Sl) (clock : Int) (post : Nat → Nat → SB → Tb × Int → Prop) : VC.holds (runC (cfgE {T with ss := [a, b, c]} clock) 13 Try.f13 {T with ss := [a, b, c]} [iv clock] (rowK2 post)) = ((∃ (y : ExpG),
    ExpPre { most := T.most, term := T.term, ss := [a, b, c], opened := T.opened, e0 := T.e0, e1 := T.e1, e2 := T.e2, e3 := T.e3, e4 := T.e4, e5 := T.e5, e6 := T.e6, e7 := T.e7, ends := T.ends : Tb }
        clock (nat_lit 3) y.f y.T y.l y.c ∧
      y.l.length = (0 : Nat) ∧
        (SB.rows true y.l.length (sessCols y.l) false (y.c * (4 : Nat)) sessT).no = true ∧
          SBle
              (SB.cells
                [SV.int IntKind.i64 false T.most, SV.int IntKind.i64 false T.term, SV.int IntKind.i64 false a.id, SV.int IntKind.i64 false a.block, SV.int IntKind.i64 false a.dl,
                  SV.int IntKind.i64 false a.last, SV.int IntKind.i64 false a.s0, SV.str false a.r0, SV.int IntKind.i64 false a.s1, SV.str false a.r1, SV.int IntKind.i64 false a.stored,
                  SV.int IntKind.i64 false b.id, SV.int IntKind.i64 false b.block, SV.int IntKind.i64 false b.dl, SV.int IntKind.i64 false b.last, SV.int IntKind.i64 false b.s0, SV.str false b.r0,
                  SV.int IntKind.i64 false b.s1, SV.str false b.r1, SV.int IntKind.i64 false b.stored, SV.int IntKind.i64 false c.id, SV.int IntKind.i64 false c.block, SV.int IntKind.i64 false c.dl,
                  SV.int IntKind.i64 false c.last, SV.int IntKind.i64 false c.s0, SV.str false c.r0, SV.int IntKind.i64 false c.s1, SV.str false c.r1, SV.int IntKind.i64 false c.stored,
                  SV.int IntKind.i64 false (0 : Int), SV.int IntKind.i64 false (0 : Int), SV.int IntKind.i64 false (0 : Int), SV.int IntKind.i64 false (0 : Int), SV.int IntKind.i64 false (0 : Int),
                  SV.str false [], SV.int IntKind.i64 false (0 : Int), SV.str false [], SV.int IntKind.i64 false (0 : Int), SV.int IntKind.i64 true (↑(3 : Nat) : Int),
                  SV.int IntKind.i64 false T.opened, SV.int IntKind.i64 false T.e0, SV.int IntKind.i64 false T.e1, SV.int IntKind.i64 false T.e2, SV.int IntKind.i64 false T.e3,
                  SV.int IntKind.i64 false T.e4, SV.int IntKind.i64 false T.e5, SV.int IntKind.i64 false T.e6, SV.int IntKind.i64 false T.e7, SV.int IntKind.i64 false T.ends]
                (49 : Nat) tableT)
              (Tb.sb true
                { most := y.T.most, term := y.T.term, ss := slN (nat_lit 3) y.f, opened := y.T.opened, e0 := y.T.e0, e1 := y.T.e1, e2 := y.T.e2, e3 := y.T.e3, e4 := y.T.e4, e5 := y.T.e5, e6 := y.T.e6,
                  e7 := y.T.e7, ends := y.T.ends : Tb }) ∧
            True) ∧
  (∀ (x : ExpG),
      ExpPre
          { most := T.most, term := T.term, ss := [a, b, c], opened := T.opened, e0 := T.e0, e1 := T.e1, e2 := T.e2, e3 := T.e3, e4 := T.e4, e5 := T.e5, e6 := T.e6, e7 := T.e7, ends := T.ends : Tb }
          clock (nat_lit 0) x.f x.T x.l x.c →
        post x.l.length x.c
          (SB.rows true x.l.length
            [Col.int IntKind.i64 fun (i : Nat) => (x.l.getD i Sl.zero).id, Col.int IntKind.i64 fun (i : Nat) => (x.l.getD i Sl.zero).block,
              Col.int IntKind.i64 fun (i : Nat) => (x.l.getD i Sl.zero).dl, Col.int IntKind.i64 fun (i : Nat) => (x.l.getD i Sl.zero).last]
            false (x.c * (4 : Nat)) sessT)
          ({ most := x.T.most, term := x.T.term, ss := [Sl.zero, Sl.zero, Sl.zero, Sl.zero], opened := x.T.opened, e0 := x.T.e0, e1 := x.T.e1, e2 := x.T.e2, e3 := x.T.e3, e4 := x.T.e4, e5 := x.T.e5,
              e6 := x.T.e6, e7 := x.T.e7, ends := x.T.ends : Tb },
            (↑(0 : Nat) : Int))) ∧
    (∀ (x : ExpG),
        ExpPre
            { most := T.most, term := T.term, ss := [a, b, c], opened := T.opened, e0 := T.e0, e1 := T.e1, e2 := T.e2, e3 := T.e3, e4 := T.e4, e5 := T.e5, e6 := T.e6, e7 := T.e7, ends := T.ends : Tb }
            clock (nat_lit 1) x.f x.T x.l x.c →
          (decide ((x.f (0 : Nat)).dl ≤ clock) = true →
              ((0 : Nat) + x.l.length ≤ x.l.length ∧ True ∧ (2 : Nat) * (x.l.length + (1 : Nat)) * (32 : Nat) ≤ (281474976710656 : Nat) ∧ x.l.length + (1 : Nat) < (9223372036854775808 : Nat)) ∧
                x.c * (4 : Nat) = x.c * (4 : Nat) ∧
                  ∀ (c_1 : Nat),
                    x.l.length + (1 : Nat) ≤ c_1 →
                      ((0 : Int) ≤ x.T.ends ∧ x.T.ends ≤ (9223372036854775807 : Int) ∧ (0 : Int) < (8 : Int)) ∧
                        ((0 : Int) ≤ x.T.ends % (8 : Int) ∧ x.T.ends % (8 : Int) < (8 : Int)) ∧
                          (x.T.ends % (8 : Int)).toNat < (8 : Nat) ∧
                            ((-9223372036854775808 : Int) ≤ x.T.ends + (1 : Int) ∧ x.T.ends + (1 : Int) ≤ (9223372036854775807 : Int)) ∧
                              ∃ (y : ExpG),
                                (ExpPre
                                      { most := T.most, term := T.term, ss := [a, b, c], opened := T.opened, e0 := T.e0, e1 := T.e1, e2 := T.e2, e3 := T.e3, e4 := T.e4, e5 := T.e5, e6 := T.e6,
                                        e7 := T.e7, ends := T.ends : Tb }
                                      clock (nat_lit 0) y.f y.T y.l y.c ∧
                                    nat_lit 0 < nat_lit 1) ∧
                                  ((0 : Nat) = (0 : Nat) ∧ x.l.length + (1 : Nat) = y.l.length ∧ c_1 = y.c) ∧
                                    True ∧
                                      SBle
                                          (SB.rows true (x.l.length + (1 : Nat))
                                            [Col.int IntKind.i64 fun (j : Nat) => if j < x.l.length then (x.l.getD j Sl.zero).id else sel [(x.f (0 : Nat)).id] (j - x.l.length),
                                              Col.int IntKind.i64 fun (j : Nat) => if j < x.l.length then (x.l.getD j Sl.zero).block else sel [(x.f (0 : Nat)).block] (j - x.l.length),
                                              Col.int IntKind.i64 fun (j : Nat) => if j < x.l.length then (x.l.getD j Sl.zero).dl else sel [(x.f (0 : Nat)).dl] (j - x.l.length),
                                              Col.int IntKind.i64 fun (j : Nat) => if j < x.l.length then (x.l.getD j Sl.zero).last else sel [(x.f (0 : Nat)).last] (j - x.l.length)]
                                            false (c_1 * (4 : Nat)) (29 : Nat))
                                          (SB.rows true y.l.length (sessCols y.l) false (y.c * (4 : Nat)) sessT) ∧
                                        SBle
                                            (SB.cells
                                              [SV.int IntKind.i64 false x.T.most, SV.int IntKind.i64 false x.T.term, SV.int IntKind.i64 true (0 : Int), SV.int IntKind.i64 true (0 : Int),
                                                SV.int IntKind.i64 true (0 : Int), SV.int IntKind.i64 true (0 : Int), SV.int IntKind.i64 true (0 : Int), SV.str true [],
                                                SV.int IntKind.i64 true (0 : Int), SV.str true [], SV.int IntKind.i64 true (0 : Int), SV.int IntKind.i64 false (0 : Int),
                                                SV.int IntKind.i64 false (0 : Int), SV.int IntKind.i64 false (0 : Int), SV.int IntKind.i64 false (0 : Int), SV.int IntKind.i64 false (0 : Int),
                                                SV.str false [], SV.int IntKind.i64 false (0 : Int), SV.str false [], SV.int IntKind.i64 false (0 : Int), SV.int IntKind.i64 false (0 : Int),
                                                SV.int IntKind.i64 false (0 : Int), SV.int IntKind.i64 false (0 : Int), SV.int IntKind.i64 false (0 : Int), SV.int IntKind.i64 false (0 : Int),
                                                SV.str false [], SV.int IntKind.i64 false (0 : Int), SV.str false [], SV.int IntKind.i64 false (0 : Int), SV.int IntKind.i64 false (0 : Int),
                                                SV.int IntKind.i64 false (0 : Int), SV.int IntKind.i64 false (0 : Int), SV.int IntKind.i64 false (0 : Int), SV.int IntKind.i64 false (0 : Int),
                                                SV.str false [], SV.int IntKind.i64 false (0 : Int), SV.str false [], SV.int IntKind.i64 false (0 : Int),
                                                SV.int IntKind.i64 true (IntKind.i64.wrap ((↑(1 : Nat) : Int) - (1 : Int))), SV.int IntKind.i64 false x.T.opened,
                                                SV.int IntKind.i64 false (if (x.T.ends % (8 : Int)).toNat = (0 : Nat) then (x.f (0 : Nat)).id else x.T.e0),
                                                SV.int IntKind.i64 false (if (x.T.ends % (8 : Int)).toNat = (1 : Nat) then (x.f (0 : Nat)).id else x.T.e1),
                                                SV.int IntKind.i64 false (if (x.T.ends % (8 : Int)).toNat = (2 : Nat) then (x.f (0 : Nat)).id else x.T.e2),
                                                SV.int IntKind.i64 false (if (x.T.ends % (8 : Int)).toNat = (3 : Nat) then (x.f (0 : Nat)).id else x.T.e3),
                                                SV.int IntKind.i64 false (if (x.T.ends % (8 : Int)).toNat = (4 : Nat) then (x.f (0 : Nat)).id else x.T.e4),
                                                SV.int IntKind.i64 false (if (x.T.ends % (8 : Int)).toNat = (5 : Nat) then (x.f (0 : Nat)).id else x.T.e5),
                                                SV.int IntKind.i64 false (if (x.T.ends % (8 : Int)).toNat = (6 : Nat) then (x.f (0 : Nat)).id else x.T.e6),
                                                SV.int IntKind.i64 false (if (x.T.ends % (8 : Int)).toNat = (7 : Nat) then (x.f (0 : Nat)).id else x.T.e7),
                                                SV.int IntKind.i64 false (x.T.ends + (1 : Int))]
                                              (49 : Nat) tableT)
                                            (Tb.sb true
                                              { most := y.T.most, term := y.T.term, ss := slN (nat_lit 0) y.f, opened := y.T.opened, e0 := y.T.e0, e1 := y.T.e1, e2 := y.T.e2, e3 := y.T.e3,
                                                e4 := y.T.e4, e5 := y.T.e5, e6 := y.T.e6, e7 := y.T.e7, ends := y.T.ends : Tb }) ∧
                                          True) ∧
            (decide ((x.f (0 : Nat)).dl ≤ clock) = false →
              post x.l.length x.c
                (SB.rows true x.l.length
                  [Col.int IntKind.i64 fun (i : Nat) => (x.l.getD i Sl.zero).id, Col.int IntKind.i64 fun (i : Nat) => (x.l.getD i Sl.zero).block,
                    Col.int IntKind.i64 fun (i : Nat) => (x.l.getD i Sl.zero).dl, Col.int IntKind.i64 fun (i : Nat) => (x.l.getD i Sl.zero).last]
                  false (x.c * (4 : Nat)) sessT)
                ({ most := x.T.most, term := x.T.term, ss := [x.f (0 : Nat), Sl.zero, Sl.zero, Sl.zero], opened := x.T.opened, e0 := x.T.e0, e1 := x.T.e1, e2 := x.T.e2, e3 := x.T.e3, e4 := x.T.e4,
                    e5 := x.T.e5, e6 := x.T.e6, e7 := x.T.e7, ends := x.T.ends : Tb },
                  (↑(1 : Nat) : Int)))) ∧
      (∀ (x : ExpG),
          ExpPre
              { most := T.most, term := T.term, ss := [a, b, c], opened := T.opened, e0 := T.e0, e1 := T.e1, e2 := T.e2, e3 := T.e3, e4 := T.e4, e5 := T.e5, e6 := T.e6, e7 := T.e7, ends := T.ends :
                Tb }
              clock (nat_lit 2) x.f x.T x.l x.c →
            (decide ((x.f (0 : Nat)).dl ≤ clock) = true →
                ((0 : Nat) + x.l.length ≤ x.l.length ∧ True ∧ (2 : Nat) * (x.l.length + (1 : Nat)) * (32 : Nat) ≤ (281474976710656 : Nat) ∧ x.l.length + (1 : Nat) < (9223372036854775808 : Nat)) ∧
                  x.c * (4 : Nat) = x.c * (4 : Nat) ∧
                    ∀ (c_1 : Nat),
                      x.l.length + (1 : Nat) ≤ c_1 →
                        ((0 : Int) ≤ x.T.ends ∧ x.T.ends ≤ (9223372036854775807 : Int) ∧ (0 : Int) < (8 : Int)) ∧
                          ((0 : Int) ≤ x.T.ends % (8 : Int) ∧ x.T.ends % (8 : Int) < (8 : Int)) ∧
                            (x.T.ends % (8 : Int)).toNat < (8 : Nat) ∧
                              ((-9223372036854775808 : Int) ≤ x.T.ends + (1 : Int) ∧ x.T.ends + (1 : Int) ≤ (9223372036854775807 : Int)) ∧
                                ∃ (y : ExpG),
                                  (ExpPre
                                        { most := T.most, term := T.term, ss := [a, b, c], opened := T.opened, e0 := T.e0, e1 := T.e1, e2 := T.e2, e3 := T.e3, e4 := T.e4, e5 := T.e5, e6 := T.e6,
                                          e7 := T.e7, ends := T.ends : Tb }
                                        clock (nat_lit 1) y.f y.T y.l y.c ∧
                                      nat_lit 1 < nat_lit 2) ∧
                                    ((0 : Nat) = (0 : Nat) ∧ x.l.length + (1 : Nat) = y.l.length ∧ c_1 = y.c) ∧
                                      True ∧
                                        SBle
                                            (SB.rows true (x.l.length + (1 : Nat))
                                              [Col.int IntKind.i64 fun (j : Nat) => if j < x.l.length then (x.l.getD j Sl.zero).id else sel [(x.f (0 : Nat)).id] (j - x.l.length),
                                                Col.int IntKind.i64 fun (j : Nat) => if j < x.l.length then (x.l.getD j Sl.zero).block else sel [(x.f (0 : Nat)).block] (j - x.l.length),
                                                Col.int IntKind.i64 fun (j : Nat) => if j < x.l.length then (x.l.getD j Sl.zero).dl else sel [(x.f (0 : Nat)).dl] (j - x.l.length),
                                                Col.int IntKind.i64 fun (j : Nat) => if j < x.l.length then (x.l.getD j Sl.zero).last else sel [(x.f (0 : Nat)).last] (j - x.l.length)]
                                              false (c_1 * (4 : Nat)) (29 : Nat))
                                            (SB.rows true y.l.length (sessCols y.l) false (y.c * (4 : Nat)) sessT) ∧
                                          SBle
                                              (SB.cells
                                                [SV.int IntKind.i64 false x.T.most, SV.int IntKind.i64 false x.T.term, SV.int IntKind.i64 false (x.f (1 : Nat)).id,
                                                  SV.int IntKind.i64 false (x.f (1 : Nat)).block, SV.int IntKind.i64 false (x.f (1 : Nat)).dl, SV.int IntKind.i64 false (x.f (1 : Nat)).last,
                                                  SV.int IntKind.i64 false (x.f (1 : Nat)).s0, SV.str false (x.f (1 : Nat)).r0, SV.int IntKind.i64 false (x.f (1 : Nat)).s1,
                                                  SV.str false (x.f (1 : Nat)).r1, SV.int IntKind.i64 false (x.f (1 : Nat)).stored, SV.int IntKind.i64 true (0 : Int),
                                                  SV.int IntKind.i64 true (0 : Int), SV.int IntKind.i64 true (0 : Int), SV.int IntKind.i64 true (0 : Int), SV.int IntKind.i64 true (0 : Int),
                                                  SV.str true [], SV.int IntKind.i64 true (0 : Int), SV.str true [], SV.int IntKind.i64 true (0 : Int), SV.int IntKind.i64 false (0 : Int),
                                                  SV.int IntKind.i64 false (0 : Int), SV.int IntKind.i64 false (0 : Int), SV.int IntKind.i64 false (0 : Int), SV.int IntKind.i64 false (0 : Int),
                                                  SV.str false [], SV.int IntKind.i64 false (0 : Int), SV.str false [], SV.int IntKind.i64 false (0 : Int), SV.int IntKind.i64 false (0 : Int),
                                                  SV.int IntKind.i64 false (0 : Int), SV.int IntKind.i64 false (0 : Int), SV.int IntKind.i64 false (0 : Int), SV.int IntKind.i64 false (0 : Int),
                                                  SV.str false [], SV.int IntKind.i64 false (0 : Int), SV.str false [], SV.int IntKind.i64 false (0 : Int),
                                                  SV.int IntKind.i64 true (IntKind.i64.wrap ((↑(2 : Nat) : Int) - (1 : Int))), SV.int IntKind.i64 false x.T.opened,
                                                  SV.int IntKind.i64 false (if (x.T.ends % (8 : Int)).toNat = (0 : Nat) then (x.f (0 : Nat)).id else x.T.e0),
                                                  SV.int IntKind.i64 false (if (x.T.ends % (8 : Int)).toNat = (1 : Nat) then (x.f (0 : Nat)).id else x.T.e1),
                                                  SV.int IntKind.i64 false (if (x.T.ends % (8 : Int)).toNat = (2 : Nat) then (x.f (0 : Nat)).id else x.T.e2),
                                                  SV.int IntKind.i64 false (if (x.T.ends % (8 : Int)).toNat = (3 : Nat) then (x.f (0 : Nat)).id else x.T.e3),
                                                  SV.int IntKind.i64 false (if (x.T.ends % (8 : Int)).toNat = (4 : Nat) then (x.f (0 : Nat)).id else x.T.e4),
                                                  SV.int IntKind.i64 false (if (x.T.ends % (8 : Int)).toNat = (5 : Nat) then (x.f (0 : Nat)).id else x.T.e5),
                                                  SV.int IntKind.i64 false (if (x.T.ends % (8 : Int)).toNat = (6 : Nat) then (x.f (0 : Nat)).id else x.T.e6),
                                                  SV.int IntKind.i64 false (if (x.T.ends % (8 : Int)).toNat = (7 : Nat) then (x.f (0 : Nat)).id else x.T.e7),
                                                  SV.int IntKind.i64 false (x.T.ends + (1 : Int))]
                                                (49 : Nat) tableT)
                                              (Tb.sb true
                                                { most := y.T.most, term := y.T.term, ss := slN (nat_lit 1) y.f, opened := y.T.opened, e0 := y.T.e0, e1 := y.T.e1, e2 := y.T.e2, e3 := y.T.e3,
                                                  e4 := y.T.e4, e5 := y.T.e5, e6 := y.T.e6, e7 := y.T.e7, ends := y.T.ends : Tb }) ∧
                                            True) ∧
              (decide ((x.f (0 : Nat)).dl ≤ clock) = false →
                (decide ((x.f (1 : Nat)).dl ≤ clock) = true →
                    ((0 : Nat) + x.l.length ≤ x.l.length ∧ True ∧ (2 : Nat) * (x.l.length + (1 : Nat)) * (32 : Nat) ≤ (281474976710656 : Nat) ∧ x.l.length + (1 : Nat) < (9223372036854775808 : Nat)) ∧
                      x.c * (4 : Nat) = x.c * (4 : Nat) ∧
                        ∀ (c_1 : Nat),
                          x.l.length + (1 : Nat) ≤ c_1 →
                            ((0 : Int) ≤ x.T.ends ∧ x.T.ends ≤ (9223372036854775807 : Int) ∧ (0 : Int) < (8 : Int)) ∧
                              ((0 : Int) ≤ x.T.ends % (8 : Int) ∧ x.T.ends % (8 : Int) < (8 : Int)) ∧
                                (x.T.ends % (8 : Int)).toNat < (8 : Nat) ∧
                                  ((-9223372036854775808 : Int) ≤ x.T.ends + (1 : Int) ∧ x.T.ends + (1 : Int) ≤ (9223372036854775807 : Int)) ∧
                                    ∃ (y : ExpG),
                                      (ExpPre
                                            { most := T.most, term := T.term, ss := [a, b, c], opened := T.opened, e0 := T.e0, e1 := T.e1, e2 := T.e2, e3 := T.e3, e4 := T.e4, e5 := T.e5, e6 := T.e6,
                                              e7 := T.e7, ends := T.ends : Tb }
                                            clock (nat_lit 1) y.f y.T y.l y.c ∧
                                          nat_lit 1 < nat_lit 2) ∧
                                        ((0 : Nat) = (0 : Nat) ∧ x.l.length + (1 : Nat) = y.l.length ∧ c_1 = y.c) ∧
                                          True ∧
                                            SBle
                                                (SB.rows true (x.l.length + (1 : Nat))
                                                  [Col.int IntKind.i64 fun (j : Nat) => if j < x.l.length then (x.l.getD j Sl.zero).id else sel [(x.f (1 : Nat)).id] (j - x.l.length),
                                                    Col.int IntKind.i64 fun (j : Nat) => if j < x.l.length then (x.l.getD j Sl.zero).block else sel [(x.f (1 : Nat)).block] (j - x.l.length),
                                                    Col.int IntKind.i64 fun (j : Nat) => if j < x.l.length then (x.l.getD j Sl.zero).dl else sel [(x.f (1 : Nat)).dl] (j - x.l.length),
                                                    Col.int IntKind.i64 fun (j : Nat) => if j < x.l.length then (x.l.getD j Sl.zero).last else sel [(x.f (1 : Nat)).last] (j - x.l.length)]
                                                  false (c_1 * (4 : Nat)) (29 : Nat))
                                                (SB.rows true y.l.length (sessCols y.l) false (y.c * (4 : Nat)) sessT) ∧
                                              SBle
                                                  (SB.cells
                                                    [SV.int IntKind.i64 false x.T.most, SV.int IntKind.i64 false x.T.term, SV.int IntKind.i64 false (x.f (0 : Nat)).id,
                                                      SV.int IntKind.i64 false (x.f (0 : Nat)).block, SV.int IntKind.i64 false (x.f (0 : Nat)).dl, SV.int IntKind.i64 false (x.f (0 : Nat)).last,
                                                      SV.int IntKind.i64 false (x.f (0 : Nat)).s0, SV.str false (x.f (0 : Nat)).r0, SV.int IntKind.i64 false (x.f (0 : Nat)).s1,
                                                      SV.str false (x.f (0 : Nat)).r1, SV.int IntKind.i64 false (x.f (0 : Nat)).stored, SV.int IntKind.i64 true (0 : Int),
                                                      SV.int IntKind.i64 true (0 : Int), SV.int IntKind.i64 true (0 : Int), SV.int IntKind.i64 true (0 : Int), SV.int IntKind.i64 true (0 : Int),
                                                      SV.str true [], SV.int IntKind.i64 true (0 : Int), SV.str true [], SV.int IntKind.i64 true (0 : Int), SV.int IntKind.i64 false (0 : Int),
                                                      SV.int IntKind.i64 false (0 : Int), SV.int IntKind.i64 false (0 : Int), SV.int IntKind.i64 false (0 : Int), SV.int IntKind.i64 false (0 : Int),
                                                      SV.str false [], SV.int IntKind.i64 false (0 : Int), SV.str false [], SV.int IntKind.i64 false (0 : Int), SV.int IntKind.i64 false (0 : Int),
                                                      SV.int IntKind.i64 false (0 : Int), SV.int IntKind.i64 false (0 : Int), SV.int IntKind.i64 false (0 : Int), SV.int IntKind.i64 false (0 : Int),
                                                      SV.str false [], SV.int IntKind.i64 false (0 : Int), SV.str false [], SV.int IntKind.i64 false (0 : Int),
                                                      SV.int IntKind.i64 true (IntKind.i64.wrap ((↑(2 : Nat) : Int) - (1 : Int))), SV.int IntKind.i64 false x.T.opened,
                                                      SV.int IntKind.i64 false (if (x.T.ends % (8 : Int)).toNat = (0 : Nat) then (x.f (1 : Nat)).id else x.T.e0),
                                                      SV.int IntKind.i64 false (if (x.T.ends % (8 : Int)).toNat = (1 : Nat) then (x.f (1 : Nat)).id else x.T.e1),
                                                      SV.int IntKind.i64 false (if (x.T.ends % (8 : Int)).toNat = (2 : Nat) then (x.f (1 : Nat)).id else x.T.e2),
                                                      SV.int IntKind.i64 false (if (x.T.ends % (8 : Int)).toNat = (3 : Nat) then (x.f (1 : Nat)).id else x.T.e3),
                                                      SV.int IntKind.i64 false (if (x.T.ends % (8 : Int)).toNat = (4 : Nat) then (x.f (1 : Nat)).id else x.T.e4),
                                                      SV.int IntKind.i64 false (if (x.T.ends % (8 : Int)).toNat = (5 : Nat) then (x.f (1 : Nat)).id else x.T.e5),
                                                      SV.int IntKind.i64 false (if (x.T.ends % (8 : Int)).toNat = (6 : Nat) then (x.f (1 : Nat)).id else x.T.e6),
                                                      SV.int IntKind.i64 false (if (x.T.ends % (8 : Int)).toNat = (7 : Nat) then (x.f (1 : Nat)).id else x.T.e7),
                                                      SV.int IntKind.i64 false (x.T.ends + (1 : Int))]
                                                    (49 : Nat) tableT)
                                                  (Tb.sb true
                                                    { most := y.T.most, term := y.T.term, ss := slN (nat_lit 1) y.f, opened := y.T.opened, e0 := y.T.e0, e1 := y.T.e1, e2 := y.T.e2, e3 := y.T.e3,
                                                      e4 := y.T.e4, e5 := y.T.e5, e6 := y.T.e6, e7 := y.T.e7, ends := y.T.ends : Tb }) ∧
                                                True) ∧
                  (decide ((x.f (1 : Nat)).dl ≤ clock) = false →
                    post x.l.length x.c
                      (SB.rows true x.l.length
                        [Col.int IntKind.i64 fun (i : Nat) => (x.l.getD i Sl.zero).id, Col.int IntKind.i64 fun (i : Nat) => (x.l.getD i Sl.zero).block,
                          Col.int IntKind.i64 fun (i : Nat) => (x.l.getD i Sl.zero).dl, Col.int IntKind.i64 fun (i : Nat) => (x.l.getD i Sl.zero).last]
                        false (x.c * (4 : Nat)) sessT)
                      ({ most := x.T.most, term := x.T.term, ss := [x.f (0 : Nat), x.f (1 : Nat), Sl.zero, Sl.zero], opened := x.T.opened, e0 := x.T.e0, e1 := x.T.e1, e2 := x.T.e2, e3 := x.T.e3,
                          e4 := x.T.e4, e5 := x.T.e5, e6 := x.T.e6, e7 := x.T.e7, ends := x.T.ends : Tb },
                        (↑(2 : Nat) : Int))))) ∧
        ∀ (x : ExpG),
          ExpPre
              { most := T.most, term := T.term, ss := [a, b, c], opened := T.opened, e0 := T.e0, e1 := T.e1, e2 := T.e2, e3 := T.e3, e4 := T.e4, e5 := T.e5, e6 := T.e6, e7 := T.e7, ends := T.ends :
                Tb }
              clock (nat_lit 3) x.f x.T x.l x.c →
            (decide ((x.f (0 : Nat)).dl ≤ clock) = true →
                ((0 : Nat) + x.l.length ≤ x.l.length ∧ True ∧ (2 : Nat) * (x.l.length + (1 : Nat)) * (32 : Nat) ≤ (281474976710656 : Nat) ∧ x.l.length + (1 : Nat) < (9223372036854775808 : Nat)) ∧
                  x.c * (4 : Nat) = x.c * (4 : Nat) ∧
                    ∀ (c_1 : Nat),
                      x.l.length + (1 : Nat) ≤ c_1 →
                        ((0 : Int) ≤ x.T.ends ∧ x.T.ends ≤ (9223372036854775807 : Int) ∧ (0 : Int) < (8 : Int)) ∧
                          ((0 : Int) ≤ x.T.ends % (8 : Int) ∧ x.T.ends % (8 : Int) < (8 : Int)) ∧
                            (x.T.ends % (8 : Int)).toNat < (8 : Nat) ∧
                              ((-9223372036854775808 : Int) ≤ x.T.ends + (1 : Int) ∧ x.T.ends + (1 : Int) ≤ (9223372036854775807 : Int)) ∧
                                ∃ (y : ExpG),
                                  (ExpPre
                                        { most := T.most, term := T.term, ss := [a, b, c], opened := T.opened, e0 := T.e0, e1 := T.e1, e2 := T.e2, e3 := T.e3, e4 := T.e4, e5 := T.e5, e6 := T.e6,
                                          e7 := T.e7, ends := T.ends : Tb }
                                        clock (nat_lit 2) y.f y.T y.l y.c ∧
                                      nat_lit 2 < nat_lit 3) ∧
                                    ((0 : Nat) = (0 : Nat) ∧ x.l.length + (1 : Nat) = y.l.length ∧ c_1 = y.c) ∧
                                      True ∧
                                        SBle
                                            (SB.rows true (x.l.length + (1 : Nat))
                                              [Col.int IntKind.i64 fun (j : Nat) => if j < x.l.length then (x.l.getD j Sl.zero).id else sel [(x.f (0 : Nat)).id] (j - x.l.length),
                                                Col.int IntKind.i64 fun (j : Nat) => if j < x.l.length then (x.l.getD j Sl.zero).block else sel [(x.f (0 : Nat)).block] (j - x.l.length),
                                                Col.int IntKind.i64 fun (j : Nat) => if j < x.l.length then (x.l.getD j Sl.zero).dl else sel [(x.f (0 : Nat)).dl] (j - x.l.length),
                                                Col.int IntKind.i64 fun (j : Nat) => if j < x.l.length then (x.l.getD j Sl.zero).last else sel [(x.f (0 : Nat)).last] (j - x.l.length)]
                                              false (c_1 * (4 : Nat)) (29 : Nat))
                                            (SB.rows true y.l.length (sessCols y.l) false (y.c * (4 : Nat)) sessT) ∧
                                          SBle
                                              (SB.cells
                                                [SV.int IntKind.i64 false x.T.most, SV.int IntKind.i64 false x.T.term, SV.int IntKind.i64 false (x.f (1 : Nat)).id,
                                                  SV.int IntKind.i64 false (x.f (1 : Nat)).block, SV.int IntKind.i64 false (x.f (1 : Nat)).dl, SV.int IntKind.i64 false (x.f (1 : Nat)).last,
                                                  SV.int IntKind.i64 false (x.f (1 : Nat)).s0, SV.str false (x.f (1 : Nat)).r0, SV.int IntKind.i64 false (x.f (1 : Nat)).s1,
                                                  SV.str false (x.f (1 : Nat)).r1, SV.int IntKind.i64 false (x.f (1 : Nat)).stored, SV.int IntKind.i64 false (x.f (2 : Nat)).id,
                                                  SV.int IntKind.i64 false (x.f (2 : Nat)).block, SV.int IntKind.i64 false (x.f (2 : Nat)).dl, SV.int IntKind.i64 false (x.f (2 : Nat)).last,
                                                  SV.int IntKind.i64 false (x.f (2 : Nat)).s0, SV.str false (x.f (2 : Nat)).r0, SV.int IntKind.i64 false (x.f (2 : Nat)).s1,
                                                  SV.str false (x.f (2 : Nat)).r1, SV.int IntKind.i64 false (x.f (2 : Nat)).stored, SV.int IntKind.i64 true (0 : Int),
                                                  SV.int IntKind.i64 true (0 : Int), SV.int IntKind.i64 true (0 : Int), SV.int IntKind.i64 true (0 : Int), SV.int IntKind.i64 true (0 : Int),
                                                  SV.str true [], SV.int IntKind.i64 true (0 : Int), SV.str true [], SV.int IntKind.i64 true (0 : Int), SV.int IntKind.i64 false (0 : Int),
                                                  SV.int IntKind.i64 false (0 : Int), SV.int IntKind.i64 false (0 : Int), SV.int IntKind.i64 false (0 : Int), SV.int IntKind.i64 false (0 : Int),
                                                  SV.str false [], SV.int IntKind.i64 false (0 : Int), SV.str false [], SV.int IntKind.i64 false (0 : Int),
                                                  SV.int IntKind.i64 true (IntKind.i64.wrap ((↑(3 : Nat) : Int) - (1 : Int))), SV.int IntKind.i64 false x.T.opened,
                                                  SV.int IntKind.i64 false (if (x.T.ends % (8 : Int)).toNat = (0 : Nat) then (x.f (0 : Nat)).id else x.T.e0),
                                                  SV.int IntKind.i64 false (if (x.T.ends % (8 : Int)).toNat = (1 : Nat) then (x.f (0 : Nat)).id else x.T.e1),
                                                  SV.int IntKind.i64 false (if (x.T.ends % (8 : Int)).toNat = (2 : Nat) then (x.f (0 : Nat)).id else x.T.e2),
                                                  SV.int IntKind.i64 false (if (x.T.ends % (8 : Int)).toNat = (3 : Nat) then (x.f (0 : Nat)).id else x.T.e3),
                                                  SV.int IntKind.i64 false (if (x.T.ends % (8 : Int)).toNat = (4 : Nat) then (x.f (0 : Nat)).id else x.T.e4),
                                                  SV.int IntKind.i64 false (if (x.T.ends % (8 : Int)).toNat = (5 : Nat) then (x.f (0 : Nat)).id else x.T.e5),
                                                  SV.int IntKind.i64 false (if (x.T.ends % (8 : Int)).toNat = (6 : Nat) then (x.f (0 : Nat)).id else x.T.e6),
                                                  SV.int IntKind.i64 false (if (x.T.ends % (8 : Int)).toNat = (7 : Nat) then (x.f (0 : Nat)).id else x.T.e7),
                                                  SV.int IntKind.i64 false (x.T.ends + (1 : Int))]
                                                (49 : Nat) tableT)
                                              (Tb.sb true
                                                { most := y.T.most, term := y.T.term, ss := slN (nat_lit 2) y.f, opened := y.T.opened, e0 := y.T.e0, e1 := y.T.e1, e2 := y.T.e2, e3 := y.T.e3,
                                                  e4 := y.T.e4, e5 := y.T.e5, e6 := y.T.e6, e7 := y.T.e7, ends := y.T.ends : Tb }) ∧
                                            True) ∧
              (decide ((x.f (0 : Nat)).dl ≤ clock) = false →
                (decide ((x.f (1 : Nat)).dl ≤ clock) = true →
                    ((0 : Nat) + x.l.length ≤ x.l.length ∧ True ∧ (2 : Nat) * (x.l.length + (1 : Nat)) * (32 : Nat) ≤ (281474976710656 : Nat) ∧ x.l.length + (1 : Nat) < (9223372036854775808 : Nat)) ∧
                      x.c * (4 : Nat) = x.c * (4 : Nat) ∧
                        ∀ (c_1 : Nat),
                          x.l.length + (1 : Nat) ≤ c_1 →
                            ((0 : Int) ≤ x.T.ends ∧ x.T.ends ≤ (9223372036854775807 : Int) ∧ (0 : Int) < (8 : Int)) ∧
                              ((0 : Int) ≤ x.T.ends % (8 : Int) ∧ x.T.ends % (8 : Int) < (8 : Int)) ∧
                                (x.T.ends % (8 : Int)).toNat < (8 : Nat) ∧
                                  ((-9223372036854775808 : Int) ≤ x.T.ends + (1 : Int) ∧ x.T.ends + (1 : Int) ≤ (9223372036854775807 : Int)) ∧
                                    ∃ (y : ExpG),
                                      (ExpPre
                                            { most := T.most, term := T.term, ss := [a, b, c], opened := T.opened, e0 := T.e0, e1 := T.e1, e2 := T.e2, e3 := T.e3, e4 := T.e4, e5 := T.e5, e6 := T.e6,
                                              e7 := T.e7, ends := T.ends : Tb }
                                            clock (nat_lit 2) y.f y.T y.l y.c ∧
                                          nat_lit 2 < nat_lit 3) ∧
                                        ((0 : Nat) = (0 : Nat) ∧ x.l.length + (1 : Nat) = y.l.length ∧ c_1 = y.c) ∧
                                          True ∧
                                            SBle
                                                (SB.rows true (x.l.length + (1 : Nat))
                                                  [Col.int IntKind.i64 fun (j : Nat) => if j < x.l.length then (x.l.getD j Sl.zero).id else sel [(x.f (1 : Nat)).id] (j - x.l.length),
                                                    Col.int IntKind.i64 fun (j : Nat) => if j < x.l.length then (x.l.getD j Sl.zero).block else sel [(x.f (1 : Nat)).block] (j - x.l.length),
                                                    Col.int IntKind.i64 fun (j : Nat) => if j < x.l.length then (x.l.getD j Sl.zero).dl else sel [(x.f (1 : Nat)).dl] (j - x.l.length),
                                                    Col.int IntKind.i64 fun (j : Nat) => if j < x.l.length then (x.l.getD j Sl.zero).last else sel [(x.f (1 : Nat)).last] (j - x.l.length)]
                                                  false (c_1 * (4 : Nat)) (29 : Nat))
                                                (SB.rows true y.l.length (sessCols y.l) false (y.c * (4 : Nat)) sessT) ∧
                                              SBle
                                                  (SB.cells
                                                    [SV.int IntKind.i64 false x.T.most, SV.int IntKind.i64 false x.T.term, SV.int IntKind.i64 false (x.f (0 : Nat)).id,
                                                      SV.int IntKind.i64 false (x.f (0 : Nat)).block, SV.int IntKind.i64 false (x.f (0 : Nat)).dl, SV.int IntKind.i64 false (x.f (0 : Nat)).last,
                                                      SV.int IntKind.i64 false (x.f (0 : Nat)).s0, SV.str false (x.f (0 : Nat)).r0, SV.int IntKind.i64 false (x.f (0 : Nat)).s1,
                                                      SV.str false (x.f (0 : Nat)).r1, SV.int IntKind.i64 false (x.f (0 : Nat)).stored, SV.int IntKind.i64 false (x.f (2 : Nat)).id,
                                                      SV.int IntKind.i64 false (x.f (2 : Nat)).block, SV.int IntKind.i64 false (x.f (2 : Nat)).dl, SV.int IntKind.i64 false (x.f (2 : Nat)).last,
                                                      SV.int IntKind.i64 false (x.f (2 : Nat)).s0, SV.str false (x.f (2 : Nat)).r0, SV.int IntKind.i64 false (x.f (2 : Nat)).s1,
                                                      SV.str false (x.f (2 : Nat)).r1, SV.int IntKind.i64 false (x.f (2 : Nat)).stored, SV.int IntKind.i64 true (0 : Int),
                                                      SV.int IntKind.i64 true (0 : Int), SV.int IntKind.i64 true (0 : Int), SV.int IntKind.i64 true (0 : Int), SV.int IntKind.i64 true (0 : Int),
                                                      SV.str true [], SV.int IntKind.i64 true (0 : Int), SV.str true [], SV.int IntKind.i64 true (0 : Int), SV.int IntKind.i64 false (0 : Int),
                                                      SV.int IntKind.i64 false (0 : Int), SV.int IntKind.i64 false (0 : Int), SV.int IntKind.i64 false (0 : Int), SV.int IntKind.i64 false (0 : Int),
                                                      SV.str false [], SV.int IntKind.i64 false (0 : Int), SV.str false [], SV.int IntKind.i64 false (0 : Int),
                                                      SV.int IntKind.i64 true (IntKind.i64.wrap ((↑(3 : Nat) : Int) - (1 : Int))), SV.int IntKind.i64 false x.T.opened,
                                                      SV.int IntKind.i64 false (if (x.T.ends % (8 : Int)).toNat = (0 : Nat) then (x.f (1 : Nat)).id else x.T.e0),
                                                      SV.int IntKind.i64 false (if (x.T.ends % (8 : Int)).toNat = (1 : Nat) then (x.f (1 : Nat)).id else x.T.e1),
                                                      SV.int IntKind.i64 false (if (x.T.ends % (8 : Int)).toNat = (2 : Nat) then (x.f (1 : Nat)).id else x.T.e2),
                                                      SV.int IntKind.i64 false (if (x.T.ends % (8 : Int)).toNat = (3 : Nat) then (x.f (1 : Nat)).id else x.T.e3),
                                                      SV.int IntKind.i64 false (if (x.T.ends % (8 : Int)).toNat = (4 : Nat) then (x.f (1 : Nat)).id else x.T.e4),
                                                      SV.int IntKind.i64 false (if (x.T.ends % (8 : Int)).toNat = (5 : Nat) then (x.f (1 : Nat)).id else x.T.e5),
                                                      SV.int IntKind.i64 false (if (x.T.ends % (8 : Int)).toNat = (6 : Nat) then (x.f (1 : Nat)).id else x.T.e6),
                                                      SV.int IntKind.i64 false (if (x.T.ends % (8 : Int)).toNat = (7 : Nat) then (x.f (1 : Nat)).id else x.T.e7),
                                                      SV.int IntKind.i64 false (x.T.ends + (1 : Int))]
                                                    (49 : Nat) tableT)
                                                  (Tb.sb true
                                                    { most := y.T.most, term := y.T.term, ss := slN (nat_lit 2) y.f, opened := y.T.opened, e0 := y.T.e0, e1 := y.T.e1, e2 := y.T.e2, e3 := y.T.e3,
                                                      e4 := y.T.e4, e5 := y.T.e5, e6 := y.T.e6, e7 := y.T.e7, ends := y.T.ends : Tb }) ∧
                                                True) ∧
                  (decide ((x.f (1 : Nat)).dl ≤ clock) = false →
                    (decide ((x.f (2 : Nat)).dl ≤ clock) = true →
                        ((0 : Nat) + x.l.length ≤ x.l.length ∧
                            True ∧ (2 : Nat) * (x.l.length + (1 : Nat)) * (32 : Nat) ≤ (281474976710656 : Nat) ∧ x.l.length + (1 : Nat) < (9223372036854775808 : Nat)) ∧
                          x.c * (4 : Nat) = x.c * (4 : Nat) ∧
                            ∀ (c_1 : Nat),
                              x.l.length + (1 : Nat) ≤ c_1 →
                                ((0 : Int) ≤ x.T.ends ∧ x.T.ends ≤ (9223372036854775807 : Int) ∧ (0 : Int) < (8 : Int)) ∧
                                  ((0 : Int) ≤ x.T.ends % (8 : Int) ∧ x.T.ends % (8 : Int) < (8 : Int)) ∧
                                    (x.T.ends % (8 : Int)).toNat < (8 : Nat) ∧
                                      ((-9223372036854775808 : Int) ≤ x.T.ends + (1 : Int) ∧ x.T.ends + (1 : Int) ≤ (9223372036854775807 : Int)) ∧
                                        ∃ (y : ExpG),
                                          (ExpPre
                                                { most := T.most, term := T.term, ss := [a, b, c], opened := T.opened, e0 := T.e0, e1 := T.e1, e2 := T.e2, e3 := T.e3, e4 := T.e4, e5 := T.e5,
                                                  e6 := T.e6, e7 := T.e7, ends := T.ends : Tb }
                                                clock (nat_lit 2) y.f y.T y.l y.c ∧
                                              nat_lit 2 < nat_lit 3) ∧
                                            ((0 : Nat) = (0 : Nat) ∧ x.l.length + (1 : Nat) = y.l.length ∧ c_1 = y.c) ∧
                                              True ∧
                                                SBle
                                                    (SB.rows true (x.l.length + (1 : Nat))
                                                      [Col.int IntKind.i64 fun (j : Nat) => if j < x.l.length then (x.l.getD j Sl.zero).id else sel [(x.f (2 : Nat)).id] (j - x.l.length),
                                                        Col.int IntKind.i64 fun (j : Nat) => if j < x.l.length then (x.l.getD j Sl.zero).block else sel [(x.f (2 : Nat)).block] (j - x.l.length),
                                                        Col.int IntKind.i64 fun (j : Nat) => if j < x.l.length then (x.l.getD j Sl.zero).dl else sel [(x.f (2 : Nat)).dl] (j - x.l.length),
                                                        Col.int IntKind.i64 fun (j : Nat) => if j < x.l.length then (x.l.getD j Sl.zero).last else sel [(x.f (2 : Nat)).last] (j - x.l.length)]
                                                      false (c_1 * (4 : Nat)) (29 : Nat))
                                                    (SB.rows true y.l.length (sessCols y.l) false (y.c * (4 : Nat)) sessT) ∧
                                                  SBle
                                                      (SB.cells
                                                        [SV.int IntKind.i64 false x.T.most, SV.int IntKind.i64 false x.T.term, SV.int IntKind.i64 false (x.f (0 : Nat)).id,
                                                          SV.int IntKind.i64 false (x.f (0 : Nat)).block, SV.int IntKind.i64 false (x.f (0 : Nat)).dl, SV.int IntKind.i64 false (x.f (0 : Nat)).last,
                                                          SV.int IntKind.i64 false (x.f (0 : Nat)).s0, SV.str false (x.f (0 : Nat)).r0, SV.int IntKind.i64 false (x.f (0 : Nat)).s1,
                                                          SV.str false (x.f (0 : Nat)).r1, SV.int IntKind.i64 false (x.f (0 : Nat)).stored, SV.int IntKind.i64 false (x.f (1 : Nat)).id,
                                                          SV.int IntKind.i64 false (x.f (1 : Nat)).block, SV.int IntKind.i64 false (x.f (1 : Nat)).dl, SV.int IntKind.i64 false (x.f (1 : Nat)).last,
                                                          SV.int IntKind.i64 false (x.f (1 : Nat)).s0, SV.str false (x.f (1 : Nat)).r0, SV.int IntKind.i64 false (x.f (1 : Nat)).s1,
                                                          SV.str false (x.f (1 : Nat)).r1, SV.int IntKind.i64 false (x.f (1 : Nat)).stored, SV.int IntKind.i64 true (0 : Int),
                                                          SV.int IntKind.i64 true (0 : Int), SV.int IntKind.i64 true (0 : Int), SV.int IntKind.i64 true (0 : Int), SV.int IntKind.i64 true (0 : Int),
                                                          SV.str true [], SV.int IntKind.i64 true (0 : Int), SV.str true [], SV.int IntKind.i64 true (0 : Int), SV.int IntKind.i64 false (0 : Int),
                                                          SV.int IntKind.i64 false (0 : Int), SV.int IntKind.i64 false (0 : Int), SV.int IntKind.i64 false (0 : Int),
                                                          SV.int IntKind.i64 false (0 : Int), SV.str false [], SV.int IntKind.i64 false (0 : Int), SV.str false [], SV.int IntKind.i64 false (0 : Int),
                                                          SV.int IntKind.i64 true (IntKind.i64.wrap ((↑(3 : Nat) : Int) - (1 : Int))), SV.int IntKind.i64 false x.T.opened,
                                                          SV.int IntKind.i64 false (if (x.T.ends % (8 : Int)).toNat = (0 : Nat) then (x.f (2 : Nat)).id else x.T.e0),
                                                          SV.int IntKind.i64 false (if (x.T.ends % (8 : Int)).toNat = (1 : Nat) then (x.f (2 : Nat)).id else x.T.e1),
                                                          SV.int IntKind.i64 false (if (x.T.ends % (8 : Int)).toNat = (2 : Nat) then (x.f (2 : Nat)).id else x.T.e2),
                                                          SV.int IntKind.i64 false (if (x.T.ends % (8 : Int)).toNat = (3 : Nat) then (x.f (2 : Nat)).id else x.T.e3),
                                                          SV.int IntKind.i64 false (if (x.T.ends % (8 : Int)).toNat = (4 : Nat) then (x.f (2 : Nat)).id else x.T.e4),
                                                          SV.int IntKind.i64 false (if (x.T.ends % (8 : Int)).toNat = (5 : Nat) then (x.f (2 : Nat)).id else x.T.e5),
                                                          SV.int IntKind.i64 false (if (x.T.ends % (8 : Int)).toNat = (6 : Nat) then (x.f (2 : Nat)).id else x.T.e6),
                                                          SV.int IntKind.i64 false (if (x.T.ends % (8 : Int)).toNat = (7 : Nat) then (x.f (2 : Nat)).id else x.T.e7),
                                                          SV.int IntKind.i64 false (x.T.ends + (1 : Int))]
                                                        (49 : Nat) tableT)
                                                      (Tb.sb true
                                                        { most := y.T.most, term := y.T.term, ss := slN (nat_lit 2) y.f, opened := y.T.opened, e0 := y.T.e0, e1 := y.T.e1, e2 := y.T.e2, e3 := y.T.e3,
                                                          e4 := y.T.e4, e5 := y.T.e5, e6 := y.T.e6, e7 := y.T.e7, ends := y.T.ends : Tb }) ∧
                                                    True) ∧
                      (decide ((x.f (2 : Nat)).dl ≤ clock) = false →
                        post x.l.length x.c
                          (SB.rows true x.l.length
                            [Col.int IntKind.i64 fun (i : Nat) => (x.l.getD i Sl.zero).id, Col.int IntKind.i64 fun (i : Nat) => (x.l.getD i Sl.zero).block,
                              Col.int IntKind.i64 fun (i : Nat) => (x.l.getD i Sl.zero).dl, Col.int IntKind.i64 fun (i : Nat) => (x.l.getD i Sl.zero).last]
                            false (x.c * (4 : Nat)) sessT)
                          ({ most := x.T.most, term := x.T.term, ss := [x.f (0 : Nat), x.f (1 : Nat), x.f (2 : Nat), Sl.zero], opened := x.T.opened, e0 := x.T.e0, e1 := x.T.e1, e2 := x.T.e2,
                              e3 := x.T.e3, e4 := x.T.e4, e5 := x.T.e5, e6 := x.T.e6, e7 := x.T.e7, ends := x.T.ends : Tb },
                            (↑(3 : Nat) : Int)))))) := by kernel_rfl
theorem vcExpire4 (T : Tb) (a b c d : Sl) (clock : Int) (post : Nat → Nat → SB → Tb × Int → Prop) : VC.holds (runC (cfgE {T with ss := [a, b, c, d]} clock) 13 Try.f13 {T with ss := [a, b, c, d]} [iv clock] (rowK2 post)) = ((∃ (y : ExpG),
    ExpPre
        { most := T.most, term := T.term, ss := [a, b, c, d], opened := T.opened, e0 := T.e0, e1 := T.e1, e2 := T.e2, e3 := T.e3, e4 := T.e4, e5 := T.e5, e6 := T.e6, e7 := T.e7, ends := T.ends : Tb }
        clock (nat_lit 4) y.f y.T y.l y.c ∧
      y.l.length = (0 : Nat) ∧
        (SB.rows true y.l.length (sessCols y.l) false (y.c * (4 : Nat)) sessT).no = true ∧
          SBle
              (SB.cells
                [SV.int IntKind.i64 false T.most, SV.int IntKind.i64 false T.term, SV.int IntKind.i64 false a.id, SV.int IntKind.i64 false a.block, SV.int IntKind.i64 false a.dl,
                  SV.int IntKind.i64 false a.last, SV.int IntKind.i64 false a.s0, SV.str false a.r0, SV.int IntKind.i64 false a.s1, SV.str false a.r1, SV.int IntKind.i64 false a.stored,
                  SV.int IntKind.i64 false b.id, SV.int IntKind.i64 false b.block, SV.int IntKind.i64 false b.dl, SV.int IntKind.i64 false b.last, SV.int IntKind.i64 false b.s0, SV.str false b.r0,
                  SV.int IntKind.i64 false b.s1, SV.str false b.r1, SV.int IntKind.i64 false b.stored, SV.int IntKind.i64 false c.id, SV.int IntKind.i64 false c.block, SV.int IntKind.i64 false c.dl,
                  SV.int IntKind.i64 false c.last, SV.int IntKind.i64 false c.s0, SV.str false c.r0, SV.int IntKind.i64 false c.s1, SV.str false c.r1, SV.int IntKind.i64 false c.stored,
                  SV.int IntKind.i64 false d.id, SV.int IntKind.i64 false d.block, SV.int IntKind.i64 false d.dl, SV.int IntKind.i64 false d.last, SV.int IntKind.i64 false d.s0, SV.str false d.r0,
                  SV.int IntKind.i64 false d.s1, SV.str false d.r1, SV.int IntKind.i64 false d.stored, SV.int IntKind.i64 true (↑(4 : Nat) : Int), SV.int IntKind.i64 false T.opened,
                  SV.int IntKind.i64 false T.e0, SV.int IntKind.i64 false T.e1, SV.int IntKind.i64 false T.e2, SV.int IntKind.i64 false T.e3, SV.int IntKind.i64 false T.e4,
                  SV.int IntKind.i64 false T.e5, SV.int IntKind.i64 false T.e6, SV.int IntKind.i64 false T.e7, SV.int IntKind.i64 false T.ends]
                (49 : Nat) tableT)
              (Tb.sb true
                { most := y.T.most, term := y.T.term, ss := slN (nat_lit 4) y.f, opened := y.T.opened, e0 := y.T.e0, e1 := y.T.e1, e2 := y.T.e2, e3 := y.T.e3, e4 := y.T.e4, e5 := y.T.e5, e6 := y.T.e6,
                  e7 := y.T.e7, ends := y.T.ends : Tb }) ∧
            True) ∧
  (∀ (x : ExpG),
      ExpPre
          { most := T.most, term := T.term, ss := [a, b, c, d], opened := T.opened, e0 := T.e0, e1 := T.e1, e2 := T.e2, e3 := T.e3, e4 := T.e4, e5 := T.e5, e6 := T.e6, e7 := T.e7, ends := T.ends :
            Tb }
          clock (nat_lit 0) x.f x.T x.l x.c →
        post x.l.length x.c
          (SB.rows true x.l.length
            [Col.int IntKind.i64 fun (i : Nat) => (x.l.getD i Sl.zero).id, Col.int IntKind.i64 fun (i : Nat) => (x.l.getD i Sl.zero).block,
              Col.int IntKind.i64 fun (i : Nat) => (x.l.getD i Sl.zero).dl, Col.int IntKind.i64 fun (i : Nat) => (x.l.getD i Sl.zero).last]
            false (x.c * (4 : Nat)) sessT)
          ({ most := x.T.most, term := x.T.term, ss := [Sl.zero, Sl.zero, Sl.zero, Sl.zero], opened := x.T.opened, e0 := x.T.e0, e1 := x.T.e1, e2 := x.T.e2, e3 := x.T.e3, e4 := x.T.e4, e5 := x.T.e5,
              e6 := x.T.e6, e7 := x.T.e7, ends := x.T.ends : Tb },
            (↑(0 : Nat) : Int))) ∧
    (∀ (x : ExpG),
        ExpPre
            { most := T.most, term := T.term, ss := [a, b, c, d], opened := T.opened, e0 := T.e0, e1 := T.e1, e2 := T.e2, e3 := T.e3, e4 := T.e4, e5 := T.e5, e6 := T.e6, e7 := T.e7, ends := T.ends :
              Tb }
            clock (nat_lit 1) x.f x.T x.l x.c →
          (decide ((x.f (0 : Nat)).dl ≤ clock) = true →
              ((0 : Nat) + x.l.length ≤ x.l.length ∧ True ∧ (2 : Nat) * (x.l.length + (1 : Nat)) * (32 : Nat) ≤ (281474976710656 : Nat) ∧ x.l.length + (1 : Nat) < (9223372036854775808 : Nat)) ∧
                x.c * (4 : Nat) = x.c * (4 : Nat) ∧
                  ∀ (c_1 : Nat),
                    x.l.length + (1 : Nat) ≤ c_1 →
                      ((0 : Int) ≤ x.T.ends ∧ x.T.ends ≤ (9223372036854775807 : Int) ∧ (0 : Int) < (8 : Int)) ∧
                        ((0 : Int) ≤ x.T.ends % (8 : Int) ∧ x.T.ends % (8 : Int) < (8 : Int)) ∧
                          (x.T.ends % (8 : Int)).toNat < (8 : Nat) ∧
                            ((-9223372036854775808 : Int) ≤ x.T.ends + (1 : Int) ∧ x.T.ends + (1 : Int) ≤ (9223372036854775807 : Int)) ∧
                              ∃ (y : ExpG),
                                (ExpPre
                                      { most := T.most, term := T.term, ss := [a, b, c, d], opened := T.opened, e0 := T.e0, e1 := T.e1, e2 := T.e2, e3 := T.e3, e4 := T.e4, e5 := T.e5, e6 := T.e6,
                                        e7 := T.e7, ends := T.ends : Tb }
                                      clock (nat_lit 0) y.f y.T y.l y.c ∧
                                    nat_lit 0 < nat_lit 1) ∧
                                  ((0 : Nat) = (0 : Nat) ∧ x.l.length + (1 : Nat) = y.l.length ∧ c_1 = y.c) ∧
                                    True ∧
                                      SBle
                                          (SB.rows true (x.l.length + (1 : Nat))
                                            [Col.int IntKind.i64 fun (j : Nat) => if j < x.l.length then (x.l.getD j Sl.zero).id else sel [(x.f (0 : Nat)).id] (j - x.l.length),
                                              Col.int IntKind.i64 fun (j : Nat) => if j < x.l.length then (x.l.getD j Sl.zero).block else sel [(x.f (0 : Nat)).block] (j - x.l.length),
                                              Col.int IntKind.i64 fun (j : Nat) => if j < x.l.length then (x.l.getD j Sl.zero).dl else sel [(x.f (0 : Nat)).dl] (j - x.l.length),
                                              Col.int IntKind.i64 fun (j : Nat) => if j < x.l.length then (x.l.getD j Sl.zero).last else sel [(x.f (0 : Nat)).last] (j - x.l.length)]
                                            false (c_1 * (4 : Nat)) (29 : Nat))
                                          (SB.rows true y.l.length (sessCols y.l) false (y.c * (4 : Nat)) sessT) ∧
                                        SBle
                                            (SB.cells
                                              [SV.int IntKind.i64 false x.T.most, SV.int IntKind.i64 false x.T.term, SV.int IntKind.i64 true (0 : Int), SV.int IntKind.i64 true (0 : Int),
                                                SV.int IntKind.i64 true (0 : Int), SV.int IntKind.i64 true (0 : Int), SV.int IntKind.i64 true (0 : Int), SV.str true [],
                                                SV.int IntKind.i64 true (0 : Int), SV.str true [], SV.int IntKind.i64 true (0 : Int), SV.int IntKind.i64 false (0 : Int),
                                                SV.int IntKind.i64 false (0 : Int), SV.int IntKind.i64 false (0 : Int), SV.int IntKind.i64 false (0 : Int), SV.int IntKind.i64 false (0 : Int),
                                                SV.str false [], SV.int IntKind.i64 false (0 : Int), SV.str false [], SV.int IntKind.i64 false (0 : Int), SV.int IntKind.i64 false (0 : Int),
                                                SV.int IntKind.i64 false (0 : Int), SV.int IntKind.i64 false (0 : Int), SV.int IntKind.i64 false (0 : Int), SV.int IntKind.i64 false (0 : Int),
                                                SV.str false [], SV.int IntKind.i64 false (0 : Int), SV.str false [], SV.int IntKind.i64 false (0 : Int), SV.int IntKind.i64 false (0 : Int),
                                                SV.int IntKind.i64 false (0 : Int), SV.int IntKind.i64 false (0 : Int), SV.int IntKind.i64 false (0 : Int), SV.int IntKind.i64 false (0 : Int),
                                                SV.str false [], SV.int IntKind.i64 false (0 : Int), SV.str false [], SV.int IntKind.i64 false (0 : Int),
                                                SV.int IntKind.i64 true (IntKind.i64.wrap ((↑(1 : Nat) : Int) - (1 : Int))), SV.int IntKind.i64 false x.T.opened,
                                                SV.int IntKind.i64 false (if (x.T.ends % (8 : Int)).toNat = (0 : Nat) then (x.f (0 : Nat)).id else x.T.e0),
                                                SV.int IntKind.i64 false (if (x.T.ends % (8 : Int)).toNat = (1 : Nat) then (x.f (0 : Nat)).id else x.T.e1),
                                                SV.int IntKind.i64 false (if (x.T.ends % (8 : Int)).toNat = (2 : Nat) then (x.f (0 : Nat)).id else x.T.e2),
                                                SV.int IntKind.i64 false (if (x.T.ends % (8 : Int)).toNat = (3 : Nat) then (x.f (0 : Nat)).id else x.T.e3),
                                                SV.int IntKind.i64 false (if (x.T.ends % (8 : Int)).toNat = (4 : Nat) then (x.f (0 : Nat)).id else x.T.e4),
                                                SV.int IntKind.i64 false (if (x.T.ends % (8 : Int)).toNat = (5 : Nat) then (x.f (0 : Nat)).id else x.T.e5),
                                                SV.int IntKind.i64 false (if (x.T.ends % (8 : Int)).toNat = (6 : Nat) then (x.f (0 : Nat)).id else x.T.e6),
                                                SV.int IntKind.i64 false (if (x.T.ends % (8 : Int)).toNat = (7 : Nat) then (x.f (0 : Nat)).id else x.T.e7),
                                                SV.int IntKind.i64 false (x.T.ends + (1 : Int))]
                                              (49 : Nat) tableT)
                                            (Tb.sb true
                                              { most := y.T.most, term := y.T.term, ss := slN (nat_lit 0) y.f, opened := y.T.opened, e0 := y.T.e0, e1 := y.T.e1, e2 := y.T.e2, e3 := y.T.e3,
                                                e4 := y.T.e4, e5 := y.T.e5, e6 := y.T.e6, e7 := y.T.e7, ends := y.T.ends : Tb }) ∧
                                          True) ∧
            (decide ((x.f (0 : Nat)).dl ≤ clock) = false →
              post x.l.length x.c
                (SB.rows true x.l.length
                  [Col.int IntKind.i64 fun (i : Nat) => (x.l.getD i Sl.zero).id, Col.int IntKind.i64 fun (i : Nat) => (x.l.getD i Sl.zero).block,
                    Col.int IntKind.i64 fun (i : Nat) => (x.l.getD i Sl.zero).dl, Col.int IntKind.i64 fun (i : Nat) => (x.l.getD i Sl.zero).last]
                  false (x.c * (4 : Nat)) sessT)
                ({ most := x.T.most, term := x.T.term, ss := [x.f (0 : Nat), Sl.zero, Sl.zero, Sl.zero], opened := x.T.opened, e0 := x.T.e0, e1 := x.T.e1, e2 := x.T.e2, e3 := x.T.e3, e4 := x.T.e4,
                    e5 := x.T.e5, e6 := x.T.e6, e7 := x.T.e7, ends := x.T.ends : Tb },
                  (↑(1 : Nat) : Int)))) ∧
      (∀ (x : ExpG),
          ExpPre
              { most := T.most, term := T.term, ss := [a, b, c, d], opened := T.opened, e0 := T.e0, e1 := T.e1, e2 := T.e2, e3 := T.e3, e4 := T.e4, e5 := T.e5, e6 := T.e6, e7 := T.e7, ends := T.ends :
                Tb }
              clock (nat_lit 2) x.f x.T x.l x.c →
            (decide ((x.f (0 : Nat)).dl ≤ clock) = true →
                ((0 : Nat) + x.l.length ≤ x.l.length ∧ True ∧ (2 : Nat) * (x.l.length + (1 : Nat)) * (32 : Nat) ≤ (281474976710656 : Nat) ∧ x.l.length + (1 : Nat) < (9223372036854775808 : Nat)) ∧
                  x.c * (4 : Nat) = x.c * (4 : Nat) ∧
                    ∀ (c_1 : Nat),
                      x.l.length + (1 : Nat) ≤ c_1 →
                        ((0 : Int) ≤ x.T.ends ∧ x.T.ends ≤ (9223372036854775807 : Int) ∧ (0 : Int) < (8 : Int)) ∧
                          ((0 : Int) ≤ x.T.ends % (8 : Int) ∧ x.T.ends % (8 : Int) < (8 : Int)) ∧
                            (x.T.ends % (8 : Int)).toNat < (8 : Nat) ∧
                              ((-9223372036854775808 : Int) ≤ x.T.ends + (1 : Int) ∧ x.T.ends + (1 : Int) ≤ (9223372036854775807 : Int)) ∧
                                ∃ (y : ExpG),
                                  (ExpPre
                                        { most := T.most, term := T.term, ss := [a, b, c, d], opened := T.opened, e0 := T.e0, e1 := T.e1, e2 := T.e2, e3 := T.e3, e4 := T.e4, e5 := T.e5, e6 := T.e6,
                                          e7 := T.e7, ends := T.ends : Tb }
                                        clock (nat_lit 1) y.f y.T y.l y.c ∧
                                      nat_lit 1 < nat_lit 2) ∧
                                    ((0 : Nat) = (0 : Nat) ∧ x.l.length + (1 : Nat) = y.l.length ∧ c_1 = y.c) ∧
                                      True ∧
                                        SBle
                                            (SB.rows true (x.l.length + (1 : Nat))
                                              [Col.int IntKind.i64 fun (j : Nat) => if j < x.l.length then (x.l.getD j Sl.zero).id else sel [(x.f (0 : Nat)).id] (j - x.l.length),
                                                Col.int IntKind.i64 fun (j : Nat) => if j < x.l.length then (x.l.getD j Sl.zero).block else sel [(x.f (0 : Nat)).block] (j - x.l.length),
                                                Col.int IntKind.i64 fun (j : Nat) => if j < x.l.length then (x.l.getD j Sl.zero).dl else sel [(x.f (0 : Nat)).dl] (j - x.l.length),
                                                Col.int IntKind.i64 fun (j : Nat) => if j < x.l.length then (x.l.getD j Sl.zero).last else sel [(x.f (0 : Nat)).last] (j - x.l.length)]
                                              false (c_1 * (4 : Nat)) (29 : Nat))
                                            (SB.rows true y.l.length (sessCols y.l) false (y.c * (4 : Nat)) sessT) ∧
                                          SBle
                                              (SB.cells
                                                [SV.int IntKind.i64 false x.T.most, SV.int IntKind.i64 false x.T.term, SV.int IntKind.i64 false (x.f (1 : Nat)).id,
                                                  SV.int IntKind.i64 false (x.f (1 : Nat)).block, SV.int IntKind.i64 false (x.f (1 : Nat)).dl, SV.int IntKind.i64 false (x.f (1 : Nat)).last,
                                                  SV.int IntKind.i64 false (x.f (1 : Nat)).s0, SV.str false (x.f (1 : Nat)).r0, SV.int IntKind.i64 false (x.f (1 : Nat)).s1,
                                                  SV.str false (x.f (1 : Nat)).r1, SV.int IntKind.i64 false (x.f (1 : Nat)).stored, SV.int IntKind.i64 true (0 : Int),
                                                  SV.int IntKind.i64 true (0 : Int), SV.int IntKind.i64 true (0 : Int), SV.int IntKind.i64 true (0 : Int), SV.int IntKind.i64 true (0 : Int),
                                                  SV.str true [], SV.int IntKind.i64 true (0 : Int), SV.str true [], SV.int IntKind.i64 true (0 : Int), SV.int IntKind.i64 false (0 : Int),
                                                  SV.int IntKind.i64 false (0 : Int), SV.int IntKind.i64 false (0 : Int), SV.int IntKind.i64 false (0 : Int), SV.int IntKind.i64 false (0 : Int),
                                                  SV.str false [], SV.int IntKind.i64 false (0 : Int), SV.str false [], SV.int IntKind.i64 false (0 : Int), SV.int IntKind.i64 false (0 : Int),
                                                  SV.int IntKind.i64 false (0 : Int), SV.int IntKind.i64 false (0 : Int), SV.int IntKind.i64 false (0 : Int), SV.int IntKind.i64 false (0 : Int),
                                                  SV.str false [], SV.int IntKind.i64 false (0 : Int), SV.str false [], SV.int IntKind.i64 false (0 : Int),
                                                  SV.int IntKind.i64 true (IntKind.i64.wrap ((↑(2 : Nat) : Int) - (1 : Int))), SV.int IntKind.i64 false x.T.opened,
                                                  SV.int IntKind.i64 false (if (x.T.ends % (8 : Int)).toNat = (0 : Nat) then (x.f (0 : Nat)).id else x.T.e0),
                                                  SV.int IntKind.i64 false (if (x.T.ends % (8 : Int)).toNat = (1 : Nat) then (x.f (0 : Nat)).id else x.T.e1),
                                                  SV.int IntKind.i64 false (if (x.T.ends % (8 : Int)).toNat = (2 : Nat) then (x.f (0 : Nat)).id else x.T.e2),
                                                  SV.int IntKind.i64 false (if (x.T.ends % (8 : Int)).toNat = (3 : Nat) then (x.f (0 : Nat)).id else x.T.e3),
                                                  SV.int IntKind.i64 false (if (x.T.ends % (8 : Int)).toNat = (4 : Nat) then (x.f (0 : Nat)).id else x.T.e4),
                                                  SV.int IntKind.i64 false (if (x.T.ends % (8 : Int)).toNat = (5 : Nat) then (x.f (0 : Nat)).id else x.T.e5),
                                                  SV.int IntKind.i64 false (if (x.T.ends % (8 : Int)).toNat = (6 : Nat) then (x.f (0 : Nat)).id else x.T.e6),
                                                  SV.int IntKind.i64 false (if (x.T.ends % (8 : Int)).toNat = (7 : Nat) then (x.f (0 : Nat)).id else x.T.e7),
                                                  SV.int IntKind.i64 false (x.T.ends + (1 : Int))]
                                                (49 : Nat) tableT)
                                              (Tb.sb true
                                                { most := y.T.most, term := y.T.term, ss := slN (nat_lit 1) y.f, opened := y.T.opened, e0 := y.T.e0, e1 := y.T.e1, e2 := y.T.e2, e3 := y.T.e3,
                                                  e4 := y.T.e4, e5 := y.T.e5, e6 := y.T.e6, e7 := y.T.e7, ends := y.T.ends : Tb }) ∧
                                            True) ∧
              (decide ((x.f (0 : Nat)).dl ≤ clock) = false →
                (decide ((x.f (1 : Nat)).dl ≤ clock) = true →
                    ((0 : Nat) + x.l.length ≤ x.l.length ∧ True ∧ (2 : Nat) * (x.l.length + (1 : Nat)) * (32 : Nat) ≤ (281474976710656 : Nat) ∧ x.l.length + (1 : Nat) < (9223372036854775808 : Nat)) ∧
                      x.c * (4 : Nat) = x.c * (4 : Nat) ∧
                        ∀ (c_1 : Nat),
                          x.l.length + (1 : Nat) ≤ c_1 →
                            ((0 : Int) ≤ x.T.ends ∧ x.T.ends ≤ (9223372036854775807 : Int) ∧ (0 : Int) < (8 : Int)) ∧
                              ((0 : Int) ≤ x.T.ends % (8 : Int) ∧ x.T.ends % (8 : Int) < (8 : Int)) ∧
                                (x.T.ends % (8 : Int)).toNat < (8 : Nat) ∧
                                  ((-9223372036854775808 : Int) ≤ x.T.ends + (1 : Int) ∧ x.T.ends + (1 : Int) ≤ (9223372036854775807 : Int)) ∧
                                    ∃ (y : ExpG),
                                      (ExpPre
                                            { most := T.most, term := T.term, ss := [a, b, c, d], opened := T.opened, e0 := T.e0, e1 := T.e1, e2 := T.e2, e3 := T.e3, e4 := T.e4, e5 := T.e5,
                                              e6 := T.e6, e7 := T.e7, ends := T.ends : Tb }
                                            clock (nat_lit 1) y.f y.T y.l y.c ∧
                                          nat_lit 1 < nat_lit 2) ∧
                                        ((0 : Nat) = (0 : Nat) ∧ x.l.length + (1 : Nat) = y.l.length ∧ c_1 = y.c) ∧
                                          True ∧
                                            SBle
                                                (SB.rows true (x.l.length + (1 : Nat))
                                                  [Col.int IntKind.i64 fun (j : Nat) => if j < x.l.length then (x.l.getD j Sl.zero).id else sel [(x.f (1 : Nat)).id] (j - x.l.length),
                                                    Col.int IntKind.i64 fun (j : Nat) => if j < x.l.length then (x.l.getD j Sl.zero).block else sel [(x.f (1 : Nat)).block] (j - x.l.length),
                                                    Col.int IntKind.i64 fun (j : Nat) => if j < x.l.length then (x.l.getD j Sl.zero).dl else sel [(x.f (1 : Nat)).dl] (j - x.l.length),
                                                    Col.int IntKind.i64 fun (j : Nat) => if j < x.l.length then (x.l.getD j Sl.zero).last else sel [(x.f (1 : Nat)).last] (j - x.l.length)]
                                                  false (c_1 * (4 : Nat)) (29 : Nat))
                                                (SB.rows true y.l.length (sessCols y.l) false (y.c * (4 : Nat)) sessT) ∧
                                              SBle
                                                  (SB.cells
                                                    [SV.int IntKind.i64 false x.T.most, SV.int IntKind.i64 false x.T.term, SV.int IntKind.i64 false (x.f (0 : Nat)).id,
                                                      SV.int IntKind.i64 false (x.f (0 : Nat)).block, SV.int IntKind.i64 false (x.f (0 : Nat)).dl, SV.int IntKind.i64 false (x.f (0 : Nat)).last,
                                                      SV.int IntKind.i64 false (x.f (0 : Nat)).s0, SV.str false (x.f (0 : Nat)).r0, SV.int IntKind.i64 false (x.f (0 : Nat)).s1,
                                                      SV.str false (x.f (0 : Nat)).r1, SV.int IntKind.i64 false (x.f (0 : Nat)).stored, SV.int IntKind.i64 true (0 : Int),
                                                      SV.int IntKind.i64 true (0 : Int), SV.int IntKind.i64 true (0 : Int), SV.int IntKind.i64 true (0 : Int), SV.int IntKind.i64 true (0 : Int),
                                                      SV.str true [], SV.int IntKind.i64 true (0 : Int), SV.str true [], SV.int IntKind.i64 true (0 : Int), SV.int IntKind.i64 false (0 : Int),
                                                      SV.int IntKind.i64 false (0 : Int), SV.int IntKind.i64 false (0 : Int), SV.int IntKind.i64 false (0 : Int), SV.int IntKind.i64 false (0 : Int),
                                                      SV.str false [], SV.int IntKind.i64 false (0 : Int), SV.str false [], SV.int IntKind.i64 false (0 : Int), SV.int IntKind.i64 false (0 : Int),
                                                      SV.int IntKind.i64 false (0 : Int), SV.int IntKind.i64 false (0 : Int), SV.int IntKind.i64 false (0 : Int), SV.int IntKind.i64 false (0 : Int),
                                                      SV.str false [], SV.int IntKind.i64 false (0 : Int), SV.str false [], SV.int IntKind.i64 false (0 : Int),
                                                      SV.int IntKind.i64 true (IntKind.i64.wrap ((↑(2 : Nat) : Int) - (1 : Int))), SV.int IntKind.i64 false x.T.opened,
                                                      SV.int IntKind.i64 false (if (x.T.ends % (8 : Int)).toNat = (0 : Nat) then (x.f (1 : Nat)).id else x.T.e0),
                                                      SV.int IntKind.i64 false (if (x.T.ends % (8 : Int)).toNat = (1 : Nat) then (x.f (1 : Nat)).id else x.T.e1),
                                                      SV.int IntKind.i64 false (if (x.T.ends % (8 : Int)).toNat = (2 : Nat) then (x.f (1 : Nat)).id else x.T.e2),
                                                      SV.int IntKind.i64 false (if (x.T.ends % (8 : Int)).toNat = (3 : Nat) then (x.f (1 : Nat)).id else x.T.e3),
                                                      SV.int IntKind.i64 false (if (x.T.ends % (8 : Int)).toNat = (4 : Nat) then (x.f (1 : Nat)).id else x.T.e4),
                                                      SV.int IntKind.i64 false (if (x.T.ends % (8 : Int)).toNat = (5 : Nat) then (x.f (1 : Nat)).id else x.T.e5),
                                                      SV.int IntKind.i64 false (if (x.T.ends % (8 : Int)).toNat = (6 : Nat) then (x.f (1 : Nat)).id else x.T.e6),
                                                      SV.int IntKind.i64 false (if (x.T.ends % (8 : Int)).toNat = (7 : Nat) then (x.f (1 : Nat)).id else x.T.e7),
                                                      SV.int IntKind.i64 false (x.T.ends + (1 : Int))]
                                                    (49 : Nat) tableT)
                                                  (Tb.sb true
                                                    { most := y.T.most, term := y.T.term, ss := slN (nat_lit 1) y.f, opened := y.T.opened, e0 := y.T.e0, e1 := y.T.e1, e2 := y.T.e2, e3 := y.T.e3,
                                                      e4 := y.T.e4, e5 := y.T.e5, e6 := y.T.e6, e7 := y.T.e7, ends := y.T.ends : Tb }) ∧
                                                True) ∧
                  (decide ((x.f (1 : Nat)).dl ≤ clock) = false →
                    post x.l.length x.c
                      (SB.rows true x.l.length
                        [Col.int IntKind.i64 fun (i : Nat) => (x.l.getD i Sl.zero).id, Col.int IntKind.i64 fun (i : Nat) => (x.l.getD i Sl.zero).block,
                          Col.int IntKind.i64 fun (i : Nat) => (x.l.getD i Sl.zero).dl, Col.int IntKind.i64 fun (i : Nat) => (x.l.getD i Sl.zero).last]
                        false (x.c * (4 : Nat)) sessT)
                      ({ most := x.T.most, term := x.T.term, ss := [x.f (0 : Nat), x.f (1 : Nat), Sl.zero, Sl.zero], opened := x.T.opened, e0 := x.T.e0, e1 := x.T.e1, e2 := x.T.e2, e3 := x.T.e3,
                          e4 := x.T.e4, e5 := x.T.e5, e6 := x.T.e6, e7 := x.T.e7, ends := x.T.ends : Tb },
                        (↑(2 : Nat) : Int))))) ∧
        (∀ (x : ExpG),
            ExpPre
                { most := T.most, term := T.term, ss := [a, b, c, d], opened := T.opened, e0 := T.e0, e1 := T.e1, e2 := T.e2, e3 := T.e3, e4 := T.e4, e5 := T.e5, e6 := T.e6, e7 := T.e7,
                  ends := T.ends : Tb }
                clock (nat_lit 3) x.f x.T x.l x.c →
              (decide ((x.f (0 : Nat)).dl ≤ clock) = true →
                  ((0 : Nat) + x.l.length ≤ x.l.length ∧ True ∧ (2 : Nat) * (x.l.length + (1 : Nat)) * (32 : Nat) ≤ (281474976710656 : Nat) ∧ x.l.length + (1 : Nat) < (9223372036854775808 : Nat)) ∧
                    x.c * (4 : Nat) = x.c * (4 : Nat) ∧
                      ∀ (c_1 : Nat),
                        x.l.length + (1 : Nat) ≤ c_1 →
                          ((0 : Int) ≤ x.T.ends ∧ x.T.ends ≤ (9223372036854775807 : Int) ∧ (0 : Int) < (8 : Int)) ∧
                            ((0 : Int) ≤ x.T.ends % (8 : Int) ∧ x.T.ends % (8 : Int) < (8 : Int)) ∧
                              (x.T.ends % (8 : Int)).toNat < (8 : Nat) ∧
                                ((-9223372036854775808 : Int) ≤ x.T.ends + (1 : Int) ∧ x.T.ends + (1 : Int) ≤ (9223372036854775807 : Int)) ∧
                                  ∃ (y : ExpG),
                                    (ExpPre
                                          { most := T.most, term := T.term, ss := [a, b, c, d], opened := T.opened, e0 := T.e0, e1 := T.e1, e2 := T.e2, e3 := T.e3, e4 := T.e4, e5 := T.e5, e6 := T.e6,
                                            e7 := T.e7, ends := T.ends : Tb }
                                          clock (nat_lit 2) y.f y.T y.l y.c ∧
                                        nat_lit 2 < nat_lit 3) ∧
                                      ((0 : Nat) = (0 : Nat) ∧ x.l.length + (1 : Nat) = y.l.length ∧ c_1 = y.c) ∧
                                        True ∧
                                          SBle
                                              (SB.rows true (x.l.length + (1 : Nat))
                                                [Col.int IntKind.i64 fun (j : Nat) => if j < x.l.length then (x.l.getD j Sl.zero).id else sel [(x.f (0 : Nat)).id] (j - x.l.length),
                                                  Col.int IntKind.i64 fun (j : Nat) => if j < x.l.length then (x.l.getD j Sl.zero).block else sel [(x.f (0 : Nat)).block] (j - x.l.length),
                                                  Col.int IntKind.i64 fun (j : Nat) => if j < x.l.length then (x.l.getD j Sl.zero).dl else sel [(x.f (0 : Nat)).dl] (j - x.l.length),
                                                  Col.int IntKind.i64 fun (j : Nat) => if j < x.l.length then (x.l.getD j Sl.zero).last else sel [(x.f (0 : Nat)).last] (j - x.l.length)]
                                                false (c_1 * (4 : Nat)) (29 : Nat))
                                              (SB.rows true y.l.length (sessCols y.l) false (y.c * (4 : Nat)) sessT) ∧
                                            SBle
                                                (SB.cells
                                                  [SV.int IntKind.i64 false x.T.most, SV.int IntKind.i64 false x.T.term, SV.int IntKind.i64 false (x.f (1 : Nat)).id,
                                                    SV.int IntKind.i64 false (x.f (1 : Nat)).block, SV.int IntKind.i64 false (x.f (1 : Nat)).dl, SV.int IntKind.i64 false (x.f (1 : Nat)).last,
                                                    SV.int IntKind.i64 false (x.f (1 : Nat)).s0, SV.str false (x.f (1 : Nat)).r0, SV.int IntKind.i64 false (x.f (1 : Nat)).s1,
                                                    SV.str false (x.f (1 : Nat)).r1, SV.int IntKind.i64 false (x.f (1 : Nat)).stored, SV.int IntKind.i64 false (x.f (2 : Nat)).id,
                                                    SV.int IntKind.i64 false (x.f (2 : Nat)).block, SV.int IntKind.i64 false (x.f (2 : Nat)).dl, SV.int IntKind.i64 false (x.f (2 : Nat)).last,
                                                    SV.int IntKind.i64 false (x.f (2 : Nat)).s0, SV.str false (x.f (2 : Nat)).r0, SV.int IntKind.i64 false (x.f (2 : Nat)).s1,
                                                    SV.str false (x.f (2 : Nat)).r1, SV.int IntKind.i64 false (x.f (2 : Nat)).stored, SV.int IntKind.i64 true (0 : Int),
                                                    SV.int IntKind.i64 true (0 : Int), SV.int IntKind.i64 true (0 : Int), SV.int IntKind.i64 true (0 : Int), SV.int IntKind.i64 true (0 : Int),
                                                    SV.str true [], SV.int IntKind.i64 true (0 : Int), SV.str true [], SV.int IntKind.i64 true (0 : Int), SV.int IntKind.i64 false (0 : Int),
                                                    SV.int IntKind.i64 false (0 : Int), SV.int IntKind.i64 false (0 : Int), SV.int IntKind.i64 false (0 : Int), SV.int IntKind.i64 false (0 : Int),
                                                    SV.str false [], SV.int IntKind.i64 false (0 : Int), SV.str false [], SV.int IntKind.i64 false (0 : Int),
                                                    SV.int IntKind.i64 true (IntKind.i64.wrap ((↑(3 : Nat) : Int) - (1 : Int))), SV.int IntKind.i64 false x.T.opened,
                                                    SV.int IntKind.i64 false (if (x.T.ends % (8 : Int)).toNat = (0 : Nat) then (x.f (0 : Nat)).id else x.T.e0),
                                                    SV.int IntKind.i64 false (if (x.T.ends % (8 : Int)).toNat = (1 : Nat) then (x.f (0 : Nat)).id else x.T.e1),
                                                    SV.int IntKind.i64 false (if (x.T.ends % (8 : Int)).toNat = (2 : Nat) then (x.f (0 : Nat)).id else x.T.e2),
                                                    SV.int IntKind.i64 false (if (x.T.ends % (8 : Int)).toNat = (3 : Nat) then (x.f (0 : Nat)).id else x.T.e3),
                                                    SV.int IntKind.i64 false (if (x.T.ends % (8 : Int)).toNat = (4 : Nat) then (x.f (0 : Nat)).id else x.T.e4),
                                                    SV.int IntKind.i64 false (if (x.T.ends % (8 : Int)).toNat = (5 : Nat) then (x.f (0 : Nat)).id else x.T.e5),
                                                    SV.int IntKind.i64 false (if (x.T.ends % (8 : Int)).toNat = (6 : Nat) then (x.f (0 : Nat)).id else x.T.e6),
                                                    SV.int IntKind.i64 false (if (x.T.ends % (8 : Int)).toNat = (7 : Nat) then (x.f (0 : Nat)).id else x.T.e7),
                                                    SV.int IntKind.i64 false (x.T.ends + (1 : Int))]
                                                  (49 : Nat) tableT)
                                                (Tb.sb true
                                                  { most := y.T.most, term := y.T.term, ss := slN (nat_lit 2) y.f, opened := y.T.opened, e0 := y.T.e0, e1 := y.T.e1, e2 := y.T.e2, e3 := y.T.e3,
                                                    e4 := y.T.e4, e5 := y.T.e5, e6 := y.T.e6, e7 := y.T.e7, ends := y.T.ends : Tb }) ∧
                                              True) ∧
                (decide ((x.f (0 : Nat)).dl ≤ clock) = false →
                  (decide ((x.f (1 : Nat)).dl ≤ clock) = true →
                      ((0 : Nat) + x.l.length ≤ x.l.length ∧
                          True ∧ (2 : Nat) * (x.l.length + (1 : Nat)) * (32 : Nat) ≤ (281474976710656 : Nat) ∧ x.l.length + (1 : Nat) < (9223372036854775808 : Nat)) ∧
                        x.c * (4 : Nat) = x.c * (4 : Nat) ∧
                          ∀ (c_1 : Nat),
                            x.l.length + (1 : Nat) ≤ c_1 →
                              ((0 : Int) ≤ x.T.ends ∧ x.T.ends ≤ (9223372036854775807 : Int) ∧ (0 : Int) < (8 : Int)) ∧
                                ((0 : Int) ≤ x.T.ends % (8 : Int) ∧ x.T.ends % (8 : Int) < (8 : Int)) ∧
                                  (x.T.ends % (8 : Int)).toNat < (8 : Nat) ∧
                                    ((-9223372036854775808 : Int) ≤ x.T.ends + (1 : Int) ∧ x.T.ends + (1 : Int) ≤ (9223372036854775807 : Int)) ∧
                                      ∃ (y : ExpG),
                                        (ExpPre
                                              { most := T.most, term := T.term, ss := [a, b, c, d], opened := T.opened, e0 := T.e0, e1 := T.e1, e2 := T.e2, e3 := T.e3, e4 := T.e4, e5 := T.e5,
                                                e6 := T.e6, e7 := T.e7, ends := T.ends : Tb }
                                              clock (nat_lit 2) y.f y.T y.l y.c ∧
                                            nat_lit 2 < nat_lit 3) ∧
                                          ((0 : Nat) = (0 : Nat) ∧ x.l.length + (1 : Nat) = y.l.length ∧ c_1 = y.c) ∧
                                            True ∧
                                              SBle
                                                  (SB.rows true (x.l.length + (1 : Nat))
                                                    [Col.int IntKind.i64 fun (j : Nat) => if j < x.l.length then (x.l.getD j Sl.zero).id else sel [(x.f (1 : Nat)).id] (j - x.l.length),
                                                      Col.int IntKind.i64 fun (j : Nat) => if j < x.l.length then (x.l.getD j Sl.zero).block else sel [(x.f (1 : Nat)).block] (j - x.l.length),
                                                      Col.int IntKind.i64 fun (j : Nat) => if j < x.l.length then (x.l.getD j Sl.zero).dl else sel [(x.f (1 : Nat)).dl] (j - x.l.length),
                                                      Col.int IntKind.i64 fun (j : Nat) => if j < x.l.length then (x.l.getD j Sl.zero).last else sel [(x.f (1 : Nat)).last] (j - x.l.length)]
                                                    false (c_1 * (4 : Nat)) (29 : Nat))
                                                  (SB.rows true y.l.length (sessCols y.l) false (y.c * (4 : Nat)) sessT) ∧
                                                SBle
                                                    (SB.cells
                                                      [SV.int IntKind.i64 false x.T.most, SV.int IntKind.i64 false x.T.term, SV.int IntKind.i64 false (x.f (0 : Nat)).id,
                                                        SV.int IntKind.i64 false (x.f (0 : Nat)).block, SV.int IntKind.i64 false (x.f (0 : Nat)).dl, SV.int IntKind.i64 false (x.f (0 : Nat)).last,
                                                        SV.int IntKind.i64 false (x.f (0 : Nat)).s0, SV.str false (x.f (0 : Nat)).r0, SV.int IntKind.i64 false (x.f (0 : Nat)).s1,
                                                        SV.str false (x.f (0 : Nat)).r1, SV.int IntKind.i64 false (x.f (0 : Nat)).stored, SV.int IntKind.i64 false (x.f (2 : Nat)).id,
                                                        SV.int IntKind.i64 false (x.f (2 : Nat)).block, SV.int IntKind.i64 false (x.f (2 : Nat)).dl, SV.int IntKind.i64 false (x.f (2 : Nat)).last,
                                                        SV.int IntKind.i64 false (x.f (2 : Nat)).s0, SV.str false (x.f (2 : Nat)).r0, SV.int IntKind.i64 false (x.f (2 : Nat)).s1,
                                                        SV.str false (x.f (2 : Nat)).r1, SV.int IntKind.i64 false (x.f (2 : Nat)).stored, SV.int IntKind.i64 true (0 : Int),
                                                        SV.int IntKind.i64 true (0 : Int), SV.int IntKind.i64 true (0 : Int), SV.int IntKind.i64 true (0 : Int), SV.int IntKind.i64 true (0 : Int),
                                                        SV.str true [], SV.int IntKind.i64 true (0 : Int), SV.str true [], SV.int IntKind.i64 true (0 : Int), SV.int IntKind.i64 false (0 : Int),
                                                        SV.int IntKind.i64 false (0 : Int), SV.int IntKind.i64 false (0 : Int), SV.int IntKind.i64 false (0 : Int), SV.int IntKind.i64 false (0 : Int),
                                                        SV.str false [], SV.int IntKind.i64 false (0 : Int), SV.str false [], SV.int IntKind.i64 false (0 : Int),
                                                        SV.int IntKind.i64 true (IntKind.i64.wrap ((↑(3 : Nat) : Int) - (1 : Int))), SV.int IntKind.i64 false x.T.opened,
                                                        SV.int IntKind.i64 false (if (x.T.ends % (8 : Int)).toNat = (0 : Nat) then (x.f (1 : Nat)).id else x.T.e0),
                                                        SV.int IntKind.i64 false (if (x.T.ends % (8 : Int)).toNat = (1 : Nat) then (x.f (1 : Nat)).id else x.T.e1),
                                                        SV.int IntKind.i64 false (if (x.T.ends % (8 : Int)).toNat = (2 : Nat) then (x.f (1 : Nat)).id else x.T.e2),
                                                        SV.int IntKind.i64 false (if (x.T.ends % (8 : Int)).toNat = (3 : Nat) then (x.f (1 : Nat)).id else x.T.e3),
                                                        SV.int IntKind.i64 false (if (x.T.ends % (8 : Int)).toNat = (4 : Nat) then (x.f (1 : Nat)).id else x.T.e4),
                                                        SV.int IntKind.i64 false (if (x.T.ends % (8 : Int)).toNat = (5 : Nat) then (x.f (1 : Nat)).id else x.T.e5),
                                                        SV.int IntKind.i64 false (if (x.T.ends % (8 : Int)).toNat = (6 : Nat) then (x.f (1 : Nat)).id else x.T.e6),
                                                        SV.int IntKind.i64 false (if (x.T.ends % (8 : Int)).toNat = (7 : Nat) then (x.f (1 : Nat)).id else x.T.e7),
                                                        SV.int IntKind.i64 false (x.T.ends + (1 : Int))]
                                                      (49 : Nat) tableT)
                                                    (Tb.sb true
                                                      { most := y.T.most, term := y.T.term, ss := slN (nat_lit 2) y.f, opened := y.T.opened, e0 := y.T.e0, e1 := y.T.e1, e2 := y.T.e2, e3 := y.T.e3,
                                                        e4 := y.T.e4, e5 := y.T.e5, e6 := y.T.e6, e7 := y.T.e7, ends := y.T.ends : Tb }) ∧
                                                  True) ∧
                    (decide ((x.f (1 : Nat)).dl ≤ clock) = false →
                      (decide ((x.f (2 : Nat)).dl ≤ clock) = true →
                          ((0 : Nat) + x.l.length ≤ x.l.length ∧
                              True ∧ (2 : Nat) * (x.l.length + (1 : Nat)) * (32 : Nat) ≤ (281474976710656 : Nat) ∧ x.l.length + (1 : Nat) < (9223372036854775808 : Nat)) ∧
                            x.c * (4 : Nat) = x.c * (4 : Nat) ∧
                              ∀ (c_1 : Nat),
                                x.l.length + (1 : Nat) ≤ c_1 →
                                  ((0 : Int) ≤ x.T.ends ∧ x.T.ends ≤ (9223372036854775807 : Int) ∧ (0 : Int) < (8 : Int)) ∧
                                    ((0 : Int) ≤ x.T.ends % (8 : Int) ∧ x.T.ends % (8 : Int) < (8 : Int)) ∧
                                      (x.T.ends % (8 : Int)).toNat < (8 : Nat) ∧
                                        ((-9223372036854775808 : Int) ≤ x.T.ends + (1 : Int) ∧ x.T.ends + (1 : Int) ≤ (9223372036854775807 : Int)) ∧
                                          ∃ (y : ExpG),
                                            (ExpPre
                                                  { most := T.most, term := T.term, ss := [a, b, c, d], opened := T.opened, e0 := T.e0, e1 := T.e1, e2 := T.e2, e3 := T.e3, e4 := T.e4, e5 := T.e5,
                                                    e6 := T.e6, e7 := T.e7, ends := T.ends : Tb }
                                                  clock (nat_lit 2) y.f y.T y.l y.c ∧
                                                nat_lit 2 < nat_lit 3) ∧
                                              ((0 : Nat) = (0 : Nat) ∧ x.l.length + (1 : Nat) = y.l.length ∧ c_1 = y.c) ∧
                                                True ∧
                                                  SBle
                                                      (SB.rows true (x.l.length + (1 : Nat))
                                                        [Col.int IntKind.i64 fun (j : Nat) => if j < x.l.length then (x.l.getD j Sl.zero).id else sel [(x.f (2 : Nat)).id] (j - x.l.length),
                                                          Col.int IntKind.i64 fun (j : Nat) => if j < x.l.length then (x.l.getD j Sl.zero).block else sel [(x.f (2 : Nat)).block] (j - x.l.length),
                                                          Col.int IntKind.i64 fun (j : Nat) => if j < x.l.length then (x.l.getD j Sl.zero).dl else sel [(x.f (2 : Nat)).dl] (j - x.l.length),
                                                          Col.int IntKind.i64 fun (j : Nat) => if j < x.l.length then (x.l.getD j Sl.zero).last else sel [(x.f (2 : Nat)).last] (j - x.l.length)]
                                                        false (c_1 * (4 : Nat)) (29 : Nat))
                                                      (SB.rows true y.l.length (sessCols y.l) false (y.c * (4 : Nat)) sessT) ∧
                                                    SBle
                                                        (SB.cells
                                                          [SV.int IntKind.i64 false x.T.most, SV.int IntKind.i64 false x.T.term, SV.int IntKind.i64 false (x.f (0 : Nat)).id,
                                                            SV.int IntKind.i64 false (x.f (0 : Nat)).block, SV.int IntKind.i64 false (x.f (0 : Nat)).dl, SV.int IntKind.i64 false (x.f (0 : Nat)).last,
                                                            SV.int IntKind.i64 false (x.f (0 : Nat)).s0, SV.str false (x.f (0 : Nat)).r0, SV.int IntKind.i64 false (x.f (0 : Nat)).s1,
                                                            SV.str false (x.f (0 : Nat)).r1, SV.int IntKind.i64 false (x.f (0 : Nat)).stored, SV.int IntKind.i64 false (x.f (1 : Nat)).id,
                                                            SV.int IntKind.i64 false (x.f (1 : Nat)).block, SV.int IntKind.i64 false (x.f (1 : Nat)).dl, SV.int IntKind.i64 false (x.f (1 : Nat)).last,
                                                            SV.int IntKind.i64 false (x.f (1 : Nat)).s0, SV.str false (x.f (1 : Nat)).r0, SV.int IntKind.i64 false (x.f (1 : Nat)).s1,
                                                            SV.str false (x.f (1 : Nat)).r1, SV.int IntKind.i64 false (x.f (1 : Nat)).stored, SV.int IntKind.i64 true (0 : Int),
                                                            SV.int IntKind.i64 true (0 : Int), SV.int IntKind.i64 true (0 : Int), SV.int IntKind.i64 true (0 : Int), SV.int IntKind.i64 true (0 : Int),
                                                            SV.str true [], SV.int IntKind.i64 true (0 : Int), SV.str true [], SV.int IntKind.i64 true (0 : Int), SV.int IntKind.i64 false (0 : Int),
                                                            SV.int IntKind.i64 false (0 : Int), SV.int IntKind.i64 false (0 : Int), SV.int IntKind.i64 false (0 : Int),
                                                            SV.int IntKind.i64 false (0 : Int), SV.str false [], SV.int IntKind.i64 false (0 : Int), SV.str false [],
                                                            SV.int IntKind.i64 false (0 : Int), SV.int IntKind.i64 true (IntKind.i64.wrap ((↑(3 : Nat) : Int) - (1 : Int))),
                                                            SV.int IntKind.i64 false x.T.opened,
                                                            SV.int IntKind.i64 false (if (x.T.ends % (8 : Int)).toNat = (0 : Nat) then (x.f (2 : Nat)).id else x.T.e0),
                                                            SV.int IntKind.i64 false (if (x.T.ends % (8 : Int)).toNat = (1 : Nat) then (x.f (2 : Nat)).id else x.T.e1),
                                                            SV.int IntKind.i64 false (if (x.T.ends % (8 : Int)).toNat = (2 : Nat) then (x.f (2 : Nat)).id else x.T.e2),
                                                            SV.int IntKind.i64 false (if (x.T.ends % (8 : Int)).toNat = (3 : Nat) then (x.f (2 : Nat)).id else x.T.e3),
                                                            SV.int IntKind.i64 false (if (x.T.ends % (8 : Int)).toNat = (4 : Nat) then (x.f (2 : Nat)).id else x.T.e4),
                                                            SV.int IntKind.i64 false (if (x.T.ends % (8 : Int)).toNat = (5 : Nat) then (x.f (2 : Nat)).id else x.T.e5),
                                                            SV.int IntKind.i64 false (if (x.T.ends % (8 : Int)).toNat = (6 : Nat) then (x.f (2 : Nat)).id else x.T.e6),
                                                            SV.int IntKind.i64 false (if (x.T.ends % (8 : Int)).toNat = (7 : Nat) then (x.f (2 : Nat)).id else x.T.e7),
                                                            SV.int IntKind.i64 false (x.T.ends + (1 : Int))]
                                                          (49 : Nat) tableT)
                                                        (Tb.sb true
                                                          { most := y.T.most, term := y.T.term, ss := slN (nat_lit 2) y.f, opened := y.T.opened, e0 := y.T.e0, e1 := y.T.e1, e2 := y.T.e2, e3 := y.T.e3,
                                                            e4 := y.T.e4, e5 := y.T.e5, e6 := y.T.e6, e7 := y.T.e7, ends := y.T.ends : Tb }) ∧
                                                      True) ∧
                        (decide ((x.f (2 : Nat)).dl ≤ clock) = false →
                          post x.l.length x.c
                            (SB.rows true x.l.length
                              [Col.int IntKind.i64 fun (i : Nat) => (x.l.getD i Sl.zero).id, Col.int IntKind.i64 fun (i : Nat) => (x.l.getD i Sl.zero).block,
                                Col.int IntKind.i64 fun (i : Nat) => (x.l.getD i Sl.zero).dl, Col.int IntKind.i64 fun (i : Nat) => (x.l.getD i Sl.zero).last]
                              false (x.c * (4 : Nat)) sessT)
                            ({ most := x.T.most, term := x.T.term, ss := [x.f (0 : Nat), x.f (1 : Nat), x.f (2 : Nat), Sl.zero], opened := x.T.opened, e0 := x.T.e0, e1 := x.T.e1, e2 := x.T.e2,
                                e3 := x.T.e3, e4 := x.T.e4, e5 := x.T.e5, e6 := x.T.e6, e7 := x.T.e7, ends := x.T.ends : Tb },
                              (↑(3 : Nat) : Int)))))) ∧
          ∀ (x : ExpG),
            ExpPre
                { most := T.most, term := T.term, ss := [a, b, c, d], opened := T.opened, e0 := T.e0, e1 := T.e1, e2 := T.e2, e3 := T.e3, e4 := T.e4, e5 := T.e5, e6 := T.e6, e7 := T.e7,
                  ends := T.ends : Tb }
                clock (nat_lit 4) x.f x.T x.l x.c →
              (decide ((x.f (0 : Nat)).dl ≤ clock) = true →
                  ((0 : Nat) + x.l.length ≤ x.l.length ∧ True ∧ (2 : Nat) * (x.l.length + (1 : Nat)) * (32 : Nat) ≤ (281474976710656 : Nat) ∧ x.l.length + (1 : Nat) < (9223372036854775808 : Nat)) ∧
                    x.c * (4 : Nat) = x.c * (4 : Nat) ∧
                      ∀ (c_1 : Nat),
                        x.l.length + (1 : Nat) ≤ c_1 →
                          ((0 : Int) ≤ x.T.ends ∧ x.T.ends ≤ (9223372036854775807 : Int) ∧ (0 : Int) < (8 : Int)) ∧
                            ((0 : Int) ≤ x.T.ends % (8 : Int) ∧ x.T.ends % (8 : Int) < (8 : Int)) ∧
                              (x.T.ends % (8 : Int)).toNat < (8 : Nat) ∧
                                ((-9223372036854775808 : Int) ≤ x.T.ends + (1 : Int) ∧ x.T.ends + (1 : Int) ≤ (9223372036854775807 : Int)) ∧
                                  ∃ (y : ExpG),
                                    (ExpPre
                                          { most := T.most, term := T.term, ss := [a, b, c, d], opened := T.opened, e0 := T.e0, e1 := T.e1, e2 := T.e2, e3 := T.e3, e4 := T.e4, e5 := T.e5, e6 := T.e6,
                                            e7 := T.e7, ends := T.ends : Tb }
                                          clock (nat_lit 3) y.f y.T y.l y.c ∧
                                        nat_lit 3 < nat_lit 4) ∧
                                      ((0 : Nat) = (0 : Nat) ∧ x.l.length + (1 : Nat) = y.l.length ∧ c_1 = y.c) ∧
                                        True ∧
                                          SBle
                                              (SB.rows true (x.l.length + (1 : Nat))
                                                [Col.int IntKind.i64 fun (j : Nat) => if j < x.l.length then (x.l.getD j Sl.zero).id else sel [(x.f (0 : Nat)).id] (j - x.l.length),
                                                  Col.int IntKind.i64 fun (j : Nat) => if j < x.l.length then (x.l.getD j Sl.zero).block else sel [(x.f (0 : Nat)).block] (j - x.l.length),
                                                  Col.int IntKind.i64 fun (j : Nat) => if j < x.l.length then (x.l.getD j Sl.zero).dl else sel [(x.f (0 : Nat)).dl] (j - x.l.length),
                                                  Col.int IntKind.i64 fun (j : Nat) => if j < x.l.length then (x.l.getD j Sl.zero).last else sel [(x.f (0 : Nat)).last] (j - x.l.length)]
                                                false (c_1 * (4 : Nat)) (29 : Nat))
                                              (SB.rows true y.l.length (sessCols y.l) false (y.c * (4 : Nat)) sessT) ∧
                                            SBle
                                                (SB.cells
                                                  [SV.int IntKind.i64 false x.T.most, SV.int IntKind.i64 false x.T.term, SV.int IntKind.i64 false (x.f (1 : Nat)).id,
                                                    SV.int IntKind.i64 false (x.f (1 : Nat)).block, SV.int IntKind.i64 false (x.f (1 : Nat)).dl, SV.int IntKind.i64 false (x.f (1 : Nat)).last,
                                                    SV.int IntKind.i64 false (x.f (1 : Nat)).s0, SV.str false (x.f (1 : Nat)).r0, SV.int IntKind.i64 false (x.f (1 : Nat)).s1,
                                                    SV.str false (x.f (1 : Nat)).r1, SV.int IntKind.i64 false (x.f (1 : Nat)).stored, SV.int IntKind.i64 false (x.f (2 : Nat)).id,
                                                    SV.int IntKind.i64 false (x.f (2 : Nat)).block, SV.int IntKind.i64 false (x.f (2 : Nat)).dl, SV.int IntKind.i64 false (x.f (2 : Nat)).last,
                                                    SV.int IntKind.i64 false (x.f (2 : Nat)).s0, SV.str false (x.f (2 : Nat)).r0, SV.int IntKind.i64 false (x.f (2 : Nat)).s1,
                                                    SV.str false (x.f (2 : Nat)).r1, SV.int IntKind.i64 false (x.f (2 : Nat)).stored, SV.int IntKind.i64 false (x.f (3 : Nat)).id,
                                                    SV.int IntKind.i64 false (x.f (3 : Nat)).block, SV.int IntKind.i64 false (x.f (3 : Nat)).dl, SV.int IntKind.i64 false (x.f (3 : Nat)).last,
                                                    SV.int IntKind.i64 false (x.f (3 : Nat)).s0, SV.str false (x.f (3 : Nat)).r0, SV.int IntKind.i64 false (x.f (3 : Nat)).s1,
                                                    SV.str false (x.f (3 : Nat)).r1, SV.int IntKind.i64 false (x.f (3 : Nat)).stored, SV.int IntKind.i64 true (0 : Int),
                                                    SV.int IntKind.i64 true (0 : Int), SV.int IntKind.i64 true (0 : Int), SV.int IntKind.i64 true (0 : Int), SV.int IntKind.i64 true (0 : Int),
                                                    SV.str true [], SV.int IntKind.i64 true (0 : Int), SV.str true [], SV.int IntKind.i64 true (0 : Int),
                                                    SV.int IntKind.i64 true (IntKind.i64.wrap ((↑(4 : Nat) : Int) - (1 : Int))), SV.int IntKind.i64 false x.T.opened,
                                                    SV.int IntKind.i64 false (if (x.T.ends % (8 : Int)).toNat = (0 : Nat) then (x.f (0 : Nat)).id else x.T.e0),
                                                    SV.int IntKind.i64 false (if (x.T.ends % (8 : Int)).toNat = (1 : Nat) then (x.f (0 : Nat)).id else x.T.e1),
                                                    SV.int IntKind.i64 false (if (x.T.ends % (8 : Int)).toNat = (2 : Nat) then (x.f (0 : Nat)).id else x.T.e2),
                                                    SV.int IntKind.i64 false (if (x.T.ends % (8 : Int)).toNat = (3 : Nat) then (x.f (0 : Nat)).id else x.T.e3),
                                                    SV.int IntKind.i64 false (if (x.T.ends % (8 : Int)).toNat = (4 : Nat) then (x.f (0 : Nat)).id else x.T.e4),
                                                    SV.int IntKind.i64 false (if (x.T.ends % (8 : Int)).toNat = (5 : Nat) then (x.f (0 : Nat)).id else x.T.e5),
                                                    SV.int IntKind.i64 false (if (x.T.ends % (8 : Int)).toNat = (6 : Nat) then (x.f (0 : Nat)).id else x.T.e6),
                                                    SV.int IntKind.i64 false (if (x.T.ends % (8 : Int)).toNat = (7 : Nat) then (x.f (0 : Nat)).id else x.T.e7),
                                                    SV.int IntKind.i64 false (x.T.ends + (1 : Int))]
                                                  (49 : Nat) tableT)
                                                (Tb.sb true
                                                  { most := y.T.most, term := y.T.term, ss := slN (nat_lit 3) y.f, opened := y.T.opened, e0 := y.T.e0, e1 := y.T.e1, e2 := y.T.e2, e3 := y.T.e3,
                                                    e4 := y.T.e4, e5 := y.T.e5, e6 := y.T.e6, e7 := y.T.e7, ends := y.T.ends : Tb }) ∧
                                              True) ∧
                (decide ((x.f (0 : Nat)).dl ≤ clock) = false →
                  (decide ((x.f (1 : Nat)).dl ≤ clock) = true →
                      ((0 : Nat) + x.l.length ≤ x.l.length ∧
                          True ∧ (2 : Nat) * (x.l.length + (1 : Nat)) * (32 : Nat) ≤ (281474976710656 : Nat) ∧ x.l.length + (1 : Nat) < (9223372036854775808 : Nat)) ∧
                        x.c * (4 : Nat) = x.c * (4 : Nat) ∧
                          ∀ (c_1 : Nat),
                            x.l.length + (1 : Nat) ≤ c_1 →
                              ((0 : Int) ≤ x.T.ends ∧ x.T.ends ≤ (9223372036854775807 : Int) ∧ (0 : Int) < (8 : Int)) ∧
                                ((0 : Int) ≤ x.T.ends % (8 : Int) ∧ x.T.ends % (8 : Int) < (8 : Int)) ∧
                                  (x.T.ends % (8 : Int)).toNat < (8 : Nat) ∧
                                    ((-9223372036854775808 : Int) ≤ x.T.ends + (1 : Int) ∧ x.T.ends + (1 : Int) ≤ (9223372036854775807 : Int)) ∧
                                      ∃ (y : ExpG),
                                        (ExpPre
                                              { most := T.most, term := T.term, ss := [a, b, c, d], opened := T.opened, e0 := T.e0, e1 := T.e1, e2 := T.e2, e3 := T.e3, e4 := T.e4, e5 := T.e5,
                                                e6 := T.e6, e7 := T.e7, ends := T.ends : Tb }
                                              clock (nat_lit 3) y.f y.T y.l y.c ∧
                                            nat_lit 3 < nat_lit 4) ∧
                                          ((0 : Nat) = (0 : Nat) ∧ x.l.length + (1 : Nat) = y.l.length ∧ c_1 = y.c) ∧
                                            True ∧
                                              SBle
                                                  (SB.rows true (x.l.length + (1 : Nat))
                                                    [Col.int IntKind.i64 fun (j : Nat) => if j < x.l.length then (x.l.getD j Sl.zero).id else sel [(x.f (1 : Nat)).id] (j - x.l.length),
                                                      Col.int IntKind.i64 fun (j : Nat) => if j < x.l.length then (x.l.getD j Sl.zero).block else sel [(x.f (1 : Nat)).block] (j - x.l.length),
                                                      Col.int IntKind.i64 fun (j : Nat) => if j < x.l.length then (x.l.getD j Sl.zero).dl else sel [(x.f (1 : Nat)).dl] (j - x.l.length),
                                                      Col.int IntKind.i64 fun (j : Nat) => if j < x.l.length then (x.l.getD j Sl.zero).last else sel [(x.f (1 : Nat)).last] (j - x.l.length)]
                                                    false (c_1 * (4 : Nat)) (29 : Nat))
                                                  (SB.rows true y.l.length (sessCols y.l) false (y.c * (4 : Nat)) sessT) ∧
                                                SBle
                                                    (SB.cells
                                                      [SV.int IntKind.i64 false x.T.most, SV.int IntKind.i64 false x.T.term, SV.int IntKind.i64 false (x.f (0 : Nat)).id,
                                                        SV.int IntKind.i64 false (x.f (0 : Nat)).block, SV.int IntKind.i64 false (x.f (0 : Nat)).dl, SV.int IntKind.i64 false (x.f (0 : Nat)).last,
                                                        SV.int IntKind.i64 false (x.f (0 : Nat)).s0, SV.str false (x.f (0 : Nat)).r0, SV.int IntKind.i64 false (x.f (0 : Nat)).s1,
                                                        SV.str false (x.f (0 : Nat)).r1, SV.int IntKind.i64 false (x.f (0 : Nat)).stored, SV.int IntKind.i64 false (x.f (2 : Nat)).id,
                                                        SV.int IntKind.i64 false (x.f (2 : Nat)).block, SV.int IntKind.i64 false (x.f (2 : Nat)).dl, SV.int IntKind.i64 false (x.f (2 : Nat)).last,
                                                        SV.int IntKind.i64 false (x.f (2 : Nat)).s0, SV.str false (x.f (2 : Nat)).r0, SV.int IntKind.i64 false (x.f (2 : Nat)).s1,
                                                        SV.str false (x.f (2 : Nat)).r1, SV.int IntKind.i64 false (x.f (2 : Nat)).stored, SV.int IntKind.i64 false (x.f (3 : Nat)).id,
                                                        SV.int IntKind.i64 false (x.f (3 : Nat)).block, SV.int IntKind.i64 false (x.f (3 : Nat)).dl, SV.int IntKind.i64 false (x.f (3 : Nat)).last,
                                                        SV.int IntKind.i64 false (x.f (3 : Nat)).s0, SV.str false (x.f (3 : Nat)).r0, SV.int IntKind.i64 false (x.f (3 : Nat)).s1,
                                                        SV.str false (x.f (3 : Nat)).r1, SV.int IntKind.i64 false (x.f (3 : Nat)).stored, SV.int IntKind.i64 true (0 : Int),
                                                        SV.int IntKind.i64 true (0 : Int), SV.int IntKind.i64 true (0 : Int), SV.int IntKind.i64 true (0 : Int), SV.int IntKind.i64 true (0 : Int),
                                                        SV.str true [], SV.int IntKind.i64 true (0 : Int), SV.str true [], SV.int IntKind.i64 true (0 : Int),
                                                        SV.int IntKind.i64 true (IntKind.i64.wrap ((↑(4 : Nat) : Int) - (1 : Int))), SV.int IntKind.i64 false x.T.opened,
                                                        SV.int IntKind.i64 false (if (x.T.ends % (8 : Int)).toNat = (0 : Nat) then (x.f (1 : Nat)).id else x.T.e0),
                                                        SV.int IntKind.i64 false (if (x.T.ends % (8 : Int)).toNat = (1 : Nat) then (x.f (1 : Nat)).id else x.T.e1),
                                                        SV.int IntKind.i64 false (if (x.T.ends % (8 : Int)).toNat = (2 : Nat) then (x.f (1 : Nat)).id else x.T.e2),
                                                        SV.int IntKind.i64 false (if (x.T.ends % (8 : Int)).toNat = (3 : Nat) then (x.f (1 : Nat)).id else x.T.e3),
                                                        SV.int IntKind.i64 false (if (x.T.ends % (8 : Int)).toNat = (4 : Nat) then (x.f (1 : Nat)).id else x.T.e4),
                                                        SV.int IntKind.i64 false (if (x.T.ends % (8 : Int)).toNat = (5 : Nat) then (x.f (1 : Nat)).id else x.T.e5),
                                                        SV.int IntKind.i64 false (if (x.T.ends % (8 : Int)).toNat = (6 : Nat) then (x.f (1 : Nat)).id else x.T.e6),
                                                        SV.int IntKind.i64 false (if (x.T.ends % (8 : Int)).toNat = (7 : Nat) then (x.f (1 : Nat)).id else x.T.e7),
                                                        SV.int IntKind.i64 false (x.T.ends + (1 : Int))]
                                                      (49 : Nat) tableT)
                                                    (Tb.sb true
                                                      { most := y.T.most, term := y.T.term, ss := slN (nat_lit 3) y.f, opened := y.T.opened, e0 := y.T.e0, e1 := y.T.e1, e2 := y.T.e2, e3 := y.T.e3,
                                                        e4 := y.T.e4, e5 := y.T.e5, e6 := y.T.e6, e7 := y.T.e7, ends := y.T.ends : Tb }) ∧
                                                  True) ∧
                    (decide ((x.f (1 : Nat)).dl ≤ clock) = false →
                      (decide ((x.f (2 : Nat)).dl ≤ clock) = true →
                          ((0 : Nat) + x.l.length ≤ x.l.length ∧
                              True ∧ (2 : Nat) * (x.l.length + (1 : Nat)) * (32 : Nat) ≤ (281474976710656 : Nat) ∧ x.l.length + (1 : Nat) < (9223372036854775808 : Nat)) ∧
                            x.c * (4 : Nat) = x.c * (4 : Nat) ∧
                              ∀ (c_1 : Nat),
                                x.l.length + (1 : Nat) ≤ c_1 →
                                  ((0 : Int) ≤ x.T.ends ∧ x.T.ends ≤ (9223372036854775807 : Int) ∧ (0 : Int) < (8 : Int)) ∧
                                    ((0 : Int) ≤ x.T.ends % (8 : Int) ∧ x.T.ends % (8 : Int) < (8 : Int)) ∧
                                      (x.T.ends % (8 : Int)).toNat < (8 : Nat) ∧
                                        ((-9223372036854775808 : Int) ≤ x.T.ends + (1 : Int) ∧ x.T.ends + (1 : Int) ≤ (9223372036854775807 : Int)) ∧
                                          ∃ (y : ExpG),
                                            (ExpPre
                                                  { most := T.most, term := T.term, ss := [a, b, c, d], opened := T.opened, e0 := T.e0, e1 := T.e1, e2 := T.e2, e3 := T.e3, e4 := T.e4, e5 := T.e5,
                                                    e6 := T.e6, e7 := T.e7, ends := T.ends : Tb }
                                                  clock (nat_lit 3) y.f y.T y.l y.c ∧
                                                nat_lit 3 < nat_lit 4) ∧
                                              ((0 : Nat) = (0 : Nat) ∧ x.l.length + (1 : Nat) = y.l.length ∧ c_1 = y.c) ∧
                                                True ∧
                                                  SBle
                                                      (SB.rows true (x.l.length + (1 : Nat))
                                                        [Col.int IntKind.i64 fun (j : Nat) => if j < x.l.length then (x.l.getD j Sl.zero).id else sel [(x.f (2 : Nat)).id] (j - x.l.length),
                                                          Col.int IntKind.i64 fun (j : Nat) => if j < x.l.length then (x.l.getD j Sl.zero).block else sel [(x.f (2 : Nat)).block] (j - x.l.length),
                                                          Col.int IntKind.i64 fun (j : Nat) => if j < x.l.length then (x.l.getD j Sl.zero).dl else sel [(x.f (2 : Nat)).dl] (j - x.l.length),
                                                          Col.int IntKind.i64 fun (j : Nat) => if j < x.l.length then (x.l.getD j Sl.zero).last else sel [(x.f (2 : Nat)).last] (j - x.l.length)]
                                                        false (c_1 * (4 : Nat)) (29 : Nat))
                                                      (SB.rows true y.l.length (sessCols y.l) false (y.c * (4 : Nat)) sessT) ∧
                                                    SBle
                                                        (SB.cells
                                                          [SV.int IntKind.i64 false x.T.most, SV.int IntKind.i64 false x.T.term, SV.int IntKind.i64 false (x.f (0 : Nat)).id,
                                                            SV.int IntKind.i64 false (x.f (0 : Nat)).block, SV.int IntKind.i64 false (x.f (0 : Nat)).dl, SV.int IntKind.i64 false (x.f (0 : Nat)).last,
                                                            SV.int IntKind.i64 false (x.f (0 : Nat)).s0, SV.str false (x.f (0 : Nat)).r0, SV.int IntKind.i64 false (x.f (0 : Nat)).s1,
                                                            SV.str false (x.f (0 : Nat)).r1, SV.int IntKind.i64 false (x.f (0 : Nat)).stored, SV.int IntKind.i64 false (x.f (1 : Nat)).id,
                                                            SV.int IntKind.i64 false (x.f (1 : Nat)).block, SV.int IntKind.i64 false (x.f (1 : Nat)).dl, SV.int IntKind.i64 false (x.f (1 : Nat)).last,
                                                            SV.int IntKind.i64 false (x.f (1 : Nat)).s0, SV.str false (x.f (1 : Nat)).r0, SV.int IntKind.i64 false (x.f (1 : Nat)).s1,
                                                            SV.str false (x.f (1 : Nat)).r1, SV.int IntKind.i64 false (x.f (1 : Nat)).stored, SV.int IntKind.i64 false (x.f (3 : Nat)).id,
                                                            SV.int IntKind.i64 false (x.f (3 : Nat)).block, SV.int IntKind.i64 false (x.f (3 : Nat)).dl, SV.int IntKind.i64 false (x.f (3 : Nat)).last,
                                                            SV.int IntKind.i64 false (x.f (3 : Nat)).s0, SV.str false (x.f (3 : Nat)).r0, SV.int IntKind.i64 false (x.f (3 : Nat)).s1,
                                                            SV.str false (x.f (3 : Nat)).r1, SV.int IntKind.i64 false (x.f (3 : Nat)).stored, SV.int IntKind.i64 true (0 : Int),
                                                            SV.int IntKind.i64 true (0 : Int), SV.int IntKind.i64 true (0 : Int), SV.int IntKind.i64 true (0 : Int), SV.int IntKind.i64 true (0 : Int),
                                                            SV.str true [], SV.int IntKind.i64 true (0 : Int), SV.str true [], SV.int IntKind.i64 true (0 : Int),
                                                            SV.int IntKind.i64 true (IntKind.i64.wrap ((↑(4 : Nat) : Int) - (1 : Int))), SV.int IntKind.i64 false x.T.opened,
                                                            SV.int IntKind.i64 false (if (x.T.ends % (8 : Int)).toNat = (0 : Nat) then (x.f (2 : Nat)).id else x.T.e0),
                                                            SV.int IntKind.i64 false (if (x.T.ends % (8 : Int)).toNat = (1 : Nat) then (x.f (2 : Nat)).id else x.T.e1),
                                                            SV.int IntKind.i64 false (if (x.T.ends % (8 : Int)).toNat = (2 : Nat) then (x.f (2 : Nat)).id else x.T.e2),
                                                            SV.int IntKind.i64 false (if (x.T.ends % (8 : Int)).toNat = (3 : Nat) then (x.f (2 : Nat)).id else x.T.e3),
                                                            SV.int IntKind.i64 false (if (x.T.ends % (8 : Int)).toNat = (4 : Nat) then (x.f (2 : Nat)).id else x.T.e4),
                                                            SV.int IntKind.i64 false (if (x.T.ends % (8 : Int)).toNat = (5 : Nat) then (x.f (2 : Nat)).id else x.T.e5),
                                                            SV.int IntKind.i64 false (if (x.T.ends % (8 : Int)).toNat = (6 : Nat) then (x.f (2 : Nat)).id else x.T.e6),
                                                            SV.int IntKind.i64 false (if (x.T.ends % (8 : Int)).toNat = (7 : Nat) then (x.f (2 : Nat)).id else x.T.e7),
                                                            SV.int IntKind.i64 false (x.T.ends + (1 : Int))]
                                                          (49 : Nat) tableT)
                                                        (Tb.sb true
                                                          { most := y.T.most, term := y.T.term, ss := slN (nat_lit 3) y.f, opened := y.T.opened, e0 := y.T.e0, e1 := y.T.e1, e2 := y.T.e2, e3 := y.T.e3,
                                                            e4 := y.T.e4, e5 := y.T.e5, e6 := y.T.e6, e7 := y.T.e7, ends := y.T.ends : Tb }) ∧
                                                      True) ∧
                        (decide ((x.f (2 : Nat)).dl ≤ clock) = false →
                          (decide ((x.f (3 : Nat)).dl ≤ clock) = true →
                              ((0 : Nat) + x.l.length ≤ x.l.length ∧
                                  True ∧ (2 : Nat) * (x.l.length + (1 : Nat)) * (32 : Nat) ≤ (281474976710656 : Nat) ∧ x.l.length + (1 : Nat) < (9223372036854775808 : Nat)) ∧
                                x.c * (4 : Nat) = x.c * (4 : Nat) ∧
                                  ∀ (c_1 : Nat),
                                    x.l.length + (1 : Nat) ≤ c_1 →
                                      ((0 : Int) ≤ x.T.ends ∧ x.T.ends ≤ (9223372036854775807 : Int) ∧ (0 : Int) < (8 : Int)) ∧
                                        ((0 : Int) ≤ x.T.ends % (8 : Int) ∧ x.T.ends % (8 : Int) < (8 : Int)) ∧
                                          (x.T.ends % (8 : Int)).toNat < (8 : Nat) ∧
                                            ((-9223372036854775808 : Int) ≤ x.T.ends + (1 : Int) ∧ x.T.ends + (1 : Int) ≤ (9223372036854775807 : Int)) ∧
                                              ∃ (y : ExpG),
                                                (ExpPre
                                                      { most := T.most, term := T.term, ss := [a, b, c, d], opened := T.opened, e0 := T.e0, e1 := T.e1, e2 := T.e2, e3 := T.e3, e4 := T.e4, e5 := T.e5,
                                                        e6 := T.e6, e7 := T.e7, ends := T.ends : Tb }
                                                      clock (nat_lit 3) y.f y.T y.l y.c ∧
                                                    nat_lit 3 < nat_lit 4) ∧
                                                  ((0 : Nat) = (0 : Nat) ∧ x.l.length + (1 : Nat) = y.l.length ∧ c_1 = y.c) ∧
                                                    True ∧
                                                      SBle
                                                          (SB.rows true (x.l.length + (1 : Nat))
                                                            [Col.int IntKind.i64 fun (j : Nat) => if j < x.l.length then (x.l.getD j Sl.zero).id else sel [(x.f (3 : Nat)).id] (j - x.l.length),
                                                              Col.int IntKind.i64 fun (j : Nat) => if j < x.l.length then (x.l.getD j Sl.zero).block else sel [(x.f (3 : Nat)).block] (j - x.l.length),
                                                              Col.int IntKind.i64 fun (j : Nat) => if j < x.l.length then (x.l.getD j Sl.zero).dl else sel [(x.f (3 : Nat)).dl] (j - x.l.length),
                                                              Col.int IntKind.i64 fun (j : Nat) => if j < x.l.length then (x.l.getD j Sl.zero).last else sel [(x.f (3 : Nat)).last] (j - x.l.length)]
                                                            false (c_1 * (4 : Nat)) (29 : Nat))
                                                          (SB.rows true y.l.length (sessCols y.l) false (y.c * (4 : Nat)) sessT) ∧
                                                        SBle
                                                            (SB.cells
                                                              [SV.int IntKind.i64 false x.T.most, SV.int IntKind.i64 false x.T.term, SV.int IntKind.i64 false (x.f (0 : Nat)).id,
                                                                SV.int IntKind.i64 false (x.f (0 : Nat)).block, SV.int IntKind.i64 false (x.f (0 : Nat)).dl,
                                                                SV.int IntKind.i64 false (x.f (0 : Nat)).last, SV.int IntKind.i64 false (x.f (0 : Nat)).s0, SV.str false (x.f (0 : Nat)).r0,
                                                                SV.int IntKind.i64 false (x.f (0 : Nat)).s1, SV.str false (x.f (0 : Nat)).r1, SV.int IntKind.i64 false (x.f (0 : Nat)).stored,
                                                                SV.int IntKind.i64 false (x.f (1 : Nat)).id, SV.int IntKind.i64 false (x.f (1 : Nat)).block,
                                                                SV.int IntKind.i64 false (x.f (1 : Nat)).dl, SV.int IntKind.i64 false (x.f (1 : Nat)).last, SV.int IntKind.i64 false (x.f (1 : Nat)).s0,
                                                                SV.str false (x.f (1 : Nat)).r0, SV.int IntKind.i64 false (x.f (1 : Nat)).s1, SV.str false (x.f (1 : Nat)).r1,
                                                                SV.int IntKind.i64 false (x.f (1 : Nat)).stored, SV.int IntKind.i64 false (x.f (2 : Nat)).id,
                                                                SV.int IntKind.i64 false (x.f (2 : Nat)).block, SV.int IntKind.i64 false (x.f (2 : Nat)).dl,
                                                                SV.int IntKind.i64 false (x.f (2 : Nat)).last, SV.int IntKind.i64 false (x.f (2 : Nat)).s0, SV.str false (x.f (2 : Nat)).r0,
                                                                SV.int IntKind.i64 false (x.f (2 : Nat)).s1, SV.str false (x.f (2 : Nat)).r1, SV.int IntKind.i64 false (x.f (2 : Nat)).stored,
                                                                SV.int IntKind.i64 true (0 : Int), SV.int IntKind.i64 true (0 : Int), SV.int IntKind.i64 true (0 : Int),
                                                                SV.int IntKind.i64 true (0 : Int), SV.int IntKind.i64 true (0 : Int), SV.str true [], SV.int IntKind.i64 true (0 : Int), SV.str true [],
                                                                SV.int IntKind.i64 true (0 : Int), SV.int IntKind.i64 true (IntKind.i64.wrap ((↑(4 : Nat) : Int) - (1 : Int))),
                                                                SV.int IntKind.i64 false x.T.opened,
                                                                SV.int IntKind.i64 false (if (x.T.ends % (8 : Int)).toNat = (0 : Nat) then (x.f (3 : Nat)).id else x.T.e0),
                                                                SV.int IntKind.i64 false (if (x.T.ends % (8 : Int)).toNat = (1 : Nat) then (x.f (3 : Nat)).id else x.T.e1),
                                                                SV.int IntKind.i64 false (if (x.T.ends % (8 : Int)).toNat = (2 : Nat) then (x.f (3 : Nat)).id else x.T.e2),
                                                                SV.int IntKind.i64 false (if (x.T.ends % (8 : Int)).toNat = (3 : Nat) then (x.f (3 : Nat)).id else x.T.e3),
                                                                SV.int IntKind.i64 false (if (x.T.ends % (8 : Int)).toNat = (4 : Nat) then (x.f (3 : Nat)).id else x.T.e4),
                                                                SV.int IntKind.i64 false (if (x.T.ends % (8 : Int)).toNat = (5 : Nat) then (x.f (3 : Nat)).id else x.T.e5),
                                                                SV.int IntKind.i64 false (if (x.T.ends % (8 : Int)).toNat = (6 : Nat) then (x.f (3 : Nat)).id else x.T.e6),
                                                                SV.int IntKind.i64 false (if (x.T.ends % (8 : Int)).toNat = (7 : Nat) then (x.f (3 : Nat)).id else x.T.e7),
                                                                SV.int IntKind.i64 false (x.T.ends + (1 : Int))]
                                                              (49 : Nat) tableT)
                                                            (Tb.sb true
                                                              { most := y.T.most, term := y.T.term, ss := slN (nat_lit 3) y.f, opened := y.T.opened, e0 := y.T.e0, e1 := y.T.e1, e2 := y.T.e2,
                                                                e3 := y.T.e3, e4 := y.T.e4, e5 := y.T.e5, e6 := y.T.e6, e7 := y.T.e7, ends := y.T.ends : Tb }) ∧
                                                          True) ∧
                            (decide ((x.f (3 : Nat)).dl ≤ clock) = false →
                              post x.l.length x.c
                                (SB.rows true x.l.length
                                  [Col.int IntKind.i64 fun (i : Nat) => (x.l.getD i Sl.zero).id, Col.int IntKind.i64 fun (i : Nat) => (x.l.getD i Sl.zero).block,
                                    Col.int IntKind.i64 fun (i : Nat) => (x.l.getD i Sl.zero).dl, Col.int IntKind.i64 fun (i : Nat) => (x.l.getD i Sl.zero).last]
                                  false (x.c * (4 : Nat)) sessT)
                                ({ most := x.T.most, term := x.T.term, ss := [x.f (0 : Nat), x.f (1 : Nat), x.f (2 : Nat), x.f (3 : Nat)], opened := x.T.opened, e0 := x.T.e0, e1 := x.T.e1,
                                    e2 := x.T.e2, e3 := x.T.e3, e4 := x.T.e4, e5 := x.T.e5, e6 := x.T.e6, e7 := x.T.e7, ends := x.T.ends : Tb },
                                  (↑(4 : Nat) : Int))))))) := by kernel_rfl
end Go.Proofs.Ytobbhdmbblhgaaa
