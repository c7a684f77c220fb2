/-
  Conditions that the executor computes, written out by a program (vcgen.py).
-/
import Derived.Test.YtndbjcbfnmjheaaDoorOc
import Derived.Test.YtndbjcbfnmjheaaDoorOd
import Derived.Test.YtndbjcbfnmjheaaDoorMh
import Derived.Test.YtndbjcbfnmjheaaDoorRows
import Derived.Stop.Joined
namespace Go.Proofs.YtndbjcbfnmjheaaDoor
open Go Sx

theorem vcWorks  : VC.holds (runA cfg7 6 Tryd.f6 [] (.ret (.bool false true))) = ((3 : Nat) < (1152921504606846976 : Nat) ∧
  (5 : Nat) < (1152921504606846976 : Nat) ∧
    (1 : Nat) < (1152921504606846976 : Nat) ∧
      (True ∧ (0 : Nat) ≤ (140737488355328 : Nat) ∧ (0 : Nat) ≤ (140737488355328 : Nat)) ∧
        (((0 : Int) ≤ (192 : Int) ∧ (192 : Int) ≤ (192 : Int)) ∧ (0 : Int) ≤ (0 : Int) ∧ (0 : Int) < (1152921504606846976 : Int)) ∧
          (((2 : Nat) = (2 : Nat) ∧ (2 : Nat) ≤ (2 : Nat)) ∧ (2 : Nat) ≤ (140737488355328 : Nat) ∧ (2 : Nat) ≤ (140737488355328 : Nat)) ∧
            (((0 : Int) ≤ (192 : Int) ∧ (192 : Int) ≤ (192 : Int)) ∧ (0 : Int) ≤ (2 : Int) ∧ (2 : Int) < (1152921504606846976 : Int)) ∧
              (3 : Nat) < (1152921504606846976 : Nat) ∧
                (2 : Nat) < (1099511627776 : Nat) ∧
                  ∀ (x : Nat),
                    (2 : Nat) ≤ x →
                      ((0 : Int) ≤ (1024 : Int) ∧ (1024 : Int) < (18446744073709551616 : Int)) ∧
                        (3 : Nat) < (1152921504606846976 : Nat) ∧
                          (2 : Nat) < (1152921504606846976 : Nat) ∧
                            ((3 : Nat) < (1152921504606846976 : Nat) ∧
                                ((True ∧ (0 : Nat) ≤ (140737488355328 : Nat) ∧ (0 : Nat) ≤ (140737488355328 : Nat)) ∧
                                    (((0 : Int) ≤ (192 : Int) ∧ (192 : Int) ≤ (192 : Int)) ∧ (0 : Int) ≤ (0 : Int) ∧ (0 : Int) < (1152921504606846976 : Int)) ∧
                                      (((0 : Int) ≤ (1024 : Int) ∧ (1024 : Int) < (18446744073709551616 : Int)) ∧
                                          (decide ((2 : Int) = (2 : Int)) = true →
                                              (True ∧ (0 : Nat) ≤ (140737488355328 : Nat) ∧ (0 : Nat) ≤ (140737488355328 : Nat)) ∧
                                                (((0 : Int) ≤ (192 : Int) ∧ (192 : Int) ≤ (192 : Int)) ∧ (0 : Int) ≤ (0 : Int) ∧ (0 : Int) < (1152921504606846976 : Int)) ∧
                                                  (((1 : Nat) = (1 : Nat) ∧ (1 : Nat) ≤ (1 : Nat)) ∧ (1 : Nat) ≤ (140737488355328 : Nat) ∧ (1 : Nat) ≤ (140737488355328 : Nat)) ∧
                                                    (((0 : Int) ≤ (192 : Int) ∧ (192 : Int) ≤ (192 : Int)) ∧ (0 : Int) ≤ (1 : Int) ∧ (1 : Int) < (1152921504606846976 : Int)) ∧
                                                      (2 : Nat) < (1152921504606846976 : Nat) ∧
                                                        ∀ (R : Loop),
                                                          (1 : Nat) < (1152921504606846976 : Nat) ∧
                                                            R = R ∧
                                                              (1 : Nat) < (1152921504606846976 : Nat) ∧
                                                                ∀ (R : Loop),
                                                                  (0 : Nat) < (1152921504606846976 : Nat) ∧
                                                                    ∀ (x : Int), sameVal (SV.bool (true && true) (decide ((9 : Int) = (9 : Int)))) (SV.bool false true)) ∧
                                            (decide ((2 : Int) = (2 : Int)) = false → sameVal (SV.bool true false) (SV.bool false true))) ∧
                                        ((0 : Int) ≤ (1024 : Int) ∧ (1024 : Int) < (18446744073709551616 : Int)) ∧
                                          Mem.get ((2 : Nat) + (1 : Nat) + (1 : Nat) + (1 : Nat))
                                                (((2 : Nat) + (1 : Nat) + (1 : Nat) + (1 : Nat),
                                                    SB.cells
                                                      (setRange
                                                        (setRange (setRange (times (3 : Nat) (SV.int IntKind.u8 true (0 : Int)).cells) (0 : Nat) (SV.int IntKind.u8 true (130 : Int)).cells) (1 : Nat)
                                                          (SV.int IntKind.u8 true (4 : Int)).cells)
                                                        (2 : Nat) (SV.int IntKind.u8 true (0 : Int)).cells)
                                                      (3 : Nat) (5 : Nat)) ::
                                                  ((2 : Nat) + (1 : Nat) + (1 : Nat),
                                                      SB.cells (setRange (times (1 : Nat) (SV.int IntKind.u8 true (0 : Int)).cells) (0 : Nat) (SV.int IntKind.u8 true (192 : Int)).cells) (1 : Nat)
                                                        (5 : Nat)) ::
                                                    older ((2 : Nat) + (1 : Nat) + (1 : Nat))
                                                      (((2 : Nat) + (1 : Nat),
                                                          SB.cells
                                                            (setRange
                                                              (setRange
                                                                (setRange (setRange (times (4 : Nat) (SV.int IntKind.u8 true (0 : Int)).cells) (0 : Nat) (SV.int IntKind.u8 true (131 : Int)).cells)
                                                                  (1 : Nat) (SV.int IntKind.u8 true (100 : Int)).cells)
                                                                (2 : Nat) (SV.int IntKind.u8 true (111 : Int)).cells)
                                                              (3 : Nat) (SV.int IntKind.u8 true (103 : Int)).cells)
                                                            (4 : Nat) (5 : Nat)) ::
                                                        older ((2 : Nat) + (1 : Nat))
                                                          (older ((2 : Nat) + (1 : Nat) + (1 : Nat) + (1 : Nat))
                                                            (older ((2 : Nat) + (1 : Nat) + (1 : Nat) + (1 : Nat) + (1 : Nat) + (1 : Nat))
                                                              (Mem.put ((2 : Nat) + (1 : Nat) + (1 : Nat))
                                                                (SB.cells (setRange (SV.int IntKind.i64 true (0 : Int)).cells (0 : Nat) (SV.int IntKind.i64 true (9 : Int)).cells) (1 : Nat) (24 : Nat))
                                                                (((2 : Nat) + (1 : Nat) + (1 : Nat) + (1 : Nat) + (1 : Nat) + (1 : Nat) + (1 : Nat),
                                                                    SB.cells (SV.int IntKind.i64 true (9 : Int)).cells (1 : Nat) (24 : Nat)) ::
                                                                  ((2 : Nat) + (1 : Nat) + (1 : Nat) + (1 : Nat) + (1 : Nat) + (1 : Nat),
                                                                      SB.cells
                                                                        (SV.agg
                                                                            [hd (60 : Nat), SV.ptr ((2 : Nat) + (1 : Nat) + (1 : Nat) + (1 : Nat)) true (0 : Nat),
                                                                              SV.int IntKind.u64 true (150 : Int)]).cells
                                                                        (3 : Nat) (82 : Nat)) ::
                                                                    Mem.put ((2 : Nat) + (1 : Nat) + (1 : Nat) + (1 : Nat) + (1 : Nat))
                                                                      (SB.cells
                                                                        (setRange (SV.agg [SV.nilptr, SV.nilptr, SV.int IntKind.u64 true (0 : Int)]).cells (0 : Nat)
                                                                          (SV.agg
                                                                              [hd (60 : Nat), SV.ptr ((2 : Nat) + (1 : Nat) + (1 : Nat) + (1 : Nat)) true (0 : Nat),
                                                                                SV.int IntKind.u64 true (150 : Int)]).cells)
                                                                        (3 : Nat) (82 : Nat))
                                                                      (((2 : Nat) + (1 : Nat) + (1 : Nat) + (1 : Nat) + (1 : Nat),
                                                                          SB.cells (SV.agg [SV.nilptr, SV.nilptr, SV.int IntKind.u64 true (0 : Int)]).cells (3 : Nat) (82 : Nat)) ::
                                                                        ((2 : Nat) + (1 : Nat) + (1 : Nat) + (1 : Nat),
                                                                            SB.cells (SV.ptr ((2 : Nat) + (1 : Nat) + (1 : Nat)) true (0 : Nat)).cells (1 : Nat) (60 : Nat)) ::
                                                                          ((2 : Nat) + (1 : Nat) + (1 : Nat), SB.cells (SV.int IntKind.i64 true (0 : Int)).cells (1 : Nat) (24 : Nat)) ::
                                                                            older ((2 : Nat) + (1 : Nat) + (1 : Nat))
                                                                              (older ((2 : Nat) + (1 : Nat) + (1 : Nat) + (1 : Nat) + (1 : Nat))
                                                                                (((2 : Nat) + (1 : Nat) + (1 : Nat) + (1 : Nat) + (1 : Nat),
                                                                                    SB.cells
                                                                                      (SV.agg
                                                                                          [hd (58 : Nat), SV.ptr ((2 : Nat) + (1 : Nat) + (1 : Nat)) true (0 : Nat),
                                                                                            SV.int IntKind.u64 true (150 : Int)]).cells
                                                                                      (3 : Nat) (82 : Nat)) ::
                                                                                  Mem.put ((2 : Nat) + (1 : Nat) + (1 : Nat) + (1 : Nat))
                                                                                    (SB.cells
                                                                                      (setRange (SV.agg [SV.nilptr, SV.nilptr, SV.int IntKind.u64 true (0 : Int)]).cells (0 : Nat)
                                                                                        (SV.agg
                                                                                            [hd (58 : Nat), SV.ptr ((2 : Nat) + (1 : Nat) + (1 : Nat)) true (0 : Nat),
                                                                                              SV.int IntKind.u64 true (150 : Int)]).cells)
                                                                                      (3 : Nat) (82 : Nat))
                                                                                    (((2 : Nat) + (1 : Nat) + (1 : Nat) + (1 : Nat),
                                                                                        SB.cells (SV.agg [SV.nilptr, SV.nilptr, SV.int IntKind.u64 true (0 : Int)]).cells (3 : Nat) (82 : Nat)) ::
                                                                                      ((2 : Nat) + (1 : Nat) + (1 : Nat),
                                                                                          SB.cells (SV.ptr ((2 : Nat) + (1 : Nat)) true (0 : Nat)).cells (1 : Nat) (58 : Nat)) ::
                                                                                        ((2 : Nat) + (1 : Nat), SB.cells SV.niliface.cells (1 : Nat) (56 : Nat)) ::
                                                                                          ((2 : Nat),
                                                                                              SB.cells
                                                                                                (setRange
                                                                                                  (setRange (times (2 : Nat) (SV.int IntKind.u8 true (0 : Int)).cells) (0 : Nat)
                                                                                                    (SV.int IntKind.u8 true (129 : Int)).cells)
                                                                                                  (1 : Nat) (SV.int IntKind.u8 true (5 : Int)).cells)
                                                                                                (2 : Nat) (5 : Nat)) ::
                                                                                            ((1 : Nat),
                                                                                                SB.rows true (2 : Nat)
                                                                                                  [Col.str
                                                                                                      (itemAt
                                                                                                        (cutIn
                                                                                                          (headOf (192 : Int) (2 : Nat) ++
                                                                                                            flat [textOf [(97 : UInt8)], headOf (192 : Int) (0 : Nat) ++ flat []])))]
                                                                                                  false x (9 : TypeId)) ::
                                                                                              older (1 : Nat)
                                                                                                (((0 : Nat),
                                                                                                    SB.cells
                                                                                                      (setRange
                                                                                                        (setRange (times (2 : Nat) (SV.str true []).cells) (0 : Nat)
                                                                                                          (lit (SV.str false (textOf [(97 : UInt8)]))).cells)
                                                                                                        (1 : Nat) (SV.str true (headOf (192 : Int) (0 : Nat) ++ flat [])).cells)
                                                                                                      (2 : Nat) (9 : Nat)) ::
                                                                                                  older (0 : Nat) []))))))))))) =
                                              Mem.get ((2 : Nat) + (1 : Nat) + (1 : Nat) + (1 : Nat))
                                                (((2 : Nat) + (1 : Nat) + (1 : Nat) + (1 : Nat),
                                                    SB.cells
                                                      (setRange
                                                        (setRange (setRange (times (3 : Nat) (SV.int IntKind.u8 true (0 : Int)).cells) (0 : Nat) (SV.int IntKind.u8 true (130 : Int)).cells) (1 : Nat)
                                                          (SV.int IntKind.u8 true (4 : Int)).cells)
                                                        (2 : Nat) (SV.int IntKind.u8 true (0 : Int)).cells)
                                                      (3 : Nat) (5 : Nat)) ::
                                                  ((2 : Nat) + (1 : Nat) + (1 : Nat),
                                                      SB.cells (setRange (times (1 : Nat) (SV.int IntKind.u8 true (0 : Int)).cells) (0 : Nat) (SV.int IntKind.u8 true (192 : Int)).cells) (1 : Nat)
                                                        (5 : Nat)) ::
                                                    older ((2 : Nat) + (1 : Nat) + (1 : Nat))
                                                      (((2 : Nat) + (1 : Nat),
                                                          SB.cells
                                                            (setRange
                                                              (setRange
                                                                (setRange (setRange (times (4 : Nat) (SV.int IntKind.u8 true (0 : Int)).cells) (0 : Nat) (SV.int IntKind.u8 true (131 : Int)).cells)
                                                                  (1 : Nat) (SV.int IntKind.u8 true (100 : Int)).cells)
                                                                (2 : Nat) (SV.int IntKind.u8 true (111 : Int)).cells)
                                                              (3 : Nat) (SV.int IntKind.u8 true (103 : Int)).cells)
                                                            (4 : Nat) (5 : Nat)) ::
                                                        older ((2 : Nat) + (1 : Nat))
                                                          (older ((2 : Nat) + (1 : Nat) + (1 : Nat) + (1 : Nat))
                                                            (older ((2 : Nat) + (1 : Nat) + (1 : Nat) + (1 : Nat) + (1 : Nat) + (1 : Nat))
                                                              (Mem.put ((2 : Nat) + (1 : Nat) + (1 : Nat))
                                                                (SB.cells (setRange (SV.int IntKind.i64 true (0 : Int)).cells (0 : Nat) (SV.int IntKind.i64 true (9 : Int)).cells) (1 : Nat) (24 : Nat))
                                                                (((2 : Nat) + (1 : Nat) + (1 : Nat) + (1 : Nat) + (1 : Nat) + (1 : Nat) + (1 : Nat),
                                                                    SB.cells (SV.int IntKind.i64 true (9 : Int)).cells (1 : Nat) (24 : Nat)) ::
                                                                  ((2 : Nat) + (1 : Nat) + (1 : Nat) + (1 : Nat) + (1 : Nat) + (1 : Nat),
                                                                      SB.cells
                                                                        (SV.agg
                                                                            [hd (60 : Nat), SV.ptr ((2 : Nat) + (1 : Nat) + (1 : Nat) + (1 : Nat)) true (0 : Nat),
                                                                              SV.int IntKind.u64 true (150 : Int)]).cells
                                                                        (3 : Nat) (82 : Nat)) ::
                                                                    Mem.put ((2 : Nat) + (1 : Nat) + (1 : Nat) + (1 : Nat) + (1 : Nat))
                                                                      (SB.cells
                                                                        (setRange (SV.agg [SV.nilptr, SV.nilptr, SV.int IntKind.u64 true (0 : Int)]).cells (0 : Nat)
                                                                          (SV.agg
                                                                              [hd (60 : Nat), SV.ptr ((2 : Nat) + (1 : Nat) + (1 : Nat) + (1 : Nat)) true (0 : Nat),
                                                                                SV.int IntKind.u64 true (150 : Int)]).cells)
                                                                        (3 : Nat) (82 : Nat))
                                                                      (((2 : Nat) + (1 : Nat) + (1 : Nat) + (1 : Nat) + (1 : Nat),
                                                                          SB.cells (SV.agg [SV.nilptr, SV.nilptr, SV.int IntKind.u64 true (0 : Int)]).cells (3 : Nat) (82 : Nat)) ::
                                                                        ((2 : Nat) + (1 : Nat) + (1 : Nat) + (1 : Nat),
                                                                            SB.cells (SV.ptr ((2 : Nat) + (1 : Nat) + (1 : Nat)) true (0 : Nat)).cells (1 : Nat) (60 : Nat)) ::
                                                                          ((2 : Nat) + (1 : Nat) + (1 : Nat), SB.cells (SV.int IntKind.i64 true (0 : Int)).cells (1 : Nat) (24 : Nat)) ::
                                                                            older ((2 : Nat) + (1 : Nat) + (1 : Nat))
                                                                              (older ((2 : Nat) + (1 : Nat) + (1 : Nat) + (1 : Nat) + (1 : Nat))
                                                                                (((2 : Nat) + (1 : Nat) + (1 : Nat) + (1 : Nat) + (1 : Nat),
                                                                                    SB.cells
                                                                                      (SV.agg
                                                                                          [hd (58 : Nat), SV.ptr ((2 : Nat) + (1 : Nat) + (1 : Nat)) true (0 : Nat),
                                                                                            SV.int IntKind.u64 true (150 : Int)]).cells
                                                                                      (3 : Nat) (82 : Nat)) ::
                                                                                  Mem.put ((2 : Nat) + (1 : Nat) + (1 : Nat) + (1 : Nat))
                                                                                    (SB.cells
                                                                                      (setRange (SV.agg [SV.nilptr, SV.nilptr, SV.int IntKind.u64 true (0 : Int)]).cells (0 : Nat)
                                                                                        (SV.agg
                                                                                            [hd (58 : Nat), SV.ptr ((2 : Nat) + (1 : Nat) + (1 : Nat)) true (0 : Nat),
                                                                                              SV.int IntKind.u64 true (150 : Int)]).cells)
                                                                                      (3 : Nat) (82 : Nat))
                                                                                    (((2 : Nat) + (1 : Nat) + (1 : Nat) + (1 : Nat),
                                                                                        SB.cells (SV.agg [SV.nilptr, SV.nilptr, SV.int IntKind.u64 true (0 : Int)]).cells (3 : Nat) (82 : Nat)) ::
                                                                                      ((2 : Nat) + (1 : Nat) + (1 : Nat),
                                                                                          SB.cells (SV.ptr ((2 : Nat) + (1 : Nat)) true (0 : Nat)).cells (1 : Nat) (58 : Nat)) ::
                                                                                        ((2 : Nat) + (1 : Nat), SB.cells SV.niliface.cells (1 : Nat) (56 : Nat)) ::
                                                                                          ((2 : Nat),
                                                                                              SB.cells
                                                                                                (setRange
                                                                                                  (setRange (times (2 : Nat) (SV.int IntKind.u8 true (0 : Int)).cells) (0 : Nat)
                                                                                                    (SV.int IntKind.u8 true (129 : Int)).cells)
                                                                                                  (1 : Nat) (SV.int IntKind.u8 true (5 : Int)).cells)
                                                                                                (2 : Nat) (5 : Nat)) ::
                                                                                            ((1 : Nat),
                                                                                                SB.rows true (2 : Nat)
                                                                                                  [Col.str
                                                                                                      (itemAt
                                                                                                        (cutIn
                                                                                                          (headOf (192 : Int) (2 : Nat) ++
                                                                                                            flat [textOf [(97 : UInt8)], headOf (192 : Int) (0 : Nat) ++ flat []])))]
                                                                                                  false x (9 : TypeId)) ::
                                                                                              older (1 : Nat)
                                                                                                (((0 : Nat),
                                                                                                    SB.cells
                                                                                                      (setRange
                                                                                                        (setRange (times (2 : Nat) (SV.str true []).cells) (0 : Nat)
                                                                                                          (lit (SV.str false (textOf [(97 : UInt8)]))).cells)
                                                                                                        (1 : Nat) (SV.str true (headOf (192 : Int) (0 : Nat) ++ flat [])).cells)
                                                                                                      (2 : Nat) (9 : Nat)) ::
                                                                                                  older (0 : Nat) []))))))))))) ∧
                                            (decide ((2 : Int) = (2 : Int)) = true →
                                                (True ∧ (0 : Nat) ≤ (140737488355328 : Nat) ∧ (0 : Nat) ≤ (140737488355328 : Nat)) ∧
                                                  (((0 : Int) ≤ (192 : Int) ∧ (192 : Int) ≤ (192 : Int)) ∧ (0 : Int) ≤ (0 : Int) ∧ (0 : Int) < (1152921504606846976 : Int)) ∧
                                                    (((1 : Nat) = (1 : Nat) ∧ (1 : Nat) ≤ (1 : Nat)) ∧ (1 : Nat) ≤ (140737488355328 : Nat) ∧ (1 : Nat) ≤ (140737488355328 : Nat)) ∧
                                                      (((0 : Int) ≤ (192 : Int) ∧ (192 : Int) ≤ (192 : Int)) ∧ (0 : Int) ≤ (1 : Int) ∧ (1 : Int) < (1152921504606846976 : Int)) ∧
                                                        (2 : Nat) < (1152921504606846976 : Nat) ∧
                                                          ∀ (R : Loop),
                                                            (1 : Nat) < (1152921504606846976 : Nat) ∧
                                                              R = R ∧
                                                                (1 : Nat) < (1152921504606846976 : Nat) ∧
                                                                  ∀ (R : Loop),
                                                                    (0 : Nat) < (1152921504606846976 : Nat) ∧
                                                                      ∀ (x : Int), sameVal (SV.bool (true && true) (decide ((9 : Int) = (9 : Int)))) (SV.bool false true)) ∧
                                              (decide ((2 : Int) = (2 : Int)) = false → sameVal (SV.bool true false) (SV.bool false true))) ∧
                                  (True ∧ (0 : Nat) ≤ (140737488355328 : Nat) ∧ (0 : Nat) ≤ (140737488355328 : Nat)) ∧
                                    (((0 : Int) ≤ (192 : Int) ∧ (192 : Int) ≤ (192 : Int)) ∧ (0 : Int) ≤ (0 : Int) ∧ (0 : Int) < (1152921504606846976 : Int)) ∧
                                      Mem.get ((2 : Nat) + (1 : Nat) + (1 : Nat))
                                            (older ((2 : Nat) + (1 : Nat) + (1 : Nat) + (1 : Nat))
                                              (((2 : Nat) + (1 : Nat) + (1 : Nat),
                                                  SB.cells (setRange (times (1 : Nat) (SV.int IntKind.u8 true (0 : Int)).cells) (0 : Nat) (SV.int IntKind.u8 true (192 : Int)).cells) (1 : Nat)
                                                    (5 : Nat)) ::
                                                ((2 : Nat) + (1 : Nat),
                                                    SB.cells
                                                      (setRange
                                                        (setRange
                                                          (setRange (setRange (times (4 : Nat) (SV.int IntKind.u8 true (0 : Int)).cells) (0 : Nat) (SV.int IntKind.u8 true (131 : Int)).cells) (1 : Nat)
                                                            (SV.int IntKind.u8 true (100 : Int)).cells)
                                                          (2 : Nat) (SV.int IntKind.u8 true (111 : Int)).cells)
                                                        (3 : Nat) (SV.int IntKind.u8 true (103 : Int)).cells)
                                                      (4 : Nat) (5 : Nat)) ::
                                                  older ((2 : Nat) + (1 : Nat))
                                                    (older ((2 : Nat) + (1 : Nat) + (1 : Nat) + (1 : Nat))
                                                      (older ((2 : Nat) + (1 : Nat) + (1 : Nat) + (1 : Nat) + (1 : Nat) + (1 : Nat))
                                                        (Mem.put ((2 : Nat) + (1 : Nat) + (1 : Nat))
                                                          (SB.cells (setRange (SV.int IntKind.i64 true (0 : Int)).cells (0 : Nat) (SV.int IntKind.i64 true (9 : Int)).cells) (1 : Nat) (24 : Nat))
                                                          (((2 : Nat) + (1 : Nat) + (1 : Nat) + (1 : Nat) + (1 : Nat) + (1 : Nat) + (1 : Nat),
                                                              SB.cells (SV.int IntKind.i64 true (9 : Int)).cells (1 : Nat) (24 : Nat)) ::
                                                            ((2 : Nat) + (1 : Nat) + (1 : Nat) + (1 : Nat) + (1 : Nat) + (1 : Nat),
                                                                SB.cells
                                                                  (SV.agg
                                                                      [hd (60 : Nat), SV.ptr ((2 : Nat) + (1 : Nat) + (1 : Nat) + (1 : Nat)) true (0 : Nat), SV.int IntKind.u64 true (150 : Int)]).cells
                                                                  (3 : Nat) (82 : Nat)) ::
                                                              Mem.put ((2 : Nat) + (1 : Nat) + (1 : Nat) + (1 : Nat) + (1 : Nat))
                                                                (SB.cells
                                                                  (setRange (SV.agg [SV.nilptr, SV.nilptr, SV.int IntKind.u64 true (0 : Int)]).cells (0 : Nat)
                                                                    (SV.agg
                                                                        [hd (60 : Nat), SV.ptr ((2 : Nat) + (1 : Nat) + (1 : Nat) + (1 : Nat)) true (0 : Nat),
                                                                          SV.int IntKind.u64 true (150 : Int)]).cells)
                                                                  (3 : Nat) (82 : Nat))
                                                                (((2 : Nat) + (1 : Nat) + (1 : Nat) + (1 : Nat) + (1 : Nat),
                                                                    SB.cells (SV.agg [SV.nilptr, SV.nilptr, SV.int IntKind.u64 true (0 : Int)]).cells (3 : Nat) (82 : Nat)) ::
                                                                  ((2 : Nat) + (1 : Nat) + (1 : Nat) + (1 : Nat),
                                                                      SB.cells (SV.ptr ((2 : Nat) + (1 : Nat) + (1 : Nat)) true (0 : Nat)).cells (1 : Nat) (60 : Nat)) ::
                                                                    ((2 : Nat) + (1 : Nat) + (1 : Nat), SB.cells (SV.int IntKind.i64 true (0 : Int)).cells (1 : Nat) (24 : Nat)) ::
                                                                      older ((2 : Nat) + (1 : Nat) + (1 : Nat))
                                                                        (older ((2 : Nat) + (1 : Nat) + (1 : Nat) + (1 : Nat) + (1 : Nat))
                                                                          (((2 : Nat) + (1 : Nat) + (1 : Nat) + (1 : Nat) + (1 : Nat),
                                                                              SB.cells
                                                                                (SV.agg
                                                                                    [hd (58 : Nat), SV.ptr ((2 : Nat) + (1 : Nat) + (1 : Nat)) true (0 : Nat),
                                                                                      SV.int IntKind.u64 true (150 : Int)]).cells
                                                                                (3 : Nat) (82 : Nat)) ::
                                                                            Mem.put ((2 : Nat) + (1 : Nat) + (1 : Nat) + (1 : Nat))
                                                                              (SB.cells
                                                                                (setRange (SV.agg [SV.nilptr, SV.nilptr, SV.int IntKind.u64 true (0 : Int)]).cells (0 : Nat)
                                                                                  (SV.agg
                                                                                      [hd (58 : Nat), SV.ptr ((2 : Nat) + (1 : Nat) + (1 : Nat)) true (0 : Nat),
                                                                                        SV.int IntKind.u64 true (150 : Int)]).cells)
                                                                                (3 : Nat) (82 : Nat))
                                                                              (((2 : Nat) + (1 : Nat) + (1 : Nat) + (1 : Nat),
                                                                                  SB.cells (SV.agg [SV.nilptr, SV.nilptr, SV.int IntKind.u64 true (0 : Int)]).cells (3 : Nat) (82 : Nat)) ::
                                                                                ((2 : Nat) + (1 : Nat) + (1 : Nat),
                                                                                    SB.cells (SV.ptr ((2 : Nat) + (1 : Nat)) true (0 : Nat)).cells (1 : Nat) (58 : Nat)) ::
                                                                                  ((2 : Nat) + (1 : Nat), SB.cells SV.niliface.cells (1 : Nat) (56 : Nat)) ::
                                                                                    ((2 : Nat),
                                                                                        SB.cells
                                                                                          (setRange
                                                                                            (setRange (times (2 : Nat) (SV.int IntKind.u8 true (0 : Int)).cells) (0 : Nat)
                                                                                              (SV.int IntKind.u8 true (129 : Int)).cells)
                                                                                            (1 : Nat) (SV.int IntKind.u8 true (5 : Int)).cells)
                                                                                          (2 : Nat) (5 : Nat)) ::
                                                                                      ((1 : Nat),
                                                                                          SB.rows true (2 : Nat)
                                                                                            [Col.str
                                                                                                (itemAt
                                                                                                  (cutIn
                                                                                                    (headOf (192 : Int) (2 : Nat) ++
                                                                                                      flat [textOf [(97 : UInt8)], headOf (192 : Int) (0 : Nat) ++ flat []])))]
                                                                                            false x (9 : TypeId)) ::
                                                                                        older (1 : Nat)
                                                                                          (((0 : Nat),
                                                                                              SB.cells
                                                                                                (setRange
                                                                                                  (setRange (times (2 : Nat) (SV.str true []).cells) (0 : Nat)
                                                                                                    (lit (SV.str false (textOf [(97 : UInt8)]))).cells)
                                                                                                  (1 : Nat) (SV.str true (headOf (192 : Int) (0 : Nat) ++ flat [])).cells)
                                                                                                (2 : Nat) (9 : Nat)) ::
                                                                                            older (0 : Nat) []))))))))))) =
                                          Mem.get ((2 : Nat) + (1 : Nat) + (1 : Nat))
                                            (((2 : Nat) + (1 : Nat) + (1 : Nat),
                                                SB.cells (setRange (times (1 : Nat) (SV.int IntKind.u8 true (0 : Int)).cells) (0 : Nat) (SV.int IntKind.u8 true (192 : Int)).cells) (1 : Nat)
                                                  (5 : Nat)) ::
                                              ((2 : Nat) + (1 : Nat),
                                                  SB.cells
                                                    (setRange
                                                      (setRange
                                                        (setRange (setRange (times (4 : Nat) (SV.int IntKind.u8 true (0 : Int)).cells) (0 : Nat) (SV.int IntKind.u8 true (131 : Int)).cells) (1 : Nat)
                                                          (SV.int IntKind.u8 true (100 : Int)).cells)
                                                        (2 : Nat) (SV.int IntKind.u8 true (111 : Int)).cells)
                                                      (3 : Nat) (SV.int IntKind.u8 true (103 : Int)).cells)
                                                    (4 : Nat) (5 : Nat)) ::
                                                older ((2 : Nat) + (1 : Nat))
                                                  (older ((2 : Nat) + (1 : Nat) + (1 : Nat) + (1 : Nat))
                                                    (older ((2 : Nat) + (1 : Nat) + (1 : Nat) + (1 : Nat) + (1 : Nat) + (1 : Nat))
                                                      (Mem.put ((2 : Nat) + (1 : Nat) + (1 : Nat))
                                                        (SB.cells (setRange (SV.int IntKind.i64 true (0 : Int)).cells (0 : Nat) (SV.int IntKind.i64 true (9 : Int)).cells) (1 : Nat) (24 : Nat))
                                                        (((2 : Nat) + (1 : Nat) + (1 : Nat) + (1 : Nat) + (1 : Nat) + (1 : Nat) + (1 : Nat),
                                                            SB.cells (SV.int IntKind.i64 true (9 : Int)).cells (1 : Nat) (24 : Nat)) ::
                                                          ((2 : Nat) + (1 : Nat) + (1 : Nat) + (1 : Nat) + (1 : Nat) + (1 : Nat),
                                                              SB.cells
                                                                (SV.agg
                                                                    [hd (60 : Nat), SV.ptr ((2 : Nat) + (1 : Nat) + (1 : Nat) + (1 : Nat)) true (0 : Nat), SV.int IntKind.u64 true (150 : Int)]).cells
                                                                (3 : Nat) (82 : Nat)) ::
                                                            Mem.put ((2 : Nat) + (1 : Nat) + (1 : Nat) + (1 : Nat) + (1 : Nat))
                                                              (SB.cells
                                                                (setRange (SV.agg [SV.nilptr, SV.nilptr, SV.int IntKind.u64 true (0 : Int)]).cells (0 : Nat)
                                                                  (SV.agg
                                                                      [hd (60 : Nat), SV.ptr ((2 : Nat) + (1 : Nat) + (1 : Nat) + (1 : Nat)) true (0 : Nat),
                                                                        SV.int IntKind.u64 true (150 : Int)]).cells)
                                                                (3 : Nat) (82 : Nat))
                                                              (((2 : Nat) + (1 : Nat) + (1 : Nat) + (1 : Nat) + (1 : Nat),
                                                                  SB.cells (SV.agg [SV.nilptr, SV.nilptr, SV.int IntKind.u64 true (0 : Int)]).cells (3 : Nat) (82 : Nat)) ::
                                                                ((2 : Nat) + (1 : Nat) + (1 : Nat) + (1 : Nat),
                                                                    SB.cells (SV.ptr ((2 : Nat) + (1 : Nat) + (1 : Nat)) true (0 : Nat)).cells (1 : Nat) (60 : Nat)) ::
                                                                  ((2 : Nat) + (1 : Nat) + (1 : Nat), SB.cells (SV.int IntKind.i64 true (0 : Int)).cells (1 : Nat) (24 : Nat)) ::
                                                                    older ((2 : Nat) + (1 : Nat) + (1 : Nat))
                                                                      (older ((2 : Nat) + (1 : Nat) + (1 : Nat) + (1 : Nat) + (1 : Nat))
                                                                        (((2 : Nat) + (1 : Nat) + (1 : Nat) + (1 : Nat) + (1 : Nat),
                                                                            SB.cells
                                                                              (SV.agg
                                                                                  [hd (58 : Nat), SV.ptr ((2 : Nat) + (1 : Nat) + (1 : Nat)) true (0 : Nat), SV.int IntKind.u64 true (150 : Int)]).cells
                                                                              (3 : Nat) (82 : Nat)) ::
                                                                          Mem.put ((2 : Nat) + (1 : Nat) + (1 : Nat) + (1 : Nat))
                                                                            (SB.cells
                                                                              (setRange (SV.agg [SV.nilptr, SV.nilptr, SV.int IntKind.u64 true (0 : Int)]).cells (0 : Nat)
                                                                                (SV.agg
                                                                                    [hd (58 : Nat), SV.ptr ((2 : Nat) + (1 : Nat) + (1 : Nat)) true (0 : Nat),
                                                                                      SV.int IntKind.u64 true (150 : Int)]).cells)
                                                                              (3 : Nat) (82 : Nat))
                                                                            (((2 : Nat) + (1 : Nat) + (1 : Nat) + (1 : Nat),
                                                                                SB.cells (SV.agg [SV.nilptr, SV.nilptr, SV.int IntKind.u64 true (0 : Int)]).cells (3 : Nat) (82 : Nat)) ::
                                                                              ((2 : Nat) + (1 : Nat) + (1 : Nat),
                                                                                  SB.cells (SV.ptr ((2 : Nat) + (1 : Nat)) true (0 : Nat)).cells (1 : Nat) (58 : Nat)) ::
                                                                                ((2 : Nat) + (1 : Nat), SB.cells SV.niliface.cells (1 : Nat) (56 : Nat)) ::
                                                                                  ((2 : Nat),
                                                                                      SB.cells
                                                                                        (setRange
                                                                                          (setRange (times (2 : Nat) (SV.int IntKind.u8 true (0 : Int)).cells) (0 : Nat)
                                                                                            (SV.int IntKind.u8 true (129 : Int)).cells)
                                                                                          (1 : Nat) (SV.int IntKind.u8 true (5 : Int)).cells)
                                                                                        (2 : Nat) (5 : Nat)) ::
                                                                                    ((1 : Nat),
                                                                                        SB.rows true (2 : Nat)
                                                                                          [Col.str
                                                                                              (itemAt
                                                                                                (cutIn
                                                                                                  (headOf (192 : Int) (2 : Nat) ++
                                                                                                    flat [textOf [(97 : UInt8)], headOf (192 : Int) (0 : Nat) ++ flat []])))]
                                                                                          false x (9 : TypeId)) ::
                                                                                      older (1 : Nat)
                                                                                        (((0 : Nat),
                                                                                            SB.cells
                                                                                              (setRange
                                                                                                (setRange (times (2 : Nat) (SV.str true []).cells) (0 : Nat)
                                                                                                  (lit (SV.str false (textOf [(97 : UInt8)]))).cells)
                                                                                                (1 : Nat) (SV.str true (headOf (192 : Int) (0 : Nat) ++ flat [])).cells)
                                                                                              (2 : Nat) (9 : Nat)) ::
                                                                                          older (0 : Nat) [])))))))))) ∧
                                        (((0 : Int) ≤ (1024 : Int) ∧ (1024 : Int) < (18446744073709551616 : Int)) ∧
                                            (decide ((2 : Int) = (2 : Int)) = true →
                                                (True ∧ (0 : Nat) ≤ (140737488355328 : Nat) ∧ (0 : Nat) ≤ (140737488355328 : Nat)) ∧
                                                  (((0 : Int) ≤ (192 : Int) ∧ (192 : Int) ≤ (192 : Int)) ∧ (0 : Int) ≤ (0 : Int) ∧ (0 : Int) < (1152921504606846976 : Int)) ∧
                                                    (((1 : Nat) = (1 : Nat) ∧ (1 : Nat) ≤ (1 : Nat)) ∧ (1 : Nat) ≤ (140737488355328 : Nat) ∧ (1 : Nat) ≤ (140737488355328 : Nat)) ∧
                                                      (((0 : Int) ≤ (192 : Int) ∧ (192 : Int) ≤ (192 : Int)) ∧ (0 : Int) ≤ (1 : Int) ∧ (1 : Int) < (1152921504606846976 : Int)) ∧
                                                        (2 : Nat) < (1152921504606846976 : Nat) ∧
                                                          ∀ (R : Loop),
                                                            (1 : Nat) < (1152921504606846976 : Nat) ∧
                                                              R = R ∧
                                                                (1 : Nat) < (1152921504606846976 : Nat) ∧
                                                                  ∀ (R : Loop),
                                                                    (0 : Nat) < (1152921504606846976 : Nat) ∧
                                                                      ∀ (x : Int), sameVal (SV.bool (true && true) (decide ((9 : Int) = (9 : Int)))) (SV.bool false true)) ∧
                                              (decide ((2 : Int) = (2 : Int)) = false → sameVal (SV.bool true false) (SV.bool false true))) ∧
                                          ((0 : Int) ≤ (1024 : Int) ∧ (1024 : Int) < (18446744073709551616 : Int)) ∧
                                            Mem.get ((2 : Nat) + (1 : Nat) + (1 : Nat) + (1 : Nat))
                                                  (((2 : Nat) + (1 : Nat) + (1 : Nat) + (1 : Nat),
                                                      SB.cells
                                                        (setRange
                                                          (setRange (setRange (times (3 : Nat) (SV.int IntKind.u8 true (0 : Int)).cells) (0 : Nat) (SV.int IntKind.u8 true (130 : Int)).cells) (1 : Nat)
                                                            (SV.int IntKind.u8 true (4 : Int)).cells)
                                                          (2 : Nat) (SV.int IntKind.u8 true (0 : Int)).cells)
                                                        (3 : Nat) (5 : Nat)) ::
                                                    older ((2 : Nat) + (1 : Nat) + (1 : Nat) + (1 : Nat))
                                                      (((2 : Nat) + (1 : Nat) + (1 : Nat),
                                                          SB.cells (setRange (times (1 : Nat) (SV.int IntKind.u8 true (0 : Int)).cells) (0 : Nat) (SV.int IntKind.u8 true (192 : Int)).cells) (1 : Nat)
                                                            (5 : Nat)) ::
                                                        ((2 : Nat) + (1 : Nat),
                                                            SB.cells
                                                              (setRange
                                                                (setRange
                                                                  (setRange (setRange (times (4 : Nat) (SV.int IntKind.u8 true (0 : Int)).cells) (0 : Nat) (SV.int IntKind.u8 true (131 : Int)).cells)
                                                                    (1 : Nat) (SV.int IntKind.u8 true (100 : Int)).cells)
                                                                  (2 : Nat) (SV.int IntKind.u8 true (111 : Int)).cells)
                                                                (3 : Nat) (SV.int IntKind.u8 true (103 : Int)).cells)
                                                              (4 : Nat) (5 : Nat)) ::
                                                          older ((2 : Nat) + (1 : Nat))
                                                            (older ((2 : Nat) + (1 : Nat) + (1 : Nat) + (1 : Nat))
                                                              (older ((2 : Nat) + (1 : Nat) + (1 : Nat) + (1 : Nat) + (1 : Nat) + (1 : Nat))
                                                                (Mem.put ((2 : Nat) + (1 : Nat) + (1 : Nat))
                                                                  (SB.cells (setRange (SV.int IntKind.i64 true (0 : Int)).cells (0 : Nat) (SV.int IntKind.i64 true (9 : Int)).cells) (1 : Nat)
                                                                    (24 : Nat))
                                                                  (((2 : Nat) + (1 : Nat) + (1 : Nat) + (1 : Nat) + (1 : Nat) + (1 : Nat) + (1 : Nat),
                                                                      SB.cells (SV.int IntKind.i64 true (9 : Int)).cells (1 : Nat) (24 : Nat)) ::
                                                                    ((2 : Nat) + (1 : Nat) + (1 : Nat) + (1 : Nat) + (1 : Nat) + (1 : Nat),
                                                                        SB.cells
                                                                          (SV.agg
                                                                              [hd (60 : Nat), SV.ptr ((2 : Nat) + (1 : Nat) + (1 : Nat) + (1 : Nat)) true (0 : Nat),
                                                                                SV.int IntKind.u64 true (150 : Int)]).cells
                                                                          (3 : Nat) (82 : Nat)) ::
                                                                      Mem.put ((2 : Nat) + (1 : Nat) + (1 : Nat) + (1 : Nat) + (1 : Nat))
                                                                        (SB.cells
                                                                          (setRange (SV.agg [SV.nilptr, SV.nilptr, SV.int IntKind.u64 true (0 : Int)]).cells (0 : Nat)
                                                                            (SV.agg
                                                                                [hd (60 : Nat), SV.ptr ((2 : Nat) + (1 : Nat) + (1 : Nat) + (1 : Nat)) true (0 : Nat),
                                                                                  SV.int IntKind.u64 true (150 : Int)]).cells)
                                                                          (3 : Nat) (82 : Nat))
                                                                        (((2 : Nat) + (1 : Nat) + (1 : Nat) + (1 : Nat) + (1 : Nat),
                                                                            SB.cells (SV.agg [SV.nilptr, SV.nilptr, SV.int IntKind.u64 true (0 : Int)]).cells (3 : Nat) (82 : Nat)) ::
                                                                          ((2 : Nat) + (1 : Nat) + (1 : Nat) + (1 : Nat),
                                                                              SB.cells (SV.ptr ((2 : Nat) + (1 : Nat) + (1 : Nat)) true (0 : Nat)).cells (1 : Nat) (60 : Nat)) ::
                                                                            ((2 : Nat) + (1 : Nat) + (1 : Nat), SB.cells (SV.int IntKind.i64 true (0 : Int)).cells (1 : Nat) (24 : Nat)) ::
                                                                              older ((2 : Nat) + (1 : Nat) + (1 : Nat))
                                                                                (older ((2 : Nat) + (1 : Nat) + (1 : Nat) + (1 : Nat) + (1 : Nat))
                                                                                  (((2 : Nat) + (1 : Nat) + (1 : Nat) + (1 : Nat) + (1 : Nat),
                                                                                      SB.cells
                                                                                        (SV.agg
                                                                                            [hd (58 : Nat), SV.ptr ((2 : Nat) + (1 : Nat) + (1 : Nat)) true (0 : Nat),
                                                                                              SV.int IntKind.u64 true (150 : Int)]).cells
                                                                                        (3 : Nat) (82 : Nat)) ::
                                                                                    Mem.put ((2 : Nat) + (1 : Nat) + (1 : Nat) + (1 : Nat))
                                                                                      (SB.cells
                                                                                        (setRange (SV.agg [SV.nilptr, SV.nilptr, SV.int IntKind.u64 true (0 : Int)]).cells (0 : Nat)
                                                                                          (SV.agg
                                                                                              [hd (58 : Nat), SV.ptr ((2 : Nat) + (1 : Nat) + (1 : Nat)) true (0 : Nat),
                                                                                                SV.int IntKind.u64 true (150 : Int)]).cells)
                                                                                        (3 : Nat) (82 : Nat))
                                                                                      (((2 : Nat) + (1 : Nat) + (1 : Nat) + (1 : Nat),
                                                                                          SB.cells (SV.agg [SV.nilptr, SV.nilptr, SV.int IntKind.u64 true (0 : Int)]).cells (3 : Nat) (82 : Nat)) ::
                                                                                        ((2 : Nat) + (1 : Nat) + (1 : Nat),
                                                                                            SB.cells (SV.ptr ((2 : Nat) + (1 : Nat)) true (0 : Nat)).cells (1 : Nat) (58 : Nat)) ::
                                                                                          ((2 : Nat) + (1 : Nat), SB.cells SV.niliface.cells (1 : Nat) (56 : Nat)) ::
                                                                                            ((2 : Nat),
                                                                                                SB.cells
                                                                                                  (setRange
                                                                                                    (setRange (times (2 : Nat) (SV.int IntKind.u8 true (0 : Int)).cells) (0 : Nat)
                                                                                                      (SV.int IntKind.u8 true (129 : Int)).cells)
                                                                                                    (1 : Nat) (SV.int IntKind.u8 true (5 : Int)).cells)
                                                                                                  (2 : Nat) (5 : Nat)) ::
                                                                                              ((1 : Nat),
                                                                                                  SB.rows true (2 : Nat)
                                                                                                    [Col.str
                                                                                                        (itemAt
                                                                                                          (cutIn
                                                                                                            (headOf (192 : Int) (2 : Nat) ++
                                                                                                              flat [textOf [(97 : UInt8)], headOf (192 : Int) (0 : Nat) ++ flat []])))]
                                                                                                    false x (9 : TypeId)) ::
                                                                                                older (1 : Nat)
                                                                                                  (((0 : Nat),
                                                                                                      SB.cells
                                                                                                        (setRange
                                                                                                          (setRange (times (2 : Nat) (SV.str true []).cells) (0 : Nat)
                                                                                                            (lit (SV.str false (textOf [(97 : UInt8)]))).cells)
                                                                                                          (1 : Nat) (SV.str true (headOf (192 : Int) (0 : Nat) ++ flat [])).cells)
                                                                                                        (2 : Nat) (9 : Nat)) ::
                                                                                                    older (0 : Nat) []))))))))))) =
                                                Mem.get ((2 : Nat) + (1 : Nat) + (1 : Nat) + (1 : Nat))
                                                  (((2 : Nat) + (1 : Nat) + (1 : Nat) + (1 : Nat),
                                                      SB.cells
                                                        (setRange
                                                          (setRange (setRange (times (3 : Nat) (SV.int IntKind.u8 true (0 : Int)).cells) (0 : Nat) (SV.int IntKind.u8 true (130 : Int)).cells) (1 : Nat)
                                                            (SV.int IntKind.u8 true (4 : Int)).cells)
                                                          (2 : Nat) (SV.int IntKind.u8 true (0 : Int)).cells)
                                                        (3 : Nat) (5 : Nat)) ::
                                                    older ((2 : Nat) + (1 : Nat) + (1 : Nat) + (1 : Nat))
                                                      (((2 : Nat) + (1 : Nat) + (1 : Nat),
                                                          SB.cells (setRange (times (1 : Nat) (SV.int IntKind.u8 true (0 : Int)).cells) (0 : Nat) (SV.int IntKind.u8 true (192 : Int)).cells) (1 : Nat)
                                                            (5 : Nat)) ::
                                                        ((2 : Nat) + (1 : Nat),
                                                            SB.cells
                                                              (setRange
                                                                (setRange
                                                                  (setRange (setRange (times (4 : Nat) (SV.int IntKind.u8 true (0 : Int)).cells) (0 : Nat) (SV.int IntKind.u8 true (131 : Int)).cells)
                                                                    (1 : Nat) (SV.int IntKind.u8 true (100 : Int)).cells)
                                                                  (2 : Nat) (SV.int IntKind.u8 true (111 : Int)).cells)
                                                                (3 : Nat) (SV.int IntKind.u8 true (103 : Int)).cells)
                                                              (4 : Nat) (5 : Nat)) ::
                                                          older ((2 : Nat) + (1 : Nat))
                                                            (older ((2 : Nat) + (1 : Nat) + (1 : Nat) + (1 : Nat))
                                                              (older ((2 : Nat) + (1 : Nat) + (1 : Nat) + (1 : Nat) + (1 : Nat) + (1 : Nat))
                                                                (Mem.put ((2 : Nat) + (1 : Nat) + (1 : Nat))
                                                                  (SB.cells (setRange (SV.int IntKind.i64 true (0 : Int)).cells (0 : Nat) (SV.int IntKind.i64 true (9 : Int)).cells) (1 : Nat)
                                                                    (24 : Nat))
                                                                  (((2 : Nat) + (1 : Nat) + (1 : Nat) + (1 : Nat) + (1 : Nat) + (1 : Nat) + (1 : Nat),
                                                                      SB.cells (SV.int IntKind.i64 true (9 : Int)).cells (1 : Nat) (24 : Nat)) ::
                                                                    ((2 : Nat) + (1 : Nat) + (1 : Nat) + (1 : Nat) + (1 : Nat) + (1 : Nat),
                                                                        SB.cells
                                                                          (SV.agg
                                                                              [hd (60 : Nat), SV.ptr ((2 : Nat) + (1 : Nat) + (1 : Nat) + (1 : Nat)) true (0 : Nat),
                                                                                SV.int IntKind.u64 true (150 : Int)]).cells
                                                                          (3 : Nat) (82 : Nat)) ::
                                                                      Mem.put ((2 : Nat) + (1 : Nat) + (1 : Nat) + (1 : Nat) + (1 : Nat))
                                                                        (SB.cells
                                                                          (setRange (SV.agg [SV.nilptr, SV.nilptr, SV.int IntKind.u64 true (0 : Int)]).cells (0 : Nat)
                                                                            (SV.agg
                                                                                [hd (60 : Nat), SV.ptr ((2 : Nat) + (1 : Nat) + (1 : Nat) + (1 : Nat)) true (0 : Nat),
                                                                                  SV.int IntKind.u64 true (150 : Int)]).cells)
                                                                          (3 : Nat) (82 : Nat))
                                                                        (((2 : Nat) + (1 : Nat) + (1 : Nat) + (1 : Nat) + (1 : Nat),
                                                                            SB.cells (SV.agg [SV.nilptr, SV.nilptr, SV.int IntKind.u64 true (0 : Int)]).cells (3 : Nat) (82 : Nat)) ::
                                                                          ((2 : Nat) + (1 : Nat) + (1 : Nat) + (1 : Nat),
                                                                              SB.cells (SV.ptr ((2 : Nat) + (1 : Nat) + (1 : Nat)) true (0 : Nat)).cells (1 : Nat) (60 : Nat)) ::
                                                                            ((2 : Nat) + (1 : Nat) + (1 : Nat), SB.cells (SV.int IntKind.i64 true (0 : Int)).cells (1 : Nat) (24 : Nat)) ::
                                                                              older ((2 : Nat) + (1 : Nat) + (1 : Nat))
                                                                                (older ((2 : Nat) + (1 : Nat) + (1 : Nat) + (1 : Nat) + (1 : Nat))
                                                                                  (((2 : Nat) + (1 : Nat) + (1 : Nat) + (1 : Nat) + (1 : Nat),
                                                                                      SB.cells
                                                                                        (SV.agg
                                                                                            [hd (58 : Nat), SV.ptr ((2 : Nat) + (1 : Nat) + (1 : Nat)) true (0 : Nat),
                                                                                              SV.int IntKind.u64 true (150 : Int)]).cells
                                                                                        (3 : Nat) (82 : Nat)) ::
                                                                                    Mem.put ((2 : Nat) + (1 : Nat) + (1 : Nat) + (1 : Nat))
                                                                                      (SB.cells
                                                                                        (setRange (SV.agg [SV.nilptr, SV.nilptr, SV.int IntKind.u64 true (0 : Int)]).cells (0 : Nat)
                                                                                          (SV.agg
                                                                                              [hd (58 : Nat), SV.ptr ((2 : Nat) + (1 : Nat) + (1 : Nat)) true (0 : Nat),
                                                                                                SV.int IntKind.u64 true (150 : Int)]).cells)
                                                                                        (3 : Nat) (82 : Nat))
                                                                                      (((2 : Nat) + (1 : Nat) + (1 : Nat) + (1 : Nat),
                                                                                          SB.cells (SV.agg [SV.nilptr, SV.nilptr, SV.int IntKind.u64 true (0 : Int)]).cells (3 : Nat) (82 : Nat)) ::
                                                                                        ((2 : Nat) + (1 : Nat) + (1 : Nat),
                                                                                            SB.cells (SV.ptr ((2 : Nat) + (1 : Nat)) true (0 : Nat)).cells (1 : Nat) (58 : Nat)) ::
                                                                                          ((2 : Nat) + (1 : Nat), SB.cells SV.niliface.cells (1 : Nat) (56 : Nat)) ::
                                                                                            ((2 : Nat),
                                                                                                SB.cells
                                                                                                  (setRange
                                                                                                    (setRange (times (2 : Nat) (SV.int IntKind.u8 true (0 : Int)).cells) (0 : Nat)
                                                                                                      (SV.int IntKind.u8 true (129 : Int)).cells)
                                                                                                    (1 : Nat) (SV.int IntKind.u8 true (5 : Int)).cells)
                                                                                                  (2 : Nat) (5 : Nat)) ::
                                                                                              ((1 : Nat),
                                                                                                  SB.rows true (2 : Nat)
                                                                                                    [Col.str
                                                                                                        (itemAt
                                                                                                          (cutIn
                                                                                                            (headOf (192 : Int) (2 : Nat) ++
                                                                                                              flat [textOf [(97 : UInt8)], headOf (192 : Int) (0 : Nat) ++ flat []])))]
                                                                                                    false x (9 : TypeId)) ::
                                                                                                older (1 : Nat)
                                                                                                  (((0 : Nat),
                                                                                                      SB.cells
                                                                                                        (setRange
                                                                                                          (setRange (times (2 : Nat) (SV.str true []).cells) (0 : Nat)
                                                                                                            (lit (SV.str false (textOf [(97 : UInt8)]))).cells)
                                                                                                          (1 : Nat) (SV.str true (headOf (192 : Int) (0 : Nat) ++ flat [])).cells)
                                                                                                        (2 : Nat) (9 : Nat)) ::
                                                                                                    older (0 : Nat) []))))))))))) ∧
                                              (decide ((2 : Int) = (2 : Int)) = true →
                                                  (True ∧ (0 : Nat) ≤ (140737488355328 : Nat) ∧ (0 : Nat) ≤ (140737488355328 : Nat)) ∧
                                                    (((0 : Int) ≤ (192 : Int) ∧ (192 : Int) ≤ (192 : Int)) ∧ (0 : Int) ≤ (0 : Int) ∧ (0 : Int) < (1152921504606846976 : Int)) ∧
                                                      (((1 : Nat) = (1 : Nat) ∧ (1 : Nat) ≤ (1 : Nat)) ∧ (1 : Nat) ≤ (140737488355328 : Nat) ∧ (1 : Nat) ≤ (140737488355328 : Nat)) ∧
                                                        (((0 : Int) ≤ (192 : Int) ∧ (192 : Int) ≤ (192 : Int)) ∧ (0 : Int) ≤ (1 : Int) ∧ (1 : Int) < (1152921504606846976 : Int)) ∧
                                                          (2 : Nat) < (1152921504606846976 : Nat) ∧
                                                            ∀ (R : Loop),
                                                              (1 : Nat) < (1152921504606846976 : Nat) ∧
                                                                R = R ∧
                                                                  (1 : Nat) < (1152921504606846976 : Nat) ∧
                                                                    ∀ (R : Loop),
                                                                      (0 : Nat) < (1152921504606846976 : Nat) ∧
                                                                        ∀ (x : Int), sameVal (SV.bool (true && true) (decide ((9 : Int) = (9 : Int)))) (SV.bool false true)) ∧
                                                (decide ((2 : Int) = (2 : Int)) = false → sameVal (SV.bool true false) (SV.bool false true))) ∧
                              (3 : Nat) < (1152921504606846976 : Nat) ∧
                                Mem.get ((2 : Nat) + (1 : Nat))
                                      (((2 : Nat) + (1 : Nat),
                                          SB.cells
                                            (setRange
                                              (setRange
                                                (setRange (setRange (times (4 : Nat) (SV.int IntKind.u8 true (0 : Int)).cells) (0 : Nat) (SV.int IntKind.u8 true (131 : Int)).cells) (1 : Nat)
                                                  (SV.int IntKind.u8 true (100 : Int)).cells)
                                                (2 : Nat) (SV.int IntKind.u8 true (111 : Int)).cells)
                                              (3 : Nat) (SV.int IntKind.u8 true (103 : Int)).cells)
                                            (4 : Nat) (5 : Nat)) ::
                                        older ((2 : Nat) + (1 : Nat))
                                          (older ((2 : Nat) + (1 : Nat) + (1 : Nat) + (1 : Nat))
                                            (older ((2 : Nat) + (1 : Nat) + (1 : Nat) + (1 : Nat) + (1 : Nat) + (1 : Nat))
                                              (Mem.put ((2 : Nat) + (1 : Nat) + (1 : Nat))
                                                (SB.cells (setRange (SV.int IntKind.i64 true (0 : Int)).cells (0 : Nat) (SV.int IntKind.i64 true (9 : Int)).cells) (1 : Nat) (24 : Nat))
                                                (((2 : Nat) + (1 : Nat) + (1 : Nat) + (1 : Nat) + (1 : Nat) + (1 : Nat) + (1 : Nat),
                                                    SB.cells (SV.int IntKind.i64 true (9 : Int)).cells (1 : Nat) (24 : Nat)) ::
                                                  ((2 : Nat) + (1 : Nat) + (1 : Nat) + (1 : Nat) + (1 : Nat) + (1 : Nat),
                                                      SB.cells
                                                        (SV.agg [hd (60 : Nat), SV.ptr ((2 : Nat) + (1 : Nat) + (1 : Nat) + (1 : Nat)) true (0 : Nat), SV.int IntKind.u64 true (150 : Int)]).cells
                                                        (3 : Nat) (82 : Nat)) ::
                                                    Mem.put ((2 : Nat) + (1 : Nat) + (1 : Nat) + (1 : Nat) + (1 : Nat))
                                                      (SB.cells
                                                        (setRange (SV.agg [SV.nilptr, SV.nilptr, SV.int IntKind.u64 true (0 : Int)]).cells (0 : Nat)
                                                          (SV.agg [hd (60 : Nat), SV.ptr ((2 : Nat) + (1 : Nat) + (1 : Nat) + (1 : Nat)) true (0 : Nat), SV.int IntKind.u64 true (150 : Int)]).cells)
                                                        (3 : Nat) (82 : Nat))
                                                      (((2 : Nat) + (1 : Nat) + (1 : Nat) + (1 : Nat) + (1 : Nat),
                                                          SB.cells (SV.agg [SV.nilptr, SV.nilptr, SV.int IntKind.u64 true (0 : Int)]).cells (3 : Nat) (82 : Nat)) ::
                                                        ((2 : Nat) + (1 : Nat) + (1 : Nat) + (1 : Nat),
                                                            SB.cells (SV.ptr ((2 : Nat) + (1 : Nat) + (1 : Nat)) true (0 : Nat)).cells (1 : Nat) (60 : Nat)) ::
                                                          ((2 : Nat) + (1 : Nat) + (1 : Nat), SB.cells (SV.int IntKind.i64 true (0 : Int)).cells (1 : Nat) (24 : Nat)) ::
                                                            older ((2 : Nat) + (1 : Nat) + (1 : Nat))
                                                              (older ((2 : Nat) + (1 : Nat) + (1 : Nat) + (1 : Nat) + (1 : Nat))
                                                                (((2 : Nat) + (1 : Nat) + (1 : Nat) + (1 : Nat) + (1 : Nat),
                                                                    SB.cells
                                                                      (SV.agg [hd (58 : Nat), SV.ptr ((2 : Nat) + (1 : Nat) + (1 : Nat)) true (0 : Nat), SV.int IntKind.u64 true (150 : Int)]).cells
                                                                      (3 : Nat) (82 : Nat)) ::
                                                                  Mem.put ((2 : Nat) + (1 : Nat) + (1 : Nat) + (1 : Nat))
                                                                    (SB.cells
                                                                      (setRange (SV.agg [SV.nilptr, SV.nilptr, SV.int IntKind.u64 true (0 : Int)]).cells (0 : Nat)
                                                                        (SV.agg [hd (58 : Nat), SV.ptr ((2 : Nat) + (1 : Nat) + (1 : Nat)) true (0 : Nat), SV.int IntKind.u64 true (150 : Int)]).cells)
                                                                      (3 : Nat) (82 : Nat))
                                                                    (((2 : Nat) + (1 : Nat) + (1 : Nat) + (1 : Nat),
                                                                        SB.cells (SV.agg [SV.nilptr, SV.nilptr, SV.int IntKind.u64 true (0 : Int)]).cells (3 : Nat) (82 : Nat)) ::
                                                                      ((2 : Nat) + (1 : Nat) + (1 : Nat), SB.cells (SV.ptr ((2 : Nat) + (1 : Nat)) true (0 : Nat)).cells (1 : Nat) (58 : Nat)) ::
                                                                        ((2 : Nat) + (1 : Nat), SB.cells SV.niliface.cells (1 : Nat) (56 : Nat)) ::
                                                                          ((2 : Nat),
                                                                              SB.cells
                                                                                (setRange
                                                                                  (setRange (times (2 : Nat) (SV.int IntKind.u8 true (0 : Int)).cells) (0 : Nat)
                                                                                    (SV.int IntKind.u8 true (129 : Int)).cells)
                                                                                  (1 : Nat) (SV.int IntKind.u8 true (5 : Int)).cells)
                                                                                (2 : Nat) (5 : Nat)) ::
                                                                            ((1 : Nat),
                                                                                SB.rows true (2 : Nat)
                                                                                  [Col.str
                                                                                      (itemAt
                                                                                        (cutIn
                                                                                          (headOf (192 : Int) (2 : Nat) ++ flat [textOf [(97 : UInt8)], headOf (192 : Int) (0 : Nat) ++ flat []])))]
                                                                                  false x (9 : TypeId)) ::
                                                                              older (1 : Nat)
                                                                                (((0 : Nat),
                                                                                    SB.cells
                                                                                      (setRange
                                                                                        (setRange (times (2 : Nat) (SV.str true []).cells) (0 : Nat) (lit (SV.str false (textOf [(97 : UInt8)]))).cells)
                                                                                        (1 : Nat) (SV.str true (headOf (192 : Int) (0 : Nat) ++ flat [])).cells)
                                                                                      (2 : Nat) (9 : Nat)) ::
                                                                                  older (0 : Nat) [])))))))))) =
                                    Mem.get ((2 : Nat) + (1 : Nat))
                                      (((2 : Nat) + (1 : Nat),
                                          SB.cells
                                            (setRange
                                              (setRange
                                                (setRange (setRange (times (4 : Nat) (SV.int IntKind.u8 true (0 : Int)).cells) (0 : Nat) (SV.int IntKind.u8 true (131 : Int)).cells) (1 : Nat)
                                                  (SV.int IntKind.u8 true (100 : Int)).cells)
                                                (2 : Nat) (SV.int IntKind.u8 true (111 : Int)).cells)
                                              (3 : Nat) (SV.int IntKind.u8 true (103 : Int)).cells)
                                            (4 : Nat) (5 : Nat)) ::
                                        older ((2 : Nat) + (1 : Nat))
                                          (older ((2 : Nat) + (1 : Nat) + (1 : Nat) + (1 : Nat))
                                            (older ((2 : Nat) + (1 : Nat) + (1 : Nat) + (1 : Nat) + (1 : Nat) + (1 : Nat))
                                              (Mem.put ((2 : Nat) + (1 : Nat) + (1 : Nat))
                                                (SB.cells (setRange (SV.int IntKind.i64 true (0 : Int)).cells (0 : Nat) (SV.int IntKind.i64 true (9 : Int)).cells) (1 : Nat) (24 : Nat))
                                                (((2 : Nat) + (1 : Nat) + (1 : Nat) + (1 : Nat) + (1 : Nat) + (1 : Nat) + (1 : Nat),
                                                    SB.cells (SV.int IntKind.i64 true (9 : Int)).cells (1 : Nat) (24 : Nat)) ::
                                                  ((2 : Nat) + (1 : Nat) + (1 : Nat) + (1 : Nat) + (1 : Nat) + (1 : Nat),
                                                      SB.cells
                                                        (SV.agg [hd (60 : Nat), SV.ptr ((2 : Nat) + (1 : Nat) + (1 : Nat) + (1 : Nat)) true (0 : Nat), SV.int IntKind.u64 true (150 : Int)]).cells
                                                        (3 : Nat) (82 : Nat)) ::
                                                    Mem.put ((2 : Nat) + (1 : Nat) + (1 : Nat) + (1 : Nat) + (1 : Nat))
                                                      (SB.cells
                                                        (setRange (SV.agg [SV.nilptr, SV.nilptr, SV.int IntKind.u64 true (0 : Int)]).cells (0 : Nat)
                                                          (SV.agg [hd (60 : Nat), SV.ptr ((2 : Nat) + (1 : Nat) + (1 : Nat) + (1 : Nat)) true (0 : Nat), SV.int IntKind.u64 true (150 : Int)]).cells)
                                                        (3 : Nat) (82 : Nat))
                                                      (((2 : Nat) + (1 : Nat) + (1 : Nat) + (1 : Nat) + (1 : Nat),
                                                          SB.cells (SV.agg [SV.nilptr, SV.nilptr, SV.int IntKind.u64 true (0 : Int)]).cells (3 : Nat) (82 : Nat)) ::
                                                        ((2 : Nat) + (1 : Nat) + (1 : Nat) + (1 : Nat),
                                                            SB.cells (SV.ptr ((2 : Nat) + (1 : Nat) + (1 : Nat)) true (0 : Nat)).cells (1 : Nat) (60 : Nat)) ::
                                                          ((2 : Nat) + (1 : Nat) + (1 : Nat), SB.cells (SV.int IntKind.i64 true (0 : Int)).cells (1 : Nat) (24 : Nat)) ::
                                                            older ((2 : Nat) + (1 : Nat) + (1 : Nat))
                                                              (older ((2 : Nat) + (1 : Nat) + (1 : Nat) + (1 : Nat) + (1 : Nat))
                                                                (((2 : Nat) + (1 : Nat) + (1 : Nat) + (1 : Nat) + (1 : Nat),
                                                                    SB.cells
                                                                      (SV.agg [hd (58 : Nat), SV.ptr ((2 : Nat) + (1 : Nat) + (1 : Nat)) true (0 : Nat), SV.int IntKind.u64 true (150 : Int)]).cells
                                                                      (3 : Nat) (82 : Nat)) ::
                                                                  Mem.put ((2 : Nat) + (1 : Nat) + (1 : Nat) + (1 : Nat))
                                                                    (SB.cells
                                                                      (setRange (SV.agg [SV.nilptr, SV.nilptr, SV.int IntKind.u64 true (0 : Int)]).cells (0 : Nat)
                                                                        (SV.agg [hd (58 : Nat), SV.ptr ((2 : Nat) + (1 : Nat) + (1 : Nat)) true (0 : Nat), SV.int IntKind.u64 true (150 : Int)]).cells)
                                                                      (3 : Nat) (82 : Nat))
                                                                    (((2 : Nat) + (1 : Nat) + (1 : Nat) + (1 : Nat),
                                                                        SB.cells (SV.agg [SV.nilptr, SV.nilptr, SV.int IntKind.u64 true (0 : Int)]).cells (3 : Nat) (82 : Nat)) ::
                                                                      ((2 : Nat) + (1 : Nat) + (1 : Nat), SB.cells (SV.ptr ((2 : Nat) + (1 : Nat)) true (0 : Nat)).cells (1 : Nat) (58 : Nat)) ::
                                                                        ((2 : Nat) + (1 : Nat), SB.cells SV.niliface.cells (1 : Nat) (56 : Nat)) ::
                                                                          ((2 : Nat),
                                                                              SB.cells
                                                                                (setRange
                                                                                  (setRange (times (2 : Nat) (SV.int IntKind.u8 true (0 : Int)).cells) (0 : Nat)
                                                                                    (SV.int IntKind.u8 true (129 : Int)).cells)
                                                                                  (1 : Nat) (SV.int IntKind.u8 true (5 : Int)).cells)
                                                                                (2 : Nat) (5 : Nat)) ::
                                                                            ((1 : Nat),
                                                                                SB.rows true (2 : Nat)
                                                                                  [Col.str
                                                                                      (itemAt
                                                                                        (cutIn
                                                                                          (headOf (192 : Int) (2 : Nat) ++ flat [textOf [(97 : UInt8)], headOf (192 : Int) (0 : Nat) ++ flat []])))]
                                                                                  false x (9 : TypeId)) ::
                                                                              older (1 : Nat)
                                                                                (((0 : Nat),
                                                                                    SB.cells
                                                                                      (setRange
                                                                                        (setRange (times (2 : Nat) (SV.str true []).cells) (0 : Nat) (lit (SV.str false (textOf [(97 : UInt8)]))).cells)
                                                                                        (1 : Nat) (SV.str true (headOf (192 : Int) (0 : Nat) ++ flat [])).cells)
                                                                                      (2 : Nat) (9 : Nat)) ::
                                                                                  older (0 : Nat) [])))))))))) ∧
                                  ((True ∧ (0 : Nat) ≤ (140737488355328 : Nat) ∧ (0 : Nat) ≤ (140737488355328 : Nat)) ∧
                                      (((0 : Int) ≤ (192 : Int) ∧ (192 : Int) ≤ (192 : Int)) ∧ (0 : Int) ≤ (0 : Int) ∧ (0 : Int) < (1152921504606846976 : Int)) ∧
                                        (((0 : Int) ≤ (1024 : Int) ∧ (1024 : Int) < (18446744073709551616 : Int)) ∧
                                            (decide ((2 : Int) = (2 : Int)) = true →
                                                (True ∧ (0 : Nat) ≤ (140737488355328 : Nat) ∧ (0 : Nat) ≤ (140737488355328 : Nat)) ∧
                                                  (((0 : Int) ≤ (192 : Int) ∧ (192 : Int) ≤ (192 : Int)) ∧ (0 : Int) ≤ (0 : Int) ∧ (0 : Int) < (1152921504606846976 : Int)) ∧
                                                    (((1 : Nat) = (1 : Nat) ∧ (1 : Nat) ≤ (1 : Nat)) ∧ (1 : Nat) ≤ (140737488355328 : Nat) ∧ (1 : Nat) ≤ (140737488355328 : Nat)) ∧
                                                      (((0 : Int) ≤ (192 : Int) ∧ (192 : Int) ≤ (192 : Int)) ∧ (0 : Int) ≤ (1 : Int) ∧ (1 : Int) < (1152921504606846976 : Int)) ∧
                                                        (2 : Nat) < (1152921504606846976 : Nat) ∧
                                                          ∀ (R : Loop),
                                                            (1 : Nat) < (1152921504606846976 : Nat) ∧
                                                              R = R ∧
                                                                (1 : Nat) < (1152921504606846976 : Nat) ∧
                                                                  ∀ (R : Loop),
                                                                    (0 : Nat) < (1152921504606846976 : Nat) ∧
                                                                      ∀ (x : Int), sameVal (SV.bool (true && true) (decide ((9 : Int) = (9 : Int)))) (SV.bool false true)) ∧
                                              (decide ((2 : Int) = (2 : Int)) = false → sameVal (SV.bool true false) (SV.bool false true))) ∧
                                          ((0 : Int) ≤ (1024 : Int) ∧ (1024 : Int) < (18446744073709551616 : Int)) ∧
                                            Mem.get ((2 : Nat) + (1 : Nat) + (1 : Nat) + (1 : Nat))
                                                  (((2 : Nat) + (1 : Nat) + (1 : Nat) + (1 : Nat),
                                                      SB.cells
                                                        (setRange
                                                          (setRange (setRange (times (3 : Nat) (SV.int IntKind.u8 true (0 : Int)).cells) (0 : Nat) (SV.int IntKind.u8 true (130 : Int)).cells) (1 : Nat)
                                                            (SV.int IntKind.u8 true (4 : Int)).cells)
                                                          (2 : Nat) (SV.int IntKind.u8 true (0 : Int)).cells)
                                                        (3 : Nat) (5 : Nat)) ::
                                                    ((2 : Nat) + (1 : Nat) + (1 : Nat),
                                                        SB.cells (setRange (times (1 : Nat) (SV.int IntKind.u8 true (0 : Int)).cells) (0 : Nat) (SV.int IntKind.u8 true (192 : Int)).cells) (1 : Nat)
                                                          (5 : Nat)) ::
                                                      older ((2 : Nat) + (1 : Nat) + (1 : Nat))
                                                        (((2 : Nat) + (1 : Nat),
                                                            SB.cells
                                                              (setRange
                                                                (setRange
                                                                  (setRange (setRange (times (4 : Nat) (SV.int IntKind.u8 true (0 : Int)).cells) (0 : Nat) (SV.int IntKind.u8 true (131 : Int)).cells)
                                                                    (1 : Nat) (SV.int IntKind.u8 true (100 : Int)).cells)
                                                                  (2 : Nat) (SV.int IntKind.u8 true (111 : Int)).cells)
                                                                (3 : Nat) (SV.int IntKind.u8 true (103 : Int)).cells)
                                                              (4 : Nat) (5 : Nat)) ::
                                                          older ((2 : Nat) + (1 : Nat))
                                                            (older ((2 : Nat) + (1 : Nat) + (1 : Nat) + (1 : Nat))
                                                              (older ((2 : Nat) + (1 : Nat) + (1 : Nat) + (1 : Nat) + (1 : Nat) + (1 : Nat))
                                                                (Mem.put ((2 : Nat) + (1 : Nat) + (1 : Nat))
                                                                  (SB.cells (setRange (SV.int IntKind.i64 true (0 : Int)).cells (0 : Nat) (SV.int IntKind.i64 true (9 : Int)).cells) (1 : Nat)
                                                                    (24 : Nat))
                                                                  (((2 : Nat) + (1 : Nat) + (1 : Nat) + (1 : Nat) + (1 : Nat) + (1 : Nat) + (1 : Nat),
                                                                      SB.cells (SV.int IntKind.i64 true (9 : Int)).cells (1 : Nat) (24 : Nat)) ::
                                                                    ((2 : Nat) + (1 : Nat) + (1 : Nat) + (1 : Nat) + (1 : Nat) + (1 : Nat),
                                                                        SB.cells
                                                                          (SV.agg
                                                                              [hd (60 : Nat), SV.ptr ((2 : Nat) + (1 : Nat) + (1 : Nat) + (1 : Nat)) true (0 : Nat),
                                                                                SV.int IntKind.u64 true (150 : Int)]).cells
                                                                          (3 : Nat) (82 : Nat)) ::
                                                                      Mem.put ((2 : Nat) + (1 : Nat) + (1 : Nat) + (1 : Nat) + (1 : Nat))
                                                                        (SB.cells
                                                                          (setRange (SV.agg [SV.nilptr, SV.nilptr, SV.int IntKind.u64 true (0 : Int)]).cells (0 : Nat)
                                                                            (SV.agg
                                                                                [hd (60 : Nat), SV.ptr ((2 : Nat) + (1 : Nat) + (1 : Nat) + (1 : Nat)) true (0 : Nat),
                                                                                  SV.int IntKind.u64 true (150 : Int)]).cells)
                                                                          (3 : Nat) (82 : Nat))
                                                                        (((2 : Nat) + (1 : Nat) + (1 : Nat) + (1 : Nat) + (1 : Nat),
                                                                            SB.cells (SV.agg [SV.nilptr, SV.nilptr, SV.int IntKind.u64 true (0 : Int)]).cells (3 : Nat) (82 : Nat)) ::
                                                                          ((2 : Nat) + (1 : Nat) + (1 : Nat) + (1 : Nat),
                                                                              SB.cells (SV.ptr ((2 : Nat) + (1 : Nat) + (1 : Nat)) true (0 : Nat)).cells (1 : Nat) (60 : Nat)) ::
                                                                            ((2 : Nat) + (1 : Nat) + (1 : Nat), SB.cells (SV.int IntKind.i64 true (0 : Int)).cells (1 : Nat) (24 : Nat)) ::
                                                                              older ((2 : Nat) + (1 : Nat) + (1 : Nat))
                                                                                (older ((2 : Nat) + (1 : Nat) + (1 : Nat) + (1 : Nat) + (1 : Nat))
                                                                                  (((2 : Nat) + (1 : Nat) + (1 : Nat) + (1 : Nat) + (1 : Nat),
                                                                                      SB.cells
                                                                                        (SV.agg
                                                                                            [hd (58 : Nat), SV.ptr ((2 : Nat) + (1 : Nat) + (1 : Nat)) true (0 : Nat),
                                                                                              SV.int IntKind.u64 true (150 : Int)]).cells
                                                                                        (3 : Nat) (82 : Nat)) ::
                                                                                    Mem.put ((2 : Nat) + (1 : Nat) + (1 : Nat) + (1 : Nat))
                                                                                      (SB.cells
                                                                                        (setRange (SV.agg [SV.nilptr, SV.nilptr, SV.int IntKind.u64 true (0 : Int)]).cells (0 : Nat)
                                                                                          (SV.agg
                                                                                              [hd (58 : Nat), SV.ptr ((2 : Nat) + (1 : Nat) + (1 : Nat)) true (0 : Nat),
                                                                                                SV.int IntKind.u64 true (150 : Int)]).cells)
                                                                                        (3 : Nat) (82 : Nat))
                                                                                      (((2 : Nat) + (1 : Nat) + (1 : Nat) + (1 : Nat),
                                                                                          SB.cells (SV.agg [SV.nilptr, SV.nilptr, SV.int IntKind.u64 true (0 : Int)]).cells (3 : Nat) (82 : Nat)) ::
                                                                                        ((2 : Nat) + (1 : Nat) + (1 : Nat),
                                                                                            SB.cells (SV.ptr ((2 : Nat) + (1 : Nat)) true (0 : Nat)).cells (1 : Nat) (58 : Nat)) ::
                                                                                          ((2 : Nat) + (1 : Nat), SB.cells SV.niliface.cells (1 : Nat) (56 : Nat)) ::
                                                                                            ((2 : Nat),
                                                                                                SB.cells
                                                                                                  (setRange
                                                                                                    (setRange (times (2 : Nat) (SV.int IntKind.u8 true (0 : Int)).cells) (0 : Nat)
                                                                                                      (SV.int IntKind.u8 true (129 : Int)).cells)
                                                                                                    (1 : Nat) (SV.int IntKind.u8 true (5 : Int)).cells)
                                                                                                  (2 : Nat) (5 : Nat)) ::
                                                                                              ((1 : Nat),
                                                                                                  SB.rows true (2 : Nat)
                                                                                                    [Col.str
                                                                                                        (itemAt
                                                                                                          (cutIn
                                                                                                            (headOf (192 : Int) (2 : Nat) ++
                                                                                                              flat [textOf [(97 : UInt8)], headOf (192 : Int) (0 : Nat) ++ flat []])))]
                                                                                                    false x (9 : TypeId)) ::
                                                                                                older (1 : Nat)
                                                                                                  (((0 : Nat),
                                                                                                      SB.cells
                                                                                                        (setRange
                                                                                                          (setRange (times (2 : Nat) (SV.str true []).cells) (0 : Nat)
                                                                                                            (lit (SV.str false (textOf [(97 : UInt8)]))).cells)
                                                                                                          (1 : Nat) (SV.str true (headOf (192 : Int) (0 : Nat) ++ flat [])).cells)
                                                                                                        (2 : Nat) (9 : Nat)) ::
                                                                                                    older (0 : Nat) []))))))))))) =
                                                Mem.get ((2 : Nat) + (1 : Nat) + (1 : Nat) + (1 : Nat))
                                                  (((2 : Nat) + (1 : Nat) + (1 : Nat) + (1 : Nat),
                                                      SB.cells
                                                        (setRange
                                                          (setRange (setRange (times (3 : Nat) (SV.int IntKind.u8 true (0 : Int)).cells) (0 : Nat) (SV.int IntKind.u8 true (130 : Int)).cells) (1 : Nat)
                                                            (SV.int IntKind.u8 true (4 : Int)).cells)
                                                          (2 : Nat) (SV.int IntKind.u8 true (0 : Int)).cells)
                                                        (3 : Nat) (5 : Nat)) ::
                                                    ((2 : Nat) + (1 : Nat) + (1 : Nat),
                                                        SB.cells (setRange (times (1 : Nat) (SV.int IntKind.u8 true (0 : Int)).cells) (0 : Nat) (SV.int IntKind.u8 true (192 : Int)).cells) (1 : Nat)
                                                          (5 : Nat)) ::
                                                      older ((2 : Nat) + (1 : Nat) + (1 : Nat))
                                                        (((2 : Nat) + (1 : Nat),
                                                            SB.cells
                                                              (setRange
                                                                (setRange
                                                                  (setRange (setRange (times (4 : Nat) (SV.int IntKind.u8 true (0 : Int)).cells) (0 : Nat) (SV.int IntKind.u8 true (131 : Int)).cells)
                                                                    (1 : Nat) (SV.int IntKind.u8 true (100 : Int)).cells)
                                                                  (2 : Nat) (SV.int IntKind.u8 true (111 : Int)).cells)
                                                                (3 : Nat) (SV.int IntKind.u8 true (103 : Int)).cells)
                                                              (4 : Nat) (5 : Nat)) ::
                                                          older ((2 : Nat) + (1 : Nat))
                                                            (older ((2 : Nat) + (1 : Nat) + (1 : Nat) + (1 : Nat))
                                                              (older ((2 : Nat) + (1 : Nat) + (1 : Nat) + (1 : Nat) + (1 : Nat) + (1 : Nat))
                                                                (Mem.put ((2 : Nat) + (1 : Nat) + (1 : Nat))
                                                                  (SB.cells (setRange (SV.int IntKind.i64 true (0 : Int)).cells (0 : Nat) (SV.int IntKind.i64 true (9 : Int)).cells) (1 : Nat)
                                                                    (24 : Nat))
                                                                  (((2 : Nat) + (1 : Nat) + (1 : Nat) + (1 : Nat) + (1 : Nat) + (1 : Nat) + (1 : Nat),
                                                                      SB.cells (SV.int IntKind.i64 true (9 : Int)).cells (1 : Nat) (24 : Nat)) ::
                                                                    ((2 : Nat) + (1 : Nat) + (1 : Nat) + (1 : Nat) + (1 : Nat) + (1 : Nat),
                                                                        SB.cells
                                                                          (SV.agg
                                                                              [hd (60 : Nat), SV.ptr ((2 : Nat) + (1 : Nat) + (1 : Nat) + (1 : Nat)) true (0 : Nat),
                                                                                SV.int IntKind.u64 true (150 : Int)]).cells
                                                                          (3 : Nat) (82 : Nat)) ::
                                                                      Mem.put ((2 : Nat) + (1 : Nat) + (1 : Nat) + (1 : Nat) + (1 : Nat))
                                                                        (SB.cells
                                                                          (setRange (SV.agg [SV.nilptr, SV.nilptr, SV.int IntKind.u64 true (0 : Int)]).cells (0 : Nat)
                                                                            (SV.agg
                                                                                [hd (60 : Nat), SV.ptr ((2 : Nat) + (1 : Nat) + (1 : Nat) + (1 : Nat)) true (0 : Nat),
                                                                                  SV.int IntKind.u64 true (150 : Int)]).cells)
                                                                          (3 : Nat) (82 : Nat))
                                                                        (((2 : Nat) + (1 : Nat) + (1 : Nat) + (1 : Nat) + (1 : Nat),
                                                                            SB.cells (SV.agg [SV.nilptr, SV.nilptr, SV.int IntKind.u64 true (0 : Int)]).cells (3 : Nat) (82 : Nat)) ::
                                                                          ((2 : Nat) + (1 : Nat) + (1 : Nat) + (1 : Nat),
                                                                              SB.cells (SV.ptr ((2 : Nat) + (1 : Nat) + (1 : Nat)) true (0 : Nat)).cells (1 : Nat) (60 : Nat)) ::
                                                                            ((2 : Nat) + (1 : Nat) + (1 : Nat), SB.cells (SV.int IntKind.i64 true (0 : Int)).cells (1 : Nat) (24 : Nat)) ::
                                                                              older ((2 : Nat) + (1 : Nat) + (1 : Nat))
                                                                                (older ((2 : Nat) + (1 : Nat) + (1 : Nat) + (1 : Nat) + (1 : Nat))
                                                                                  (((2 : Nat) + (1 : Nat) + (1 : Nat) + (1 : Nat) + (1 : Nat),
                                                                                      SB.cells
                                                                                        (SV.agg
                                                                                            [hd (58 : Nat), SV.ptr ((2 : Nat) + (1 : Nat) + (1 : Nat)) true (0 : Nat),
                                                                                              SV.int IntKind.u64 true (150 : Int)]).cells
                                                                                        (3 : Nat) (82 : Nat)) ::
                                                                                    Mem.put ((2 : Nat) + (1 : Nat) + (1 : Nat) + (1 : Nat))
                                                                                      (SB.cells
                                                                                        (setRange (SV.agg [SV.nilptr, SV.nilptr, SV.int IntKind.u64 true (0 : Int)]).cells (0 : Nat)
                                                                                          (SV.agg
                                                                                              [hd (58 : Nat), SV.ptr ((2 : Nat) + (1 : Nat) + (1 : Nat)) true (0 : Nat),
                                                                                                SV.int IntKind.u64 true (150 : Int)]).cells)
                                                                                        (3 : Nat) (82 : Nat))
                                                                                      (((2 : Nat) + (1 : Nat) + (1 : Nat) + (1 : Nat),
                                                                                          SB.cells (SV.agg [SV.nilptr, SV.nilptr, SV.int IntKind.u64 true (0 : Int)]).cells (3 : Nat) (82 : Nat)) ::
                                                                                        ((2 : Nat) + (1 : Nat) + (1 : Nat),
                                                                                            SB.cells (SV.ptr ((2 : Nat) + (1 : Nat)) true (0 : Nat)).cells (1 : Nat) (58 : Nat)) ::
                                                                                          ((2 : Nat) + (1 : Nat), SB.cells SV.niliface.cells (1 : Nat) (56 : Nat)) ::
                                                                                            ((2 : Nat),
                                                                                                SB.cells
                                                                                                  (setRange
                                                                                                    (setRange (times (2 : Nat) (SV.int IntKind.u8 true (0 : Int)).cells) (0 : Nat)
                                                                                                      (SV.int IntKind.u8 true (129 : Int)).cells)
                                                                                                    (1 : Nat) (SV.int IntKind.u8 true (5 : Int)).cells)
                                                                                                  (2 : Nat) (5 : Nat)) ::
                                                                                              ((1 : Nat),
                                                                                                  SB.rows true (2 : Nat)
                                                                                                    [Col.str
                                                                                                        (itemAt
                                                                                                          (cutIn
                                                                                                            (headOf (192 : Int) (2 : Nat) ++
                                                                                                              flat [textOf [(97 : UInt8)], headOf (192 : Int) (0 : Nat) ++ flat []])))]
                                                                                                    false x (9 : TypeId)) ::
                                                                                                older (1 : Nat)
                                                                                                  (((0 : Nat),
                                                                                                      SB.cells
                                                                                                        (setRange
                                                                                                          (setRange (times (2 : Nat) (SV.str true []).cells) (0 : Nat)
                                                                                                            (lit (SV.str false (textOf [(97 : UInt8)]))).cells)
                                                                                                          (1 : Nat) (SV.str true (headOf (192 : Int) (0 : Nat) ++ flat [])).cells)
                                                                                                        (2 : Nat) (9 : Nat)) ::
                                                                                                    older (0 : Nat) []))))))))))) ∧
                                              (decide ((2 : Int) = (2 : Int)) = true →
                                                  (True ∧ (0 : Nat) ≤ (140737488355328 : Nat) ∧ (0 : Nat) ≤ (140737488355328 : Nat)) ∧
                                                    (((0 : Int) ≤ (192 : Int) ∧ (192 : Int) ≤ (192 : Int)) ∧ (0 : Int) ≤ (0 : Int) ∧ (0 : Int) < (1152921504606846976 : Int)) ∧
                                                      (((1 : Nat) = (1 : Nat) ∧ (1 : Nat) ≤ (1 : Nat)) ∧ (1 : Nat) ≤ (140737488355328 : Nat) ∧ (1 : Nat) ≤ (140737488355328 : Nat)) ∧
                                                        (((0 : Int) ≤ (192 : Int) ∧ (192 : Int) ≤ (192 : Int)) ∧ (0 : Int) ≤ (1 : Int) ∧ (1 : Int) < (1152921504606846976 : Int)) ∧
                                                          (2 : Nat) < (1152921504606846976 : Nat) ∧
                                                            ∀ (R : Loop),
                                                              (1 : Nat) < (1152921504606846976 : Nat) ∧
                                                                R = R ∧
                                                                  (1 : Nat) < (1152921504606846976 : Nat) ∧
                                                                    ∀ (R : Loop),
                                                                      (0 : Nat) < (1152921504606846976 : Nat) ∧
                                                                        ∀ (x : Int), sameVal (SV.bool (true && true) (decide ((9 : Int) = (9 : Int)))) (SV.bool false true)) ∧
                                                (decide ((2 : Int) = (2 : Int)) = false → sameVal (SV.bool true false) (SV.bool false true))) ∧
                                    (True ∧ (0 : Nat) ≤ (140737488355328 : Nat) ∧ (0 : Nat) ≤ (140737488355328 : Nat)) ∧
                                      (((0 : Int) ≤ (192 : Int) ∧ (192 : Int) ≤ (192 : Int)) ∧ (0 : Int) ≤ (0 : Int) ∧ (0 : Int) < (1152921504606846976 : Int)) ∧
                                        Mem.get ((2 : Nat) + (1 : Nat) + (1 : Nat))
                                              (older ((2 : Nat) + (1 : Nat) + (1 : Nat) + (1 : Nat))
                                                (((2 : Nat) + (1 : Nat) + (1 : Nat),
                                                    SB.cells (setRange (times (1 : Nat) (SV.int IntKind.u8 true (0 : Int)).cells) (0 : Nat) (SV.int IntKind.u8 true (192 : Int)).cells) (1 : Nat)
                                                      (5 : Nat)) ::
                                                  ((2 : Nat) + (1 : Nat),
                                                      SB.cells
                                                        (setRange
                                                          (setRange
                                                            (setRange (setRange (times (4 : Nat) (SV.int IntKind.u8 true (0 : Int)).cells) (0 : Nat) (SV.int IntKind.u8 true (131 : Int)).cells)
                                                              (1 : Nat) (SV.int IntKind.u8 true (100 : Int)).cells)
                                                            (2 : Nat) (SV.int IntKind.u8 true (111 : Int)).cells)
                                                          (3 : Nat) (SV.int IntKind.u8 true (103 : Int)).cells)
                                                        (4 : Nat) (5 : Nat)) ::
                                                    older ((2 : Nat) + (1 : Nat))
                                                      (older ((2 : Nat) + (1 : Nat) + (1 : Nat) + (1 : Nat))
                                                        (older ((2 : Nat) + (1 : Nat) + (1 : Nat) + (1 : Nat) + (1 : Nat) + (1 : Nat))
                                                          (Mem.put ((2 : Nat) + (1 : Nat) + (1 : Nat))
                                                            (SB.cells (setRange (SV.int IntKind.i64 true (0 : Int)).cells (0 : Nat) (SV.int IntKind.i64 true (9 : Int)).cells) (1 : Nat) (24 : Nat))
                                                            (((2 : Nat) + (1 : Nat) + (1 : Nat) + (1 : Nat) + (1 : Nat) + (1 : Nat) + (1 : Nat),
                                                                SB.cells (SV.int IntKind.i64 true (9 : Int)).cells (1 : Nat) (24 : Nat)) ::
                                                              ((2 : Nat) + (1 : Nat) + (1 : Nat) + (1 : Nat) + (1 : Nat) + (1 : Nat),
                                                                  SB.cells
                                                                    (SV.agg
                                                                        [hd (60 : Nat), SV.ptr ((2 : Nat) + (1 : Nat) + (1 : Nat) + (1 : Nat)) true (0 : Nat),
                                                                          SV.int IntKind.u64 true (150 : Int)]).cells
                                                                    (3 : Nat) (82 : Nat)) ::
                                                                Mem.put ((2 : Nat) + (1 : Nat) + (1 : Nat) + (1 : Nat) + (1 : Nat))
                                                                  (SB.cells
                                                                    (setRange (SV.agg [SV.nilptr, SV.nilptr, SV.int IntKind.u64 true (0 : Int)]).cells (0 : Nat)
                                                                      (SV.agg
                                                                          [hd (60 : Nat), SV.ptr ((2 : Nat) + (1 : Nat) + (1 : Nat) + (1 : Nat)) true (0 : Nat),
                                                                            SV.int IntKind.u64 true (150 : Int)]).cells)
                                                                    (3 : Nat) (82 : Nat))
                                                                  (((2 : Nat) + (1 : Nat) + (1 : Nat) + (1 : Nat) + (1 : Nat),
                                                                      SB.cells (SV.agg [SV.nilptr, SV.nilptr, SV.int IntKind.u64 true (0 : Int)]).cells (3 : Nat) (82 : Nat)) ::
                                                                    ((2 : Nat) + (1 : Nat) + (1 : Nat) + (1 : Nat),
                                                                        SB.cells (SV.ptr ((2 : Nat) + (1 : Nat) + (1 : Nat)) true (0 : Nat)).cells (1 : Nat) (60 : Nat)) ::
                                                                      ((2 : Nat) + (1 : Nat) + (1 : Nat), SB.cells (SV.int IntKind.i64 true (0 : Int)).cells (1 : Nat) (24 : Nat)) ::
                                                                        older ((2 : Nat) + (1 : Nat) + (1 : Nat))
                                                                          (older ((2 : Nat) + (1 : Nat) + (1 : Nat) + (1 : Nat) + (1 : Nat))
                                                                            (((2 : Nat) + (1 : Nat) + (1 : Nat) + (1 : Nat) + (1 : Nat),
                                                                                SB.cells
                                                                                  (SV.agg
                                                                                      [hd (58 : Nat), SV.ptr ((2 : Nat) + (1 : Nat) + (1 : Nat)) true (0 : Nat),
                                                                                        SV.int IntKind.u64 true (150 : Int)]).cells
                                                                                  (3 : Nat) (82 : Nat)) ::
                                                                              Mem.put ((2 : Nat) + (1 : Nat) + (1 : Nat) + (1 : Nat))
                                                                                (SB.cells
                                                                                  (setRange (SV.agg [SV.nilptr, SV.nilptr, SV.int IntKind.u64 true (0 : Int)]).cells (0 : Nat)
                                                                                    (SV.agg
                                                                                        [hd (58 : Nat), SV.ptr ((2 : Nat) + (1 : Nat) + (1 : Nat)) true (0 : Nat),
                                                                                          SV.int IntKind.u64 true (150 : Int)]).cells)
                                                                                  (3 : Nat) (82 : Nat))
                                                                                (((2 : Nat) + (1 : Nat) + (1 : Nat) + (1 : Nat),
                                                                                    SB.cells (SV.agg [SV.nilptr, SV.nilptr, SV.int IntKind.u64 true (0 : Int)]).cells (3 : Nat) (82 : Nat)) ::
                                                                                  ((2 : Nat) + (1 : Nat) + (1 : Nat),
                                                                                      SB.cells (SV.ptr ((2 : Nat) + (1 : Nat)) true (0 : Nat)).cells (1 : Nat) (58 : Nat)) ::
                                                                                    ((2 : Nat) + (1 : Nat), SB.cells SV.niliface.cells (1 : Nat) (56 : Nat)) ::
                                                                                      ((2 : Nat),
                                                                                          SB.cells
                                                                                            (setRange
                                                                                              (setRange (times (2 : Nat) (SV.int IntKind.u8 true (0 : Int)).cells) (0 : Nat)
                                                                                                (SV.int IntKind.u8 true (129 : Int)).cells)
                                                                                              (1 : Nat) (SV.int IntKind.u8 true (5 : Int)).cells)
                                                                                            (2 : Nat) (5 : Nat)) ::
                                                                                        ((1 : Nat),
                                                                                            SB.rows true (2 : Nat)
                                                                                              [Col.str
                                                                                                  (itemAt
                                                                                                    (cutIn
                                                                                                      (headOf (192 : Int) (2 : Nat) ++
                                                                                                        flat [textOf [(97 : UInt8)], headOf (192 : Int) (0 : Nat) ++ flat []])))]
                                                                                              false x (9 : TypeId)) ::
                                                                                          older (1 : Nat)
                                                                                            (((0 : Nat),
                                                                                                SB.cells
                                                                                                  (setRange
                                                                                                    (setRange (times (2 : Nat) (SV.str true []).cells) (0 : Nat)
                                                                                                      (lit (SV.str false (textOf [(97 : UInt8)]))).cells)
                                                                                                    (1 : Nat) (SV.str true (headOf (192 : Int) (0 : Nat) ++ flat [])).cells)
                                                                                                  (2 : Nat) (9 : Nat)) ::
                                                                                              older (0 : Nat) []))))))))))) =
                                            Mem.get ((2 : Nat) + (1 : Nat) + (1 : Nat))
                                              (((2 : Nat) + (1 : Nat) + (1 : Nat),
                                                  SB.cells (setRange (times (1 : Nat) (SV.int IntKind.u8 true (0 : Int)).cells) (0 : Nat) (SV.int IntKind.u8 true (192 : Int)).cells) (1 : Nat)
                                                    (5 : Nat)) ::
                                                ((2 : Nat) + (1 : Nat),
                                                    SB.cells
                                                      (setRange
                                                        (setRange
                                                          (setRange (setRange (times (4 : Nat) (SV.int IntKind.u8 true (0 : Int)).cells) (0 : Nat) (SV.int IntKind.u8 true (131 : Int)).cells) (1 : Nat)
                                                            (SV.int IntKind.u8 true (100 : Int)).cells)
                                                          (2 : Nat) (SV.int IntKind.u8 true (111 : Int)).cells)
                                                        (3 : Nat) (SV.int IntKind.u8 true (103 : Int)).cells)
                                                      (4 : Nat) (5 : Nat)) ::
                                                  older ((2 : Nat) + (1 : Nat))
                                                    (older ((2 : Nat) + (1 : Nat) + (1 : Nat) + (1 : Nat))
                                                      (older ((2 : Nat) + (1 : Nat) + (1 : Nat) + (1 : Nat) + (1 : Nat) + (1 : Nat))
                                                        (Mem.put ((2 : Nat) + (1 : Nat) + (1 : Nat))
                                                          (SB.cells (setRange (SV.int IntKind.i64 true (0 : Int)).cells (0 : Nat) (SV.int IntKind.i64 true (9 : Int)).cells) (1 : Nat) (24 : Nat))
                                                          (((2 : Nat) + (1 : Nat) + (1 : Nat) + (1 : Nat) + (1 : Nat) + (1 : Nat) + (1 : Nat),
                                                              SB.cells (SV.int IntKind.i64 true (9 : Int)).cells (1 : Nat) (24 : Nat)) ::
                                                            ((2 : Nat) + (1 : Nat) + (1 : Nat) + (1 : Nat) + (1 : Nat) + (1 : Nat),
                                                                SB.cells
                                                                  (SV.agg
                                                                      [hd (60 : Nat), SV.ptr ((2 : Nat) + (1 : Nat) + (1 : Nat) + (1 : Nat)) true (0 : Nat), SV.int IntKind.u64 true (150 : Int)]).cells
                                                                  (3 : Nat) (82 : Nat)) ::
                                                              Mem.put ((2 : Nat) + (1 : Nat) + (1 : Nat) + (1 : Nat) + (1 : Nat))
                                                                (SB.cells
                                                                  (setRange (SV.agg [SV.nilptr, SV.nilptr, SV.int IntKind.u64 true (0 : Int)]).cells (0 : Nat)
                                                                    (SV.agg
                                                                        [hd (60 : Nat), SV.ptr ((2 : Nat) + (1 : Nat) + (1 : Nat) + (1 : Nat)) true (0 : Nat),
                                                                          SV.int IntKind.u64 true (150 : Int)]).cells)
                                                                  (3 : Nat) (82 : Nat))
                                                                (((2 : Nat) + (1 : Nat) + (1 : Nat) + (1 : Nat) + (1 : Nat),
                                                                    SB.cells (SV.agg [SV.nilptr, SV.nilptr, SV.int IntKind.u64 true (0 : Int)]).cells (3 : Nat) (82 : Nat)) ::
                                                                  ((2 : Nat) + (1 : Nat) + (1 : Nat) + (1 : Nat),
                                                                      SB.cells (SV.ptr ((2 : Nat) + (1 : Nat) + (1 : Nat)) true (0 : Nat)).cells (1 : Nat) (60 : Nat)) ::
                                                                    ((2 : Nat) + (1 : Nat) + (1 : Nat), SB.cells (SV.int IntKind.i64 true (0 : Int)).cells (1 : Nat) (24 : Nat)) ::
                                                                      older ((2 : Nat) + (1 : Nat) + (1 : Nat))
                                                                        (older ((2 : Nat) + (1 : Nat) + (1 : Nat) + (1 : Nat) + (1 : Nat))
                                                                          (((2 : Nat) + (1 : Nat) + (1 : Nat) + (1 : Nat) + (1 : Nat),
                                                                              SB.cells
                                                                                (SV.agg
                                                                                    [hd (58 : Nat), SV.ptr ((2 : Nat) + (1 : Nat) + (1 : Nat)) true (0 : Nat),
                                                                                      SV.int IntKind.u64 true (150 : Int)]).cells
                                                                                (3 : Nat) (82 : Nat)) ::
                                                                            Mem.put ((2 : Nat) + (1 : Nat) + (1 : Nat) + (1 : Nat))
                                                                              (SB.cells
                                                                                (setRange (SV.agg [SV.nilptr, SV.nilptr, SV.int IntKind.u64 true (0 : Int)]).cells (0 : Nat)
                                                                                  (SV.agg
                                                                                      [hd (58 : Nat), SV.ptr ((2 : Nat) + (1 : Nat) + (1 : Nat)) true (0 : Nat),
                                                                                        SV.int IntKind.u64 true (150 : Int)]).cells)
                                                                                (3 : Nat) (82 : Nat))
                                                                              (((2 : Nat) + (1 : Nat) + (1 : Nat) + (1 : Nat),
                                                                                  SB.cells (SV.agg [SV.nilptr, SV.nilptr, SV.int IntKind.u64 true (0 : Int)]).cells (3 : Nat) (82 : Nat)) ::
                                                                                ((2 : Nat) + (1 : Nat) + (1 : Nat),
                                                                                    SB.cells (SV.ptr ((2 : Nat) + (1 : Nat)) true (0 : Nat)).cells (1 : Nat) (58 : Nat)) ::
                                                                                  ((2 : Nat) + (1 : Nat), SB.cells SV.niliface.cells (1 : Nat) (56 : Nat)) ::
                                                                                    ((2 : Nat),
                                                                                        SB.cells
                                                                                          (setRange
                                                                                            (setRange (times (2 : Nat) (SV.int IntKind.u8 true (0 : Int)).cells) (0 : Nat)
                                                                                              (SV.int IntKind.u8 true (129 : Int)).cells)
                                                                                            (1 : Nat) (SV.int IntKind.u8 true (5 : Int)).cells)
                                                                                          (2 : Nat) (5 : Nat)) ::
                                                                                      ((1 : Nat),
                                                                                          SB.rows true (2 : Nat)
                                                                                            [Col.str
                                                                                                (itemAt
                                                                                                  (cutIn
                                                                                                    (headOf (192 : Int) (2 : Nat) ++
                                                                                                      flat [textOf [(97 : UInt8)], headOf (192 : Int) (0 : Nat) ++ flat []])))]
                                                                                            false x (9 : TypeId)) ::
                                                                                        older (1 : Nat)
                                                                                          (((0 : Nat),
                                                                                              SB.cells
                                                                                                (setRange
                                                                                                  (setRange (times (2 : Nat) (SV.str true []).cells) (0 : Nat)
                                                                                                    (lit (SV.str false (textOf [(97 : UInt8)]))).cells)
                                                                                                  (1 : Nat) (SV.str true (headOf (192 : Int) (0 : Nat) ++ flat [])).cells)
                                                                                                (2 : Nat) (9 : Nat)) ::
                                                                                            older (0 : Nat) [])))))))))) ∧
                                          (((0 : Int) ≤ (1024 : Int) ∧ (1024 : Int) < (18446744073709551616 : Int)) ∧
                                              (decide ((2 : Int) = (2 : Int)) = true →
                                                  (True ∧ (0 : Nat) ≤ (140737488355328 : Nat) ∧ (0 : Nat) ≤ (140737488355328 : Nat)) ∧
                                                    (((0 : Int) ≤ (192 : Int) ∧ (192 : Int) ≤ (192 : Int)) ∧ (0 : Int) ≤ (0 : Int) ∧ (0 : Int) < (1152921504606846976 : Int)) ∧
                                                      (((1 : Nat) = (1 : Nat) ∧ (1 : Nat) ≤ (1 : Nat)) ∧ (1 : Nat) ≤ (140737488355328 : Nat) ∧ (1 : Nat) ≤ (140737488355328 : Nat)) ∧
                                                        (((0 : Int) ≤ (192 : Int) ∧ (192 : Int) ≤ (192 : Int)) ∧ (0 : Int) ≤ (1 : Int) ∧ (1 : Int) < (1152921504606846976 : Int)) ∧
                                                          (2 : Nat) < (1152921504606846976 : Nat) ∧
                                                            ∀ (R : Loop),
                                                              (1 : Nat) < (1152921504606846976 : Nat) ∧
                                                                R = R ∧
                                                                  (1 : Nat) < (1152921504606846976 : Nat) ∧
                                                                    ∀ (R : Loop),
                                                                      (0 : Nat) < (1152921504606846976 : Nat) ∧
                                                                        ∀ (x : Int), sameVal (SV.bool (true && true) (decide ((9 : Int) = (9 : Int)))) (SV.bool false true)) ∧
                                                (decide ((2 : Int) = (2 : Int)) = false → sameVal (SV.bool true false) (SV.bool false true))) ∧
                                            ((0 : Int) ≤ (1024 : Int) ∧ (1024 : Int) < (18446744073709551616 : Int)) ∧
                                              Mem.get ((2 : Nat) + (1 : Nat) + (1 : Nat) + (1 : Nat))
                                                    (((2 : Nat) + (1 : Nat) + (1 : Nat) + (1 : Nat),
                                                        SB.cells
                                                          (setRange
                                                            (setRange (setRange (times (3 : Nat) (SV.int IntKind.u8 true (0 : Int)).cells) (0 : Nat) (SV.int IntKind.u8 true (130 : Int)).cells)
                                                              (1 : Nat) (SV.int IntKind.u8 true (4 : Int)).cells)
                                                            (2 : Nat) (SV.int IntKind.u8 true (0 : Int)).cells)
                                                          (3 : Nat) (5 : Nat)) ::
                                                      older ((2 : Nat) + (1 : Nat) + (1 : Nat) + (1 : Nat))
                                                        (((2 : Nat) + (1 : Nat) + (1 : Nat),
                                                            SB.cells (setRange (times (1 : Nat) (SV.int IntKind.u8 true (0 : Int)).cells) (0 : Nat) (SV.int IntKind.u8 true (192 : Int)).cells)
                                                              (1 : Nat) (5 : Nat)) ::
                                                          ((2 : Nat) + (1 : Nat),
                                                              SB.cells
                                                                (setRange
                                                                  (setRange
                                                                    (setRange (setRange (times (4 : Nat) (SV.int IntKind.u8 true (0 : Int)).cells) (0 : Nat) (SV.int IntKind.u8 true (131 : Int)).cells)
                                                                      (1 : Nat) (SV.int IntKind.u8 true (100 : Int)).cells)
                                                                    (2 : Nat) (SV.int IntKind.u8 true (111 : Int)).cells)
                                                                  (3 : Nat) (SV.int IntKind.u8 true (103 : Int)).cells)
                                                                (4 : Nat) (5 : Nat)) ::
                                                            older ((2 : Nat) + (1 : Nat))
                                                              (older ((2 : Nat) + (1 : Nat) + (1 : Nat) + (1 : Nat))
                                                                (older ((2 : Nat) + (1 : Nat) + (1 : Nat) + (1 : Nat) + (1 : Nat) + (1 : Nat))
                                                                  (Mem.put ((2 : Nat) + (1 : Nat) + (1 : Nat))
                                                                    (SB.cells (setRange (SV.int IntKind.i64 true (0 : Int)).cells (0 : Nat) (SV.int IntKind.i64 true (9 : Int)).cells) (1 : Nat)
                                                                      (24 : Nat))
                                                                    (((2 : Nat) + (1 : Nat) + (1 : Nat) + (1 : Nat) + (1 : Nat) + (1 : Nat) + (1 : Nat),
                                                                        SB.cells (SV.int IntKind.i64 true (9 : Int)).cells (1 : Nat) (24 : Nat)) ::
                                                                      ((2 : Nat) + (1 : Nat) + (1 : Nat) + (1 : Nat) + (1 : Nat) + (1 : Nat),
                                                                          SB.cells
                                                                            (SV.agg
                                                                                [hd (60 : Nat), SV.ptr ((2 : Nat) + (1 : Nat) + (1 : Nat) + (1 : Nat)) true (0 : Nat),
                                                                                  SV.int IntKind.u64 true (150 : Int)]).cells
                                                                            (3 : Nat) (82 : Nat)) ::
                                                                        Mem.put ((2 : Nat) + (1 : Nat) + (1 : Nat) + (1 : Nat) + (1 : Nat))
                                                                          (SB.cells
                                                                            (setRange (SV.agg [SV.nilptr, SV.nilptr, SV.int IntKind.u64 true (0 : Int)]).cells (0 : Nat)
                                                                              (SV.agg
                                                                                  [hd (60 : Nat), SV.ptr ((2 : Nat) + (1 : Nat) + (1 : Nat) + (1 : Nat)) true (0 : Nat),
                                                                                    SV.int IntKind.u64 true (150 : Int)]).cells)
                                                                            (3 : Nat) (82 : Nat))
                                                                          (((2 : Nat) + (1 : Nat) + (1 : Nat) + (1 : Nat) + (1 : Nat),
                                                                              SB.cells (SV.agg [SV.nilptr, SV.nilptr, SV.int IntKind.u64 true (0 : Int)]).cells (3 : Nat) (82 : Nat)) ::
                                                                            ((2 : Nat) + (1 : Nat) + (1 : Nat) + (1 : Nat),
                                                                                SB.cells (SV.ptr ((2 : Nat) + (1 : Nat) + (1 : Nat)) true (0 : Nat)).cells (1 : Nat) (60 : Nat)) ::
                                                                              ((2 : Nat) + (1 : Nat) + (1 : Nat), SB.cells (SV.int IntKind.i64 true (0 : Int)).cells (1 : Nat) (24 : Nat)) ::
                                                                                older ((2 : Nat) + (1 : Nat) + (1 : Nat))
                                                                                  (older ((2 : Nat) + (1 : Nat) + (1 : Nat) + (1 : Nat) + (1 : Nat))
                                                                                    (((2 : Nat) + (1 : Nat) + (1 : Nat) + (1 : Nat) + (1 : Nat),
                                                                                        SB.cells
                                                                                          (SV.agg
                                                                                              [hd (58 : Nat), SV.ptr ((2 : Nat) + (1 : Nat) + (1 : Nat)) true (0 : Nat),
                                                                                                SV.int IntKind.u64 true (150 : Int)]).cells
                                                                                          (3 : Nat) (82 : Nat)) ::
                                                                                      Mem.put ((2 : Nat) + (1 : Nat) + (1 : Nat) + (1 : Nat))
                                                                                        (SB.cells
                                                                                          (setRange (SV.agg [SV.nilptr, SV.nilptr, SV.int IntKind.u64 true (0 : Int)]).cells (0 : Nat)
                                                                                            (SV.agg
                                                                                                [hd (58 : Nat), SV.ptr ((2 : Nat) + (1 : Nat) + (1 : Nat)) true (0 : Nat),
                                                                                                  SV.int IntKind.u64 true (150 : Int)]).cells)
                                                                                          (3 : Nat) (82 : Nat))
                                                                                        (((2 : Nat) + (1 : Nat) + (1 : Nat) + (1 : Nat),
                                                                                            SB.cells (SV.agg [SV.nilptr, SV.nilptr, SV.int IntKind.u64 true (0 : Int)]).cells (3 : Nat) (82 : Nat)) ::
                                                                                          ((2 : Nat) + (1 : Nat) + (1 : Nat),
                                                                                              SB.cells (SV.ptr ((2 : Nat) + (1 : Nat)) true (0 : Nat)).cells (1 : Nat) (58 : Nat)) ::
                                                                                            ((2 : Nat) + (1 : Nat), SB.cells SV.niliface.cells (1 : Nat) (56 : Nat)) ::
                                                                                              ((2 : Nat),
                                                                                                  SB.cells
                                                                                                    (setRange
                                                                                                      (setRange (times (2 : Nat) (SV.int IntKind.u8 true (0 : Int)).cells) (0 : Nat)
                                                                                                        (SV.int IntKind.u8 true (129 : Int)).cells)
                                                                                                      (1 : Nat) (SV.int IntKind.u8 true (5 : Int)).cells)
                                                                                                    (2 : Nat) (5 : Nat)) ::
                                                                                                ((1 : Nat),
                                                                                                    SB.rows true (2 : Nat)
                                                                                                      [Col.str
                                                                                                          (itemAt
                                                                                                            (cutIn
                                                                                                              (headOf (192 : Int) (2 : Nat) ++
                                                                                                                flat [textOf [(97 : UInt8)], headOf (192 : Int) (0 : Nat) ++ flat []])))]
                                                                                                      false x (9 : TypeId)) ::
                                                                                                  older (1 : Nat)
                                                                                                    (((0 : Nat),
                                                                                                        SB.cells
                                                                                                          (setRange
                                                                                                            (setRange (times (2 : Nat) (SV.str true []).cells) (0 : Nat)
                                                                                                              (lit (SV.str false (textOf [(97 : UInt8)]))).cells)
                                                                                                            (1 : Nat) (SV.str true (headOf (192 : Int) (0 : Nat) ++ flat [])).cells)
                                                                                                          (2 : Nat) (9 : Nat)) ::
                                                                                                      older (0 : Nat) []))))))))))) =
                                                  Mem.get ((2 : Nat) + (1 : Nat) + (1 : Nat) + (1 : Nat))
                                                    (((2 : Nat) + (1 : Nat) + (1 : Nat) + (1 : Nat),
                                                        SB.cells
                                                          (setRange
                                                            (setRange (setRange (times (3 : Nat) (SV.int IntKind.u8 true (0 : Int)).cells) (0 : Nat) (SV.int IntKind.u8 true (130 : Int)).cells)
                                                              (1 : Nat) (SV.int IntKind.u8 true (4 : Int)).cells)
                                                            (2 : Nat) (SV.int IntKind.u8 true (0 : Int)).cells)
                                                          (3 : Nat) (5 : Nat)) ::
                                                      older ((2 : Nat) + (1 : Nat) + (1 : Nat) + (1 : Nat))
                                                        (((2 : Nat) + (1 : Nat) + (1 : Nat),
                                                            SB.cells (setRange (times (1 : Nat) (SV.int IntKind.u8 true (0 : Int)).cells) (0 : Nat) (SV.int IntKind.u8 true (192 : Int)).cells)
                                                              (1 : Nat) (5 : Nat)) ::
                                                          ((2 : Nat) + (1 : Nat),
                                                              SB.cells
                                                                (setRange
                                                                  (setRange
                                                                    (setRange (setRange (times (4 : Nat) (SV.int IntKind.u8 true (0 : Int)).cells) (0 : Nat) (SV.int IntKind.u8 true (131 : Int)).cells)
                                                                      (1 : Nat) (SV.int IntKind.u8 true (100 : Int)).cells)
                                                                    (2 : Nat) (SV.int IntKind.u8 true (111 : Int)).cells)
                                                                  (3 : Nat) (SV.int IntKind.u8 true (103 : Int)).cells)
                                                                (4 : Nat) (5 : Nat)) ::
                                                            older ((2 : Nat) + (1 : Nat))
                                                              (older ((2 : Nat) + (1 : Nat) + (1 : Nat) + (1 : Nat))
                                                                (older ((2 : Nat) + (1 : Nat) + (1 : Nat) + (1 : Nat) + (1 : Nat) + (1 : Nat))
                                                                  (Mem.put ((2 : Nat) + (1 : Nat) + (1 : Nat))
                                                                    (SB.cells (setRange (SV.int IntKind.i64 true (0 : Int)).cells (0 : Nat) (SV.int IntKind.i64 true (9 : Int)).cells) (1 : Nat)
                                                                      (24 : Nat))
                                                                    (((2 : Nat) + (1 : Nat) + (1 : Nat) + (1 : Nat) + (1 : Nat) + (1 : Nat) + (1 : Nat),
                                                                        SB.cells (SV.int IntKind.i64 true (9 : Int)).cells (1 : Nat) (24 : Nat)) ::
                                                                      ((2 : Nat) + (1 : Nat) + (1 : Nat) + (1 : Nat) + (1 : Nat) + (1 : Nat),
                                                                          SB.cells
                                                                            (SV.agg
                                                                                [hd (60 : Nat), SV.ptr ((2 : Nat) + (1 : Nat) + (1 : Nat) + (1 : Nat)) true (0 : Nat),
                                                                                  SV.int IntKind.u64 true (150 : Int)]).cells
                                                                            (3 : Nat) (82 : Nat)) ::
                                                                        Mem.put ((2 : Nat) + (1 : Nat) + (1 : Nat) + (1 : Nat) + (1 : Nat))
                                                                          (SB.cells
                                                                            (setRange (SV.agg [SV.nilptr, SV.nilptr, SV.int IntKind.u64 true (0 : Int)]).cells (0 : Nat)
                                                                              (SV.agg
                                                                                  [hd (60 : Nat), SV.ptr ((2 : Nat) + (1 : Nat) + (1 : Nat) + (1 : Nat)) true (0 : Nat),
                                                                                    SV.int IntKind.u64 true (150 : Int)]).cells)
                                                                            (3 : Nat) (82 : Nat))
                                                                          (((2 : Nat) + (1 : Nat) + (1 : Nat) + (1 : Nat) + (1 : Nat),
                                                                              SB.cells (SV.agg [SV.nilptr, SV.nilptr, SV.int IntKind.u64 true (0 : Int)]).cells (3 : Nat) (82 : Nat)) ::
                                                                            ((2 : Nat) + (1 : Nat) + (1 : Nat) + (1 : Nat),
                                                                                SB.cells (SV.ptr ((2 : Nat) + (1 : Nat) + (1 : Nat)) true (0 : Nat)).cells (1 : Nat) (60 : Nat)) ::
                                                                              ((2 : Nat) + (1 : Nat) + (1 : Nat), SB.cells (SV.int IntKind.i64 true (0 : Int)).cells (1 : Nat) (24 : Nat)) ::
                                                                                older ((2 : Nat) + (1 : Nat) + (1 : Nat))
                                                                                  (older ((2 : Nat) + (1 : Nat) + (1 : Nat) + (1 : Nat) + (1 : Nat))
                                                                                    (((2 : Nat) + (1 : Nat) + (1 : Nat) + (1 : Nat) + (1 : Nat),
                                                                                        SB.cells
                                                                                          (SV.agg
                                                                                              [hd (58 : Nat), SV.ptr ((2 : Nat) + (1 : Nat) + (1 : Nat)) true (0 : Nat),
                                                                                                SV.int IntKind.u64 true (150 : Int)]).cells
                                                                                          (3 : Nat) (82 : Nat)) ::
                                                                                      Mem.put ((2 : Nat) + (1 : Nat) + (1 : Nat) + (1 : Nat))
                                                                                        (SB.cells
                                                                                          (setRange (SV.agg [SV.nilptr, SV.nilptr, SV.int IntKind.u64 true (0 : Int)]).cells (0 : Nat)
                                                                                            (SV.agg
                                                                                                [hd (58 : Nat), SV.ptr ((2 : Nat) + (1 : Nat) + (1 : Nat)) true (0 : Nat),
                                                                                                  SV.int IntKind.u64 true (150 : Int)]).cells)
                                                                                          (3 : Nat) (82 : Nat))
                                                                                        (((2 : Nat) + (1 : Nat) + (1 : Nat) + (1 : Nat),
                                                                                            SB.cells (SV.agg [SV.nilptr, SV.nilptr, SV.int IntKind.u64 true (0 : Int)]).cells (3 : Nat) (82 : Nat)) ::
                                                                                          ((2 : Nat) + (1 : Nat) + (1 : Nat),
                                                                                              SB.cells (SV.ptr ((2 : Nat) + (1 : Nat)) true (0 : Nat)).cells (1 : Nat) (58 : Nat)) ::
                                                                                            ((2 : Nat) + (1 : Nat), SB.cells SV.niliface.cells (1 : Nat) (56 : Nat)) ::
                                                                                              ((2 : Nat),
                                                                                                  SB.cells
                                                                                                    (setRange
                                                                                                      (setRange (times (2 : Nat) (SV.int IntKind.u8 true (0 : Int)).cells) (0 : Nat)
                                                                                                        (SV.int IntKind.u8 true (129 : Int)).cells)
                                                                                                      (1 : Nat) (SV.int IntKind.u8 true (5 : Int)).cells)
                                                                                                    (2 : Nat) (5 : Nat)) ::
                                                                                                ((1 : Nat),
                                                                                                    SB.rows true (2 : Nat)
                                                                                                      [Col.str
                                                                                                          (itemAt
                                                                                                            (cutIn
                                                                                                              (headOf (192 : Int) (2 : Nat) ++
                                                                                                                flat [textOf [(97 : UInt8)], headOf (192 : Int) (0 : Nat) ++ flat []])))]
                                                                                                      false x (9 : TypeId)) ::
                                                                                                  older (1 : Nat)
                                                                                                    (((0 : Nat),
                                                                                                        SB.cells
                                                                                                          (setRange
                                                                                                            (setRange (times (2 : Nat) (SV.str true []).cells) (0 : Nat)
                                                                                                              (lit (SV.str false (textOf [(97 : UInt8)]))).cells)
                                                                                                            (1 : Nat) (SV.str true (headOf (192 : Int) (0 : Nat) ++ flat [])).cells)
                                                                                                          (2 : Nat) (9 : Nat)) ::
                                                                                                      older (0 : Nat) []))))))))))) ∧
                                                (decide ((2 : Int) = (2 : Int)) = true →
                                                    (True ∧ (0 : Nat) ≤ (140737488355328 : Nat) ∧ (0 : Nat) ≤ (140737488355328 : Nat)) ∧
                                                      (((0 : Int) ≤ (192 : Int) ∧ (192 : Int) ≤ (192 : Int)) ∧ (0 : Int) ≤ (0 : Int) ∧ (0 : Int) < (1152921504606846976 : Int)) ∧
                                                        (((1 : Nat) = (1 : Nat) ∧ (1 : Nat) ≤ (1 : Nat)) ∧ (1 : Nat) ≤ (140737488355328 : Nat) ∧ (1 : Nat) ≤ (140737488355328 : Nat)) ∧
                                                          (((0 : Int) ≤ (192 : Int) ∧ (192 : Int) ≤ (192 : Int)) ∧ (0 : Int) ≤ (1 : Int) ∧ (1 : Int) < (1152921504606846976 : Int)) ∧
                                                            (2 : Nat) < (1152921504606846976 : Nat) ∧
                                                              ∀ (R : Loop),
                                                                (1 : Nat) < (1152921504606846976 : Nat) ∧
                                                                  R = R ∧
                                                                    (1 : Nat) < (1152921504606846976 : Nat) ∧
                                                                      ∀ (R : Loop),
                                                                        (0 : Nat) < (1152921504606846976 : Nat) ∧
                                                                          ∀ (x : Int), sameVal (SV.bool (true && true) (decide ((9 : Int) = (9 : Int)))) (SV.bool false true)) ∧
                                                  (decide ((2 : Int) = (2 : Int)) = false → sameVal (SV.bool true false) (SV.bool false true))) := by kernel_rfl
end Go.Proofs.YtndbjcbfnmjheaaDoor
/-
  Rlp: the document's examples.
-/
namespace Go.Proofs.YtndbjcbfnmjheaaDoor
open Go Sx

theorem works_holds : Holds (runA cfg7 6 Tryd.f6 [] (.ret (.bool false true))) := by
  refine Holds.of_eq vcWorks ?_
  repeat' first
    | apply And.intro
    | intro (_ : Nat)
    | intro (_ : Int)
    | intro (_ : Loop)
    | intro (_ : _ ≤ _)
    | intro (_ : _ = true)
    | intro (_ : _ = false)
  all_goals first
    | trivial
    | exact fun _ => rfl
    | rfl
    | decide
    | (exfalso; simp_all; done)
    | omega
theorem works_ok : CallOk Tryd.prog 6 (purePT worksSpec) := by
  have h : CallOk Tryd.prog 6 (ansPT fun args => match args with
      | [] => some (True, .ret (.bool false true))
      | _ => none) := by
    refine ans_ok (n := 20) (fn := Tryd.f6) Tryd.func6 (by kernel_rfl) (by kernel_rfl) ?_
    intro args p a h hp
    split at h
    · injection h with h; injection h with h1 h2; subst h1; subst h2
      exact ⟨_, good7, rfl, rfl, works_holds⟩
    · cases h
  intro args m nx K hk hwf hargs Γ E w hs
  unfold purePT worksSpec at hk
  split at hk
  · rename_i p r hr
    split at hr
    · rename_i he
      have hn : args = [] := List.map_eq_nil_iff.1 he
      subst hn
      injection hr with hr; injection hr with h1 h2; subst h1; subst h2
      refine (h [] m nx (fun v m nx => K (lit v) m nx) ?_ hwf hargs Γ E w hs).mono fun e w' hh => After.relit hh
      exact ⟨trivial, hk.2⟩
    · cases hr
  · exact hk.elim
theorem list9_ok : SummOk Tryd.prog (fun f => lookPT f list9) := .cons works_ok (purePT_mono _) list7_ok
theorem good9 : Sx.Good Tryd.prog cfg9 := ⟨mixes, list9_ok, fns_ok⟩
theorem goodJ (n : Nat) : Sx.Good Tryd.prog (cfgJ n) := ⟨mixes, list9_ok, fns_ok⟩
end Go.Proofs.YtndbjcbfnmjheaaDoor
/-
  Rlp: the rows' set-up: what is laid; a world where it is; calls.
-/
namespace Go.Proofs.YtndbjcbfnmjheaaDoor
open Go Sx Go.RowKit Go.WideShapes Go.ChangeShapes

set_option maxRecDepth 100000
theorem Tryd.own : ownKnob Tryd.prog.godebug = none := by kernel_rfl
theorem Tryd.laidOut : laidOutB Tryd.prog = true := by kernel_rfl
theorem Tryd.et : Tryd.prog.globalNamed "errors.errorType" = some 0 := by kernel_rfl
theorem Tryd.rt : (Tryd.prog.cutTypes.find? (·.1 == "internal/reflectlite.rtype")).map (·.2) = some 91 := by kernel_rfl
theorem Tryd.oneRow : ((List.range Tryd.prog.types.size).filter fun t => Tryd.prog.rowNamed t [101, 114, 114, 111, 114]) = [49] := by kernel_rfl
abbrev laidL : List (String × DataW Unit) := [("errors.errorType", Rows.laid_errors_errorType)]
/-- What the condition gives: the variable's cell. -/
theorem glob_of_laid {W : World} (h : laidMetH Tryd.prog laidL W) : GlobOk W := by
  have h' : laidMet Tryd.prog [] W ∧ handlesMet Tryd.prog laidL W := h
  obtain ⟨name, u, ty, e1, e2, e3, e4, e5⟩ := h'.2 _ (List.mem_singleton.2 rfl)
  have en : name = [101, 114, 114, 111, 114] := (Option.some.inj e1).symm
  subst en
  obtain rfl := Option.some.inj (Tryd.rt.symm.trans e2)
  have hm : ty ∈ (List.range Tryd.prog.types.size).filter fun t => Tryd.prog.rowNamed t [101, 114, 114, 111, 114] := List.mem_filter.2 ⟨List.mem_range.2 e3, e4⟩
  rw [Tryd.oneRow] at hm
  obtain rfl := List.mem_singleton.1 hm
  have hh : typeHandle Tryd.prog 49 = .pointer (some ⟨Tryd.prog.globals.size, 49, none⟩) := by kernel_rfl
  rw [hh] at e5
  have hc : W.cell? ⟨0, 0, none⟩ = some (.iface 91 (.agg #[.pointer (some ⟨Tryd.prog.globals.size, 49, none⟩)])) := by
    simpa using World.var?_cell Tryd.et e5 0
  obtain ⟨c, tyy, fr, g1, g2⟩ := Sx.cells_of_cell hc
  intro p hp
  have hp' : p = (0, #[.iface 91 (.agg #[.pointer (some ⟨Tryd.prog.globals.size, 49, none⟩)])]) := List.mem_singleton.1 hp
  rw [hp']
  refine ⟨c, tyy, fr, g1, fun i v hv => ?_⟩
  cases i with
  | zero => simp only [List.getElem?_toArray, List.getElem?_cons_zero, Option.some.injEq] at hv; rw [← hv]; exact g2
  | succ i => simp at hv
/-- A world that meets the condition. -/
noncomputable def laidWorld (os : Os) : World :=
  let w0 := World.holding Tryd.prog os ⟨#[], #[], []⟩
  { w0 with heap := w0.heap.modify 0 fun
      | .cells _ t frozen => .cells #[.iface 91 (.agg #[.pointer (some ⟨Tryd.prog.globals.size, 49, none⟩)])] t frozen
      | o => o }
theorem laidWorld_met (os : Os) (args : Array Value) : laidMetH Tryd.prog laidL ((laidWorld os).forCall (fun _ _ => 0) ⟨#[], args, []⟩).memory :=
  laidMetH_of_parts (laidMet_nil _ _) (by kernel_rfl)
theorem run_calls {cfg : Cfg} (hg : Sx.Good Tryd.prog cfg) {f : FuncId} {fn : Func} (hf : Tryd.prog.funcs[f]? = some fn) (hn : (fn.name == "runtime.NumGoroutine") = false) (hb : fn.body.isSome = true) {args : List SV}
    (h : Holds (runA cfg f fn args (.ret (.bool false true)))) (hw : SV.wfs 0 args = true) {W : World} (hW : GlobOk W) (E : Nat → Nat) :
    Calls Tryd.prog f (SV.vals E args).toArray W fun e W' => e = .returned (.bool true) ∧ Below W.heap.size W W' := by
  have hc := calls_of_holds hg hf hn hb h rfl hw (SatM.none W hW)
  rw [SV.vals_pure hw (fun _ => 0) E] at hc
  refine hc.mono ?_
  rintro e w' ⟨v, rfl, E', sv, m', nx', _, _, g3, g4, g5⟩
  cases sv with
  | none => exact g5.elim
  | some u =>
    have hu : sameVal u (.bool false true) := g5
    exact ⟨by rw [g3 u rfl, hu E']; rfl, g4.ext.below fun _ h => h⟩
end Go.Proofs.YtndbjcbfnmjheaaDoor
