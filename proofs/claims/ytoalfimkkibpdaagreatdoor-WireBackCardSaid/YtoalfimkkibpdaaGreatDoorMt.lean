/-
  Conditions that the executor computes, written out by a program (vcgen.py).
-/
import Derived.Test.YtoalfimkkibpdaaGreatDoorMs
namespace Go.Proofs.YtoalfimkkibpdaaGreatDoor
open Go Sx
set_option maxRecDepth 20000
theorem vcPfVerify (w:Wy)(key:List UInt8)(kk:Option Nat):VC.holds (runS (cfgPf w key) 36 Tryz.f36 [.str false w.root,.str false key,.vslc 0 1 w.z w.o 0 w.n w.c] [seenW w kk] (verA w key))=((fun Q0:SB=>((fun Q1:SV=>((fun Q2:SB=>((fun Q3:SB=>((fun Q4:SV=>((decide ((40:Int)<(↑w.n:Int))=true →((pvRes w (pathL key)).isSome=true →sameVal Q1 Q4) ∧((pvRes w (pathL key)).isSome=false →sameVal Q1 Q1)) ∧(decide ((40:Int)<(↑w.n:Int))=false →key.length<(1099511627776:Nat) ∧∀(R:Loop),(∃(x:Wy×List UInt8),(x.fst.Ok ∧True) ∧(0:Nat)=(0:Nat) ∧w.root=x.snd ∧(4:Nat)=(4:Nat) ∧w.root=x.fst.root ∧(w.z=x.fst.z ∧w.o=x.fst.o ∧(0:Nat)=(0:Nat) ∧w.n=x.fst.n ∧w.c=x.fst.c) ∧(0:Int)=(↑x.fst.u:Int) ∧SBle (SB.view w.z w.o w.n [Col.str w.f]) (SB.view x.fst.z x.fst.o x.fst.n [Col.str x.fst.f]) ∧(takeOk x.fst x.snd=true →some (SB.ren (renF 2 [((1:Nat),(0:Nat)),((0:Nat),(3:Nat))] 8) (x.fst.sb 1 (x.fst.u+(1:Nat)) SV.niliface))=some (SB.ren (renF 2 [((1:Nat),(0:Nat)),((0:Nat),(3:Nat))] 8) (x.fst.sb 1 (x.fst.u+(1:Nat)) SV.niliface)) ∧some Q2=some Q2 ∧some Q2=some Q2 ∧(∃(y:Wh),((∃(m:Nat),y.p.length<m ∧startW w (pathL key)=goW w m y.y y.p y.u) ∧y.y.Good ∧y.u≤w.n) ∧true=true ∧SBle (SB.cells (nodeCells (getD (x.fst.f x.fst.u))) 19 116) (SB.cells (nodeCells y.y) 19 116) ∧SBle (SB.cells [SV.str false (pathL key)] 1 9) (SB.cells [SV.str false y.p] 1 9) ∧SBle (SB.cells [SV.str false x.fst.root,SV.vslc 0 1 x.fst.z x.fst.o 0 x.fst.n x.fst.c,SV.int .i64 false (↑(x.fst.u+(1:Nat)):Int),SV.niliface] 4 180) (SB.cells [SV.str false w.root,SV.vslc 0 1 w.z w.o 0 w.n w.c,SV.int .i64 false (↑y.u:Int),SV.niliface] 4 180) ∧SBle (SB.cells [SV.bool true false,SV.str true []] 2 71) (SB.cells [SV.bool false y.b,SV.str false y.v] 2 71) ∧SBle (SB.loop LoopState.ready none R) (SB.loop LoopState.ready none R) ∧SBle Q2 Q2 ∧SBle Q0 Q0 ∧SBle Q0 Q0 ∧SBle (seenW w kk).B (seenW w kk).B ∧True) ∧(∀(x:Wh),(∃(m:Nat),x.p.length<m ∧startW w (pathL key)=goW w m x.y x.p x.u) ∧x.y.Good ∧x.u≤w.n →R=R ∧True ∧True ∧(decide (stepRef x.y.again x.p=[])=true →(decide ((↑x.u:Int)<(↑w.n:Int))=true →some (SB.cells (setRange [SV.str false w.root,SV.vslc 0 1 w.z w.o 0 w.n w.c,SV.int .i64 false (↑x.u:Int),SV.niliface] 3 (SV.iface 176 (SV.ptr 8 true 0)).cells) 4 180)=some (SB.cells (setRange [SV.str false w.root,SV.vslc 0 1 w.z w.o 0 w.n w.c,SV.int .i64 false (↑x.u:Int),SV.niliface] 3 (SV.iface 176 (SV.ptr 8 true 0)).cells) 4 180) ∧((pvRes w (pathL key)).isSome=true →sameVal Q1 Q4) ∧((pvRes w (pathL key)).isSome=false →sameVal Q1 Q1)) ∧(decide ((↑x.u:Int)<(↑w.n:Int))=false →some (w.sb 0 x.u SV.niliface)=some (w.sb 0 x.u SV.niliface) ∧((pvRes w (pathL key)).isSome=true →sameVal (SV.tup [SV.agg [SV.bool false (claimB x.y.again x.p),SV.str false (claimV x.y.again x.p)],SV.int .i64 true 0]) Q4) ∧((pvRes w (pathL key)).isSome=false →sameVal (SV.tup [SV.agg [SV.bool false (claimB x.y.again x.p),SV.str false (claimV x.y.again x.p)],SV.int .i64 true 0]) Q1))) ∧(decide (stepRef x.y.again x.p=[])=false →∃(x_4:Wy×List UInt8),(x_4.fst.Ok ∧x_4.snd.length<(9223372036854775808:Nat)) ∧(0:Nat)=(0:Nat) ∧stepRef x.y.again x.p=x_4.snd ∧(4:Nat)=(4:Nat) ∧w.root=x_4.fst.root ∧(w.z=x_4.fst.z ∧w.o=x_4.fst.o ∧(0:Nat)=(0:Nat) ∧w.n=x_4.fst.n ∧w.c=x_4.fst.c) ∧(↑x.u:Int)=(↑x_4.fst.u:Int) ∧SBle (SB.view w.z w.o w.n [Col.str w.f]) (SB.view x_4.fst.z x_4.fst.o x_4.fst.n [Col.str x_4.fst.f]) ∧(inlB x_4.snd=true →∃(y:Wh),(((∃(m:Nat),y.p.length<m ∧startW w (pathL key)=goW w m y.y y.p y.u) ∧y.y.Good ∧y.u≤w.n) ∧y.p.length+(1:Nat)<x.p.length+(1:Nat)) ∧true=true ∧SBle (SB.cells (nodeCells (getD x_4.snd)) 19 116) (SB.cells (nodeCells y.y) 19 116) ∧SBle (SB.cells [SV.str false (stepLeft x.y.again x.p)] 1 9) (SB.cells [SV.str false y.p] 1 9) ∧SBle (SB.cells [SV.str false x_4.fst.root,SV.vslc 0 1 x_4.fst.z x_4.fst.o 0 x_4.fst.n x_4.fst.c,SV.int .i64 false (↑x_4.fst.u:Int),SV.niliface] 4 180) (SB.cells [SV.str false w.root,SV.vslc 0 1 w.z w.o 0 w.n w.c,SV.int .i64 false (↑y.u:Int),SV.niliface] 4 180) ∧SBle (SB.cells [SV.bool false (claimB x.y.again x.p),SV.str false (claimV x.y.again x.p)] 2 71) (SB.cells [SV.bool false y.b,SV.str false y.v] 2 71) ∧SBle (SB.loop LoopState.ready none R) (SB.loop LoopState.ready none R) ∧SBle Q2 Q2 ∧SBle Q0 Q0 ∧SBle Q0 Q0 ∧SBle (seenW w kk).B (seenW w kk).B ∧True) ∧(inlB x_4.snd=false →(hashB x_4.snd=true →(takeOk x_4.fst (cutIn x_4.snd)=true →∃(y:Wh),(((∃(m:Nat),y.p.length<m ∧startW w (pathL key)=goW w m y.y y.p y.u) ∧y.y.Good ∧y.u≤w.n) ∧y.p.length+(1:Nat)<x.p.length+(1:Nat)) ∧true=true ∧SBle (SB.cells (nodeCells (getD (x_4.fst.f x_4.fst.u))) 19 116) (SB.cells (nodeCells y.y) 19 116) ∧SBle (SB.cells [SV.str false (stepLeft x.y.again x.p)] 1 9) (SB.cells [SV.str false y.p] 1 9) ∧SBle (SB.cells [SV.str false x_4.fst.root,SV.vslc 0 1 x_4.fst.z x_4.fst.o 0 x_4.fst.n x_4.fst.c,SV.int .i64 false (↑(x_4.fst.u+(1:Nat)):Int),SV.niliface] 4 180) (SB.cells [SV.str false w.root,SV.vslc 0 1 w.z w.o 0 w.n w.c,SV.int .i64 false (↑y.u:Int),SV.niliface] 4 180) ∧SBle (SB.cells [SV.bool false (claimB x.y.again x.p),SV.str false (claimV x.y.again x.p)] 2 71) (SB.cells [SV.bool false y.b,SV.str false y.v] 2 71) ∧SBle (SB.loop LoopState.ready none R) (SB.loop LoopState.ready none R) ∧SBle Q2 Q2 ∧SBle Q0 Q0 ∧SBle Q0 Q0 ∧SBle (seenW w kk).B (seenW w kk).B ∧True) ∧(takeOk x_4.fst (cutIn x_4.snd)=false →∃(y:Wh),(startW w (pathL key)=none ∧(0:Nat)<x.p.length+(1:Nat)) ∧false=false ∧SBle Q3 (SB.cells (nodeCells y.y) 19 116) ∧SBle (SB.cells [SV.str false (stepLeft x.y.again x.p)] 1 9) (SB.cells [SV.str false y.p] 1 9) ∧(4:Nat)=(4:Nat) ∧x_4.fst.root=w.root ∧(x_4.fst.z=w.z ∧x_4.fst.o=w.o ∧(0:Nat)=(0:Nat) ∧x_4.fst.n=w.n ∧x_4.fst.c=w.c) ∧(↑x_4.fst.u:Int)=(↑y.u:Int) ∧(0:Nat)=(0:Nat) ∧SBle (SB.cells [SV.bool false (claimB x.y.again x.p),SV.str false (claimV x.y.again x.p)] 2 71) (SB.cells [SV.bool false y.b,SV.str false y.v] 2 71) ∧SBle (SB.cells [SV.int .i64 false (↑x_4.fst.u:Int),SV.iface 27 (SV.int .i64 true 10)] 2 178) (SB.cells [SV.int .i64 false (↑y.u:Int),SV.iface 27 (SV.int .i64 true 10)] 2 178) ∧SBle (SB.loop LoopState.ready none R) (SB.loop LoopState.ready none R) ∧SBle Q2 Q2 ∧SBle Q0 Q0 ∧SBle Q0 Q0 ∧SBle (seenW w kk).B (seenW w kk).B ∧True)) ∧(hashB x_4.snd=false →∃(y:Wh),(startW w (pathL key)=none ∧(0:Nat)<x.p.length+(1:Nat)) ∧false=false ∧SBle Q3 (SB.cells (nodeCells y.y) 19 116) ∧SBle (SB.cells [SV.str false (stepLeft x.y.again x.p)] 1 9) (SB.cells [SV.str false y.p] 1 9) ∧(4:Nat)=(4:Nat) ∧x_4.fst.root=w.root ∧(x_4.fst.z=w.z ∧x_4.fst.o=w.o ∧(0:Nat)=(0:Nat) ∧x_4.fst.n=w.n ∧x_4.fst.c=w.c) ∧(↑x_4.fst.u:Int)=(↑y.u:Int) ∧(0:Nat)=(0:Nat) ∧SBle (SB.cells [SV.bool false (claimB x.y.again x.p),SV.str false (claimV x.y.again x.p)] 2 71) (SB.cells [SV.bool false y.b,SV.str false y.v] 2 71) ∧SBle (SB.cells [SV.int .i64 false (↑x_4.fst.u:Int),SV.iface 27 (SV.int .i64 true 10)] 2 178) (SB.cells [SV.int .i64 false (↑y.u:Int),SV.iface 27 (SV.int .i64 true 10)] 2 178) ∧SBle (SB.loop LoopState.ready none R) (SB.loop LoopState.ready none R) ∧SBle Q2 Q2 ∧SBle Q0 Q0 ∧SBle Q0 Q0 ∧SBle (seenW w kk).B (seenW w kk).B ∧True)))) ∧∀(x:Wh),startW w (pathL key)=none →some (w.sb 0 x.u (wrongV 12))=some (w.sb 0 x.u (wrongV 12)) ∧((pvRes w (pathL key)).isSome=true →sameVal Q1 Q4) ∧((pvRes w (pathL key)).isSome=false →sameVal Q1 Q1)) ∧(takeOk x.fst x.snd=false →some (SB.ren (renF 2 [((1:Nat),(0:Nat)),((0:Nat),(3:Nat))] 8) (x.fst.sb 1 x.fst.u (wrongV 2)))=some (SB.ren (renF 2 [((1:Nat),(0:Nat)),((0:Nat),(3:Nat))] 8) (x.fst.sb 1 x.fst.u (wrongV 2))) ∧some Q2=some Q2 ∧some Q2=some Q2 ∧some (SB.ren (renF 2 [((1:Nat),(0:Nat)),((0:Nat),(3:Nat))] 8) (x.fst.sb 1 x.fst.u (wrongV 2)))=some (SB.ren (renF 2 [((1:Nat),(0:Nat)),((0:Nat),(3:Nat))] 8) (x.fst.sb 1 x.fst.u (wrongV 2))) ∧((pvRes w (pathL key)).isSome=true →sameVal Q1 Q4) ∧((pvRes w (pathL key)).isSome=false →sameVal Q1 Q1))) ∧some (SB.cells (setRange (SV.agg [SV.str true [],SV.nilslc,SV.int .i64 true 0,SV.niliface]).cells 0 (SV.agg (setRange (setRange [SV.str true [],SV.nilslc,SV.int .i64 true 0,SV.niliface] 0 (SV.str false w.root).cells) 1 (SV.vslc 0 1 w.z w.o 0 w.n w.c).cells)).cells) 4 180)=some (SB.cells (setRange (SV.agg [SV.str true [],SV.nilslc,SV.int .i64 true 0,SV.niliface]).cells 0 (SV.agg (setRange (setRange [SV.str true [],SV.nilslc,SV.int .i64 true 0,SV.niliface] 0 (SV.str false w.root).cells) 1 (SV.vslc 0 1 w.z w.o 0 w.n w.c).cells)).cells) 4 180) ∧some Q2=some Q2 ∧some Q2=some Q2 ∧∃(x:Wy×List UInt8),(x.fst.Ok ∧True) ∧(0:Nat)=(0:Nat) ∧w.root=x.snd ∧(4:Nat)=(4:Nat) ∧w.root=x.fst.root ∧(w.z=x.fst.z ∧w.o=x.fst.o ∧(0:Nat)=(0:Nat) ∧w.n=x.fst.n ∧w.c=x.fst.c) ∧(0:Int)=(↑x.fst.u:Int) ∧SBle (SB.view w.z w.o w.n [Col.str w.f]) (SB.view x.fst.z x.fst.o x.fst.n [Col.str x.fst.f]) ∧(takeOk x.fst x.snd=true →(∃(y:Wh),((∃(m:Nat),y.p.length<m ∧startW w (pathL key)=goW w m y.y y.p y.u) ∧y.y.Good ∧y.u≤w.n) ∧true=true ∧SBle (SB.cells (nodeCells (getD (x.fst.f x.fst.u))) 19 116) (SB.cells (nodeCells y.y) 19 116) ∧SBle (SB.cells [SV.str false (pathL key)] 1 9) (SB.cells [SV.str false y.p] 1 9) ∧SBle (SB.cells [SV.str false x.fst.root,SV.vslc 0 1 x.fst.z x.fst.o 0 x.fst.n x.fst.c,SV.int .i64 false (↑(x.fst.u+(1:Nat)):Int),SV.niliface] 4 180) (SB.cells [SV.str false w.root,SV.vslc 0 1 w.z w.o 0 w.n w.c,SV.int .i64 false (↑y.u:Int),SV.niliface] 4 180) ∧SBle (SB.cells [SV.bool true false,SV.str true []] 2 71) (SB.cells [SV.bool false y.b,SV.str false y.v] 2 71) ∧SBle (SB.loop LoopState.ready none R) (SB.loop LoopState.ready none R) ∧SBle Q2 Q2 ∧SBle Q0 Q0 ∧SBle Q0 Q0 ∧SBle (seenW w kk).B (seenW w kk).B ∧True) ∧(∀(x:Wh),(∃(m:Nat),x.p.length<m ∧startW w (pathL key)=goW w m x.y x.p x.u) ∧x.y.Good ∧x.u≤w.n →R=R ∧True ∧True ∧(decide (stepRef x.y.again x.p=[])=true →(decide ((↑x.u:Int)<(↑w.n:Int))=true →some (SB.cells (setRange [SV.str false w.root,SV.vslc 0 1 w.z w.o 0 w.n w.c,SV.int .i64 false (↑x.u:Int),SV.niliface] 3 (SV.iface 176 (SV.ptr 8 true 0)).cells) 4 180)=some (SB.cells (setRange [SV.str false w.root,SV.vslc 0 1 w.z w.o 0 w.n w.c,SV.int .i64 false (↑x.u:Int),SV.niliface] 3 (SV.iface 176 (SV.ptr 8 true 0)).cells) 4 180) ∧((pvRes w (pathL key)).isSome=true →sameVal Q1 Q4) ∧((pvRes w (pathL key)).isSome=false →sameVal Q1 Q1)) ∧(decide ((↑x.u:Int)<(↑w.n:Int))=false →some (w.sb 0 x.u SV.niliface)=some (w.sb 0 x.u SV.niliface) ∧((pvRes w (pathL key)).isSome=true →sameVal (SV.tup [SV.agg [SV.bool false (claimB x.y.again x.p),SV.str false (claimV x.y.again x.p)],SV.int .i64 true 0]) Q4) ∧((pvRes w (pathL key)).isSome=false →sameVal (SV.tup [SV.agg [SV.bool false (claimB x.y.again x.p),SV.str false (claimV x.y.again x.p)],SV.int .i64 true 0]) Q1))) ∧(decide (stepRef x.y.again x.p=[])=false →∃(x_4:Wy×List UInt8),(x_4.fst.Ok ∧x_4.snd.length<(9223372036854775808:Nat)) ∧(0:Nat)=(0:Nat) ∧stepRef x.y.again x.p=x_4.snd ∧(4:Nat)=(4:Nat) ∧w.root=x_4.fst.root ∧(w.z=x_4.fst.z ∧w.o=x_4.fst.o ∧(0:Nat)=(0:Nat) ∧w.n=x_4.fst.n ∧w.c=x_4.fst.c) ∧(↑x.u:Int)=(↑x_4.fst.u:Int) ∧SBle (SB.view w.z w.o w.n [Col.str w.f]) (SB.view x_4.fst.z x_4.fst.o x_4.fst.n [Col.str x_4.fst.f]) ∧(inlB x_4.snd=true →∃(y:Wh),(((∃(m:Nat),y.p.length<m ∧startW w (pathL key)=goW w m y.y y.p y.u) ∧y.y.Good ∧y.u≤w.n) ∧y.p.length+(1:Nat)<x.p.length+(1:Nat)) ∧true=true ∧SBle (SB.cells (nodeCells (getD x_4.snd)) 19 116) (SB.cells (nodeCells y.y) 19 116) ∧SBle (SB.cells [SV.str false (stepLeft x.y.again x.p)] 1 9) (SB.cells [SV.str false y.p] 1 9) ∧SBle (SB.cells [SV.str false x_4.fst.root,SV.vslc 0 1 x_4.fst.z x_4.fst.o 0 x_4.fst.n x_4.fst.c,SV.int .i64 false (↑x_4.fst.u:Int),SV.niliface] 4 180) (SB.cells [SV.str false w.root,SV.vslc 0 1 w.z w.o 0 w.n w.c,SV.int .i64 false (↑y.u:Int),SV.niliface] 4 180) ∧SBle (SB.cells [SV.bool false (claimB x.y.again x.p),SV.str false (claimV x.y.again x.p)] 2 71) (SB.cells [SV.bool false y.b,SV.str false y.v] 2 71) ∧SBle (SB.loop LoopState.ready none R) (SB.loop LoopState.ready none R) ∧SBle Q2 Q2 ∧SBle Q0 Q0 ∧SBle Q0 Q0 ∧SBle (seenW w kk).B (seenW w kk).B ∧True) ∧(inlB x_4.snd=false →(hashB x_4.snd=true →(takeOk x_4.fst (cutIn x_4.snd)=true →∃(y:Wh),(((∃(m:Nat),y.p.length<m ∧startW w (pathL key)=goW w m y.y y.p y.u) ∧y.y.Good ∧y.u≤w.n) ∧y.p.length+(1:Nat)<x.p.length+(1:Nat)) ∧true=true ∧SBle (SB.cells (nodeCells (getD (x_4.fst.f x_4.fst.u))) 19 116) (SB.cells (nodeCells y.y) 19 116) ∧SBle (SB.cells [SV.str false (stepLeft x.y.again x.p)] 1 9) (SB.cells [SV.str false y.p] 1 9) ∧SBle (SB.cells [SV.str false x_4.fst.root,SV.vslc 0 1 x_4.fst.z x_4.fst.o 0 x_4.fst.n x_4.fst.c,SV.int .i64 false (↑(x_4.fst.u+(1:Nat)):Int),SV.niliface] 4 180) (SB.cells [SV.str false w.root,SV.vslc 0 1 w.z w.o 0 w.n w.c,SV.int .i64 false (↑y.u:Int),SV.niliface] 4 180) ∧SBle (SB.cells [SV.bool false (claimB x.y.again x.p),SV.str false (claimV x.y.again x.p)] 2 71) (SB.cells [SV.bool false y.b,SV.str false y.v] 2 71) ∧SBle (SB.loop LoopState.ready none R) (SB.loop LoopState.ready none R) ∧SBle Q2 Q2 ∧SBle Q0 Q0 ∧SBle Q0 Q0 ∧SBle (seenW w kk).B (seenW w kk).B ∧True) ∧(takeOk x_4.fst (cutIn x_4.snd)=false →∃(y:Wh),(startW w (pathL key)=none ∧(0:Nat)<x.p.length+(1:Nat)) ∧false=false ∧SBle Q3 (SB.cells (nodeCells y.y) 19 116) ∧SBle (SB.cells [SV.str false (stepLeft x.y.again x.p)] 1 9) (SB.cells [SV.str false y.p] 1 9) ∧(4:Nat)=(4:Nat) ∧x_4.fst.root=w.root ∧(x_4.fst.z=w.z ∧x_4.fst.o=w.o ∧(0:Nat)=(0:Nat) ∧x_4.fst.n=w.n ∧x_4.fst.c=w.c) ∧(↑x_4.fst.u:Int)=(↑y.u:Int) ∧(0:Nat)=(0:Nat) ∧SBle (SB.cells [SV.bool false (claimB x.y.again x.p),SV.str false (claimV x.y.again x.p)] 2 71) (SB.cells [SV.bool false y.b,SV.str false y.v] 2 71) ∧SBle (SB.cells [SV.int .i64 false (↑x_4.fst.u:Int),SV.iface 27 (SV.int .i64 true 10)] 2 178) (SB.cells [SV.int .i64 false (↑y.u:Int),SV.iface 27 (SV.int .i64 true 10)] 2 178) ∧SBle (SB.loop LoopState.ready none R) (SB.loop LoopState.ready none R) ∧SBle Q2 Q2 ∧SBle Q0 Q0 ∧SBle Q0 Q0 ∧SBle (seenW w kk).B (seenW w kk).B ∧True)) ∧(hashB x_4.snd=false →∃(y:Wh),(startW w (pathL key)=none ∧(0:Nat)<x.p.length+(1:Nat)) ∧false=false ∧SBle Q3 (SB.cells (nodeCells y.y) 19 116) ∧SBle (SB.cells [SV.str false (stepLeft x.y.again x.p)] 1 9) (SB.cells [SV.str false y.p] 1 9) ∧(4:Nat)=(4:Nat) ∧x_4.fst.root=w.root ∧(x_4.fst.z=w.z ∧x_4.fst.o=w.o ∧(0:Nat)=(0:Nat) ∧x_4.fst.n=w.n ∧x_4.fst.c=w.c) ∧(↑x_4.fst.u:Int)=(↑y.u:Int) ∧(0:Nat)=(0:Nat) ∧SBle (SB.cells [SV.bool false (claimB x.y.again x.p),SV.str false (claimV x.y.again x.p)] 2 71) (SB.cells [SV.bool false y.b,SV.str false y.v] 2 71) ∧SBle (SB.cells [SV.int .i64 false (↑x_4.fst.u:Int),SV.iface 27 (SV.int .i64 true 10)] 2 178) (SB.cells [SV.int .i64 false (↑y.u:Int),SV.iface 27 (SV.int .i64 true 10)] 2 178) ∧SBle (SB.loop LoopState.ready none R) (SB.loop LoopState.ready none R) ∧SBle Q2 Q2 ∧SBle Q0 Q0 ∧SBle Q0 Q0 ∧SBle (seenW w kk).B (seenW w kk).B ∧True)))) ∧∀(x:Wh),startW w (pathL key)=none →some (w.sb 0 x.u (wrongV 12))=some (w.sb 0 x.u (wrongV 12)) ∧((pvRes w (pathL key)).isSome=true →sameVal Q1 Q4) ∧((pvRes w (pathL key)).isSome=false →sameVal Q1 Q1)) ∧(takeOk x.fst x.snd=false →some (SB.ren (renF 2 [((1:Nat),(0:Nat)),((0:Nat),(3:Nat))] 9) (x.fst.sb 1 x.fst.u (wrongV 2)))=some (SB.ren (renF 2 [((1:Nat),(0:Nat)),((0:Nat),(3:Nat))] 9) (x.fst.sb 1 x.fst.u (wrongV 2))) ∧((pvRes w (pathL key)).isSome=true →sameVal Q1 Q4) ∧((pvRes w (pathL key)).isSome=false →sameVal Q1 Q1))))) (SV.tup [SV.agg [SV.bool false (pvB (pvRes w (pathL key))),SV.str false (pvV (pvRes w (pathL key)))],SV.int .i64 true 0]))) (SB.cells [SV.int .i64 true 0,SV.str true [],SV.str true [],SV.str true [],SV.str true [],SV.str true [],SV.str true [],SV.str true [],SV.str true [],SV.str true [],SV.str true [],SV.str true [],SV.str true [],SV.str true [],SV.str true [],SV.str true [],SV.str true [],SV.str true [],SV.str true []] 19 116))) (SB.cells (SV.ptr 3 true 0).cells 1 240))) (SV.tup [SV.agg [SV.bool true false,SV.str true []],SV.int .i64 true 10]))) (SB.cells (SV.agg [SV.bool true false,SV.str true []]).cells 2 71)):=by kernel_rfl
end Go.Proofs.YtoalfimkkibpdaaGreatDoor
namespace Go.Proofs.YtoalfimkkibpdaaGreatDoor
open Go Sx
set_option maxRecDepth 20000
theorem get_valid {s:List UInt8} (h:getB' s=true):validB (getD s)=true:=by
 unfold getB' getW at h
 simp only[Bool.and_eq_true] at h
 exact h.2.1
theorem inl_valid {t:List UInt8} (h:inlB t=true):validB (getD t)=true:=by
 rw[inl_eq,Bool.and_eq_true,Bool.and_eq_true] at h
 exact get_valid h.2.1
theorem valid_good {x:Nd} (h:validB x=true):x.Good:=by
 refine⟨fun hk hp=> ?_,fun j hj=> ?_⟩
 ·rcases valid_cases h with ⟨h1,_⟩ | ⟨h1,_⟩ | ⟨_,h2⟩ | ⟨h1,_⟩
  ·omega
  ·omega
  ·simp only[extW,pathB,Bool.and_eq_true,decide_eq_true_eq,hp] at h2
   have:=h2.1.1.1
   simp at this
  ·omega
 ·rcases(valid_short h).r j hj with e | e
  ·rw[e];decide
  ·have:=may_len e;omega
theorem stepRef_again (x:Nd)(p:List UInt8):stepRef x.again p=stepRef x p:=by
 unfold stepRef
 show(if x.k=3 then(if p≠[]∧byteAt p 0<16 then x.again.r (byteAt p 0).toNat else [])else if x.k=2 then(bif preB x.p p then x.r 0 else [])else [])=_
 by_cases h:p≠[]∧byteAt p 0<16
 ·have:=byteAt_lt p 0
  rw[if_pos h,if_pos h,show x.again.r (byteAt p 0).toNat=x.r (byteAt p 0).toNat from getD16 x.r _ (by omega)]
 ·rw[if_neg h,if_neg h]
theorem stepLeft_again (x:Nd)(p:List UInt8):stepLeft x.again p=stepLeft x p:=by
 unfold stepLeft
 rw[stepRef_again];rfl
theorem claimB_again (x:Nd)(p:List UInt8):claimB x.again p=claimB x p:=rfl
theorem claimV_again (x:Nd)(p:List UInt8):claimV x.again p=claimV x p:=rfl
theorem stepRef_len {x:Nd} (h:x.Good)(p:List UInt8):(stepRef x p).length<9223372036854775808:=by
 unfold stepRef
 split
 ·split
  ·rename_i h1
   have:=byteAt_lt p 0
   exact h.2 _ (by omega)
  ·decide
 ·split
  ·cases preB x.p p with
   | true=>exact h.2 0 (by decide)
   | false=>exact(show([]:List UInt8).length<_ by decide)
  ·decide
theorem stepLeft_len {x:Nd} (h:x.Good) {p:List UInt8} (h0:stepRef x p≠[]):(stepLeft x p).length<p.length:=by
 unfold stepLeft
 rw[if_neg h0]
 unfold stepRef at h0
 by_cases h3:x.k=3
 ·rw[if_pos h3] at h0 ⊢
  by_cases hp:p≠[]∧byteAt p 0<16
  ·have:=List.length_pos_iff.2 hp.1
   rw[List.length_drop];omega
  ·rw[if_neg hp] at h0;exact absurd rfl h0
 ·rw[if_neg h3] at h0 ⊢
  by_cases h2:x.k=2
  ·rw[if_pos h2] at h0
   cases hb:preB x.p p with
   | false=>rw[hb] at h0;exact absurd rfl h0
   | true =>
     simp only[preB,Bool.and_eq_true,decide_eq_true_eq] at hb
     have:=List.length_pos_iff.2 (h.1 h2)
     rw[List.length_drop];omega
  ·rw[if_neg h2] at h0;exact absurd rfl h0
section
variable {w : Wy} {P p : List UInt8} {y : Nd} {u m : Nat}
theorem goW_end (hs:startW w P=goW w m y p u)(hm:p.length<m)(h0:stepRef y p=[]):startW w P=some (y,p,u):=by
 obtain⟨m,rfl⟩: ∃ k,m=k+1:=⟨m - 1,by omega⟩
 rw[hs,goW,if_pos h0]
theorem goW_on (hs:startW w P=goW w m y p u)(hm:p.length<m)(hg:y.Good)(h0:stepRef y p≠[]) {z:Nd} {u':Nat} (hf:wfol (w.on u) (stepRef y p)=some (z,u')) :
  ∃ m,(stepLeft y p).length<m∧startW w P=goW w m z (stepLeft y p) u':=by
 obtain⟨m,rfl⟩: ∃ k,m=k+1:=⟨m - 1,by omega⟩
 have:=stepLeft_len hg h0
 exact⟨m,by omega,by rw[hs,goW,if_neg h0,hf]⟩
theorem goW_none (hs:startW w P=goW w m y p u)(hm:p.length<m)(h0:stepRef y p≠[])(hf:wfol (w.on u) (stepRef y p)=none):startW w P=none:=by
 obtain⟨m,rfl⟩: ∃ k,m=k+1:=⟨m - 1,by omega⟩
 rw[hs,goW,if_neg h0,hf]
theorem wfol_in {t:List UInt8} (h:inlB t=true):wfol w t=some (getD t,w.u):=by rw[wfol,if_pos h]
theorem wfol_take {t:List UInt8} (h:inlB t=false)(h1:hashB t=true)(h2:takeOk w (cutIn t)=true):wfol w t=some (getD (w.f w.u),w.u+1):=by
 rw[wfol,if_neg (by rw[h];simp),if_pos (by rw[h1,h2];rfl)]
theorem wfol_no {t:List UInt8} (h:inlB t=false)(h1:hashB t=false∨takeOk w (cutIn t)=false):wfol w t=none:=by
 rw[wfol,if_neg (by rw[h];simp),if_neg (by rcases h1 with h1 | h1<;>rw[h1]<;>simp)]
theorem takeOk_get {h:List UInt8} (ht:takeOk w h=true):w.u<w.n∧shaL (w.f w.u)=h∧getB' (w.f w.u)=true:=by
 simp only[takeOk,Bool.and_eq_true,decide_eq_true_eq] at ht
 exact⟨by omega,ht.2.1,ht.2.2⟩
theorem startW_no (h:takeOk (w.on 0) w.root=false):startW w P=none:=by rw[startW,h];rfl
theorem startW_yes (h:takeOk (w.on 0) w.root=true):startW w P=goW w (P.length+1) (getD (w.f 0)) P 1:=by rw[startW,h];rfl
end
end Go.Proofs.YtoalfimkkibpdaaGreatDoor
namespace Go.Proofs.YtoalfimkkibpdaaGreatDoor
open Go Sx
set_option maxRecDepth 20000
structure Sp where
 fr:List UInt8
 to:List UInt8
 n:Nat
 f:Nat→List UInt8
 z:Bool
 o:Nat
 c:Nat
 ad:List UInt8→Bool
 ag:List UInt8→Int
structure Sp.Ok (w:Sp):Prop where
 n:w.n≤200
 f: ∀ i,i<w.n→(w.f i).length≤1000
 a: ∀ h,w.ad h=true→0≤w.ag h∧w.ag h<w.n
 fr:w.fr.length≤1000
 to:w.to.length≤1000
structure Wk where
 ud:List UInt8→Bool
 us:List UInt8→Int
 ns:List (List UInt8)
 lk:Nat
 fs:List (List UInt8×List UInt8)
def Wk.used (s:Wk)(h:List UInt8):Int:=dflt (s.ud h) (s.us h)
structure Wk.Small (s:Wk):Prop where
 u: ∀ h,0≤s.used h∧s.used h≤1000
 ns:s.ns.length≤1000
 lk:s.lk≤1000
 fs:s.fs.length≤1000
def Sp.at (w:Sp)(h:List UInt8):List UInt8:=w.f (w.ag h).toNat
def lookT (w:Sp)(h:List UInt8):Bool:=w.ad h&&getB' (w.at h)
def Wk.take (w:Sp)(s:Wk)(h:List UInt8):Wk:={s with ud:=setD s.ud h,us:=setG s.us h (s.used h+1),ns:=if s.used h=0 then s.ns++[w.at h] else s.ns}
def nsCol (l:List (List UInt8)):Col:=.str fun i=>l.getD i []
def fkCol (l:List (List UInt8×List UInt8)):Col:=.str fun i=>(l.getD i ([],[])).1
def fvCol (l:List (List UInt8×List UInt8)):Col:=.str fun i=>(l.getD i ([],[])).2
def wkSB (w:Sp)(s:Wk)(kn kf c1 c2:Nat):SB:=.cells [.str false w.fr,.str false w.to,.func (.func 65) [] [.ptr 4 true 0,.ptr 6 true 0],.map 1,.rslc kn 1 true 0 s.ns.length c1,.int .i64 false s.lk,.rslc kf 2 true 0 s.fs.length c2] 7 102
def usSB (s:Wk):SB:=.fmap s.ud (.int .i64 s.us) none
def nsSB (s:Wk)(c1:Nat):SB:=.rows true s.ns.length [nsCol s.ns] false (c1*1) 9
def fsSB (s:Wk)(c2:Nat):SB:=.rows true s.fs.length [fkCol s.fs,fvCol s.fs] false (c2*2) 60
def Sp.own (w:Sp):Mem:=[(4,.cells [.map 5] 1 100),(5,.fmap w.ad (.int .i64 w.ag) none),(6,.cells [.vslc 7 1 w.z w.o 0 w.n w.c] 1 22)]
def Sp.view (w:Sp):SB:=.view w.z w.o w.n [.str w.f]
structure SnG where
 w:Sp
 s:Wk
 c1:Nat
 c2:Nat
def SnG.mem (g:SnG):Mem:=[(0,wkSB g.w g.s 2 3 g.c1 g.c2),(1,usSB g.s),(2,nsSB g.s g.c1),(3,fsSB g.s g.c2)]++g.w.own++[(7,g.w.view)]
def Sp.back (w:Sp)(s:Wk)(c1 c2:Nat):Mem:=[(0,wkSB w s 8 9 c1 c2),(1,usSB s),(8,nsSB s c1),(9,fsSB s c2)]++w.own
def snOk (v:SV)(w:Sp)(s:Wk):MAns:=.all (Nat×Nat) fun c=>.req (s.ns.length≤c.1∧s.fs.length≤c.2) (.ret v (w.back s c.1 c.2))
def snFlaw (f:SV→SV):MAns:=.all (List UInt8×List UInt8) fun y=>.ret (f (.iface 98 (.ptr 10 true 0))) [(10,.cells [.str false y.1,.str false y.2] 2 231)]
def snC (A:Type)(args:A→List SV)(pre:SnG→A→Prop)(ans:SnG→A→MAns):MemC :=
 {G:=SnG×A,n:=8,N:=11,pre:=fun x=>x.1.w.Ok∧x.1.s.Small∧(x.1.s.ns.length≤x.1.c1∧x.1.s.fs.length≤x.1.c2)∧pre x.1 x.2,args:=fun x=>.ptr 0 true 0::args x.2,mem:=fun x=>x.1.mem,ans:=fun x=>ans x.1 x.2}
def snTakeA (g:SnG)(h:List UInt8):MAns:=.fork (lookT g.w h) fun b=>match b with
 | true=>snOk (.tup [(getD (g.w.at h)).sv,.niliface]) g.w (g.s.take g.w h)
 | false=>snFlaw fun v=>.tup [zeroN,v]
def snTakeC:MemC:=snC (List UInt8) (fun h=>[.str false h]) (fun _ _=>True) snTakeA
def snFollowA (g:SnG)(t:List UInt8):MAns:=.fork (inlB t) fun b=>match b with
 | true=>snOk (.tup [(getD t).sv,.niliface]) g.w g.s
 | false=>.fork (hashB t) fun b=>match b with
   | true=>snTakeA g (cutIn t)
   | false=>snFlaw fun v=>.tup [zeroN,v]
def snFollowC:MemC:=snC (List UInt8) (fun t=>[.str false t]) (fun _ t=>t.length<9223372036854775808) snFollowA
def hasB (fr to p:List UInt8):Bool:=!Op.bytesLess p (pathL fr)&&(Op.bytesLess p (pathL to)||decide (p=pathL to))
def meetsB (fr to p:List UInt8):Bool:=(Op.bytesLess p (pathL to)||decide (p=pathL to))&&(!Op.bytesLess p (pathL fr)||preB p (pathL fr))
def keyB (p:List UInt8):Bool:=decide ((p.length:Int)% 2=0)&&nibB p
def nkeyA (p:List UInt8):Ans:=.fork (keyB p) fun b=>match b with
 | true=>.ret (.tup [.str false (pairsL p),.bool true true])
 | false=>.ret (.tup [.str true [],.bool true false])
def hasSpec:List SV→Option (Prop×SV)
 | [.agg [.str false fr,.str false to],.str false p]=>some (fr.length≤1000∧to.length≤1000,.bool false (hasB fr to p))
 | _=>none
def meetsSpec:List SV→Option (Prop×SV)
 | [.agg [.str false fr,.str false to],.str false p]=>some (fr.length≤1000∧to.length≤1000,.bool false (meetsB fr to p))
 | _=>none
def nkeySpec:List SV→Option (Prop×Ans)
 | [.str false p]=>some (p.length<1099511627776,nkeyA p)
 | _=>none
noncomputable def listX1:List (FuncId×PT):=(57,purePT npathSpec)::(167,purePT npairsSpec)::listFw1
theorem listX1_ok:SummOk Tryz.prog (fun f=>lookPT f listX1):=.cons npath_ok (purePT_mono _) (.cons npairs_ok (purePT_mono _) listFw1_ok)
noncomputable def cfgX1:Cfg:={cfg0 with summ:=fun f=>lookPT f listX1}
theorem goodX1:Sx.Good Tryz.prog cfgX1:=⟨mixes,listX1_ok,fns_ok⟩
end Go.Proofs.YtoalfimkkibpdaaGreatDoor
namespace Go.Proofs.YtoalfimkkibpdaaGreatDoor
open Go Sx
set_option maxRecDepth 20000
theorem vcSnHas (fr to p:List UInt8):VC.holds (runA cfgX1 56 Tryz.f56 [.agg [.str false fr,.str false to],.str false p] (.ret (.bool false (hasB fr to p))))=(fr.length<(1099511627776:Nat) ∧((!Op.bytesLess p (pathL fr))=true →to.length<(1099511627776:Nat) ∧sameVal (SV.bool (false&&false) (Op.bytesLess p (pathL to)||decide (p=pathL to))) (SV.bool false (hasB fr to p))) ∧((!Op.bytesLess p (pathL fr))=false →sameVal (SV.bool true false) (SV.bool false (hasB fr to p)))):=by kernel_rfl
theorem vcSnMeets (fr to p:List UInt8):VC.holds (runA cfgX1 169 Tryz.f169 [.agg [.str false fr,.str false to],.str false p] (.ret (.bool false (meetsB fr to p))))=(to.length<(1099511627776:Nat) ∧((!(Op.bytesLess p (pathL to)||decide (p=pathL to)))=true →sameVal (SV.bool true false) (SV.bool false (meetsB fr to p))) ∧((!(Op.bytesLess p (pathL to)||decide (p=pathL to)))=false →fr.length<(1099511627776:Nat) ∧((!Op.bytesLess p (pathL fr))=true →sameVal (SV.bool true true) (SV.bool false (meetsB fr to p))) ∧((!Op.bytesLess p (pathL fr))=false →(decide ((↑p.length:Int)≤(↑(pathL fr).length:Int))=true →((0:Int)≤(0:Int) ∧(0:Int)≤(↑p.length:Int) ∧(↑p.length:Int)≤(↑(pathL fr).length:Int)) ∧sameVal (SV.bool (false&&true&&false&&false) (decide (subStr (pathL fr) none (some (Operand.tmp 13)) 0 (↑p.length:Int)=p))) (SV.bool false (meetsB fr to p))) ∧(decide ((↑p.length:Int)≤(↑(pathL fr).length:Int))=false →sameVal (SV.bool true false) (SV.bool false (meetsB fr to p)))))):=by kernel_rfl
theorem vcSnKey (p:List UInt8):VC.holds (runA cfgX1 137 Tryz.f137 [.str false p] (nkeyA p))=(((0:Int)≤(↑p.length:Int) ∧(↑p.length:Int)≤(9223372036854775807:Int) ∧(0:Int)<(2:Int)) ∧((!decide ((↑p.length:Int)% (2:Int)=(0:Int)))=true →(keyB p=true →sameVal (SV.tup [SV.str true [],SV.bool true false]) (SV.tup [SV.str false (pairsL p),SV.bool true true])) ∧(keyB p=false →sameVal (SV.tup [SV.str true [],SV.bool true false]) (SV.tup [SV.str true [],SV.bool true false]))) ∧((!decide ((↑p.length:Int)% (2:Int)=(0:Int)))=false →p.length<(1152921504606846976:Nat) ∧((!nibB p)=true →(keyB p=true →sameVal (SV.tup [SV.str true [],SV.bool true false]) (SV.tup [SV.str false (pairsL p),SV.bool true true])) ∧(keyB p=false →sameVal (SV.tup [SV.str true [],SV.bool true false]) (SV.tup [SV.str true [],SV.bool true false]))) ∧((!nibB p)=false →p.length<(1099511627776:Nat) ∧(keyB p=true →sameVal (SV.tup [SV.str false (pairsL p),SV.bool true true]) (SV.tup [SV.str false (pairsL p),SV.bool true true])) ∧(keyB p=false →sameVal (SV.tup [SV.str false (pairsL p),SV.bool true true]) (SV.tup [SV.str true [],SV.bool true false]))))):=by kernel_rfl
theorem vcSnTake (x:SnG×List UInt8):VC.holds (runM cfgX1 93 Tryz.f93 snTakeC x)=(((!x.fst.w.ad x.snd)=true →(lookT x.fst.w x.snd=true →∃(x_3:Nat×Nat),((if x.fst.s.used x.snd=(0:Int)then x.fst.s.ns++[x.fst.w.at x.snd] else x.fst.s.ns).length≤x_3.fst ∧x.fst.s.fs.length≤x_3.snd) ∧False) ∧(lookT x.fst.w x.snd=false →∃(x_3:List UInt8×List UInt8),(∀(E:Nat→Nat),SV.val E (SV.agg [SV.int .i64 true 0,SV.str true [],SV.str true [],SV.str true [],SV.str true [],SV.str true [],SV.str true [],SV.str true [],SV.str true [],SV.str true [],SV.str true [],SV.str true [],SV.str true [],SV.str true [],SV.str true [],SV.str true [],SV.str true [],SV.str true [],SV.str true []])=SV.val E zeroN) ∧(0:Nat)=(0:Nat) ∧SBle (SB.cells [SV.str true [(110:UInt8),(111:UInt8),(116:UInt8),(32:UInt8),(116:UInt8),(104:UInt8),(101:UInt8),(114:UInt8),(101:UInt8),(58:UInt8)],SV.str false x.snd] 2 231) (SB.cells [SV.str false x_3.fst,SV.str false x_3.snd] 2 231) ∧True)) ∧((!x.fst.w.ad x.snd)=false →((0:Int)≤dflt (x.fst.w.ad x.snd) (x.fst.w.ag x.snd) ∧dflt (x.fst.w.ad x.snd) (x.fst.w.ag x.snd)<(↑x.fst.w.n:Int)) ∧(x.fst.w.o=x.fst.w.o ∧(0:Nat)+(dflt (x.fst.w.ad x.snd) (x.fst.w.ag x.snd)).toNat<x.fst.w.n) ∧((x.fst.w.f ((0:Nat)+(dflt (x.fst.w.ad x.snd) (x.fst.w.ag x.snd)).toNat)).length≤(9223372036854775808:Nat) ∧(x.fst.w.f ((0:Nat)+(dflt (x.fst.w.ad x.snd) (x.fst.w.ag x.snd)).toNat)).length<(1099511627776:Nat)) ∧(getB' (x.fst.w.f ((0:Nat)+(dflt (x.fst.w.ad x.snd) (x.fst.w.ag x.snd)).toNat))=true →(decide (dflt (x.fst.s.ud x.snd) (x.fst.s.us x.snd)=(0:Int))=true →((0:Nat)+x.fst.s.ns.length≤x.fst.s.ns.length ∧True ∧(2:Nat)*(x.fst.s.ns.length+(1:Nat))*(16:Nat)≤(281474976710656:Nat) ∧x.fst.s.ns.length+(1:Nat)<(9223372036854775808:Nat)) ∧x.fst.c1*(1:Nat)=x.fst.c1*(1:Nat) ∧∀(c:Nat),x.fst.s.ns.length+(1:Nat)≤c →((-9223372036854775808:Int)≤dflt (x.fst.s.ud x.snd) (x.fst.s.us x.snd)+(1:Int) ∧dflt (x.fst.s.ud x.snd) (x.fst.s.us x.snd)+(1:Int)≤(9223372036854775807:Int)) ∧(lookT x.fst.w x.snd=true →∃(x_6:Nat×Nat),((if x.fst.s.used x.snd=(0:Int)then x.fst.s.ns++[x.fst.w.at x.snd] else x.fst.s.ns).length≤x_6.fst ∧x.fst.s.fs.length≤x_6.snd) ∧(∀(E:Nat→Nat),SV.val E (SV.agg (nodeCells (getD (x.fst.w.f ((0:Nat)+(dflt (x.fst.w.ad x.snd) (x.fst.w.ag x.snd)).toNat)))))=SV.val E (getD (x.fst.w.at x.snd)).sv) ∧(7:Nat)=(7:Nat) ∧x.fst.w.fr=x.fst.w.fr ∧x.fst.w.to=x.fst.w.to ∧(0:Nat)=(0:Nat) ∧(0:Nat)=(0:Nat) ∧((0:Nat)=(0:Nat) ∧x.fst.s.ns.length+(1:Nat)=(if x.fst.s.used x.snd=(0:Int)then x.fst.s.ns++[x.fst.w.at x.snd] else x.fst.s.ns).length ∧c=x_6.fst) ∧True ∧(↑x.fst.s.lk:Int)=(↑x.fst.s.lk:Int) ∧((0:Nat)=(0:Nat) ∧x.fst.s.fs.length=x.fst.s.fs.length ∧x.fst.c2=x_6.snd) ∧True ∧SBle (SB.fmap (setD x.fst.s.ud x.snd) (FCol.int IntKind.i64 (setG x.fst.s.us x.snd (dflt (x.fst.s.ud x.snd) (x.fst.s.us x.snd)+(1:Int)))) none) (usSB (Wk.take x.fst.w x.fst.s x.snd)) ∧SBle (SB.rows true (x.fst.s.ns.length+(1:Nat)) [Col.str fun(j:Nat)=>if j<x.fst.s.ns.length then x.fst.s.ns.getD j [] else selS [x.fst.w.f ((0:Nat)+(dflt (x.fst.w.ad x.snd) (x.fst.w.ag x.snd)).toNat)] (j - x.fst.s.ns.length)] false (c*(1:Nat)) 9) (nsSB (Wk.take x.fst.w x.fst.s x.snd) x_6.fst) ∧SBle (SB.rows true x.fst.s.fs.length [fkCol x.fst.s.fs,fvCol x.fst.s.fs] false (x.fst.c2*(2:Nat)) 60) (fsSB (Wk.take x.fst.w x.fst.s x.snd) x_6.snd) ∧SBle (SB.cells [SV.map 5] 1 100) (SB.cells [SV.map 5] 1 100) ∧SBle (SB.fmap x.fst.w.ad (FCol.int IntKind.i64 x.fst.w.ag) none) (SB.fmap x.fst.w.ad (FCol.int IntKind.i64 x.fst.w.ag) none) ∧SBle (SB.cells [SV.vslc 7 1 x.fst.w.z x.fst.w.o 0 x.fst.w.n x.fst.w.c] 1 22) (SB.cells [SV.vslc 7 1 x.fst.w.z x.fst.w.o 0 x.fst.w.n x.fst.w.c] 1 22) ∧True) ∧(lookT x.fst.w x.snd=false →∃(_x:List UInt8×List UInt8),False)) ∧(decide (dflt (x.fst.s.ud x.snd) (x.fst.s.us x.snd)=(0:Int))=false →((-9223372036854775808:Int)≤dflt (x.fst.s.ud x.snd) (x.fst.s.us x.snd)+(1:Int) ∧dflt (x.fst.s.ud x.snd) (x.fst.s.us x.snd)+(1:Int)≤(9223372036854775807:Int)) ∧(lookT x.fst.w x.snd=true →∃(x_5:Nat×Nat),((if x.fst.s.used x.snd=(0:Int)then x.fst.s.ns++[x.fst.w.at x.snd] else x.fst.s.ns).length≤x_5.fst ∧x.fst.s.fs.length≤x_5.snd) ∧(∀(E:Nat→Nat),SV.val E (SV.agg (nodeCells (getD (x.fst.w.f ((0:Nat)+(dflt (x.fst.w.ad x.snd) (x.fst.w.ag x.snd)).toNat)))))=SV.val E (getD (x.fst.w.at x.snd)).sv) ∧(7:Nat)=(7:Nat) ∧x.fst.w.fr=x.fst.w.fr ∧x.fst.w.to=x.fst.w.to ∧(0:Nat)=(0:Nat) ∧(0:Nat)=(0:Nat) ∧((0:Nat)=(0:Nat) ∧x.fst.s.ns.length=(if x.fst.s.used x.snd=(0:Int)then x.fst.s.ns++[x.fst.w.at x.snd] else x.fst.s.ns).length ∧x.fst.c1=x_5.fst) ∧True ∧(↑x.fst.s.lk:Int)=(↑x.fst.s.lk:Int) ∧((0:Nat)=(0:Nat) ∧x.fst.s.fs.length=x.fst.s.fs.length ∧x.fst.c2=x_5.snd) ∧True ∧SBle (SB.fmap (setD x.fst.s.ud x.snd) (FCol.int IntKind.i64 (setG x.fst.s.us x.snd (dflt (x.fst.s.ud x.snd) (x.fst.s.us x.snd)+(1:Int)))) none) (usSB (Wk.take x.fst.w x.fst.s x.snd)) ∧SBle (SB.rows true x.fst.s.ns.length [nsCol x.fst.s.ns] false (x.fst.c1*(1:Nat)) 9) (nsSB (Wk.take x.fst.w x.fst.s x.snd) x_5.fst) ∧SBle (SB.rows true x.fst.s.fs.length [fkCol x.fst.s.fs,fvCol x.fst.s.fs] false (x.fst.c2*(2:Nat)) 60) (fsSB (Wk.take x.fst.w x.fst.s x.snd) x_5.snd) ∧SBle (SB.cells [SV.map 5] 1 100) (SB.cells [SV.map 5] 1 100) ∧SBle (SB.fmap x.fst.w.ad (FCol.int IntKind.i64 x.fst.w.ag) none) (SB.fmap x.fst.w.ad (FCol.int IntKind.i64 x.fst.w.ag) none) ∧SBle (SB.cells [SV.vslc 7 1 x.fst.w.z x.fst.w.o 0 x.fst.w.n x.fst.w.c] 1 22) (SB.cells [SV.vslc 7 1 x.fst.w.z x.fst.w.o 0 x.fst.w.n x.fst.w.c] 1 22) ∧True) ∧(lookT x.fst.w x.snd=false →∃(_x:List UInt8×List UInt8),False))) ∧(getB' (x.fst.w.f ((0:Nat)+(dflt (x.fst.w.ad x.snd) (x.fst.w.ag x.snd)).toNat))=false →(lookT x.fst.w x.snd=true →∃(x_4:Nat×Nat),((if x.fst.s.used x.snd=(0:Int)then x.fst.s.ns++[x.fst.w.at x.snd] else x.fst.s.ns).length≤x_4.fst ∧x.fst.s.fs.length≤x_4.snd) ∧False) ∧(lookT x.fst.w x.snd=false →∃(x_4:List UInt8×List UInt8),(∀(E:Nat→Nat),SV.val E (SV.agg [SV.int .i64 true 0,SV.str true [],SV.str true [],SV.str true [],SV.str true [],SV.str true [],SV.str true [],SV.str true [],SV.str true [],SV.str true [],SV.str true [],SV.str true [],SV.str true [],SV.str true [],SV.str true [],SV.str true [],SV.str true [],SV.str true [],SV.str true []])=SV.val E zeroN) ∧(0:Nat)=(0:Nat) ∧SBle (SB.cells [SV.str true [(110:UInt8),(111:UInt8),(32:UInt8),(110:UInt8),(111:UInt8),(100:UInt8),(101:UInt8),(58:UInt8)],SV.str false x.snd] 2 231) (SB.cells [SV.str false x_4.fst,SV.str false x_4.snd] 2 231) ∧True)))):=by kernel_rfl
end Go.Proofs.YtoalfimkkibpdaaGreatDoor
namespace Go.Proofs.YtoalfimkkibpdaaGreatDoor
open Go Sx
set_option maxRecDepth 20000
theorem sn_bool {l l' a b:Bool} (h:a=b):sameVal (.bool l a) (.bool l' b):=by subst h;exact fun _=>rfl
theorem not_f {b:Bool} (h:(!b)=false):b=true:=by cases b with
 | true=>rfl
 | false=>cases h
theorem not_t {b:Bool} (h:(!b)=true):b=false:=by cases b with
 | false=>rfl
 | true=>cases h
theorem has_holds (fr to p:List UInt8)(h1:fr.length≤1000)(h2:to.length≤1000):Holds (runA cfgX1 56 Tryz.f56 [.agg [.str false fr,.str false to],.str false p] (.ret (.bool false (hasB fr to p)))):=by
 refine Holds.of_eq (vcSnHas fr to p) ⟨by omega,fun h=>⟨by omega,sn_bool ?_⟩,fun h=>sn_bool ?_⟩
 ·rw[hasB,h];rfl
 ·rw[hasB,h];rfl
theorem meets_holds (fr to p:List UInt8)(h1:fr.length≤1000)(h2:to.length≤1000):Holds (runA cfgX1 169 Tryz.f169 [.agg [.str false fr,.str false to],.str false p] (.ret (.bool false (meetsB fr to p)))):=by
 refine Holds.of_eq (vcSnMeets fr to p) ⟨by omega,fun h=>sn_bool ?_,fun h=>⟨by omega,fun g=>sn_bool ?_,fun g=>⟨fun l=>⟨⟨by omega,by omega,of_decide_eq_true l⟩,sn_bool ?_⟩,fun l=>sn_bool ?_⟩⟩⟩
 ·have h:(Op.bytesLess p (pathL to)||decide (p=pathL to))=false:=not_t h
  rw[meetsB,h];rfl
 all_goals
  have h:(Op.bytesLess p (pathL to)||decide (p=pathL to))=true:=not_f h
  rw[meetsB,h,g]
 ·rfl
 ·have l:decide (p.length≤(pathL fr).length)=true:=decide_eq_true (by have:=of_decide_eq_true l;omega)
  rw[preB,l];rfl
 ·have l:decide (p.length≤(pathL fr).length)=false:=decide_eq_false (by have:=of_decide_eq_false l;omega)
  rw[preB,l];rfl
theorem nkey_holds (p:List UInt8)(hp:p.length<1099511627776):Holds (runA cfgX1 137 Tryz.f137 [.str false p] (nkeyA p)):=by
 refine Holds.of_eq (vcSnKey p) ?_
 have S: ∀ v:SV,sameVal v v:=fun _ _=>rfl
 have e:keyB p=(decide ((p.length:Int)% 2=0)&&nibB p):=rfl
 cases h1:decide ((p.length:Int)% 2=0)<;>cases h2:nibB p
 all_goals
  rw[h1,h2] at e
  simp only[e,Bool.not_true,Bool.not_false,Bool.true_and,Bool.false_and,Bool.false_eq_true,Bool.true_eq_false,false_imp_iff,forall_const,true_and,and_true,S]
  omega
theorem has_ok:CallOk Tryz.prog 56 (purePT hasSpec):=by
 refine pure_of_ans (ans_ok (n:=20) (fn:=Tryz.f56) Tryz.func56 (by kernel_rfl) (by kernel_rfl) ?_)
 intro args p a h hp
 unfold hasSpec at h
 split at h
 ·injection h with h;injection h with h1 h2;subst h1;subst h2
  exact⟨_,goodX1,rfl,rfl,has_holds _ _ _ hp.1 hp.2⟩
 ·cases h
theorem meets_ok:CallOk Tryz.prog 169 (purePT meetsSpec):=by
 refine pure_of_ans (ans_ok (n:=20) (fn:=Tryz.f169) Tryz.func169 (by kernel_rfl) (by kernel_rfl) ?_)
 intro args p a h hp
 unfold meetsSpec at h
 split at h
 ·injection h with h;injection h with h1 h2;subst h1;subst h2
  exact⟨_,goodX1,rfl,rfl,meets_holds _ _ _ hp.1 hp.2⟩
 ·cases h
theorem nkey_ok:CallOk Tryz.prog 137 (ansPT nkeySpec):=by
 refine ans_ok (n:=20) (fn:=Tryz.f137) Tryz.func137 (by kernel_rfl) (by kernel_rfl) ?_
 intro args p a h hp
 unfold nkeySpec at h
 split at h
 ·injection h with h;injection h with h1 h2;subst h1;subst h2
  exact⟨_,goodX1,rfl,fun b=>by cases b<;>exact rfl,nkey_holds _ hp⟩
 ·cases h
end Go.Proofs.YtoalfimkkibpdaaGreatDoor
namespace Go.Proofs.YtoalfimkkibpdaaGreatDoor
open Go Sx
set_option maxRecDepth 20000
theorem rows_le {z:Bool} {n n':Nat} {cs cs':List Col} {tot tot':Nat} {ty:TypeId} (hn:n=n')(ht:tot=tot')(hl:cs.length=cs'.length)
  (h: ∀(k:Nat) (c c':Col),cs[k]?=some c→cs'[k]?=some c'→∀ i,i<n→∀ E,(c'.at i).val E=(c.at i).val E):SBle (.rows z n cs false tot ty) (.rows z n' cs' false tot' ty):=by
 subst hn;subst ht
 refine fun hno=>⟨hno,fun E o ⟨c,fr,h1,h2,h3,h4,h5⟩=>⟨c,fr,h1,h2,by rw[← hl];exact h3,h4,fun i k col hi hk=> ?_⟩,id⟩
 have hk0:k<cs.length:=by rw[hl];exact(List.getElem?_eq_some_iff.1 hk).1
 rw[h k _ col (List.getElem?_eq_getElem hk0) hk i hi E,← hl]
 exact h5 i k _ hi (List.getElem?_eq_getElem hk0)
theorem sel_snoc {α:Type} (l:List α)(x d:α)(i:Nat)(h:i<l.length+1):(l++[x]).getD i d=if i<l.length then l.getD i d else [x].getD (i - l.length) d:=by
 simp only[List.getD_eq_getElem?_getD]
 by_cases h1:i<l.length
 ·rw[if_pos h1,List.getElem?_append_left h1]
 ·rw[if_neg h1,List.getElem?_append_right (by omega)]
theorem ns_snoc {l:List (List UInt8)} {x:List UInt8} {c:Nat} {ty:TypeId}:SBle (.rows true (l.length+1) [.str fun j=>if j<l.length then l.getD j [] else selS [x] (j - l.length)] false (c*1) ty) (.rows true (l++[x]).length [nsCol (l++[x])] false (c*1) ty):=by
 refine rows_le (by simp) rfl rfl fun k c c' h1 h2 i hi E=> ?_
 cases k with
 | zero =>
   simp only[List.getElem?_cons_zero,Option.some.injEq] at h1 h2
   subst h1;subst h2
   simp only[nsCol,Col.at,SV.val,sel_snoc l x [] i hi]
   rfl
 | succ k=>simp at h1
theorem flaw_le {a b:List UInt8} {ty:TypeId}:SBle (SB.cells [SV.str true a,SV.str false b] 2 ty) (SB.cells [SV.str false (a,b).1,SV.str false (a,b).2] 2 ty):=SBle.cells (fun _=>rfl) rfl
theorem SnOk.zero (E:Nat→Nat):SV.val E (SV.agg [SV.int .i64 true 0,SV.str true [],SV.str true [],SV.str true [],SV.str true [],SV.str true [],SV.str true [],SV.str true [],SV.str true [],SV.str true [],SV.str true [],SV.str true [],SV.str true [],SV.str true [],SV.str true [],SV.str true [],SV.str true [],SV.str true [],SV.str true []])=SV.val E zeroN:=rfl
section
attribute [local irreducible] getB' getD
theorem sntake_holds {x:SnG×List UInt8} (hw:x.1.w.Ok)(hs:x.1.s.Small)(hc:x.1.s.ns.length≤x.1.c1∧x.1.s.fs.length≤x.1.c2):Holds (runM cfgX1 93 Tryz.f93 snTakeC x):=by
 refine Holds.of_eq (vcSnTake x) ?_
 obtain⟨⟨w,s,c1,c2⟩,t⟩:=x
 dsimp only at hw hs hc ⊢
 have hu:=hs.u t
 have hn:=hs.ns
 have eu:dflt (s.ud t) (s.us t)=s.used t:=rfl
 have el:lookT w t=(w.ad t&&getB' (w.f (w.ag t).toNat)):=rfl
 have ea:w.at t=w.f (w.ag t).toNat:=rfl
 obtain⟨hc1,hc2⟩:=hc
 have ez:=SnOk.zero
 simp only[eu,Nat.zero_add]
 cases hA:w.ad t with
 | false =>
   rw[hA] at el
   simp only[el,Bool.false_and,Bool.not_false,Bool.false_eq_true,Bool.true_eq_false,false_imp_iff,forall_const,true_and,and_true]
   exact⟨(_,_),ez,flaw_le⟩
 | true =>
   obtain⟨b1,b2⟩:=hw.a t hA
   have hf:=hw.f (w.ag t).toNat (by omega)
   rw[hA] at el
   have ed:dflt true (w.ag t)=w.ag t:=rfl
   simp only[ed,Bool.not_true,Bool.false_eq_true,false_imp_iff,forall_const,true_and]
   refine⟨⟨b1,b2⟩,by omega,⟨by omega,by omega⟩,fun hB=> ?_,fun hB=> ?_⟩
   ·rw[hB] at el
    simp only[el,Bool.and_self,Bool.true_eq_false,false_imp_iff,forall_const,and_true]
    refine⟨fun h0=>⟨⟨Nat.le_refl _,by omega,by omega⟩,fun c hcc=>⟨by omega,?_⟩⟩,fun h0=>⟨by omega,?_⟩⟩
    ·have h0:=of_decide_eq_true h0
     rw[if_pos h0,List.length_append]
     have h1:(Wk.take w s t).ns=s.ns++[w.f (w.ag t).toNat]:=by show(if s.used t=0 then _ else _)=_;rw[if_pos h0];rfl
     have hns:SBle (.rows true (s.ns.length+1) [.str fun j=>if j<s.ns.length then s.ns.getD j [] else selS [w.f (w.ag t).toNat] (j - s.ns.length)] false (c*1) 9) (nsSB (Wk.take w s t) c):=by
      unfold nsSB
      rw[h1];exact ns_snoc
     have hl:s.ns.length+[w.at t].length≤c:=hcc
     refine⟨(c,c2),?_⟩
     repeat' first
      | assumption
      | exact flaw_le
      | exact SBle.refl _
      | refine And.intro ?_ ?_
      | exact fun _=>rfl
      | rfl
      | omega
      | exact trivial
      | fail
    ·have h0:=of_decide_eq_false h0
     rw[if_neg h0]
     have h1:(Wk.take w s t).ns=s.ns:=by show(if s.used t=0 then _ else _)=_;rw[if_neg h0]
     have hns:SBle (.rows true s.ns.length [nsCol s.ns] false (c1*1) 9) (nsSB (Wk.take w s t) c1):=by
      unfold nsSB
      rw[h1];exact SBle.refl _
     refine⟨(c1,c2),?_⟩
     repeat' first
      | assumption
      | exact flaw_le
      | exact SBle.refl _
      | refine And.intro ?_ ?_
      | exact fun _=>rfl
      | rfl
      | omega
      | exact trivial
      | fail
   ·rw[hB] at el
    simp only[el,Bool.and_false,Bool.false_eq_true,false_imp_iff,forall_const,true_and]
    exact⟨(_,_),ez,flaw_le,trivial⟩
end
theorem sntake_ok:CallOk Tryz.prog 93 (memPT snTakeC) :=
 mem_ok (n:=20) (fn:=Tryz.f93) Tryz.func93 (by kernel_rfl) (by kernel_rfl) snTakeC fun x hx=>⟨cfgX1,goodX1,rfl,sntake_holds hx.1 hx.2.1 hx.2.2.1⟩
noncomputable def listX2:List (FuncId×PT):=(93,memPT snTakeC)::(56,purePT hasSpec)::(169,purePT meetsSpec)::(137,ansPT nkeySpec)::listX1
theorem listX2_ok:SummOk Tryz.prog (fun f=>lookPT f listX2):=.cons sntake_ok (memPT_mono _) (.cons has_ok (purePT_mono _) (.cons meets_ok (purePT_mono _) (.cons nkey_ok (ansPT_mono _) listX1_ok)))
noncomputable def cfgX2:Cfg:={cfg0 with summ:=fun f=>lookPT f listX2}
theorem goodX2:Sx.Good Tryz.prog cfgX2:=⟨mixes,listX2_ok,fns_ok⟩
end Go.Proofs.YtoalfimkkibpdaaGreatDoor
namespace Go.Proofs.YtoalfimkkibpdaaGreatDoor
open Go Sx
set_option maxRecDepth 20000
theorem vcSnFollow (x:SnG×List UInt8):VC.holds (runM cfgX2 139 Tryz.f139 snFollowC x)=((fun Q0:SV=>((fun Q1:SB=>(Rel 9223372036854775808 x.snd ∧(inlB x.snd=true →(inlB x.snd=true →∃(x_3:Nat×Nat),(x.fst.s.ns.length≤x_3.fst ∧x.fst.s.fs.length≤x_3.snd) ∧(∀(E:Nat→Nat),SV.val E (SV.agg (nodeCells (getD x.snd)))=SV.val E (getD x.snd).sv) ∧(7:Nat)=(7:Nat) ∧x.fst.w.fr=x.fst.w.fr ∧x.fst.w.to=x.fst.w.to ∧(0:Nat)=(0:Nat) ∧(0:Nat)=(0:Nat) ∧((0:Nat)=(0:Nat) ∧x.fst.s.ns.length=x.fst.s.ns.length ∧x.fst.c1=x_3.fst) ∧True ∧(↑x.fst.s.lk:Int)=(↑x.fst.s.lk:Int) ∧((0:Nat)=(0:Nat) ∧x.fst.s.fs.length=x.fst.s.fs.length ∧x.fst.c2=x_3.snd) ∧True ∧SBle (usSB x.fst.s) (usSB x.fst.s) ∧SBle (SB.rows true x.fst.s.ns.length [nsCol x.fst.s.ns] false (x.fst.c1*(1:Nat)) 9) (nsSB x.fst.s x_3.fst) ∧SBle (SB.rows true x.fst.s.fs.length [fkCol x.fst.s.fs,fvCol x.fst.s.fs] false (x.fst.c2*(2:Nat)) 60) (fsSB x.fst.s x_3.snd) ∧SBle (SB.cells [SV.map 5] 1 100) (SB.cells [SV.map 5] 1 100) ∧SBle (SB.fmap x.fst.w.ad (FCol.int IntKind.i64 x.fst.w.ag) none) (SB.fmap x.fst.w.ad (FCol.int IntKind.i64 x.fst.w.ag) none) ∧SBle Q1 Q1 ∧True) ∧(inlB x.snd=false →(hashB x.snd=true →(lookT x.fst.w (cutIn x.snd)=true →∃(x_5:Nat×Nat),((if x.fst.s.used (cutIn x.snd)=(0:Int)then x.fst.s.ns++[x.fst.w.at (cutIn x.snd)] else x.fst.s.ns).length≤x_5.fst ∧x.fst.s.fs.length≤x_5.snd) ∧(∀(E:Nat→Nat),SV.val E (SV.agg (nodeCells (getD x.snd)))=SV.val E (getD (x.fst.w.at (cutIn x.snd))).sv) ∧(7:Nat)=(7:Nat) ∧x.fst.w.fr=x.fst.w.fr ∧x.fst.w.to=x.fst.w.to ∧(0:Nat)=(0:Nat) ∧(0:Nat)=(0:Nat) ∧((0:Nat)=(0:Nat) ∧x.fst.s.ns.length=(if x.fst.s.used (cutIn x.snd)=(0:Int)then x.fst.s.ns++[x.fst.w.at (cutIn x.snd)] else x.fst.s.ns).length ∧x.fst.c1=x_5.fst) ∧True ∧(↑x.fst.s.lk:Int)=(↑x.fst.s.lk:Int) ∧((0:Nat)=(0:Nat) ∧x.fst.s.fs.length=x.fst.s.fs.length ∧x.fst.c2=x_5.snd) ∧True ∧SBle (SB.fmap x.fst.s.ud (FCol.int IntKind.i64 x.fst.s.us) none) (usSB (Wk.take x.fst.w x.fst.s (cutIn x.snd))) ∧SBle (SB.rows true x.fst.s.ns.length [nsCol x.fst.s.ns] false (x.fst.c1*(1:Nat)) 9) (nsSB (Wk.take x.fst.w x.fst.s (cutIn x.snd)) x_5.fst) ∧SBle (SB.rows true x.fst.s.fs.length [fkCol x.fst.s.fs,fvCol x.fst.s.fs] false (x.fst.c2*(2:Nat)) 60) (fsSB (Wk.take x.fst.w x.fst.s (cutIn x.snd)) x_5.snd) ∧SBle (SB.cells [SV.map 5] 1 100) (SB.cells [SV.map 5] 1 100) ∧SBle (SB.fmap x.fst.w.ad (FCol.int IntKind.i64 x.fst.w.ag) none) (SB.fmap x.fst.w.ad (FCol.int IntKind.i64 x.fst.w.ag) none) ∧SBle Q1 Q1 ∧True) ∧(lookT x.fst.w (cutIn x.snd)=false →∃(_x:List UInt8×List UInt8),False)) ∧(hashB x.snd=false →∃(_x:List UInt8×List UInt8),False))) ∧(inlB x.snd=false →x.snd.length<(9223372036854775808:Nat) ∧(hashB x.snd=true →∃(x_3:SnG×List UInt8),(x_3.fst.w.Ok ∧x_3.fst.s.Small ∧(x_3.fst.s.ns.length≤x_3.fst.c1 ∧x_3.fst.s.fs.length≤x_3.fst.c2) ∧True) ∧(0:Nat)=(0:Nat) ∧cutIn x.snd=x_3.snd ∧(7:Nat)=(7:Nat) ∧x.fst.w.fr=x_3.fst.w.fr ∧x.fst.w.to=x_3.fst.w.to ∧(0:Nat)=(0:Nat) ∧(0:Nat)=(0:Nat) ∧((0:Nat)=(0:Nat) ∧x.fst.s.ns.length=x_3.fst.s.ns.length ∧x.fst.c1=x_3.fst.c1) ∧True ∧(↑x.fst.s.lk:Int)=(↑x_3.fst.s.lk:Int) ∧((0:Nat)=(0:Nat) ∧x.fst.s.fs.length=x_3.fst.s.fs.length ∧x.fst.c2=x_3.fst.c2) ∧True ∧SBle (SB.fmap x.fst.s.ud (FCol.int IntKind.i64 x.fst.s.us) none) (usSB x_3.fst.s) ∧SBle (SB.rows true x.fst.s.ns.length [nsCol x.fst.s.ns] false (x.fst.c1*(1:Nat)) 9) (nsSB x_3.fst.s x_3.fst.c1) ∧SBle (SB.rows true x.fst.s.fs.length [fkCol x.fst.s.fs,fvCol x.fst.s.fs] false (x.fst.c2*(2:Nat)) 60) (fsSB x_3.fst.s x_3.fst.c2) ∧(1:Nat)=(1:Nat) ∧SBle (SB.fmap x.fst.w.ad (FCol.int IntKind.i64 x.fst.w.ag) none) (SB.fmap x_3.fst.w.ad (FCol.int IntKind.i64 x_3.fst.w.ag) none) ∧(1:Nat)=(1:Nat) ∧(x.fst.w.z=x_3.fst.w.z ∧x.fst.w.o=x_3.fst.w.o ∧(0:Nat)=(0:Nat) ∧x.fst.w.n=x_3.fst.w.n ∧x.fst.w.c=x_3.fst.w.c) ∧SBle (SB.view x.fst.w.z x.fst.w.o x.fst.w.n [Col.str x.fst.w.f]) (SB.view x_3.fst.w.z x_3.fst.w.o x_3.fst.w.n [Col.str x_3.fst.w.f]) ∧(lookT x_3.fst.w x_3.snd=true →∀(x_5:Nat×Nat),(if x_3.fst.s.used x_3.snd=(0:Int)then x_3.fst.s.ns++[x_3.fst.w.at x_3.snd] else x_3.fst.s.ns).length≤x_5.fst ∧x_3.fst.s.fs.length≤x_5.snd →(inlB x.snd=true →∃(x_8:Nat×Nat),(x.fst.s.ns.length≤x_8.fst ∧x.fst.s.fs.length≤x_8.snd) ∧(∀(E:Nat→Nat),SV.val E (SV.agg (nodeCells (getD (x_3.fst.w.at x_3.snd))))=SV.val E (getD x.snd).sv) ∧(7:Nat)=(7:Nat) ∧x_3.fst.w.fr=x.fst.w.fr ∧x_3.fst.w.to=x.fst.w.to ∧(0:Nat)=(0:Nat) ∧(0:Nat)=(0:Nat) ∧((0:Nat)=(0:Nat) ∧(if x_3.fst.s.used x_3.snd=(0:Int)then x_3.fst.s.ns++[x_3.fst.w.at x_3.snd] else x_3.fst.s.ns).length=x.fst.s.ns.length ∧x_5.fst=x_8.fst) ∧True ∧(↑x_3.fst.s.lk:Int)=(↑x.fst.s.lk:Int) ∧((0:Nat)=(0:Nat) ∧x_3.fst.s.fs.length=x.fst.s.fs.length ∧x_5.snd=x_8.snd) ∧True ∧SBle (SB.fmap (setD x_3.fst.s.ud x_3.snd) (FCol.int IntKind.i64 (setG x_3.fst.s.us x_3.snd (x_3.fst.s.used x_3.snd+(1:Int)))) none) (usSB x.fst.s) ∧SBle (SB.rows true (if x_3.fst.s.used x_3.snd=(0:Int)then x_3.fst.s.ns++[x_3.fst.w.at x_3.snd] else x_3.fst.s.ns).length [nsCol (if x_3.fst.s.used x_3.snd=(0:Int)then x_3.fst.s.ns++[x_3.fst.w.at x_3.snd] else x_3.fst.s.ns)] false (x_5.fst*(1:Nat)) 9) (nsSB x.fst.s x_8.fst) ∧SBle (SB.rows true x_3.fst.s.fs.length [fkCol x_3.fst.s.fs,fvCol x_3.fst.s.fs] false (x_5.snd*(2:Nat)) 60) (fsSB x.fst.s x_8.snd) ∧SBle (SB.cells [SV.map 5] 1 100) (SB.cells [SV.map 5] 1 100) ∧SBle (SB.fmap x_3.fst.w.ad (FCol.int IntKind.i64 x_3.fst.w.ag) none) (SB.fmap x.fst.w.ad (FCol.int IntKind.i64 x.fst.w.ag) none) ∧SBle (SB.cells [SV.vslc 7 1 x_3.fst.w.z x_3.fst.w.o 0 x_3.fst.w.n x_3.fst.w.c] 1 22) Q1 ∧True) ∧(inlB x.snd=false →(hashB x.snd=true →(lookT x.fst.w (cutIn x.snd)=true →∃(x_10:Nat×Nat),((if x.fst.s.used (cutIn x.snd)=(0:Int)then x.fst.s.ns++[x.fst.w.at (cutIn x.snd)] else x.fst.s.ns).length≤x_10.fst ∧x.fst.s.fs.length≤x_10.snd) ∧(∀(E:Nat→Nat),SV.val E (SV.agg (nodeCells (getD (x_3.fst.w.at x_3.snd))))=SV.val E (getD (x.fst.w.at (cutIn x.snd))).sv) ∧(7:Nat)=(7:Nat) ∧x_3.fst.w.fr=x.fst.w.fr ∧x_3.fst.w.to=x.fst.w.to ∧(0:Nat)=(0:Nat) ∧(0:Nat)=(0:Nat) ∧((0:Nat)=(0:Nat) ∧(if x_3.fst.s.used x_3.snd=(0:Int)then x_3.fst.s.ns++[x_3.fst.w.at x_3.snd] else x_3.fst.s.ns).length=(if x.fst.s.used (cutIn x.snd)=(0:Int)then x.fst.s.ns++[x.fst.w.at (cutIn x.snd)] else x.fst.s.ns).length ∧x_5.fst=x_10.fst) ∧True ∧(↑x_3.fst.s.lk:Int)=(↑x.fst.s.lk:Int) ∧((0:Nat)=(0:Nat) ∧x_3.fst.s.fs.length=x.fst.s.fs.length ∧x_5.snd=x_10.snd) ∧True ∧SBle (SB.fmap (setD x_3.fst.s.ud x_3.snd) (FCol.int IntKind.i64 (setG x_3.fst.s.us x_3.snd (x_3.fst.s.used x_3.snd+(1:Int)))) none) (usSB (Wk.take x.fst.w x.fst.s (cutIn x.snd))) ∧SBle (SB.rows true (if x_3.fst.s.used x_3.snd=(0:Int)then x_3.fst.s.ns++[x_3.fst.w.at x_3.snd] else x_3.fst.s.ns).length [nsCol (if x_3.fst.s.used x_3.snd=(0:Int)then x_3.fst.s.ns++[x_3.fst.w.at x_3.snd] else x_3.fst.s.ns)] false (x_5.fst*(1:Nat)) 9) (nsSB (Wk.take x.fst.w x.fst.s (cutIn x.snd)) x_10.fst) ∧SBle (SB.rows true x_3.fst.s.fs.length [fkCol x_3.fst.s.fs,fvCol x_3.fst.s.fs] false (x_5.snd*(2:Nat)) 60) (fsSB (Wk.take x.fst.w x.fst.s (cutIn x.snd)) x_10.snd) ∧SBle (SB.cells [SV.map 5] 1 100) (SB.cells [SV.map 5] 1 100) ∧SBle (SB.fmap x_3.fst.w.ad (FCol.int IntKind.i64 x_3.fst.w.ag) none) (SB.fmap x.fst.w.ad (FCol.int IntKind.i64 x.fst.w.ag) none) ∧SBle (SB.cells [SV.vslc 7 1 x_3.fst.w.z x_3.fst.w.o 0 x_3.fst.w.n x_3.fst.w.c] 1 22) Q1 ∧True) ∧(lookT x.fst.w (cutIn x.snd)=false →∃(_x:List UInt8×List UInt8),False)) ∧(hashB x.snd=false →∃(_x:List UInt8×List UInt8),False))) ∧(lookT x_3.fst.w x_3.snd=false →∀(x_5:List UInt8×List UInt8),(inlB x.snd=true →∃(x_7:Nat×Nat),(x.fst.s.ns.length≤x_7.fst ∧x.fst.s.fs.length≤x_7.snd) ∧False) ∧(inlB x.snd=false →(hashB x.snd=true →(lookT x.fst.w (cutIn x.snd)=true →∃(x_9:Nat×Nat),((if x.fst.s.used (cutIn x.snd)=(0:Int)then x.fst.s.ns++[x.fst.w.at (cutIn x.snd)] else x.fst.s.ns).length≤x_9.fst ∧x.fst.s.fs.length≤x_9.snd) ∧False) ∧(lookT x.fst.w (cutIn x.snd)=false →∃(x:List UInt8×List UInt8),(∀(E:Nat→Nat),SV.val E Q0=SV.val E zeroN) ∧(0:Nat)=(0:Nat) ∧SBle (SB.cells [SV.str false x_5.fst,SV.str false x_5.snd] 2 231) (SB.cells [SV.str false x.fst,SV.str false x.snd] 2 231) ∧True)) ∧(hashB x.snd=false →∃(x:List UInt8×List UInt8),(∀(E:Nat→Nat),SV.val E Q0=SV.val E zeroN) ∧(0:Nat)=(0:Nat) ∧SBle (SB.cells [SV.str false x_5.fst,SV.str false x_5.snd] 2 231) (SB.cells [SV.str false x.fst,SV.str false x.snd] 2 231) ∧True)))) ∧(hashB x.snd=false →(inlB x.snd=true →∃(x_4:Nat×Nat),(x.fst.s.ns.length≤x_4.fst ∧x.fst.s.fs.length≤x_4.snd) ∧False) ∧(inlB x.snd=false →(hashB x.snd=true →(lookT x.fst.w (cutIn x.snd)=true →∃(x_6:Nat×Nat),((if x.fst.s.used (cutIn x.snd)=(0:Int)then x.fst.s.ns++[x.fst.w.at (cutIn x.snd)] else x.fst.s.ns).length≤x_6.fst ∧x.fst.s.fs.length≤x_6.snd) ∧False) ∧(lookT x.fst.w (cutIn x.snd)=false →∃(x_6:List UInt8×List UInt8),(∀(E:Nat→Nat),SV.val E Q0=SV.val E zeroN) ∧(0:Nat)=(0:Nat) ∧SBle (SB.cells [SV.str true [(110:UInt8),(111:UInt8),(32:UInt8),(114:UInt8),(101:UInt8),(102:UInt8),(58:UInt8)],SV.str false x.snd] 2 231) (SB.cells [SV.str false x_6.fst,SV.str false x_6.snd] 2 231) ∧True)) ∧(hashB x.snd=false →∃(x_5:List UInt8×List UInt8),(∀(E:Nat→Nat),SV.val E Q0=SV.val E zeroN) ∧(0:Nat)=(0:Nat) ∧SBle (SB.cells [SV.str true [(110:UInt8),(111:UInt8),(32:UInt8),(114:UInt8),(101:UInt8),(102:UInt8),(58:UInt8)],SV.str false x.snd] 2 231) (SB.cells [SV.str false x_5.fst,SV.str false x_5.snd] 2 231) ∧True)))))) (SB.cells [SV.vslc 7 1 x.fst.w.z x.fst.w.o 0 x.fst.w.n x.fst.w.c] 1 22))) (SV.agg [SV.int .i64 true 0,SV.str true [],SV.str true [],SV.str true [],SV.str true [],SV.str true [],SV.str true [],SV.str true [],SV.str true [],SV.str true [],SV.str true [],SV.str true [],SV.str true [],SV.str true [],SV.str true [],SV.str true [],SV.str true [],SV.str true [],SV.str true []])):=by kernel_rfl
end Go.Proofs.YtoalfimkkibpdaaGreatDoor
namespace Go.Proofs.YtoalfimkkibpdaaGreatDoor
open Go Sx
set_option maxRecDepth 20000
section
attribute [local irreducible] getB' getD inlB hashB cutIn lookT
theorem snfollow_holds {x:SnG×List UInt8} (hw:x.1.w.Ok)(hs:x.1.s.Small)(hc:x.1.s.ns.length≤x.1.c1∧x.1.s.fs.length≤x.1.c2)(ht:x.2.length<9223372036854775808) :
  Holds (runM cfgX2 139 Tryz.f139 snFollowC x):=by
 refine Holds.of_eq (vcSnFollow x) ?_
 obtain⟨⟨w,s,c1,c2⟩,t⟩:=x
 dsimp only at hw hs hc ht ⊢
 have hr:Rel 9223372036854775808 t:=⟨.inl ht,ht⟩
 have ez:=SnOk.zero
 have done: ∀ {p q:Nat},s.ns.length≤c1→s.fs.length≤c2→p=c1→q=c2→s.ns.length≤p∧s.fs.length≤q:=fun a b c d=>by subst c;subst d;exact⟨a,b⟩
 cases h1:inlB t<;>cases h2:hashB t<;>cases h3:lookT w (cutIn t)
 all_goals simp only[hr,ht,Bool.false_eq_true,Bool.true_eq_false,false_imp_iff,forall_const,true_and,and_true]
 all_goals first
  | exact⟨(_,_),ez,flaw_le⟩
  | refine⟨(⟨w,s,c1,c2⟩,cutIn t),?_⟩
  | refine⟨(c1,c2),?_⟩
 all_goals simp only[h3,hw,hs,hc,Bool.false_eq_true,Bool.true_eq_false,false_imp_iff,forall_const,true_and,and_true]
 all_goals
  repeat' first
   | exact SBle.refl _
   | refine And.intro ?_ ?_
   | exact fun _=>rfl
   | (intro (y:List UInt8×List UInt8);exact⟨y,ez,SBle.refl _⟩)
   | (intro (y:Nat×Nat) hy;refine⟨y,hy,?_⟩)
   | rfl
   | exact trivial
   | fail
end
end Go.Proofs.YtoalfimkkibpdaaGreatDoor
namespace Go.Proofs.YtoalfimkkibpdaaGreatDoor
open Go Sx
set_option maxRecDepth 20000
theorem snfollow_ok:CallOk Tryz.prog 139 (memPT snFollowC) :=
 mem_ok (n:=20) (fn:=Tryz.f139) Tryz.func139 (by kernel_rfl) (by kernel_rfl) snFollowC fun x hx=>⟨cfgX2,goodX2,rfl,snfollow_holds hx.1 hx.2.1 hx.2.2.1 hx.2.2.2⟩
def toX (x:Nd)(p:List UInt8)(i:Nat):List UInt8:=if x.k=3 then cat (cat p x.p) [UInt8.ofNat i] else cat p x.p
def seeB (w:Sp)(x:Nd)(p:List UInt8):Bool:=!decide (x.v=[])&&(hasB w.fr w.to (cat p x.p)&&keyB (cat p x.p))
def Wk.see (w:Sp)(s:Wk)(x:Nd)(p:List UInt8):Wk:={s with lk:=s.lk+1,fs:=if seeB w x p=true then s.fs++[(pairsL (cat p x.p),x.v)] else s.fs}
def snfol (w:Sp)(s:Wk)(t:List UInt8):Option (Nd×Wk):=if inlB t=true then some (getD t,s)else if(hashB t&&lookT w (cutIn t))=true then some (getD (w.at (cutIn t)),s.take w (cutIn t))else none
def refStep (w:Sp)(T:Wk→Nd→List UInt8→Option Wk)(x:Nd)(p:List UInt8)(i:Nat)(s:Wk):Option Wk :=
 if x.r i=[] then some s else bif meetsB w.fr w.to (toX x p i)then(match snfol w s (x.r i)with
  | none=>none
  | some (y,s')=>T s' y (toX x p i))else some s
def refsTo (w:Sp)(T:Wk→Nd→List UInt8→Option Wk)(x:Nd)(p:List UInt8):Nat→Wk→Option Wk
 | 0,s=>some s
 | i+1,s=>match refsTo w T x p i s with
   | none=>none
   | some s'=>refStep w T x p i s'
def thr (w:Sp):Nat→Wk→Nd→List UInt8→Option Wk
 | 0,_,_,_=>none
 | m+1,s,x,p=>if 400≤s.lk then none else refsTo w (thr w m) x p 16 (s.see w x p)
def thrB (w:Sp)(m:Nat)(s:Wk)(x:Nd)(p:List UInt8):Bool:=(thr w m s x p).isSome
def thrS (w:Sp)(m:Nat)(s:Wk)(x:Nd)(p:List UInt8):Wk:=match thr w m s x p with
 | some s'=>s'
 | none=>s
structure Wk.Fit (s:Wk)(k:Nat):Prop where
 u: ∀ h,0≤s.used h∧s.used h≤k
 ns:s.ns.length≤k
 fs:s.fs.length≤s.lk
 lk:s.lk≤400
def thrC (m:Nat):MemC:=snC (Nd×List UInt8) (fun y=>[y.1.sv,.str false y.2]) (fun g y=>g.s.Fit (g.s.lk+1)∧401≤g.s.lk+m∧y.1.Short∧y.2.length≤13*g.s.lk) fun g y=>.fork (thrB g.w m g.s y.1 y.2) fun b=>match b with
 | true=>snOk .niliface g.w (thrS g.w m g.s y.1 y.2)
 | false=>snFlaw fun v=>v
def rowKeys (st:Sx.St):List Nat:=match st.m.get 0 with
 | some (.cells [_,_,_,_,.rslc kn _ _ _ _ _,_,.rslc kf _ _ _ _ _] _ _)=>[kn,kf]
 | _=>[]
def joinThr (g:SnG)(x:Nd)(p:List UInt8):LoopAnn :=
 {α:=Nat,pre:=fun _ c2=>(g.s.see g.w x p).fs.length≤c2,mea:=fun _ _=>0,fresh:=1,slots:=fun _ _=>[],mem:=fun st c2=>[(0,wkSB g.w (g.s.see g.w x p) 2 st.nx g.c1 c2),(st.nx,fsSB (g.s.see g.w x p) c2)],drop:=fun _=>[3]}
def annBelow (m:Nat)(g:SnG)(x:Nd)(p:List UInt8):LoopAnn :=
 {α:=Nat×Wk×Nat×Nat,pre:=fun _ y=>y.1≤16∧refsTo g.w (thr g.w m) x p y.1 (g.s.see g.w x p)=some y.2.1∧y.2.1.ns.length≤y.2.2.1∧y.2.1.fs.length≤y.2.2.2,mea:=fun _ y=>16 - y.1,fresh:=2,slots:=fun _ y=>[(10,.int .i64 false y.1)],
  mem:=fun st y=>[(0,wkSB g.w y.2.1 st.nx (st.nx+1) y.2.2.1 y.2.2.2),(1,usSB y.2.1),(st.nx,nsSB y.2.1 y.2.2.1),(st.nx+1,fsSB y.2.1 y.2.2.2)],drop:=rowKeys}
def joinTo (x:Nd)(p:List UInt8)(i:Nat):LoopAnn :=
 {α:=Unit,pre:=fun _ _=>True,mea:=fun _ _=>0,fresh:=0,slots:=fun _ _=>[(7,.str false (toX x p i))],mem:=fun _ _=>[]}
def joinToAt (x:Nd)(p:List UInt8)(st:Sx.St):Option Multi:=match slot st.tmps 10 with
 | some (.int _ _ i)=>some (one (joinTo x p i.toNat))
 | _=>none
noncomputable def listX3 (m:Nat):List (FuncId×PT):=(94,memPT (thrC m))::(139,memPT snFollowC)::listX2
noncomputable def cfgTh (m:Nat)(g:SnG)(x:Nd)(p:List UInt8):Cfg:={cfg0 with summ:=fun f=>lookPT f (listX3 m),anns:=fun f=>if f=168 then [(1,always (annBelow m g x p)),(105007,joinToAt x p)] else if f=94 then [(104009,always (joinThr g x p))] else []}
end Go.Proofs.YtoalfimkkibpdaaGreatDoor
