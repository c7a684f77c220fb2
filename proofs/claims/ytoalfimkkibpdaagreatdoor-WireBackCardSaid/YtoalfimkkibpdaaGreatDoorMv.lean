/-
  Conditions that the executor computes, written out by a program (vcgen.py).
-/
import Derived.Test.YtoalfimkkibpdaaGreatDoorMu
import Derived.Test.YtoalfimkkibpdaaGreatDoorMt
import Derived.Test.YtoalfimkkibpdaaGreatDoorMm
namespace Go.Proofs.YtoalfimkkibpdaaGreatDoor
open Go Sx
set_option maxRecDepth 20000
theorem vcSnVerify (root:List UInt8)(w:Sp)(kk:Option Nat):VC.holds (runS (cfgSv w) 35 Tryz.f35 [.str false root,.agg [.str false w.fr,.str false w.to],.vslc 0 1 w.z w.o 0 w.n w.c] [seenSp w kk] (snVerA root w))=((fun Q0:SV=>((fun Q1:SB=>(((!(Op.bytesLess w.fr w.to||decide (w.fr=w.to)))=true →((snRes root w).isSome=true →∃(x:Nat),(snL root w).length≤x ∧False) ∧((snRes root w).isSome=false →sameVal Q0 Q0)) ∧((!(Op.bytesLess w.fr w.to||decide (w.fr=w.to)))=false →(decide ((↑w.n:Int)=(0:Int))=true →((snRes root w).isSome=true →∃(x:Nat),(snL root w).length≤x ∧False) ∧((snRes root w).isSome=false →sameVal Q0 Q0)) ∧(decide ((↑w.n:Int)=(0:Int))=false →(decide ((200:Int)<(↑w.n:Int))=true →((snRes root w).isSome=true →∃(x:Nat),(snL root w).length≤x ∧False) ∧((snRes root w).isSome=false →sameVal Q0 Q0)) ∧(decide ((200:Int)<(↑w.n:Int))=false →(∃(y:Nat),y≤w.n ∧(0:Int)=(↑y:Int) ∧SBle (SB.map [] 0) (SB.fmap (firstD w.f y) (FCol.int IntKind.i64 (firstG w.f y)) none) ∧SBle (SB.cells (setRange SV.nilmap.cells 0 (SV.map 3).cells) 1 100) (SB.cells (setRange SV.nilmap.cells 0 (SV.map 3).cells) 1 100) ∧SBle (SB.cells (SV.vslc 0 1 w.z w.o 0 w.n w.c).cells 1 22) (SB.cells (SV.vslc 0 1 w.z w.o 0 w.n w.c).cells 1 22) ∧SBle Q1 Q1 ∧SBle (seenSp w kk).B (seenSp w kk).B ∧True) ∧∀(x:Nat),x≤w.n →(decide ((↑x:Int)<(↑w.n:Int))=true →((0:Int)≤(↑x:Int) ∧(↑x:Int)<(↑w.n:Int)) ∧(w.o=w.o ∧(0:Nat)+(↑x:Int).toNat<w.n) ∧(True ∧ofQ [w.f ((0:Nat)+(↑x:Int).toNat)]) ∧((!firstD w.f x (shaL (flat [w.f ((0:Nat)+(↑x:Int).toNat)])))=true →((-9223372036854775808:Int)≤(↑x:Int)+(1:Int) ∧(↑x:Int)+(1:Int)≤(9223372036854775807:Int)) ∧∃(y:Nat),(y≤w.n ∧w.n - y<w.n - x) ∧(↑x:Int)+(1:Int)=(↑y:Int) ∧SBle (SB.fmap (setD (firstD w.f x) (shaL (flat [w.f ((0:Nat)+(↑x:Int).toNat)]))) (FCol.int IntKind.i64 (setG (firstG w.f x) (shaL (flat [w.f ((0:Nat)+(↑x:Int).toNat)])) (↑x:Int))) none) (SB.fmap (firstD w.f y) (FCol.int IntKind.i64 (firstG w.f y)) none) ∧SBle (SB.cells (setRange SV.nilmap.cells 0 (SV.map 3).cells) 1 100) (SB.cells (setRange SV.nilmap.cells 0 (SV.map 3).cells) 1 100) ∧SBle (SB.cells (SV.vslc 0 1 w.z w.o 0 w.n w.c).cells 1 22) (SB.cells (SV.vslc 0 1 w.z w.o 0 w.n w.c).cells 1 22) ∧SBle Q1 Q1 ∧SBle (seenSp w kk).B (seenSp w kk).B ∧True) ∧((!firstD w.f x (shaL (flat [w.f ((0:Nat)+(↑x:Int).toNat)])))=false →((-9223372036854775808:Int)≤(↑x:Int)+(1:Int) ∧(↑x:Int)+(1:Int)≤(9223372036854775807:Int)) ∧∃(y:Nat),(y≤w.n ∧w.n - y<w.n - x) ∧(↑x:Int)+(1:Int)=(↑y:Int) ∧SBle (SB.fmap (firstD w.f x) (FCol.int IntKind.i64 (firstG w.f x)) none) (SB.fmap (firstD w.f y) (FCol.int IntKind.i64 (firstG w.f y)) none) ∧SBle (SB.cells (setRange SV.nilmap.cells 0 (SV.map 3).cells) 1 100) (SB.cells (setRange SV.nilmap.cells 0 (SV.map 3).cells) 1 100) ∧SBle (SB.cells (SV.vslc 0 1 w.z w.o 0 w.n w.c).cells 1 22) (SB.cells (SV.vslc 0 1 w.z w.o 0 w.n w.c).cells 1 22) ∧SBle Q1 Q1 ∧SBle (seenSp w kk).B (seenSp w kk).B ∧True)) ∧(decide ((↑x:Int)<(↑w.n:Int))=false →((!firstD w.f x root)=true →((snRes root w).isSome=true →∃(x:Nat),(snL root w).length≤x ∧False) ∧((snRes root w).isSome=false →sameVal Q0 Q0)) ∧((!firstD w.f x root)=false →((!decide (dflt (firstD w.f x root) (firstG w.f x root)=(0:Int)))=true →((snRes root w).isSome=true →∃(x:Nat),(snL root w).length≤x ∧False) ∧((snRes root w).isSome=false →sameVal Q0 Q0)) ∧((!decide (dflt (firstD w.f x root) (firstG w.f x root)=(0:Int)))=false →∃(x_5:SnG×List UInt8),(x_5.fst.w.Ok ∧x_5.fst.s.Small ∧(x_5.fst.s.ns.length≤x_5.fst.c1 ∧x_5.fst.s.fs.length≤x_5.fst.c2) ∧True) ∧(0:Nat)=(0:Nat) ∧root=x_5.snd ∧(7:Nat)=(7:Nat) ∧w.fr=x_5.fst.w.fr ∧w.to=x_5.fst.w.to ∧(0:Nat)=(0:Nat) ∧(0:Nat)=(0:Nat) ∧x_5.fst.s.ns.length=(0:Nat) ∧(0:Int)=(↑x_5.fst.s.lk:Int) ∧x_5.fst.s.fs.length=(0:Nat) ∧SBle (SB.map [] 0) (usSB x_5.fst.s) ∧(nsSB x_5.fst.s x_5.fst.c1).no=true ∧(fsSB x_5.fst.s x_5.fst.c2).no=true ∧(1:Nat)=(1:Nat) ∧SBle (SB.fmap (firstD w.f x) (FCol.int IntKind.i64 (firstG w.f x)) none) (SB.fmap x_5.fst.w.ad (FCol.int IntKind.i64 x_5.fst.w.ag) none) ∧(1:Nat)=(1:Nat) ∧(w.z=x_5.fst.w.z ∧w.o=x_5.fst.w.o ∧(0:Nat)=(0:Nat) ∧w.n=x_5.fst.w.n ∧w.c=x_5.fst.w.c) ∧SBle (SB.view w.z w.o w.n [Col.str w.f]) (SB.view x_5.fst.w.z x_5.fst.w.o x_5.fst.w.n [Col.str x_5.fst.w.f]) ∧(lookT x_5.fst.w x_5.snd=true →∀(x:Nat×Nat),(if x_5.fst.s.used x_5.snd=(0:Int)then x_5.fst.s.ns++[x_5.fst.w.at x_5.snd] else x_5.fst.s.ns).length≤x.fst ∧x_5.fst.s.fs.length≤x.snd →∃(x_7:SnG×Nd×List UInt8),(x_7.fst.w.Ok ∧x_7.fst.s.Small ∧(x_7.fst.s.ns.length≤x_7.fst.c1 ∧x_7.fst.s.fs.length≤x_7.fst.c2) ∧x_7.fst.s.Fit (x_7.fst.s.lk+(1:Nat)) ∧(401:Nat)≤x_7.fst.s.lk+(401:Nat) ∧x_7.snd.fst.Short ∧x_7.snd.snd.length≤(13:Nat)*x_7.fst.s.lk) ∧(0:Nat)=(0:Nat) ∧(getD (x_5.fst.w.at x_5.snd)).k=x_7.snd.fst.k ∧(getD (x_5.fst.w.at x_5.snd)).p=x_7.snd.fst.p ∧(getD (x_5.fst.w.at x_5.snd)).v=x_7.snd.fst.v ∧(getD (x_5.fst.w.at x_5.snd)).r 0=x_7.snd.fst.r 0 ∧(getD (x_5.fst.w.at x_5.snd)).r 1=x_7.snd.fst.r 1 ∧(getD (x_5.fst.w.at x_5.snd)).r 2=x_7.snd.fst.r 2 ∧(getD (x_5.fst.w.at x_5.snd)).r 3=x_7.snd.fst.r 3 ∧(getD (x_5.fst.w.at x_5.snd)).r 4=x_7.snd.fst.r 4 ∧(getD (x_5.fst.w.at x_5.snd)).r 5=x_7.snd.fst.r 5 ∧(getD (x_5.fst.w.at x_5.snd)).r 6=x_7.snd.fst.r 6 ∧(getD (x_5.fst.w.at x_5.snd)).r 7=x_7.snd.fst.r 7 ∧(getD (x_5.fst.w.at x_5.snd)).r 8=x_7.snd.fst.r 8 ∧(getD (x_5.fst.w.at x_5.snd)).r 9=x_7.snd.fst.r 9 ∧(getD (x_5.fst.w.at x_5.snd)).r 10=x_7.snd.fst.r 10 ∧(getD (x_5.fst.w.at x_5.snd)).r 11=x_7.snd.fst.r 11 ∧(getD (x_5.fst.w.at x_5.snd)).r 12=x_7.snd.fst.r 12 ∧(getD (x_5.fst.w.at x_5.snd)).r 13=x_7.snd.fst.r 13 ∧(getD (x_5.fst.w.at x_5.snd)).r 14=x_7.snd.fst.r 14 ∧(getD (x_5.fst.w.at x_5.snd)).r 15=x_7.snd.fst.r 15 ∧[]=x_7.snd.snd ∧(7:Nat)=(7:Nat) ∧x_5.fst.w.fr=x_7.fst.w.fr ∧x_5.fst.w.to=x_7.fst.w.to ∧(0:Nat)=(0:Nat) ∧(0:Nat)=(0:Nat) ∧((0:Nat)=(0:Nat) ∧(if x_5.fst.s.used x_5.snd=(0:Int)then x_5.fst.s.ns++[x_5.fst.w.at x_5.snd] else x_5.fst.s.ns).length=x_7.fst.s.ns.length ∧x.fst=x_7.fst.c1) ∧True ∧(↑x_5.fst.s.lk:Int)=(↑x_7.fst.s.lk:Int) ∧((0:Nat)=(0:Nat) ∧x_5.fst.s.fs.length=x_7.fst.s.fs.length ∧x.snd=x_7.fst.c2) ∧True ∧SBle (SB.fmap (setD x_5.fst.s.ud x_5.snd) (FCol.int IntKind.i64 (setG x_5.fst.s.us x_5.snd (x_5.fst.s.used x_5.snd+(1:Int)))) none) (usSB x_7.fst.s) ∧SBle (SB.rows true (if x_5.fst.s.used x_5.snd=(0:Int)then x_5.fst.s.ns++[x_5.fst.w.at x_5.snd] else x_5.fst.s.ns).length [nsCol (if x_5.fst.s.used x_5.snd=(0:Int)then x_5.fst.s.ns++[x_5.fst.w.at x_5.snd] else x_5.fst.s.ns)] false (x.fst*(1:Nat)) 9) (nsSB x_7.fst.s x_7.fst.c1) ∧SBle (SB.rows true x_5.fst.s.fs.length [fkCol x_5.fst.s.fs,fvCol x_5.fst.s.fs] false (x.snd*(2:Nat)) 60) (fsSB x_7.fst.s x_7.fst.c2) ∧(1:Nat)=(1:Nat) ∧SBle (SB.fmap x_5.fst.w.ad (FCol.int IntKind.i64 x_5.fst.w.ag) none) (SB.fmap x_7.fst.w.ad (FCol.int IntKind.i64 x_7.fst.w.ag) none) ∧(1:Nat)=(1:Nat) ∧(x_5.fst.w.z=x_7.fst.w.z ∧x_5.fst.w.o=x_7.fst.w.o ∧(0:Nat)=(0:Nat) ∧x_5.fst.w.n=x_7.fst.w.n ∧x_5.fst.w.c=x_7.fst.w.c) ∧SBle (SB.view w.z w.o w.n [Col.str w.f]) (SB.view x_7.fst.w.z x_7.fst.w.o x_7.fst.w.n [Col.str x_7.fst.w.f]) ∧(thrB x_7.fst.w 401 x_7.fst.s x_7.snd.fst x_7.snd.snd=true →∀(x:Nat×Nat),(thrS x_7.fst.w 401 x_7.fst.s x_7.snd.fst x_7.snd.snd).ns.length≤x.fst ∧(thrS x_7.fst.w 401 x_7.fst.s x_7.snd.fst x_7.snd.snd).fs.length≤x.snd →(((true=true ∧(0:Nat)+(thrS x_7.fst.w 401 x_7.fst.s x_7.snd.fst x_7.snd.snd).ns.length≤(thrS x_7.fst.w 401 x_7.fst.s x_7.snd.fst x_7.snd.snd).ns.length) ∧(x_7.fst.w.z=w.z ∧w.o=x_7.fst.w.o ∧(0:Nat)+x_7.fst.w.n≤w.n) ∧True) ∧(thrS x_7.fst.w 401 x_7.fst.s x_7.snd.fst x_7.snd.snd).ns.length<(9223372036854775808:Nat)) ∧((!sameT (thrS x_7.fst.w 401 x_7.fst.s x_7.snd.fst x_7.snd.snd).ns.length (fun(i:Nat)=>(thrS x_7.fst.w 401 x_7.fst.s x_7.snd.fst x_7.snd.snd).ns.getD i []) x_7.fst.w.n w.f)=true →((snRes root w).isSome=true →∃(x:Nat),(snL root w).length≤x ∧False) ∧((snRes root w).isSome=false →sameVal Q0 Q0)) ∧((!sameT (thrS x_7.fst.w 401 x_7.fst.s x_7.snd.fst x_7.snd.snd).ns.length (fun(i:Nat)=>(thrS x_7.fst.w 401 x_7.fst.s x_7.snd.fst x_7.snd.snd).ns.getD i []) x_7.fst.w.n w.f)=false →((snRes root w).isSome=true →∃(x_11:Nat),(snL root w).length≤x_11 ∧SBle (SB.rows true (thrS x_7.fst.w 401 x_7.fst.s x_7.snd.fst x_7.snd.snd).fs.length [fkCol (thrS x_7.fst.w 401 x_7.fst.s x_7.snd.fst x_7.snd.snd).fs,fvCol (thrS x_7.fst.w 401 x_7.fst.s x_7.snd.fst x_7.snd.snd).fs] false (x.snd*(2:Nat)) 60) (SB.rows true (snL root w).length [fkCol (snL root w),fvCol (snL root w)] false (x_11*(2:Nat)) 60) ∧sameVal (SV.tup [SV.ren._f (renF 8 [((7:Nat),renF 8 [((7:Nat),(0:Nat)),((5:Nat),(3:Nat)),((1:Nat),(6:Nat)),((6:Nat),(2:Nat)),((4:Nat),(4:Nat)),((0:Nat),(7:Nat))] 8 7),((5:Nat),renF 8 [((7:Nat),(0:Nat)),((5:Nat),(3:Nat)),((1:Nat),(6:Nat)),((6:Nat),(2:Nat)),((4:Nat),(4:Nat)),((0:Nat),(7:Nat))] 8 5),((3:Nat),renF 8 [((7:Nat),(0:Nat)),((5:Nat),(3:Nat)),((1:Nat),(6:Nat)),((6:Nat),(2:Nat)),((4:Nat),(4:Nat)),((0:Nat),(7:Nat))] 8 9),((2:Nat),renF 8 [((7:Nat),(0:Nat)),((5:Nat),(3:Nat)),((1:Nat),(6:Nat)),((6:Nat),(2:Nat)),((4:Nat),(4:Nat)),((0:Nat),(7:Nat))] 8 8),((1:Nat),renF 8 [((7:Nat),(0:Nat)),((5:Nat),(3:Nat)),((1:Nat),(6:Nat)),((6:Nat),(2:Nat)),((4:Nat),(4:Nat)),((0:Nat),(7:Nat))] 8 1),((6:Nat),renF 8 [((7:Nat),(0:Nat)),((5:Nat),(3:Nat)),((1:Nat),(6:Nat)),((6:Nat),(2:Nat)),((4:Nat),(4:Nat)),((0:Nat),(7:Nat))] 8 6),((4:Nat),renF 8 [((7:Nat),(0:Nat)),((5:Nat),(3:Nat)),((1:Nat),(6:Nat)),((6:Nat),(2:Nat)),((4:Nat),(4:Nat)),((0:Nat),(7:Nat))] 8 4),((0:Nat),(7:Nat))] 20) (SV.rslc 9 2 true 0 (thrS x_7.fst.w 401 x_7.fst.s x_7.snd.fst x_7.snd.snd).fs.length x.snd) Unit.unit,SV.int .i64 true 0]) (SV.tup [SV.rslc (renF 8 [((7:Nat),renF 8 [((7:Nat),(0:Nat)),((5:Nat),(3:Nat)),((1:Nat),(6:Nat)),((6:Nat),(2:Nat)),((4:Nat),(4:Nat)),((0:Nat),(7:Nat))] 8 7),((5:Nat),renF 8 [((7:Nat),(0:Nat)),((5:Nat),(3:Nat)),((1:Nat),(6:Nat)),((6:Nat),(2:Nat)),((4:Nat),(4:Nat)),((0:Nat),(7:Nat))] 8 5),((3:Nat),renF 8 [((7:Nat),(0:Nat)),((5:Nat),(3:Nat)),((1:Nat),(6:Nat)),((6:Nat),(2:Nat)),((4:Nat),(4:Nat)),((0:Nat),(7:Nat))] 8 9),((2:Nat),renF 8 [((7:Nat),(0:Nat)),((5:Nat),(3:Nat)),((1:Nat),(6:Nat)),((6:Nat),(2:Nat)),((4:Nat),(4:Nat)),((0:Nat),(7:Nat))] 8 8),((1:Nat),renF 8 [((7:Nat),(0:Nat)),((5:Nat),(3:Nat)),((1:Nat),(6:Nat)),((6:Nat),(2:Nat)),((4:Nat),(4:Nat)),((0:Nat),(7:Nat))] 8 1),((6:Nat),renF 8 [((7:Nat),(0:Nat)),((5:Nat),(3:Nat)),((1:Nat),(6:Nat)),((6:Nat),(2:Nat)),((4:Nat),(4:Nat)),((0:Nat),(7:Nat))] 8 6),((4:Nat),renF 8 [((7:Nat),(0:Nat)),((5:Nat),(3:Nat)),((1:Nat),(6:Nat)),((6:Nat),(2:Nat)),((4:Nat),(4:Nat)),((0:Nat),(7:Nat))] 8 4),((0:Nat),(7:Nat))] 20 9) 2 true 0 (snL root w).length x_11,SV.int .i64 true 0])) ∧((snRes root w).isSome=false →sameVal (SV.tup [SV.ren._f (renF 8 [((7:Nat),renF 8 [((7:Nat),(0:Nat)),((5:Nat),(3:Nat)),((1:Nat),(6:Nat)),((6:Nat),(2:Nat)),((4:Nat),(4:Nat)),((0:Nat),(7:Nat))] 8 7),((5:Nat),renF 8 [((7:Nat),(0:Nat)),((5:Nat),(3:Nat)),((1:Nat),(6:Nat)),((6:Nat),(2:Nat)),((4:Nat),(4:Nat)),((0:Nat),(7:Nat))] 8 5),((3:Nat),renF 8 [((7:Nat),(0:Nat)),((5:Nat),(3:Nat)),((1:Nat),(6:Nat)),((6:Nat),(2:Nat)),((4:Nat),(4:Nat)),((0:Nat),(7:Nat))] 8 9),((2:Nat),renF 8 [((7:Nat),(0:Nat)),((5:Nat),(3:Nat)),((1:Nat),(6:Nat)),((6:Nat),(2:Nat)),((4:Nat),(4:Nat)),((0:Nat),(7:Nat))] 8 8),((1:Nat),renF 8 [((7:Nat),(0:Nat)),((5:Nat),(3:Nat)),((1:Nat),(6:Nat)),((6:Nat),(2:Nat)),((4:Nat),(4:Nat)),((0:Nat),(7:Nat))] 8 1),((6:Nat),renF 8 [((7:Nat),(0:Nat)),((5:Nat),(3:Nat)),((1:Nat),(6:Nat)),((6:Nat),(2:Nat)),((4:Nat),(4:Nat)),((0:Nat),(7:Nat))] 8 6),((4:Nat),renF 8 [((7:Nat),(0:Nat)),((5:Nat),(3:Nat)),((1:Nat),(6:Nat)),((6:Nat),(2:Nat)),((4:Nat),(4:Nat)),((0:Nat),(7:Nat))] 8 4),((0:Nat),(7:Nat))] 20) (SV.rslc 9 2 true 0 (thrS x_7.fst.w 401 x_7.fst.s x_7.snd.fst x_7.snd.snd).fs.length x.snd) Unit.unit,SV.int .i64 true 0]) Q0))) ∧(thrB x_7.fst.w 401 x_7.fst.s x_7.snd.fst x_7.snd.snd=false →∀(_x:List UInt8×List UInt8),((snRes root w).isSome=true →∃(x:Nat),(snL root w).length≤x ∧False) ∧((snRes root w).isSome=false →sameVal Q0 Q0))) ∧(lookT x_5.fst.w x_5.snd=false →∀(_x:List UInt8×List UInt8),((snRes root w).isSome=true →∃(x:Nat),(snL root w).length≤x ∧False) ∧((snRes root w).isSome=false →sameVal Q0 Q0)))))))))) (SB.cells (SV.agg [SV.str false w.fr,SV.str false w.to]).cells 2 56))) (SV.tup [SV.nilslc,SV.int .i64 true 10])):=by kernel_rfl
end Go.Proofs.YtoalfimkkibpdaaGreatDoor
namespace Go.Proofs.YtoalfimkkibpdaaGreatDoor
open Go Sx
set_option maxRecDepth 20000
structure Sp.Few (w:Sp):Prop where
 f: ∀ i,i<w.n→(w.f i).length≤1000
 fr:w.fr.length≤1000
 to:w.to.length≤1000
theorem first_off (f:Nat→List UInt8): ∀ {n:Nat} {h:List UInt8},firstD f n h=false→firstG f n h=0
 | 0,_,_=>rfl
 | n+1,h,e=>by
   unfold firstD at e
   simp only[Bool.or_eq_false_iff] at e
   unfold firstG
   rw[e.1,e.2];rfl
theorem firstG_succ (f:Nat→List UInt8)(n:Nat)(t:List UInt8):firstG f (n+1) t=bif firstD f n t then firstG f n t else(bif decide (t=shaL (f n))then(n:Int)else 0):=rfl
theorem first_set {f:Nat→List UInt8} {n:Nat} (h:firstD f n (shaL (f n))=false):(∀ t,setD (firstD f n) (shaL (f n)) t=firstD f (n+1) t)∧(∀ t,setG (firstG f n) (shaL (f n)) n t=firstG f (n+1) t):=by
 refine⟨fun t=>rfl,fun t=> ?_⟩
 rw[firstG_succ];unfold setG
 by_cases e:t=shaL (f n)
 ·subst e;rw[h];simp
 ·rw[decide_eq_false e]
  cases hd:firstD f n t with
  | true=>rfl
  | false=>exact first_off f hd
theorem first_was {f:Nat→List UInt8} {n:Nat} (h:firstD f n (shaL (f n))=true):(∀ t,firstD f n t=firstD f (n+1) t)∧(∀ t,firstG f n t=firstG f (n+1) t):=by
 refine⟨fun t=> ?_,fun t=> ?_⟩
 ·show _=(firstD f n t||decide (t=shaL (f n)))
  by_cases e:t=shaL (f n)
  ·subst e;rw[h];rfl
  ·rw[decide_eq_false e,Bool.or_false]
 ·rw[firstG_succ]
  cases hd:firstD f n t with
  | true=>rfl
  | false =>
    by_cases e:t=shaL (f n)
    ·subst e;rw[h] at hd;cases hd
    ·rw[decide_eq_false e];exact first_off f hd
theorem start_fit (w:Sp)(t:List UInt8):(Wk.start.take w t).Fit 1:=Wk.Fit.take (k:=0) ⟨fun _=>⟨Int.le_refl _,Int.le_refl _⟩,Nat.le_refl _,Nat.le_refl _,Nat.zero_le _⟩ w t
theorem wnotB {b:Bool} (h:(!b)=true):b=false:=by cases b<;>simp_all
theorem wyesB {b:Bool} (h:(!b)=false):b=true:=by cases b<;>simp_all
section
attribute [local irreducible] shaL getB' getD firstD firstG hasB keyB pathL thr thrB thrS sameT
set_option maxHeartbeats 1000000 in
theorem snver_holds {w:Sp} (hw:w.Few)(root:List UInt8)(kk:Option Nat) :
  Holds (runS (cfgSv w) 35 Tryz.f35 [.str false root,.agg [.str false w.fr,.str false w.to],.vslc 0 1 w.z w.o 0 w.n w.c] [seenSp w kk] (snVerA root w)):=by
 refine Holds.of_eq (vcSnVerify root w kk) ?_
 dsimp only
 have S: ∀ v:SV,sameVal v v:=fun _ _=>rfl
 have eR:snRes root w=bif leB w.fr w.to&&(decide (0<w.n)&&(decide (w.n≤200)&&decide (shaL (w.f 0)=root)))then(match snWalk root w.full with
  | some s=>bif sameT s.ns.length (fun i=>s.ns.getD i []) w.n w.f then some s.fs else none
  | none=>none)else none:=rfl
 have bad:snRes root w=none→∀ {A B:Prop},B→((snRes root w).isSome=true→A)∧((snRes root w).isSome=false→B):=fun h A B b=>by
  rw[h];exact⟨(fun h=>by cases h),fun _=>b⟩
 refine⟨fun h=>bad (by rw[eR,show leB w.fr w.to=false by simpa [leB] using h];rfl) (S _),fun hle=>⟨fun h0=>bad (by rw[eR,show decide (0<w.n)=false from decide_eq_false (by have:=of_decide_eq_true h0;omega)];simp) (S _),fun h0=>⟨fun h2=>bad (by rw[eR,show decide (w.n≤200)=false from decide_eq_false (by have:=of_decide_eq_true h2;omega)];simp) (S _),fun h2=> ?_⟩⟩⟩
 have hle:leB w.fr w.to=true:=by unfold leB;simpa only[Bool.not_eq_false'] using hle
 have h0:0<w.n:=by have:=of_decide_eq_false h0;omega
 have h2:w.n≤200:=by have:=of_decide_eq_false h2;omega
 refine⟨⟨0,Nat.zero_le _,rfl,SBle.fmap0 fun s=>by unfold firstD;rfl,SBle.refl _,SBle.refl _,SBle.refl _,SBle.refl _,trivial⟩,fun x hx=>⟨fun hlt=> ?_,fun hge=> ?_⟩⟩
 ·have hlt:x<w.n:=by have:=of_decide_eq_true hlt;omega
  have hf:=hw.f x hlt
  simp only[-eq_self,flat_one,Int.toNat_natCast,Nat.zero_add]
  refine⟨⟨by omega,by omega⟩,⟨rfl,hlt⟩,⟨trivial,by rw[flat_one];omega,by simp⟩,fun hd=>⟨⟨by omega,by omega⟩,x+1,⟨hlt,by omega⟩,by omega,?_⟩,fun hd=>⟨⟨by omega,by omega⟩,x+1,⟨hlt,by omega⟩,by omega,?_⟩⟩
  ·have hd:firstD w.f x (shaL (w.f x))=false:=by simpa using hd
   exact⟨SBle.fmap (first_set hd).1 fun t=>congrArg (Value.int .i64) ((first_set hd).2 t),SBle.refl _,SBle.refl _,SBle.refl _,SBle.refl _,trivial⟩
  ·have hd:firstD w.f x (shaL (w.f x))=true:=by simpa using hd
   exact⟨SBle.fmap (first_was hd).1 fun t=>congrArg (Value.int .i64) ((first_was hd).2 t),SBle.refl _,SBle.refl _,SBle.refl _,SBle.refl _,trivial⟩
 ·have hx:x=w.n:=by have:=of_decide_eq_false hge;omega
  subst hx
  have noroot: ¬ (firstD w.f w.n root=true∧firstG w.f w.n root=0)→snRes root w=none:=fun h=>by
   have: ¬ shaL (w.f 0)=root:=fun e=>h (first_root.2 ⟨h0,e⟩)
   rw[eR,decide_eq_false this];simp
  refine⟨fun hr=>bad (noroot fun h=>by rw[h.1] at hr;cases hr) (S _),fun hr=> ?_⟩
  have hr:firstD w.f w.n root=true:=by simpa using hr
  refine⟨fun hz=>bad (noroot fun h=>by rw[h.1,h.2] at hz;cases hz) (S _),fun hz=> ?_⟩
  have hz:firstG w.f w.n root=0:=by rw[hr] at hz;exact wdec (p:=firstG w.f w.n root=0) hz
  have hroot:shaL (w.f 0)=root:=(first_root.1 ⟨hr,hz⟩).2
  have eR:snRes root w=(match snWalk root w.full with
   | some s=>bif sameT s.ns.length (fun i=>s.ns.getD i []) w.n w.f then some s.fs else none
   | none=>none):=by rw[eR,hle,decide_eq_true h0,decide_eq_true h2,decide_eq_true hroot];rfl
  have hok:w.full.Ok:=⟨h2,hw.f,fun h e=>by obtain⟨g1,g2,_⟩:=first_ok w.f w.n h e;exact⟨g1,g2⟩,hw.fr,hw.to⟩
  refine⟨(⟨w.full,Wk.start,0,0⟩,root),⟨hok,⟨fun _=>⟨Int.le_refl _,show(0:Int)≤1000 by decide⟩,Nat.zero_le _,Nat.zero_le _,Nat.zero_le _⟩,⟨Nat.le_refl _,Nat.le_refl _⟩,trivial⟩,?_⟩
  dsimp only
  refine⟨rfl,rfl,rfl,rfl,rfl,rfl,rfl,rfl,rfl,rfl,SBle.fmap0 fun _=>rfl,rfl,rfl,rfl,SBle.refl _,rfl,⟨rfl,rfl,rfl,rfl,rfl⟩,SBle.refl _,fun hL c hc=> ?_,fun hL c=>bad (by rw[eR,snWalk,hL];rfl) (S _)⟩
  have hg:getB' (w.full.at root)=true:=by
   simp only[lookT,Bool.and_eq_true] at hL;exact hL.2
  have hfit:=start_fit w.full root
  have eW:snWalk root w.full=thr w.full 401 (Wk.start.take w.full root) (getD (w.full.at root)) []:=by rw[snWalk,hL];rfl
  refine⟨(⟨w.full,Wk.start.take w.full root,c.1,c.2⟩,getD (w.full.at root),[]),⟨hok,hfit.small (by decide),hc,hfit,(by show 401≤0+401;decide),valid_short (get_valid hg),Nat.zero_le _⟩,?_⟩
  dsimp only
  repeat' first
   | exact SBle.refl _
   | refine And.intro ?_ ?_
   | rfl
   | exact trivial
   | fail
  ·intro hB e he
   have hs:=thrS_eq hB
   have k1:=(thr_fit w.full 401 _ _ _ _ hfit hs).1
   generalize thrS w.full 401 (Wk.start.take w.full root) (getD (w.full.at root)) []=s' at hs k1 he ⊢
   have eR:snRes root w=bif sameT s'.ns.length (fun i=>s'.ns.getD i []) w.n w.f then some s'.fs else none:=by rw[eR,eW,hs]
   have hns:=k1.ns
   have hlk:=k1.lk
   refine⟨⟨⟨⟨rfl,by omega⟩,⟨rfl,rfl,by show 0+w.n≤w.n;omega⟩,trivial⟩,by omega⟩,fun hq=>bad (by rw[eR,show sameT s'.ns.length (fun i=>s'.ns.getD i []) w.n w.f=false from wnotB hq];rfl) (S _),fun hq=> ?_⟩
   have hq:sameT s'.ns.length (fun i=>s'.ns.getD i []) w.n w.f=true:=wyesB hq
   have eR:snRes root w=some s'.fs:=by rw[eR,hq];rfl
   have eL:snL root w=s'.fs:=by unfold snL;rw[eR]
   rw[eR,eL]
   exact⟨fun _=>⟨e.2,he.2,SBle.refl _,S _⟩,(fun h=>by cases h)⟩
  ·exact fun hB c=>bad (by rw[eR,eW,thrB_none hB]) (S _)
end
def shSn:List Sh2:=[.of .one,.agg [.one,.one],.of (.slice [.str fun _=>[]])]
def snOf (vs:List SV)(l:List Seen):Option (List UInt8×Sp×Option Nat):=match vs,l with
 | [.str false root,.agg [.str false fr,.str false to],_],[⟨kk,z,o,n,c,[.str f]⟩]=>some (root,⟨fr,to,n,f,z,o,c,fun _=>false,fun _=>0⟩,kk)
 | _,_=>none
theorem snOf_eq {vs:List SV} {l:List Seen} {root:List UInt8} {w:Sp} {kk:Option Nat} (h:snOf vs l=some (root,w,kk)):filled shSn vs l=[.str false root,.agg [.str false w.fr,.str false w.to],.vslc 0 1 w.z w.o 0 w.n w.c]∧l=[seenSp w kk]:=by
 unfold snOf at h
 split at h
 ·injection h with h;injection h with h1 h;injection h with h2 h3
  subst h1;subst h2;subst h3
  exact⟨rfl,rfl⟩
 ·cases h
def snverSpec (vs:List SV)(l:List Seen):Option (Prop×Ans):=match snOf vs l with
 | some (root,w,_)=>some (w.Few,snVerA root w)
 | none=>none
theorem rows_ok (l:List (List UInt8×List UInt8))(c:Nat):(Ans.req (l.length≤c) (.new (fun k=>.tup [.rslc k 2 true 0 l.length c,.int .i64 true 0]) (.rows true l.length [fkCol l,fvCol l] false (c*2) 60))).Ok:=by
 refine⟨rfl,rfl,fun k=>by simp[SV.wf,SV.wfs,Nat.blt_eq],fun E E' k k' h=> ?_⟩
 simp only[SV.val,SV.vals]
 cases l with
 | nil=>rfl
 | cons a r=>rw[h (SB.no_rows (i:=0) (Nat.succ_pos _))]
theorem snVerA_ok (root:List UInt8)(w:Sp):(snVerA root w).Ok:=by
 intro b
 cases b with
 | false=>rfl
 | true=>intro c;exact rows_ok (snL root w) c
theorem snver_ok:CallOk Tryz.prog 35 (ansVPT shSn snverSpec):=by
 refine ansV_ok (n:=20) (fn:=Tryz.f35) Tryz.func35 (by kernel_rfl) (by kernel_rfl) ?_
 intro vs l q a h hq
 unfold snverSpec at h
 split at h
 ·rename_i root w kk hx
  injection h with h;injection h with h1 h2;subst h1;subst h2
  obtain⟨e1,e2⟩:=snOf_eq hx
  rw[e1,e2]
  exact⟨_,goodSv w,rfl,snVerA_ok root w,snver_holds hq root kk⟩
 ·cases h
end Go.Proofs.YtoalfimkkibpdaaGreatDoor
namespace Go.Proofs.YtoalfimkkibpdaaGreatDoor
open Go Sx
set_option maxRecDepth 20000
structure Wy.Few (w:Wy):Prop where
 f: ∀ i,i<w.n→(w.f i).length≤1000
section
attribute [local irreducible] shaL getB' getD inlB hashB cutIn takeOk stepRef stepLeft claimB claimV goW startW wfol pathL
set_option maxHeartbeats 1000000 in
theorem pfver_holds (w:Wy)(hw:w.Few) {key:List UInt8} (hk:key.length<1099511627776)(kk:Option Nat) :
  Holds (runS (cfgPf w key) 36 Tryz.f36 [.str false w.root,.str false key,.vslc 0 1 w.z w.o 0 w.n w.c] [seenW w kk] (verA w key)):=by
 refine Holds.of_eq (vcPfVerify w key kk) ?_
 dsimp only
 have S: ∀ v:SV,sameVal v v:=fun _ _=>rfl
 by_cases h40:(40:Int)<(w.n:Int)
 ·have e:pvRes w (pathL key)=none:=by rw[pvRes,if_pos (by omega)]
  rw[e,decide_eq_true h40]
  exact⟨fun _=>⟨(fun h=>by cases h),fun _=>S _⟩,(fun h=>by cases h)⟩
 have hn: ¬ 40<w.n:=by omega
 have ok: ∀ u,u≤w.n→(w.on u).Ok:=fun u hu=>⟨by show w.n≤200;omega,hw.f,hu⟩
 have hR:pvRes w (pathL key)=(match startW w (pathL key)with
  | some (y,q,u)=>if u<w.n then none else some (y,q)
  | none=>none):=by rw[pvRes,if_neg hn];rfl
 have bad:startW w (pathL key)=none→∀ {A B:Prop},B→((pvRes w (pathL key)).isSome=true→A)∧((pvRes w (pathL key)).isSome=false→B):=fun h A B b=>by
  rw[hR,h];exact⟨(fun h=>by cases h),fun _=>b⟩
 have endB: ∀ {y q u},startW w (pathL key)=some (y,q,u)→u<w.n→∀ {A B:Prop},B→((pvRes w (pathL key)).isSome=true→A)∧((pvRes w (pathL key)).isSome=false→B):=fun h hu A B b=>by
  rw[hR,h];simp only[hu,if_true];exact⟨(fun h=>by cases h),fun _=>b⟩
 have endG: ∀ {y q u},startW w (pathL key)=some (y,q,u)→¬ u<w.n→pvRes w (pathL key)=some (y,q):=fun h hu=>by
  rw[hR,h];simp only[hu,if_false]
 have good0: ∀ {u h},takeOk (w.on u) h=true→(getD (w.f u)).Good∧u<w.n:=fun h=>⟨valid_good (get_valid (takeOk_get h).2.2),(takeOk_get h).1⟩
 refine⟨fun h=>absurd (of_decide_eq_true h) h40,fun _=>⟨hk,fun R=>⟨?_,?_⟩⟩⟩
 all_goals try refine⟨rfl,rfl,rfl,?_⟩
 all_goals refine⟨(w.on 0,w.root),⟨ok 0 (Nat.zero_le _),trivial⟩,rfl,rfl,rfl,rfl,⟨rfl,rfl,rfl,rfl,rfl⟩,rfl,SBle.refl _,fun h0=> ?_,fun h0=> ?_⟩
 all_goals repeat refine And.intro rfl ?_
 all_goals try exact bad (by rw[startW_no h0]) (S _)
 all_goals
  obtain⟨hg0,hn0⟩:=good0 h0
  refine⟨⟨⟨getD (w.f 0),pathL key,1,false,[]⟩,⟨⟨_,Nat.lt_succ_self _,startW_yes h0⟩,hg0,hn0⟩,rfl,SBle.refl _,SBle.refl _,SBle.refl _,?_⟩,fun x hx=> ?_,fun x hx=> ?_⟩
 all_goals try exact⟨rfl,bad hx (S _)⟩
 all_goals try exact⟨SBle.cells (fun _=>rfl) rfl,by repeat' first | exact SBle.refl _ | exact trivial | refine And.intro ?_ ?_⟩
 all_goals
  obtain⟨⟨m,hm,hs⟩,hg,hu⟩:=hx
  rw[stepRef_again,stepLeft_again,claimB_again,claimV_again]
  refine⟨rfl,trivial,trivial,fun hr=> ?_,fun hr=> ?_⟩
 all_goals try
  have hr:=of_decide_eq_true hr
  have he:=goW_end hs hm hr
  refine⟨fun h=>⟨rfl,endB he (by have:=of_decide_eq_true h;omega) (S _)⟩,fun h=>⟨rfl,?_⟩⟩
  rw[endG he (by have:=of_decide_eq_false h;omega)]
  exact⟨fun _=>fun _=>rfl,(fun h=>by cases h)⟩
 all_goals
  have hr:=of_decide_eq_false hr
  have hl:=stepLeft_len hg hr
  refine⟨(w.on x.u,stepRef x.y x.p),⟨ok _ hu,stepRef_len hg _⟩,rfl,rfl,rfl,rfl,⟨rfl,rfl,rfl,rfl,rfl⟩,rfl,SBle.refl _,fun h1=> ?_,fun h1=>⟨fun h2=>⟨fun h3=> ?_,fun h3=> ?_⟩,fun h2=> ?_⟩⟩
 all_goals first
  | (have hn:=goW_none hs hm hr (wfol_no h1 (.inr h3))
     refine⟨⟨zeroNd,stepLeft x.y x.p,x.u,claimB x.y x.p,claimV x.y x.p⟩,⟨hn,by omega⟩,rfl,SBle.cells (fun _=>rfl) rfl,?_⟩)
  | (have hn:=goW_none hs hm hr (wfol_no h1 (.inl h2))
     refine⟨⟨zeroNd,stepLeft x.y x.p,x.u,claimB x.y x.p,claimV x.y x.p⟩,⟨hn,by omega⟩,rfl,SBle.cells (fun _=>rfl) rfl,?_⟩)
  | refine⟨⟨getD (w.f x.u),stepLeft x.y x.p,x.u+1,claimB x.y x.p,claimV x.y x.p⟩,⟨⟨goW_on hs hm hg hr (wfol_take h1 h2 h3),(good0 h3).1,(good0 h3).2⟩,Nat.succ_lt_succ hl⟩,rfl,?_⟩
  | refine⟨⟨getD (stepRef x.y x.p),stepLeft x.y x.p,x.u,claimB x.y x.p,claimV x.y x.p⟩,⟨⟨goW_on hs hm hg hr (wfol_in h1),valid_good (inl_valid h1),hu⟩,Nat.succ_lt_succ hl⟩,rfl,?_⟩
 all_goals
  repeat' first
   | exact SBle.refl _
   | refine And.intro ?_ ?_
   | rfl
   | exact trivial
   | fail
end
end Go.Proofs.YtoalfimkkibpdaaGreatDoor
namespace Go.Proofs.YtoalfimkkibpdaaGreatDoor
open Go Sx
set_option maxRecDepth 20000
def verOf (vs:List SV)(l:List Seen):Option (Wy×List UInt8×Option Nat):=match vs,l with
 | [.str false root,.str false key,_],[⟨kk,z,o,n,c,[.str f]⟩]=>some (⟨root,n,f,z,o,c,0⟩,key,kk)
 | _,_=>none
theorem verOf_eq {vs:List SV} {l:List Seen} {w:Wy} {key:List UInt8} {kk:Option Nat} (h:verOf vs l=some (w,key,kk)):filled shW vs l=[.str false w.root,.str false key,.vslc 0 1 w.z w.o 0 w.n w.c]∧l=[seenW w kk]:=by
 unfold verOf at h
 split at h
 ·injection h with h;injection h with h1 h;injection h with h2 h3
  subst h1;subst h2;subst h3
  exact⟨rfl,rfl⟩
 ·cases h
def pverSpec (vs:List SV)(l:List Seen):Option (Prop×Ans):=match verOf vs l with
 | some (w,key,_)=>some (w.Few∧key.length<1099511627776,verA w key)
 | none=>none
theorem pver_ok:CallOk Tryz.prog 36 (ansVPT shW pverSpec):=by
 refine ansV_ok (n:=20) (fn:=Tryz.f36) Tryz.func36 (by kernel_rfl) (by kernel_rfl) ?_
 intro vs l q a h hq
 unfold pverSpec at h
 split at h
 ·rename_i w key kk hx
  injection h with h;injection h with h1 h2;subst h1;subst h2
  obtain⟨e1,e2⟩:=verOf_eq hx
  rw[e1,e2]
  exact⟨_,goodPf w key,rfl,fun b=>by cases b<;>exact rfl,pfver_holds w hq.1 hq.2 kk⟩
 ·cases h
end Go.Proofs.YtoalfimkkibpdaaGreatDoor
namespace Go.Proofs.YtoalfimkkibpdaaGreatDoor
open Go Sx
set_option maxRecDepth 20000
theorem vcPValid (x:Pp)(z:Bool)(o c:Nat)(key:Option Nat):VC.holds (runS (cfgPV x) 19 Tryz.f19 [x.sv (.vslc 0 1 z o 0 x.n c)] [seenP z o c x key] (.ret (.bool false x.ok)))=((fun P0:SB=>(((decide (x.k=0)=true→((!decide (x.to=[]))=true→sameVal (SV.bool true false) (SV.bool false x.ok))∧((!decide (x.to=[]))=false→((!decide ((x.root.length:Int)=32))=true→sameVal (SV.bool true false) (SV.bool false x.ok))∧((!decide ((x.root.length:Int)=32))=false→(decide (6<(x.key.length:Int))=true→sameVal (SV.bool true false) (SV.bool false x.ok))∧(decide (6<(x.key.length:Int))=false→(decide (6<(x.to.length:Int))=true→sameVal (SV.bool true false) (SV.bool false x.ok))∧(decide (6<(x.to.length:Int))=false→(decide (200<(x.n:Int))=true→sameVal (SV.bool true false) (SV.bool false x.ok))∧(decide (200<(x.n:Int))=false→(∃(u5:Nat),Upto x.n (nodeOk x.f) u5∧0=(u5:Int)∧SBle P0 P0∧SBle (seenP z o c x key).B (seenP z o c x key).B∧True)∧∀(u4:Nat),Upto x.n (nodeOk x.f) u4→(decide ((u4:Int)<(x.n:Int))=true→(0≤(u4:Int)∧(u4:Int)<(x.n:Int))∧(o=o∧0+(u4:Int).toNat<x.n)∧(decide (1000<(↑(x.f (0+(u4:Int).toNat)).length:Int))=true→sameVal (SV.bool true false) (SV.bool false x.ok)) ∧(decide (1000<(↑(x.f (0+(u4:Int).toNat)).length:Int))=false→((-9223372036854775808:Int)≤(u4:Int)+1∧(u4:Int)+1≤(9223372036854775807:Int))∧∃(u3:Nat),(Upto x.n (nodeOk x.f) u3∧x.n - u3<x.n - u4)∧(u4:Int)+1=(u3:Int)∧SBle P0 P0∧SBle (seenP z o c x key).B (seenP z o c x key).B∧True))∧(decide ((u4:Int)<(x.n:Int))=false→sameVal (SV.bool true true) (SV.bool false x.ok))))))))∧(decide (x.k=0)=false→(decide (x.k=1)=true→((!decide ((x.root.length:Int)=32))=true→sameVal (SV.bool true false) (SV.bool false x.ok))∧((!decide ((x.root.length:Int)=32))=false→(decide (6<(x.key.length:Int))=true→sameVal (SV.bool true false) (SV.bool false x.ok))∧(decide (6<(x.key.length:Int))=false→(decide (6<(x.to.length:Int))=true→sameVal (SV.bool true false) (SV.bool false x.ok))∧(decide (6<(x.to.length:Int))=false→(decide (200<(x.n:Int))=true→sameVal (SV.bool true false) (SV.bool false x.ok))∧(decide (200<(x.n:Int))=false→(∃(u2:Nat),Upto x.n (nodeOk x.f) u2∧0=(u2:Int)∧SBle P0 P0∧SBle (seenP z o c x key).B (seenP z o c x key).B∧True) ∧∀(u1:Nat),Upto x.n (nodeOk x.f) u1→(decide ((u1:Int)<(x.n:Int))=true→(0≤(u1:Int)∧(u1:Int)<(x.n:Int))∧(o=o∧0+(u1:Int).toNat<x.n)∧(decide (1000<(↑(x.f (0+(u1:Int).toNat)).length:Int))=true→sameVal (SV.bool true false) (SV.bool false x.ok))∧(decide (1000<(↑(x.f (0+(u1:Int).toNat)).length:Int))=false→((-9223372036854775808:Int)≤(u1:Int)+1∧(u1:Int)+1≤(9223372036854775807:Int))∧∃(u0:Nat),(Upto x.n (nodeOk x.f) u0∧x.n - u0<x.n - u1)∧(u1:Int)+1=(u0:Int)∧SBle P0 P0∧SBle (seenP z o c x key).B (seenP z o c x key).B∧True))∧(decide ((u1:Int)<(x.n:Int))=false→sameVal (SV.bool true true) (SV.bool false x.ok)))))))∧(decide (x.k=1)=false→sameVal (SV.bool true false) (SV.bool false x.ok)))))) (SB.cells (x.sv (SV.vslc 0 1 z o 0 x.n c)).cells 5 24)):=by kernel_rfl
end Go.Proofs.YtoalfimkkibpdaaGreatDoor
namespace Go.Proofs.YtoalfimkkibpdaaGreatDoor
open Go Sx
set_option maxRecDepth 20000
theorem nodeOk_true {f:Nat→List UInt8} {i:Nat} (h: ¬ (1000:Int)<((f i).length:Int)):nodeOk f i=true:=by
 rw[nodeOk,decide_eq_false h];rfl
theorem nodeOk_f {f:Nat→List UInt8} {i:Nat} (h:(1000:Int)<((f i).length:Int)):nodeOk f i=false:=by
 rw[nodeOk,decide_eq_true h];rfl
set_option maxHeartbeats 4000000 in
theorem pvalid_holds (x:Pp)(z:Bool)(o c:Nat)(key:Option Nat):Holds (runS (cfgPV x) 19 Tryz.f19 [x.sv (.vslc 0 1 z o 0 x.n c)] [seenP z o c x key] (.ret (.bool false x.ok))):=by
 refine Holds.of_eq (vcPValid x z o c key) ?_
 simp only[Int.toNat_natCast,Nat.zero_add]
 unfold Pp.ok
 have h01:decide (x.k=0)=true→decide (x.k=1)=false:=by simp only[decide_eq_true_eq,decide_eq_false_iff_not];omega
 generalize decide (x.k=0)=b1 at h01 ⊢
 generalize decide (x.k=1)=b2 at h01 ⊢
 generalize decide (x.to=[])=b3
 generalize decide ((x.root.length:Int)=32)=b4
 generalize decide ((6:Int)<(x.key.length:Int))=b5
 generalize decide ((6:Int)<(x.to.length:Int))=b6
 generalize hr:nodesOk x.n x.f=b9
 repeat' first
  | exact trivial
  | exact SBle.refl _
  | apply And.intro
  | intro (_:_=true)
  | intro (_:_=false)
  | refine⟨0,⟨Nat.zero_le _,fun j hj=>absurd hj (Nat.not_lt_zero _)⟩,rfl,?_⟩
  | intro (i:Nat) (hi:Upto _ _ i)
  | refine⟨i+1,⟨upto_next hi ?_ ?_,?_⟩,?_,?_⟩
  | fail
 all_goals try simp only[decide_eq_true_eq,decide_eq_false_iff_not] at *
 all_goals first
  | omega
  | exact nodeOk_true (by assumption)
  | (apply bool_same;subst hr;rw[nodesOk,upto_all hi (by assumption)];simp_all;done)
  | (apply bool_same;subst hr;rw[nodesOk,upto_none (i:=i) (by assumption) (nodeOk_f (by assumption))];simp_all;done)
  | (apply bool_same;simp_all;done)
def pvalidSpec (vs:List SV)(l:List Seen):Option (Prop×Ans):=match paperOf vs l with
 | some (x,_)=>some (True,.ret (.bool false x.ok))
 | none=>none
theorem pvalid_ok:CallOk Tryz.prog 19 (ansVPT shP pvalidSpec):=by
 refine ansV_ok (n:=20) (fn:=Tryz.f19) Tryz.func19 (by kernel_rfl) (by kernel_rfl) ?_
 intro vs l q a h hq
 unfold pvalidSpec at h
 split at h
 ·rename_i x r hx
  obtain⟨z,o,c,key⟩:=r
  injection h with h;injection h with h1 h2;subst h1;subst h2
  obtain⟨e1,e2⟩:=paperOf_eq hx
  rw[e1,e2]
  exact⟨_,goodPV x,rfl,rfl,pvalid_holds x z o c key⟩
 ·cases h
noncomputable def listP1:List (FuncId×PT):=(19,ansVPT shP pvalidSpec)::list7
theorem listP1_ok:SummOk Tryz.prog (fun f=>lookPT f listP1):=.cons pvalid_ok (ansVPT_mono _ _) list7_ok
noncomputable def cfgPP (x:Pp):Cfg:={cfg0 with summ:=fun f=>lookPT f listP1,anns:=fun f=>if f=11 then [(5,always (annGrow 18 4 x.n (rowT x.f)))] else []}
theorem goodPP (x:Pp):Sx.Good Tryz.prog (cfgPP x):=⟨mixes,listP1_ok,fns_ok⟩
def putPA (x:Pp):Ans:=.fork x.ok fun b=>match b with
 | true=>.fork (decide ((65536:Int)<(x.put.length:Int))) fun b=>match b with
   | true=>.ret (.tup [.str true [],.int .i64 true 8])
   | false=>.ret (.tup [.str false x.put,.int .i64 true 0])
 | false=>.ret (.tup [.str true [],.int .i64 true 1])
end Go.Proofs.YtoalfimkkibpdaaGreatDoor
namespace Go.Proofs.YtoalfimkkibpdaaGreatDoor
open Go Sx
set_option maxRecDepth 20000
theorem vcPPut (x:Pp)(z:Bool)(o c:Nat)(key:Option Nat):VC.holds (runS (cfgPP x) 11 Tryz.f11 [x.sv (.vslc 0 1 z o 0 x.n c)] [seenP z o c x key] (putPA x))=((fun P0:(Nat×Nat)→SV=>((fun P1:SB=>(((((True∧True∧True∧True∧(z=z∧o=o∧0+x.n≤x.n)∧True)∧True)∧True)∧((!x.ok)=true→(x.ok=true→(decide (65536<(x.put.length:Int))=true→sameVal (SV.tup [SV.str true [],SV.int .i64 true 1]) (SV.tup [SV.str true [],SV.int .i64 true 8]))∧(decide (65536<(x.put.length:Int))=false→sameVal (SV.tup [SV.str true [],SV.int .i64 true 1]) (SV.tup [SV.str false x.put,SV.int .i64 true 0])))∧(x.ok=false→sameVal (SV.tup [SV.str true [],SV.int .i64 true 1]) (SV.tup [SV.str true [],SV.int .i64 true 1])))∧((!x.ok)=false→(0≤(x.n:Int)∧16*(x.n:Int)≤140737488355328∧(x.n:Int)≤9223372036854775807)∧(∃(u4:Nat×Nat),Grow x.n u4∧0=(u4.fst:Int)∧((0:Nat)=(0:Nat)∧0=u4.fst∧(x.n:Int).toNat=u4.snd)∧True∧SBle (SB.cells [] ((x.n:Int).toNat*1) 9) (SB.rows false u4.fst [Col.str (rowT x.f)] false u4.snd 9)∧SBle P1 P1∧SBle (seenP z o c x key).B (seenP z o c x key).B∧True)∧∀(u3:Nat×Nat),Grow x.n u3→(decide ((u3.fst:Int)<(x.n:Int))=true→(0≤(u3.fst:Int)∧(u3.fst:Int)<(x.n:Int))∧(o=o∧0+(u3.fst:Int).toNat<x.n) ∧(x.f (0+(u3.fst:Int).toNat)).length<1152921504606846976∧(0+u3.fst≤u3.fst∧True∧2*(u3.fst+1)*16≤(281474976710656:Nat)∧u3.fst+1<(9223372036854775808:Nat))∧u3.snd=u3.snd*1∧∀(u2:Nat),u3.fst+1≤u2→((-9223372036854775808:Int)≤(u3.fst:Int)+1∧(u3.fst:Int)+1≤(9223372036854775807:Int))∧∃(u1:Nat×Nat),(Grow x.n u1∧x.n - u1.fst<x.n - u3.fst)∧(u3.fst:Int)+1=(u1.fst:Int)∧((0:Nat)=(0:Nat)∧u3.fst+1=u1.fst∧u2=u1.snd)∧True∧SBle (SB.rows false (u3.fst+1) [Col.str fun(u0:Nat)=>if u0<u3.fst then rowT x.f u0 else selS [textOf (x.f (0+(u3.fst:Int).toNat))] (u0 - u3.fst)] false (u2*1) 9) (SB.rows false u1.fst [Col.str (rowT x.f)] false u1.snd 9)∧SBle P1 P1∧SBle (seenP z o c x key).B (seenP z o c x key).B∧True)∧(decide ((u3.fst:Int)<(x.n:Int))=false→(0≤x.k% 18446744073709551616∧x.k% 18446744073709551616<(18446744073709551616:Int))∧some P1=some P1∧some P1=some P1∧some P1=some P1∧x.root.length<1152921504606846976∧some P1=some P1∧some P1=some P1∧x.key.length<1152921504606846976∧some P1=some P1 ∧x.to.length<1152921504606846976∧((0+u3.fst≤u3.fst∧u3.fst≤u3.snd)∧(rowL (rowT x.f) 0 u3.fst).length≤140737488355328∧(flat (rowL (rowT x.f) 0 u3.fst)).length≤140737488355328)∧(((0:Int)≤(192:Int)∧(192:Int)≤(192:Int))∧0≤(↑(flat (rowL (rowT x.f) 0 u3.fst)).length:Int)∧(↑(flat (rowL (rowT x.f) 0 u3.fst)).length:Int)<1152921504606846976)∧(↑(headOf 192 (↑(flat (rowL (rowT x.f) 0 u3.fst)).length:Int).toNat).length:Int)+(↑(flat (rowL (rowT x.f) 0 u3.fst)).length:Int)≤9223372036854775807∧(((5:Nat)=(5:Nat)∧(5:Nat)≤(5:Nat))∧(5:Nat)≤(140737488355328:Nat)∧(flat [textOf (digits (x.k% 18446744073709551616)),textOf x.root,textOf x.key,textOf x.to,cat (headOf 192 (↑(flat (rowL (rowT x.f) 0 u3.fst)).length:Int).toNat) (flat (rowL (rowT x.f) 0 u3.fst))]).length≤140737488355328)∧(((0:Int)≤(192:Int)∧(192:Int)≤(192:Int))∧0≤(↑(flat [textOf (digits (x.k% 18446744073709551616)),textOf x.root,textOf x.key,textOf x.to,cat (headOf 192 (↑(flat (rowL (rowT x.f) 0 u3.fst)).length:Int).toNat) (flat (rowL (rowT x.f) 0 u3.fst))]).length:Int) ∧(↑(flat [textOf (digits (x.k% 18446744073709551616)),textOf x.root,textOf x.key,textOf x.to,cat (headOf 192 (↑(flat (rowL (rowT x.f) 0 u3.fst)).length:Int).toNat) (flat (rowL (rowT x.f) 0 u3.fst))]).length:Int)<1152921504606846976)∧(↑(headOf 192 (↑(flat [textOf (digits (x.k% 18446744073709551616)),textOf x.root,textOf x.key,textOf x.to,cat (headOf 192 (↑(flat (rowL (rowT x.f) 0 u3.fst)).length:Int).toNat) (flat (rowL (rowT x.f) 0 u3.fst))]).length:Int).toNat).length:Int)+(↑(flat [textOf (digits (x.k% 18446744073709551616)),textOf x.root,textOf x.key,textOf x.to,cat (headOf 192 (↑(flat (rowL (rowT x.f) 0 u3.fst)).length:Int).toNat) (flat (rowL (rowT x.f) 0 u3.fst))]).length:Int)≤9223372036854775807 ∧(decide (65536<(↑(cat (headOf 192 (↑(flat [textOf (digits (x.k% 18446744073709551616)),textOf x.root,textOf x.key,textOf x.to,cat (headOf 192 (↑(flat (rowL (rowT x.f) 0 u3.fst)).length:Int).toNat) (flat (rowL (rowT x.f) 0 u3.fst))]).length:Int).toNat) (flat [textOf (digits (x.k% 18446744073709551616)),textOf x.root,textOf x.key,textOf x.to,cat (headOf 192 (↑(flat (rowL (rowT x.f) 0 u3.fst)).length:Int).toNat) (flat (rowL (rowT x.f) 0 u3.fst))])).length:Int))=true→(x.ok=true→(decide (65536<(x.put.length:Int))=true→sameVal (SV.tup [SV.str true [],SV.int .i64 true 8]) (SV.tup [SV.str true [],SV.int .i64 true 8]))∧(decide (65536<(x.put.length:Int))=false→sameVal (SV.tup [SV.str true [],SV.int .i64 true 8]) (SV.tup [SV.str false x.put,SV.int .i64 true 0])))∧(x.ok=false→sameVal (SV.tup [SV.str true [],SV.int .i64 true 8]) (SV.tup [SV.str true [],SV.int .i64 true 1]))) ∧(decide (65536<(↑(cat (headOf 192 (↑(flat [textOf (digits (x.k% 18446744073709551616)),textOf x.root,textOf x.key,textOf x.to,cat (headOf 192 (↑(flat (rowL (rowT x.f) 0 u3.fst)).length:Int).toNat) (flat (rowL (rowT x.f) 0 u3.fst))]).length:Int).toNat) (flat [textOf (digits (x.k% 18446744073709551616)),textOf x.root,textOf x.key,textOf x.to,cat (headOf 192 (↑(flat (rowL (rowT x.f) 0 u3.fst)).length:Int).toNat) (flat (rowL (rowT x.f) 0 u3.fst))])).length:Int))=false→(x.ok=true→(decide (65536<(x.put.length:Int))=true→sameVal (P0 u3) (SV.tup [SV.str true [],SV.int .i64 true 8]))∧(decide (65536<(x.put.length:Int))=false→sameVal (P0 u3) (SV.tup [SV.str false x.put,SV.int .i64 true 0])))∧(x.ok=false→sameVal (P0 u3) (SV.tup [SV.str true [],SV.int .i64 true 1])))))))) (SB.cells (x.sv (SV.vslc 0 1 z o 0 x.n c)).cells 5 24))) (fun(u3:Nat×Nat)=>(SV.tup [SV.str false (cat (headOf 192 (↑(flat [textOf (digits (x.k% 18446744073709551616)),textOf x.root,textOf x.key,textOf x.to,cat (headOf 192 (↑(flat (rowL (rowT x.f) 0 u3.fst)).length:Int).toNat) (flat (rowL (rowT x.f) 0 u3.fst))]).length:Int).toNat) (flat [textOf (digits (x.k% 18446744073709551616)),textOf x.root,textOf x.key,textOf x.to,cat (headOf 192 (↑(flat (rowL (rowT x.f) 0 u3.fst)).length:Int).toNat) (flat (rowL (rowT x.f) 0 u3.fst))])),SV.int .i64 true 0]))):=by kernel_rfl
end Go.Proofs.YtoalfimkkibpdaaGreatDoor
namespace Go.Proofs.YtoalfimkkibpdaaGreatDoor
open Go Sx
set_option maxRecDepth 20000
structure Pp.Small (x:Pp):Prop where
 k:0≤x.k∧x.k≤1
 root:x.root.length=32
 key:x.key.length≤6
 to:x.to.length≤6
 n:x.n≤200
 row: ∀ i,i<x.n→(x.f i).length≤1000
theorem nodesOk_get {n:Nat} {f:Nat→List UInt8} (h:nodesOk n f=true) {i:Nat} (hi:i<n):(f i).length≤1000:=by
 unfold nodesOk at h
 rw[List.all_eq_true] at h
 have:=h i (List.mem_range.2 hi)
 simp only[nodeOk,Bool.not_eq_true',decide_eq_false_iff_not] at this
 omega
theorem Pp.ok_small {x:Pp} (h:x.ok=true):x.Small:=by
 unfold Pp.ok at h
 simp only[Bool.and_eq_true,Bool.or_eq_true,Bool.not_eq_true',decide_eq_false_iff_not,decide_eq_true_eq] at h
 obtain⟨⟨⟨⟨⟨h1,h2⟩,h3⟩,h4⟩,h5⟩,h6⟩:=h
 refine⟨?_,by omega,by omega,by omega,by omega,fun i hi=>nodesOk_get h6 hi⟩
 rcases h1 with h1 | h1<;>omega
theorem Pp.rows_len {x:Pp} (h:x.Small):(flat x.rows).length≤201800:=by
 have h0:=flat_len (l:=x.rows) (m:=1009) fun y hy=>by
  obtain⟨i,hi,rfl⟩:=rowL_mem hy
  have:=h.row i hi
  have:=text_len (x.f i)
  unfold rowT;omega
 have e:x.rows.length=x.n:=rowL_len _ _ _
 have:=h.n
 rw[e] at h0
 have:x.n*1009≤200*1009:=Nat.mul_le_mul_right _ h.n
 omega
theorem Pp.items_len {x:Pp} (h:x.Small):(flat x.items).length≤201900:=by
 have h1:=text_len (digits x.k)
 have h2:=text_len x.root
 have h3:=text_len x.key
 have h4:=text_len x.to
 have h5:=listOf_len x.rows
 have h6:=Pp.rows_len h
 have h7:=digits_len x.k
 have:=h.root
 have:=h.key
 have:=h.to
 simp only[Pp.items,flat_clen,flat_nlen,numOf];omega
set_option maxHeartbeats 4000000 in
theorem pput_holds (x:Pp)(z:Bool)(o c:Nat)(key:Option Nat):Holds (runS (cfgPP x) 11 Tryz.f11 [x.sv (.vslc 0 1 z o 0 x.n c)] [seenP z o c x key] (putPA x)):=by
 refine Holds.of_eq (vcPPut x z o c key) ?_
 cases hx:x.ok with
 | false =>
   refine⟨by simp,fun _=>⟨(fun h=>by cases h),fun _ _=>rfl⟩,fun h=>by cases h⟩
 | true =>
   have hs:=Pp.ok_small hx
   have hl:=Pp.items_len hs
   have hr:=Pp.rows_len hs
   have hh:=head_len 192 (flat x.items).length
   have hh2:=head_len 192 (flat x.rows).length
   have hrow:x.rows.length=x.n:=rowL_len _ _ _
   obtain⟨h1,h2,h3,h4,h5,h6⟩:=hs
   have hk:x.k% 18446744073709551616=x.k:=by omega
   simp only[hk,Nat.le_refl,Int.toNat_natCast,Nat.zero_add,Nat.mul_one,and_self,true_and,and_true,Bool.not_true,Bool.false_eq_true,Bool.true_eq_false,false_imp_iff,forall_const]
   refine⟨by omega,⟨(0,x.n),⟨Nat.zero_le _,Nat.zero_le _⟩,rfl,⟨rfl,rfl⟩,Sx.SBle.empty rfl,SBle.refl _,SBle.refl _⟩,fun y hy=>⟨fun hk=> ?_,fun hk=> ?_⟩⟩
   ·simp only[decide_eq_true_eq] at hk
    have hk':y.1<x.n:=by omega
    have b1:=h6 y.1 hk'
    have hle:=hy.le
    refine⟨by omega,hk',by omega,by omega,fun c1 hc=>⟨by omega,(y.1+1,c1),⟨grow_next (_k:=0) hy (by omega) hc,by show x.n - (y.1+1)<x.n - y.1;omega⟩,by simp,⟨rfl,rfl⟩,?_,SBle.refl _,SBle.refl _⟩⟩
    have:=@grow_row x.n (rowT x.f) y.1 (textOf (x.f y.1)) rfl c1 c1 rfl
    rw[Nat.mul_one] at this
    exact this
   ·simp only[decide_eq_false_iff_not] at hk
    have e:y.1=x.n:=by have:=hy.le;omega
    have hc:=hy.cap
    rw[e] at hc ⊢
    have e1:rowL (rowT x.f) 0 x.n=x.rows:=rfl
    have e2:cat (headOf 192 (flat x.rows).length) (flat x.rows)=listOf x.rows:=rfl
    have e3:flat [textOf (digits x.k),textOf x.root,textOf x.key,textOf x.to,listOf x.rows]=flat x.items:=rfl
    have e4:cat (headOf 192 (flat x.items).length) (flat x.items)=x.put:=rfl
    rw[e1,e2,e3,e4,hrow]
    generalize hL:(flat x.items).length=L at *
    generalize decide ((65536:Int)<(x.put.length:Int))=b at *
    refine⟨by omega,by omega,by omega,by omega,by omega,by omega,by omega,by omega,by omega,by omega,?_⟩
    cases b with
    | true=>exact⟨fun _=>⟨fun _ _=>rfl,(fun h=>by cases h)⟩,(fun h=>by cases h)⟩
    | false=>exact⟨(fun h=>by cases h),fun _=>⟨(fun h=>by cases h),fun _ _=>rfl⟩⟩
def pputSpec (vs:List SV)(l:List Seen):Option (Prop×Ans):=match paperOf vs l with
 | some (x,_)=>some (True,putPA x)
 | none=>none
theorem pput_ok:CallOk Tryz.prog 11 (ansVPT shP pputSpec):=by
 refine ansV_ok (n:=20) (fn:=Tryz.f11) Tryz.func11 (by kernel_rfl) (by kernel_rfl) ?_
 intro vs l q a h hq
 unfold pputSpec at h
 split at h
 ·rename_i x r hx
  obtain⟨z,o,c,key⟩:=r
  injection h with h;injection h with h1 h2;subst h1;subst h2
  obtain⟨e1,e2⟩:=paperOf_eq hx
  rw[e1,e2]
  exact⟨_,goodPP x,rfl,fun b=>by cases b<;>first | exact rfl | (intro b;cases b<;>exact rfl),pput_holds x z o c key⟩
 ·cases h
noncomputable def listP2:List (FuncId×PT):=(11,ansVPT shP pputSpec)::listP1
theorem listP2_ok:SummOk Tryz.prog (fun f=>lookPT f listP2):=.cons pput_ok (ansVPT_mono _ _) listP1_ok
end Go.Proofs.YtoalfimkkibpdaaGreatDoor
namespace Go.Proofs.YtoalfimkkibpdaaGreatDoor
open Go Sx
set_option maxRecDepth 20000
def itOf (s:List UInt8)(j:Nat):List UInt8:=itemAt (cutIn s) j
def numI (t:List UInt8):Int:=num (cutIn t)
theorem numOf_get {n:Int} (h0:0≤n)(h:n<18446744073709551616):getB (numOf n)=true∧cutB (numOf n)=true∧cutL (numOf n)=false∧cutRest (numOf n)=[]∧numI (numOf n)=n:=by
 obtain⟨h1,h2⟩:=getB_num h0 h
 obtain⟨g1,g2,g3,_⟩:=getB_iff.1 h1
 exact⟨h1,g1,g2,g3,by unfold numI numOf;rw[h2,digits_num h0 h]⟩
theorem textOf_get {b:List UInt8} (h:b.length≤1048576):cutB (textOf b)=true∧cutL (textOf b)=false∧cutRest (textOf b)=[]∧cutIn (textOf b)=b:=by
 obtain⟨h1,h2,h3⟩:=text_one h
 have:=(text_cut h []).2.2.1
 rw[List.append_nil] at this
 exact⟨h1,h2,h3,this⟩
structure ListCut (t:List UInt8)(l:List (List UInt8)):Prop where
 b:cutB t=true
 li:cutL t=true
 r:cutRest t=[]
 i:cutIn t=flat l
 ib:itemsB (cutIn t)=true
 n:itemsN (cutIn t)=l.length
 at': ∀(k:Nat) (v:List UInt8),l[k]?=some v→itemAt (cutIn t) k=v
def Whole (y:List UInt8):Prop:=cutB y=true∧cutRest y=[]
theorem listOf_cut {l:List (List UInt8)} (h: ∀ y∈ l,Whole y)(hl:(flat l).length≤1048576):ListCut (listOf l) l:=by
 obtain⟨h1,h2,h3,h4⟩:=list_cut hl []
 rw[List.append_nil] at h1 h2 h3 h4
 have e:headOf 192 (flat l).length++flat l=listOf l:=rfl
 rw[e] at h1 h2 h3 h4
 obtain⟨g1,g2,g3⟩:=flat_items l h
 exact⟨h1,h2,h4,h3,by rw[h3];exact g1,by rw[h3];exact g2,fun k v hk=>by rw[h3];exact g3 k v hk⟩
theorem ListCut.whole {t:List UInt8} {l:List (List UInt8)} (h:ListCut t l):Whole t:=⟨h.b,h.r⟩
theorem numOf_whole {n:Int} (h0:0≤n)(h:n<18446744073709551616):Whole (numOf n):=⟨(numOf_get h0 h).2.1,(numOf_get h0 h).2.2.2.1⟩
theorem textOf_whole {b:List UInt8} (h:b.length≤1048576):Whole (textOf b):=⟨(textOf_get h).1,(textOf_get h).2.2.1⟩
end Go.Proofs.YtoalfimkkibpdaaGreatDoor
