/-
  Conditions that the executor computes, written out by a program (vcgen.py).
-/
import Derived.Test.YtoalfimkkibpdaaGreatDoorMt
import Derived.Test.YtoalfimkkibpdaaGreatDoorMq
import Derived.Test.YtoalfimkkibpdaaGreatDoorMm
namespace Go.Proofs.YtoalfimkkibpdaaGreatDoor
open Go Sx
set_option maxRecDepth 20000
theorem vcSnThrough (m:Nat)(x:SnG×Nd×List UInt8):VC.holds (runM (cfgTh m x.1 x.2.1 x.2.2) 94 Tryz.f94 (thrC (m+1)) x)=((fun Q0:SB=>((fun Q1:SB=>((fun Q2:SB=>((fun Q3:SB=>((fun Q4:SB=>((fun Q5:SB=>((fun Q6:SB=>((decide ((400:Int)≤(↑x.fst.s.lk:Int))=true →(thrB x.fst.w (m+(1:Nat)) x.fst.s x.snd.fst x.snd.snd=true →∃(x_3:Nat×Nat),((thrS x.fst.w (m+(1:Nat)) x.fst.s x.snd.fst x.snd.snd).ns.length≤x_3.fst ∧(thrS x.fst.w (m+(1:Nat)) x.fst.s x.snd.fst x.snd.snd).fs.length≤x_3.snd) ∧False) ∧(thrB x.fst.w (m+(1:Nat)) x.fst.s x.snd.fst x.snd.snd=false →∃(x:List UInt8×List UInt8),(0:Nat)=(0:Nat) ∧SBle (SB.cells [SV.str true [(116:UInt8),(111:UInt8),(111:UInt8),(32:UInt8),(109:UInt8),(97:UInt8),(110:UInt8),(121:UInt8),(32:UInt8),(110:UInt8),(111:UInt8),(100:UInt8),(101:UInt8),(115:UInt8)],SV.str true []] 2 231) (SB.cells [SV.str false x.fst,SV.str false x.snd] 2 231) ∧True)) ∧(decide ((400:Int)≤(↑x.fst.s.lk:Int))=false →((-9223372036854775808:Int)≤(↑x.fst.s.lk:Int)+(1:Int) ∧(↑x.fst.s.lk:Int)+(1:Int)≤(9223372036854775807:Int)) ∧((↑x.snd.snd.length:Int)+(↑x.snd.fst.p.length:Int)≤(9223372036854775807:Int) ∧((!decide (x.snd.fst.v=[]))=true →(x.fst.w.fr.length≤(1000:Nat) ∧x.fst.w.to.length≤(1000:Nat)) ∧(hasB x.fst.w.fr x.fst.w.to (cat x.snd.snd x.snd.fst.p)=true →(cat x.snd.snd x.snd.fst.p).length<(1099511627776:Nat) ∧(keyB (cat x.snd.snd x.snd.fst.p)=true →some (SB.cells (setRange [SV.str false x.fst.w.fr,SV.str false x.fst.w.to,SV.func (Fn.func (65:FuncId)) [] [SV.ptr 4 true 0,SV.ptr 6 true 0],SV.map 1,SV.rslc 2 1 true 0 x.fst.s.ns.length x.fst.c1,SV.int .i64 false (↑x.fst.s.lk:Int),SV.rslc 3 2 true 0 x.fst.s.fs.length x.fst.c2] 5 (SV.int .i64 false ((↑x.fst.s.lk:Int)+(1:Int))).cells) 7 102)=some (SB.cells (setRange [SV.str false x.fst.w.fr,SV.str false x.fst.w.to,SV.func (Fn.func (65:FuncId)) [] [SV.ptr 4 true 0,SV.ptr 6 true 0],SV.map 1,SV.rslc 2 1 true 0 x.fst.s.ns.length x.fst.c1,SV.int .i64 false (↑x.fst.s.lk:Int),SV.rslc 3 2 true 0 x.fst.s.fs.length x.fst.c2] 5 (SV.int .i64 false ((↑x.fst.s.lk:Int)+(1:Int))).cells) 7 102) ∧some Q0=some Q0 ∧some Q0=some Q0 ∧((0:Nat)+x.fst.s.fs.length≤x.fst.s.fs.length ∧True ∧(2:Nat)*(x.fst.s.fs.length+(1:Nat))*(32:Nat)≤(281474976710656:Nat) ∧x.fst.s.fs.length+(1:Nat)<(9223372036854775808:Nat)) ∧x.fst.c2*(2:Nat)=x.fst.c2*(2:Nat) ∧∀(c:Nat),x.fst.s.fs.length+(1:Nat)≤c →some Q0=some Q0 ∧∃(y:Nat),(if seeB x.fst.w x.snd.fst x.snd.snd=true then x.fst.s.fs++[(pairsL (cat x.snd.snd x.snd.fst.p),x.snd.fst.v)] else x.fst.s.fs).length≤y ∧(7:Nat)=(7:Nat) ∧x.fst.w.fr=x.fst.w.fr ∧x.fst.w.to=x.fst.w.to ∧(0:Nat)=(0:Nat) ∧(0:Nat)=(0:Nat) ∧((0:Nat)=(0:Nat) ∧x.fst.s.ns.length=x.fst.s.ns.length ∧x.fst.c1=x.fst.c1) ∧True ∧(↑x.fst.s.lk:Int)+(1:Int)=(↑(x.fst.s.lk+(1:Nat)):Int) ∧((0:Nat)=(0:Nat) ∧x.fst.s.fs.length+(1:Nat)=(if seeB x.fst.w x.snd.fst x.snd.snd=true then x.fst.s.fs++[(pairsL (cat x.snd.snd x.snd.fst.p),x.snd.fst.v)] else x.fst.s.fs).length ∧c=y) ∧True ∧SBle (SB.rows true (x.fst.s.fs.length+(1:Nat)) [Col.str fun(j:Nat)=>if j<x.fst.s.fs.length then(x.fst.s.fs.getD j ([],[])).fst else selS [pairsL (cat x.snd.snd x.snd.fst.p)] (j - x.fst.s.fs.length),Col.str fun(j:Nat)=>if j<x.fst.s.fs.length then(x.fst.s.fs.getD j ([],[])).snd else selS [x.snd.fst.v] (j - x.fst.s.fs.length)] false (c*(2:Nat)) 60) (fsSB (Wk.see x.fst.w x.fst.s x.snd.fst x.snd.snd) y) ∧SBle Q4 Q4 ∧SBle Q2 Q2 ∧SBle Q0 Q0 ∧SBle (usSB x.fst.s) (usSB x.fst.s) ∧SBle (nsSB x.fst.s x.fst.c1) (nsSB x.fst.s x.fst.c1) ∧SBle Q6 Q6 ∧SBle (SB.fmap x.fst.w.ad (FCol.int IntKind.i64 x.fst.w.ag) none) (SB.fmap x.fst.w.ad (FCol.int IntKind.i64 x.fst.w.ag) none) ∧SBle Q1 Q1 ∧SBle x.fst.w.view x.fst.w.view ∧True) ∧(keyB (cat x.snd.snd x.snd.fst.p)=false →∃(y:Nat),(if seeB x.fst.w x.snd.fst x.snd.snd=true then x.fst.s.fs++[(pairsL (cat x.snd.snd x.snd.fst.p),x.snd.fst.v)] else x.fst.s.fs).length≤y ∧(7:Nat)=(7:Nat) ∧x.fst.w.fr=x.fst.w.fr ∧x.fst.w.to=x.fst.w.to ∧(0:Nat)=(0:Nat) ∧(0:Nat)=(0:Nat) ∧((0:Nat)=(0:Nat) ∧x.fst.s.ns.length=x.fst.s.ns.length ∧x.fst.c1=x.fst.c1) ∧True ∧(↑x.fst.s.lk:Int)+(1:Int)=(↑(x.fst.s.lk+(1:Nat)):Int) ∧((0:Nat)=(0:Nat) ∧x.fst.s.fs.length=(if seeB x.fst.w x.snd.fst x.snd.snd=true then x.fst.s.fs++[(pairsL (cat x.snd.snd x.snd.fst.p),x.snd.fst.v)] else x.fst.s.fs).length ∧x.fst.c2=y) ∧True ∧SBle (SB.rows true x.fst.s.fs.length [fkCol x.fst.s.fs,fvCol x.fst.s.fs] false (x.fst.c2*(2:Nat)) 60) (fsSB (Wk.see x.fst.w x.fst.s x.snd.fst x.snd.snd) y) ∧SBle Q4 Q4 ∧SBle Q2 Q2 ∧SBle Q0 Q0 ∧SBle (usSB x.fst.s) (usSB x.fst.s) ∧SBle (nsSB x.fst.s x.fst.c1) (nsSB x.fst.s x.fst.c1) ∧SBle Q6 Q6 ∧SBle (SB.fmap x.fst.w.ad (FCol.int IntKind.i64 x.fst.w.ag) none) (SB.fmap x.fst.w.ad (FCol.int IntKind.i64 x.fst.w.ag) none) ∧SBle Q1 Q1 ∧SBle x.fst.w.view x.fst.w.view ∧True)) ∧(hasB x.fst.w.fr x.fst.w.to (cat x.snd.snd x.snd.fst.p)=false →∃(y:Nat),(if seeB x.fst.w x.snd.fst x.snd.snd=true then x.fst.s.fs++[(pairsL (cat x.snd.snd x.snd.fst.p),x.snd.fst.v)] else x.fst.s.fs).length≤y ∧(7:Nat)=(7:Nat) ∧x.fst.w.fr=x.fst.w.fr ∧x.fst.w.to=x.fst.w.to ∧(0:Nat)=(0:Nat) ∧(0:Nat)=(0:Nat) ∧((0:Nat)=(0:Nat) ∧x.fst.s.ns.length=x.fst.s.ns.length ∧x.fst.c1=x.fst.c1) ∧True ∧(↑x.fst.s.lk:Int)+(1:Int)=(↑(x.fst.s.lk+(1:Nat)):Int) ∧((0:Nat)=(0:Nat) ∧x.fst.s.fs.length=(if seeB x.fst.w x.snd.fst x.snd.snd=true then x.fst.s.fs++[(pairsL (cat x.snd.snd x.snd.fst.p),x.snd.fst.v)] else x.fst.s.fs).length ∧x.fst.c2=y) ∧True ∧SBle (SB.rows true x.fst.s.fs.length [fkCol x.fst.s.fs,fvCol x.fst.s.fs] false (x.fst.c2*(2:Nat)) 60) (fsSB (Wk.see x.fst.w x.fst.s x.snd.fst x.snd.snd) y) ∧SBle Q4 Q4 ∧SBle Q2 Q2 ∧SBle Q0 Q0 ∧SBle (usSB x.fst.s) (usSB x.fst.s) ∧SBle (nsSB x.fst.s x.fst.c1) (nsSB x.fst.s x.fst.c1) ∧SBle Q6 Q6 ∧SBle (SB.fmap x.fst.w.ad (FCol.int IntKind.i64 x.fst.w.ag) none) (SB.fmap x.fst.w.ad (FCol.int IntKind.i64 x.fst.w.ag) none) ∧SBle Q1 Q1 ∧SBle x.fst.w.view x.fst.w.view ∧True)) ∧((!decide (x.snd.fst.v=[]))=false →∃(y:Nat),(if seeB x.fst.w x.snd.fst x.snd.snd=true then x.fst.s.fs++[(pairsL (cat x.snd.snd x.snd.fst.p),x.snd.fst.v)] else x.fst.s.fs).length≤y ∧(7:Nat)=(7:Nat) ∧x.fst.w.fr=x.fst.w.fr ∧x.fst.w.to=x.fst.w.to ∧(0:Nat)=(0:Nat) ∧(0:Nat)=(0:Nat) ∧((0:Nat)=(0:Nat) ∧x.fst.s.ns.length=x.fst.s.ns.length ∧x.fst.c1=x.fst.c1) ∧True ∧(↑x.fst.s.lk:Int)+(1:Int)=(↑(x.fst.s.lk+(1:Nat)):Int) ∧((0:Nat)=(0:Nat) ∧x.fst.s.fs.length=(if seeB x.fst.w x.snd.fst x.snd.snd=true then x.fst.s.fs++[(pairsL (cat x.snd.snd x.snd.fst.p),x.snd.fst.v)] else x.fst.s.fs).length ∧x.fst.c2=y) ∧True ∧SBle (SB.rows true x.fst.s.fs.length [fkCol x.fst.s.fs,fvCol x.fst.s.fs] false (x.fst.c2*(2:Nat)) 60) (fsSB (Wk.see x.fst.w x.fst.s x.snd.fst x.snd.snd) y) ∧SBle Q4 Q4 ∧SBle Q2 Q2 ∧SBle Q0 Q0 ∧SBle (usSB x.fst.s) (usSB x.fst.s) ∧SBle (nsSB x.fst.s x.fst.c1) (nsSB x.fst.s x.fst.c1) ∧SBle Q6 Q6 ∧SBle (SB.fmap x.fst.w.ad (FCol.int IntKind.i64 x.fst.w.ag) none) (SB.fmap x.fst.w.ad (FCol.int IntKind.i64 x.fst.w.ag) none) ∧SBle Q1 Q1 ∧SBle x.fst.w.view x.fst.w.view ∧True)) ∧∀(x_2:Nat),(if seeB x.fst.w x.snd.fst x.snd.snd=true then x.fst.s.fs++[(pairsL (cat x.snd.snd x.snd.fst.p),x.snd.fst.v)] else x.fst.s.fs).length≤x_2 →∀(R:Loop),(∃(y:Nat×Wk×Nat×Nat),(y.fst≤(16:Nat) ∧refsTo x.fst.w (thr x.fst.w m) x.snd.fst x.snd.snd y.fst (Wk.see x.fst.w x.fst.s x.snd.fst x.snd.snd)=some y.snd.fst ∧y.snd.fst.ns.length≤y.snd.snd.fst ∧y.snd.fst.fs.length≤y.snd.snd.snd) ∧(0:Int)=(↑y.fst:Int) ∧(7:Nat)=(7:Nat) ∧x.fst.w.fr=x.fst.w.fr ∧x.fst.w.to=x.fst.w.to ∧(0:Nat)=(0:Nat) ∧(0:Nat)=(0:Nat) ∧((0:Nat)=(0:Nat) ∧x.fst.s.ns.length=y.snd.fst.ns.length ∧x.fst.c1=y.snd.snd.fst) ∧True ∧(↑(x.fst.s.lk+(1:Nat)):Int)=(↑y.snd.fst.lk:Int) ∧((0:Nat)=(0:Nat) ∧(if seeB x.fst.w x.snd.fst x.snd.snd=true then x.fst.s.fs++[(pairsL (cat x.snd.snd x.snd.fst.p),x.snd.fst.v)] else x.fst.s.fs).length=y.snd.fst.fs.length ∧x_2=y.snd.snd.snd) ∧True ∧SBle (SB.fmap x.fst.s.ud (FCol.int IntKind.i64 x.fst.s.us) none) (usSB y.snd.fst) ∧SBle (SB.rows true x.fst.s.ns.length [nsCol x.fst.s.ns] false (x.fst.c1*(1:Nat)) 9) (nsSB y.snd.fst y.snd.snd.fst) ∧SBle (SB.rows true (if seeB x.fst.w x.snd.fst x.snd.snd=true then x.fst.s.fs++[(pairsL (cat x.snd.snd x.snd.fst.p),x.snd.fst.v)] else x.fst.s.fs).length [fkCol (if seeB x.fst.w x.snd.fst x.snd.snd=true then x.fst.s.fs++[(pairsL (cat x.snd.snd x.snd.fst.p),x.snd.fst.v)] else x.fst.s.fs),fvCol (if seeB x.fst.w x.snd.fst x.snd.snd=true then x.fst.s.fs++[(pairsL (cat x.snd.snd x.snd.fst.p),x.snd.fst.v)] else x.fst.s.fs)] false (x_2*(2:Nat)) 60) (fsSB y.snd.fst y.snd.snd.snd) ∧SBle (SB.loop LoopState.ready none R) (SB.loop LoopState.ready none R) ∧SBle Q5 Q5 ∧SBle Q3 Q3 ∧SBle Q0 Q0 ∧SBle Q4 Q4 ∧SBle Q2 Q2 ∧SBle Q0 Q0 ∧SBle Q6 Q6 ∧SBle (SB.fmap x.fst.w.ad (FCol.int IntKind.i64 x.fst.w.ag) none) (SB.fmap x.fst.w.ad (FCol.int IntKind.i64 x.fst.w.ag) none) ∧SBle Q1 Q1 ∧SBle x.fst.w.view x.fst.w.view ∧True) ∧∀(x_4:Nat×Wk×Nat×Nat),x_4.fst≤(16:Nat) ∧refsTo x.fst.w (thr x.fst.w m) x.snd.fst x.snd.snd x_4.fst (Wk.see x.fst.w x.fst.s x.snd.fst x.snd.snd)=some x_4.snd.fst ∧x_4.snd.fst.ns.length≤x_4.snd.snd.fst ∧x_4.snd.fst.fs.length≤x_4.snd.snd.snd →(decide ((↑x_4.fst:Int)<(16:Int))=true →((0:Int)≤(↑x_4.fst:Int) ∧(↑x_4.fst:Int)<(16:Int) ∧(↑x_4.fst:Int)<(↑(16:Nat):Int)) ∧(decide (selS [x.snd.fst.r 0,x.snd.fst.r 1,x.snd.fst.r 2,x.snd.fst.r 3,x.snd.fst.r 4,x.snd.fst.r 5,x.snd.fst.r 6,x.snd.fst.r 7,x.snd.fst.r 8,x.snd.fst.r 9,x.snd.fst.r 10,x.snd.fst.r 11,x.snd.fst.r 12,x.snd.fst.r 13,x.snd.fst.r 14,x.snd.fst.r 15] (↑x_4.fst:Int).toNat=[])=true →((-9223372036854775808:Int)≤(↑x_4.fst:Int)+(1:Int) ∧(↑x_4.fst:Int)+(1:Int)≤(9223372036854775807:Int)) ∧∃(y:Nat×Wk×Nat×Nat),((y.fst≤(16:Nat) ∧refsTo x.fst.w (thr x.fst.w m) x.snd.fst x.snd.snd y.fst (Wk.see x.fst.w x.fst.s x.snd.fst x.snd.snd)=some y.snd.fst ∧y.snd.fst.ns.length≤y.snd.snd.fst ∧y.snd.fst.fs.length≤y.snd.snd.snd) ∧(16:Nat) - y.fst<(16:Nat) - x_4.fst) ∧(↑x_4.fst:Int)+(1:Int)=(↑y.fst:Int) ∧(7:Nat)=(7:Nat) ∧x.fst.w.fr=x.fst.w.fr ∧x.fst.w.to=x.fst.w.to ∧(0:Nat)=(0:Nat) ∧(0:Nat)=(0:Nat) ∧((0:Nat)=(0:Nat) ∧x_4.snd.fst.ns.length=y.snd.fst.ns.length ∧x_4.snd.snd.fst=y.snd.snd.fst) ∧True ∧(↑x_4.snd.fst.lk:Int)=(↑y.snd.fst.lk:Int) ∧((0:Nat)=(0:Nat) ∧x_4.snd.fst.fs.length=y.snd.fst.fs.length ∧x_4.snd.snd.snd=y.snd.snd.snd) ∧True ∧SBle (SB.fmap x_4.snd.fst.ud (FCol.int IntKind.i64 x_4.snd.fst.us) none) (usSB y.snd.fst) ∧SBle (SB.rows true x_4.snd.fst.ns.length [nsCol x_4.snd.fst.ns] false (x_4.snd.snd.fst*(1:Nat)) 9) (nsSB y.snd.fst y.snd.snd.fst) ∧SBle (SB.rows true x_4.snd.fst.fs.length [fkCol x_4.snd.fst.fs,fvCol x_4.snd.fst.fs] false (x_4.snd.snd.snd*(2:Nat)) 60) (fsSB y.snd.fst y.snd.snd.snd) ∧SBle (SB.loop LoopState.ready none R) (SB.loop LoopState.ready none R) ∧SBle Q5 Q5 ∧SBle Q3 Q3 ∧SBle Q0 Q0 ∧SBle Q4 Q4 ∧SBle Q2 Q2 ∧SBle Q0 Q0 ∧SBle Q6 Q6 ∧SBle (SB.fmap x.fst.w.ad (FCol.int IntKind.i64 x.fst.w.ag) none) (SB.fmap x.fst.w.ad (FCol.int IntKind.i64 x.fst.w.ag) none) ∧SBle Q1 Q1 ∧SBle x.fst.w.view x.fst.w.view ∧True) ∧(decide (selS [x.snd.fst.r 0,x.snd.fst.r 1,x.snd.fst.r 2,x.snd.fst.r 3,x.snd.fst.r 4,x.snd.fst.r 5,x.snd.fst.r 6,x.snd.fst.r 7,x.snd.fst.r 8,x.snd.fst.r 9,x.snd.fst.r 10,x.snd.fst.r 11,x.snd.fst.r 12,x.snd.fst.r 13,x.snd.fst.r 14,x.snd.fst.r 15] (↑x_4.fst:Int).toNat=[])=false →(↑x.snd.snd.length:Int)+(↑x.snd.fst.p.length:Int)≤(9223372036854775807:Int) ∧((decide (x.snd.fst.k=(3:Int))=true →(↑(cat x.snd.snd x.snd.fst.p).length:Int)+(↑(1:Nat):Int)≤(9223372036854775807:Int) ∧∃(_y:Unit),True ∧cat (cat x.snd.snd x.snd.fst.p) [UInt8.ofNat ((↑x_4.fst:Int)% (256:Int)).toNat]=toX x.snd.fst x.snd.snd (↑x_4.fst:Int).toNat ∧SBle (wkSB x.fst.w x_4.snd.fst 16 17 x_4.snd.snd.fst x_4.snd.snd.snd) (wkSB x.fst.w x_4.snd.fst 16 17 x_4.snd.snd.fst x_4.snd.snd.snd) ∧SBle (usSB x_4.snd.fst) (usSB x_4.snd.fst) ∧SBle (nsSB x_4.snd.fst x_4.snd.snd.fst) (nsSB x_4.snd.fst x_4.snd.snd.fst) ∧SBle (fsSB x_4.snd.fst x_4.snd.snd.snd) (fsSB x_4.snd.fst x_4.snd.snd.snd) ∧SBle (SB.loop LoopState.ready none R) (SB.loop LoopState.ready none R) ∧SBle Q5 Q5 ∧SBle Q3 Q3 ∧SBle Q0 Q0 ∧SBle Q4 Q4 ∧SBle Q2 Q2 ∧SBle Q0 Q0 ∧SBle Q6 Q6 ∧SBle (SB.fmap x.fst.w.ad (FCol.int IntKind.i64 x.fst.w.ag) none) (SB.fmap x.fst.w.ad (FCol.int IntKind.i64 x.fst.w.ag) none) ∧SBle Q1 Q1 ∧SBle x.fst.w.view x.fst.w.view ∧True) ∧(decide (x.snd.fst.k=(3:Int))=false →∃(_y:Unit),True ∧cat x.snd.snd x.snd.fst.p=toX x.snd.fst x.snd.snd (↑x_4.fst:Int).toNat ∧SBle (wkSB x.fst.w x_4.snd.fst 16 17 x_4.snd.snd.fst x_4.snd.snd.snd) (wkSB x.fst.w x_4.snd.fst 16 17 x_4.snd.snd.fst x_4.snd.snd.snd) ∧SBle (usSB x_4.snd.fst) (usSB x_4.snd.fst) ∧SBle (nsSB x_4.snd.fst x_4.snd.snd.fst) (nsSB x_4.snd.fst x_4.snd.snd.fst) ∧SBle (fsSB x_4.snd.fst x_4.snd.snd.snd) (fsSB x_4.snd.fst x_4.snd.snd.snd) ∧SBle (SB.loop LoopState.ready none R) (SB.loop LoopState.ready none R) ∧SBle Q5 Q5 ∧SBle Q3 Q3 ∧SBle Q0 Q0 ∧SBle Q4 Q4 ∧SBle Q2 Q2 ∧SBle Q0 Q0 ∧SBle Q6 Q6 ∧SBle (SB.fmap x.fst.w.ad (FCol.int IntKind.i64 x.fst.w.ag) none) (SB.fmap x.fst.w.ad (FCol.int IntKind.i64 x.fst.w.ag) none) ∧SBle Q1 Q1 ∧SBle x.fst.w.view x.fst.w.view ∧True)) ∧∀(_x_8:Unit),True →(x.fst.w.fr.length≤(1000:Nat) ∧x.fst.w.to.length≤(1000:Nat)) ∧(meetsB x.fst.w.fr x.fst.w.to (toX x.snd.fst x.snd.snd (↑x_4.fst:Int).toNat)=true →R=R ∧∃(x_11:SnG×List UInt8),(x_11.fst.w.Ok ∧x_11.fst.s.Small ∧(x_11.fst.s.ns.length≤x_11.fst.c1 ∧x_11.fst.s.fs.length≤x_11.fst.c2) ∧x_11.snd.length<(9223372036854775808:Nat)) ∧(0:Nat)=(0:Nat) ∧selS [x.snd.fst.r 0,x.snd.fst.r 1,x.snd.fst.r 2,x.snd.fst.r 3,x.snd.fst.r 4,x.snd.fst.r 5,x.snd.fst.r 6,x.snd.fst.r 7,x.snd.fst.r 8,x.snd.fst.r 9,x.snd.fst.r 10,x.snd.fst.r 11,x.snd.fst.r 12,x.snd.fst.r 13,x.snd.fst.r 14,x.snd.fst.r 15] (↑x_4.fst:Int).toNat=x_11.snd ∧(7:Nat)=(7:Nat) ∧x.fst.w.fr=x_11.fst.w.fr ∧x.fst.w.to=x_11.fst.w.to ∧(0:Nat)=(0:Nat) ∧(0:Nat)=(0:Nat) ∧((0:Nat)=(0:Nat) ∧x_4.snd.fst.ns.length=x_11.fst.s.ns.length ∧x_4.snd.snd.fst=x_11.fst.c1) ∧True ∧(↑x_4.snd.fst.lk:Int)=(↑x_11.fst.s.lk:Int) ∧((0:Nat)=(0:Nat) ∧x_4.snd.fst.fs.length=x_11.fst.s.fs.length ∧x_4.snd.snd.snd=x_11.fst.c2) ∧True ∧SBle (SB.fmap x_4.snd.fst.ud (FCol.int IntKind.i64 x_4.snd.fst.us) none) (usSB x_11.fst.s) ∧SBle (SB.rows true x_4.snd.fst.ns.length [nsCol x_4.snd.fst.ns] false (x_4.snd.snd.fst*(1:Nat)) 9) (nsSB x_11.fst.s x_11.fst.c1) ∧SBle (SB.rows true x_4.snd.fst.fs.length [fkCol x_4.snd.fst.fs,fvCol x_4.snd.fst.fs] false (x_4.snd.snd.snd*(2:Nat)) 60) (fsSB x_11.fst.s x_11.fst.c2) ∧(1:Nat)=(1:Nat) ∧SBle (SB.fmap x.fst.w.ad (FCol.int IntKind.i64 x.fst.w.ag) none) (SB.fmap x_11.fst.w.ad (FCol.int IntKind.i64 x_11.fst.w.ag) none) ∧(1:Nat)=(1:Nat) ∧(x.fst.w.z=x_11.fst.w.z ∧x.fst.w.o=x_11.fst.w.o ∧(0:Nat)=(0:Nat) ∧x.fst.w.n=x_11.fst.w.n ∧x.fst.w.c=x_11.fst.w.c) ∧SBle (SB.view x.fst.w.z x.fst.w.o x.fst.w.n [Col.str x.fst.w.f]) (SB.view x_11.fst.w.z x_11.fst.w.o x_11.fst.w.n [Col.str x_11.fst.w.f]) ∧(inlB x_11.snd=true →∀(x_13:Nat×Nat),x_11.fst.s.ns.length≤x_13.fst ∧x_11.fst.s.fs.length≤x_13.snd →∃(x_15:SnG×Nd×List UInt8),(x_15.fst.w.Ok ∧x_15.fst.s.Small ∧(x_15.fst.s.ns.length≤x_15.fst.c1 ∧x_15.fst.s.fs.length≤x_15.fst.c2) ∧x_15.fst.s.Fit (x_15.fst.s.lk+(1:Nat)) ∧(401:Nat)≤x_15.fst.s.lk+m ∧x_15.snd.fst.Short ∧x_15.snd.snd.length≤(13:Nat)*x_15.fst.s.lk) ∧(0:Nat)=(0:Nat) ∧(getD x_11.snd).k=x_15.snd.fst.k ∧(getD x_11.snd).p=x_15.snd.fst.p ∧(getD x_11.snd).v=x_15.snd.fst.v ∧(getD x_11.snd).r 0=x_15.snd.fst.r 0 ∧(getD x_11.snd).r 1=x_15.snd.fst.r 1 ∧(getD x_11.snd).r 2=x_15.snd.fst.r 2 ∧(getD x_11.snd).r 3=x_15.snd.fst.r 3 ∧(getD x_11.snd).r 4=x_15.snd.fst.r 4 ∧(getD x_11.snd).r 5=x_15.snd.fst.r 5 ∧(getD x_11.snd).r 6=x_15.snd.fst.r 6 ∧(getD x_11.snd).r 7=x_15.snd.fst.r 7 ∧(getD x_11.snd).r 8=x_15.snd.fst.r 8 ∧(getD x_11.snd).r 9=x_15.snd.fst.r 9 ∧(getD x_11.snd).r 10=x_15.snd.fst.r 10 ∧(getD x_11.snd).r 11=x_15.snd.fst.r 11 ∧(getD x_11.snd).r 12=x_15.snd.fst.r 12 ∧(getD x_11.snd).r 13=x_15.snd.fst.r 13 ∧(getD x_11.snd).r 14=x_15.snd.fst.r 14 ∧(getD x_11.snd).r 15=x_15.snd.fst.r 15 ∧toX x.snd.fst x.snd.snd (↑x_4.fst:Int).toNat=x_15.snd.snd ∧(7:Nat)=(7:Nat) ∧x_11.fst.w.fr=x_15.fst.w.fr ∧x_11.fst.w.to=x_15.fst.w.to ∧(0:Nat)=(0:Nat) ∧(0:Nat)=(0:Nat) ∧((0:Nat)=(0:Nat) ∧x_11.fst.s.ns.length=x_15.fst.s.ns.length ∧x_13.fst=x_15.fst.c1) ∧True ∧(↑x_11.fst.s.lk:Int)=(↑x_15.fst.s.lk:Int) ∧((0:Nat)=(0:Nat) ∧x_11.fst.s.fs.length=x_15.fst.s.fs.length ∧x_13.snd=x_15.fst.c2) ∧True ∧SBle (SB.fmap x_11.fst.s.ud (FCol.int IntKind.i64 x_11.fst.s.us) none) (usSB x_15.fst.s) ∧SBle (SB.rows true x_11.fst.s.ns.length [nsCol x_11.fst.s.ns] false (x_13.fst*(1:Nat)) 9) (nsSB x_15.fst.s x_15.fst.c1) ∧SBle (SB.rows true x_11.fst.s.fs.length [fkCol x_11.fst.s.fs,fvCol x_11.fst.s.fs] false (x_13.snd*(2:Nat)) 60) (fsSB x_15.fst.s x_15.fst.c2) ∧(1:Nat)=(1:Nat) ∧SBle (SB.fmap x_11.fst.w.ad (FCol.int IntKind.i64 x_11.fst.w.ag) none) (SB.fmap x_15.fst.w.ad (FCol.int IntKind.i64 x_15.fst.w.ag) none) ∧(1:Nat)=(1:Nat) ∧(x_11.fst.w.z=x_15.fst.w.z ∧x_11.fst.w.o=x_15.fst.w.o ∧(0:Nat)=(0:Nat) ∧x_11.fst.w.n=x_15.fst.w.n ∧x_11.fst.w.c=x_15.fst.w.c) ∧SBle (SB.view x.fst.w.z x.fst.w.o x.fst.w.n [Col.str x.fst.w.f]) (SB.view x_15.fst.w.z x_15.fst.w.o x_15.fst.w.n [Col.str x_15.fst.w.f]) ∧(thrB x_15.fst.w m x_15.fst.s x_15.snd.fst x_15.snd.snd=true →∀(x_17:Nat×Nat),(thrS x_15.fst.w m x_15.fst.s x_15.snd.fst x_15.snd.snd).ns.length≤x_17.fst ∧(thrS x_15.fst.w m x_15.fst.s x_15.snd.fst x_15.snd.snd).fs.length≤x_17.snd →((-9223372036854775808:Int)≤(↑x_4.fst:Int)+(1:Int) ∧(↑x_4.fst:Int)+(1:Int)≤(9223372036854775807:Int)) ∧∃(y:Nat×Wk×Nat×Nat),((y.fst≤(16:Nat) ∧refsTo x.fst.w (thr x.fst.w m) x.snd.fst x.snd.snd y.fst (Wk.see x.fst.w x.fst.s x.snd.fst x.snd.snd)=some y.snd.fst ∧y.snd.fst.ns.length≤y.snd.snd.fst ∧y.snd.fst.fs.length≤y.snd.snd.snd) ∧(16:Nat) - y.fst<(16:Nat) - x_4.fst) ∧(↑x_4.fst:Int)+(1:Int)=(↑y.fst:Int) ∧(7:Nat)=(7:Nat) ∧x_15.fst.w.fr=x.fst.w.fr ∧x_15.fst.w.to=x.fst.w.to ∧(0:Nat)=(0:Nat) ∧(0:Nat)=(0:Nat) ∧((0:Nat)=(0:Nat) ∧(thrS x_15.fst.w m x_15.fst.s x_15.snd.fst x_15.snd.snd).ns.length=y.snd.fst.ns.length ∧x_17.fst=y.snd.snd.fst) ∧True ∧(↑(thrS x_15.fst.w m x_15.fst.s x_15.snd.fst x_15.snd.snd).lk:Int)=(↑y.snd.fst.lk:Int) ∧((0:Nat)=(0:Nat) ∧(thrS x_15.fst.w m x_15.fst.s x_15.snd.fst x_15.snd.snd).fs.length=y.snd.fst.fs.length ∧x_17.snd=y.snd.snd.snd) ∧True ∧SBle (SB.fmap (thrS x_15.fst.w m x_15.fst.s x_15.snd.fst x_15.snd.snd).ud (FCol.int IntKind.i64 (thrS x_15.fst.w m x_15.fst.s x_15.snd.fst x_15.snd.snd).us) none) (usSB y.snd.fst) ∧SBle (SB.rows true (thrS x_15.fst.w m x_15.fst.s x_15.snd.fst x_15.snd.snd).ns.length [nsCol (thrS x_15.fst.w m x_15.fst.s x_15.snd.fst x_15.snd.snd).ns] false (x_17.fst*(1:Nat)) 9) (nsSB y.snd.fst y.snd.snd.fst) ∧SBle (SB.rows true (thrS x_15.fst.w m x_15.fst.s x_15.snd.fst x_15.snd.snd).fs.length [fkCol (thrS x_15.fst.w m x_15.fst.s x_15.snd.fst x_15.snd.snd).fs,fvCol (thrS x_15.fst.w m x_15.fst.s x_15.snd.fst x_15.snd.snd).fs] false (x_17.snd*(2:Nat)) 60) (fsSB y.snd.fst y.snd.snd.snd) ∧SBle (SB.loop LoopState.ready none R) (SB.loop LoopState.ready none R) ∧SBle Q5 Q5 ∧SBle Q3 Q3 ∧SBle Q0 Q0 ∧SBle Q4 Q4 ∧SBle Q2 Q2 ∧SBle Q0 Q0 ∧SBle (SB.cells [SV.map (renF 8 [((7:Nat),renF 8 [((7:Nat),(7:Nat)),((5:Nat),(5:Nat)),((3:Nat),(17:Nat)),((2:Nat),(16:Nat)),((1:Nat),(1:Nat)),((6:Nat),(6:Nat)),((4:Nat),(4:Nat)),((0:Nat),(0:Nat))] 18 7),((5:Nat),renF 8 [((7:Nat),(7:Nat)),((5:Nat),(5:Nat)),((3:Nat),(17:Nat)),((2:Nat),(16:Nat)),((1:Nat),(1:Nat)),((6:Nat),(6:Nat)),((4:Nat),(4:Nat)),((0:Nat),(0:Nat))] 18 5),((3:Nat),renF 8 [((7:Nat),(7:Nat)),((5:Nat),(5:Nat)),((3:Nat),(17:Nat)),((2:Nat),(16:Nat)),((1:Nat),(1:Nat)),((6:Nat),(6:Nat)),((4:Nat),(4:Nat)),((0:Nat),(0:Nat))] 18 9),((2:Nat),renF 8 [((7:Nat),(7:Nat)),((5:Nat),(5:Nat)),((3:Nat),(17:Nat)),((2:Nat),(16:Nat)),((1:Nat),(1:Nat)),((6:Nat),(6:Nat)),((4:Nat),(4:Nat)),((0:Nat),(0:Nat))] 18 8),((1:Nat),renF 8 [((7:Nat),(7:Nat)),((5:Nat),(5:Nat)),((3:Nat),(17:Nat)),((2:Nat),(16:Nat)),((1:Nat),(1:Nat)),((6:Nat),(6:Nat)),((4:Nat),(4:Nat)),((0:Nat),(0:Nat))] 18 1),((6:Nat),renF 8 [((7:Nat),(7:Nat)),((5:Nat),(5:Nat)),((3:Nat),(17:Nat)),((2:Nat),(16:Nat)),((1:Nat),(1:Nat)),((6:Nat),(6:Nat)),((4:Nat),(4:Nat)),((0:Nat),(0:Nat))] 18 6),((4:Nat),renF 8 [((7:Nat),(7:Nat)),((5:Nat),(5:Nat)),((3:Nat),(17:Nat)),((2:Nat),(16:Nat)),((1:Nat),(1:Nat)),((6:Nat),(6:Nat)),((4:Nat),(4:Nat)),((0:Nat),(0:Nat))] 18 4),((0:Nat),(0:Nat))] 30 5)] 1 100) Q6 ∧SBle (SB.fmap x_15.fst.w.ad (FCol.int IntKind.i64 x_15.fst.w.ag) none) (SB.fmap x.fst.w.ad (FCol.int IntKind.i64 x.fst.w.ag) none) ∧SBle (SB.cells [SV.vslc (renF 8 [((7:Nat),renF 8 [((7:Nat),(7:Nat)),((5:Nat),(5:Nat)),((3:Nat),(17:Nat)),((2:Nat),(16:Nat)),((1:Nat),(1:Nat)),((6:Nat),(6:Nat)),((4:Nat),(4:Nat)),((0:Nat),(0:Nat))] 18 7),((5:Nat),renF 8 [((7:Nat),(7:Nat)),((5:Nat),(5:Nat)),((3:Nat),(17:Nat)),((2:Nat),(16:Nat)),((1:Nat),(1:Nat)),((6:Nat),(6:Nat)),((4:Nat),(4:Nat)),((0:Nat),(0:Nat))] 18 5),((3:Nat),renF 8 [((7:Nat),(7:Nat)),((5:Nat),(5:Nat)),((3:Nat),(17:Nat)),((2:Nat),(16:Nat)),((1:Nat),(1:Nat)),((6:Nat),(6:Nat)),((4:Nat),(4:Nat)),((0:Nat),(0:Nat))] 18 9),((2:Nat),renF 8 [((7:Nat),(7:Nat)),((5:Nat),(5:Nat)),((3:Nat),(17:Nat)),((2:Nat),(16:Nat)),((1:Nat),(1:Nat)),((6:Nat),(6:Nat)),((4:Nat),(4:Nat)),((0:Nat),(0:Nat))] 18 8),((1:Nat),renF 8 [((7:Nat),(7:Nat)),((5:Nat),(5:Nat)),((3:Nat),(17:Nat)),((2:Nat),(16:Nat)),((1:Nat),(1:Nat)),((6:Nat),(6:Nat)),((4:Nat),(4:Nat)),((0:Nat),(0:Nat))] 18 1),((6:Nat),renF 8 [((7:Nat),(7:Nat)),((5:Nat),(5:Nat)),((3:Nat),(17:Nat)),((2:Nat),(16:Nat)),((1:Nat),(1:Nat)),((6:Nat),(6:Nat)),((4:Nat),(4:Nat)),((0:Nat),(0:Nat))] 18 6),((4:Nat),renF 8 [((7:Nat),(7:Nat)),((5:Nat),(5:Nat)),((3:Nat),(17:Nat)),((2:Nat),(16:Nat)),((1:Nat),(1:Nat)),((6:Nat),(6:Nat)),((4:Nat),(4:Nat)),((0:Nat),(0:Nat))] 18 4),((0:Nat),(0:Nat))] 30 7) 1 x_15.fst.w.z x_15.fst.w.o 0 x_15.fst.w.n x_15.fst.w.c] 1 22) Q1 ∧SBle x.fst.w.view x.fst.w.view ∧True) ∧(thrB x_15.fst.w m x_15.fst.s x_15.snd.fst x_15.snd.snd=false →∀(x_17:List UInt8×List UInt8),(thrB x.fst.w (m+(1:Nat)) x.fst.s x.snd.fst x.snd.snd=true →∃(x_19:Nat×Nat),((thrS x.fst.w (m+(1:Nat)) x.fst.s x.snd.fst x.snd.snd).ns.length≤x_19.fst ∧(thrS x.fst.w (m+(1:Nat)) x.fst.s x.snd.fst x.snd.snd).fs.length≤x_19.snd) ∧False) ∧(thrB x.fst.w (m+(1:Nat)) x.fst.s x.snd.fst x.snd.snd=false →∃(x:List UInt8×List UInt8),(0:Nat)=(0:Nat) ∧SBle (SB.cells [SV.str false x_17.fst,SV.str false x_17.snd] 2 231) (SB.cells [SV.str false x.fst,SV.str false x.snd] 2 231) ∧True))) ∧(inlB x_11.snd=false →(hashB x_11.snd=true →(lookT x_11.fst.w (cutIn x_11.snd)=true →∀(x_15:Nat×Nat),(if x_11.fst.s.used (cutIn x_11.snd)=(0:Int)then x_11.fst.s.ns++[x_11.fst.w.at (cutIn x_11.snd)] else x_11.fst.s.ns).length≤x_15.fst ∧x_11.fst.s.fs.length≤x_15.snd →∃(x_17:SnG×Nd×List UInt8),(x_17.fst.w.Ok ∧x_17.fst.s.Small ∧(x_17.fst.s.ns.length≤x_17.fst.c1 ∧x_17.fst.s.fs.length≤x_17.fst.c2) ∧x_17.fst.s.Fit (x_17.fst.s.lk+(1:Nat)) ∧(401:Nat)≤x_17.fst.s.lk+m ∧x_17.snd.fst.Short ∧x_17.snd.snd.length≤(13:Nat)*x_17.fst.s.lk) ∧(0:Nat)=(0:Nat) ∧(getD (x_11.fst.w.at (cutIn x_11.snd))).k=x_17.snd.fst.k ∧(getD (x_11.fst.w.at (cutIn x_11.snd))).p=x_17.snd.fst.p ∧(getD (x_11.fst.w.at (cutIn x_11.snd))).v=x_17.snd.fst.v ∧(getD (x_11.fst.w.at (cutIn x_11.snd))).r 0=x_17.snd.fst.r 0 ∧(getD (x_11.fst.w.at (cutIn x_11.snd))).r 1=x_17.snd.fst.r 1 ∧(getD (x_11.fst.w.at (cutIn x_11.snd))).r 2=x_17.snd.fst.r 2 ∧(getD (x_11.fst.w.at (cutIn x_11.snd))).r 3=x_17.snd.fst.r 3 ∧(getD (x_11.fst.w.at (cutIn x_11.snd))).r 4=x_17.snd.fst.r 4 ∧(getD (x_11.fst.w.at (cutIn x_11.snd))).r 5=x_17.snd.fst.r 5 ∧(getD (x_11.fst.w.at (cutIn x_11.snd))).r 6=x_17.snd.fst.r 6 ∧(getD (x_11.fst.w.at (cutIn x_11.snd))).r 7=x_17.snd.fst.r 7 ∧(getD (x_11.fst.w.at (cutIn x_11.snd))).r 8=x_17.snd.fst.r 8 ∧(getD (x_11.fst.w.at (cutIn x_11.snd))).r 9=x_17.snd.fst.r 9 ∧(getD (x_11.fst.w.at (cutIn x_11.snd))).r 10=x_17.snd.fst.r 10 ∧(getD (x_11.fst.w.at (cutIn x_11.snd))).r 11=x_17.snd.fst.r 11 ∧(getD (x_11.fst.w.at (cutIn x_11.snd))).r 12=x_17.snd.fst.r 12 ∧(getD (x_11.fst.w.at (cutIn x_11.snd))).r 13=x_17.snd.fst.r 13 ∧(getD (x_11.fst.w.at (cutIn x_11.snd))).r 14=x_17.snd.fst.r 14 ∧(getD (x_11.fst.w.at (cutIn x_11.snd))).r 15=x_17.snd.fst.r 15 ∧toX x.snd.fst x.snd.snd (↑x_4.fst:Int).toNat=x_17.snd.snd ∧(7:Nat)=(7:Nat) ∧x_11.fst.w.fr=x_17.fst.w.fr ∧x_11.fst.w.to=x_17.fst.w.to ∧(0:Nat)=(0:Nat) ∧(0:Nat)=(0:Nat) ∧((0:Nat)=(0:Nat) ∧(if x_11.fst.s.used (cutIn x_11.snd)=(0:Int)then x_11.fst.s.ns++[x_11.fst.w.at (cutIn x_11.snd)] else x_11.fst.s.ns).length=x_17.fst.s.ns.length ∧x_15.fst=x_17.fst.c1) ∧True ∧(↑x_11.fst.s.lk:Int)=(↑x_17.fst.s.lk:Int) ∧((0:Nat)=(0:Nat) ∧x_11.fst.s.fs.length=x_17.fst.s.fs.length ∧x_15.snd=x_17.fst.c2) ∧True ∧SBle (SB.fmap (setD x_11.fst.s.ud (cutIn x_11.snd)) (FCol.int IntKind.i64 (setG x_11.fst.s.us (cutIn x_11.snd) (x_11.fst.s.used (cutIn x_11.snd)+(1:Int)))) none) (usSB x_17.fst.s) ∧SBle (SB.rows true (if x_11.fst.s.used (cutIn x_11.snd)=(0:Int)then x_11.fst.s.ns++[x_11.fst.w.at (cutIn x_11.snd)] else x_11.fst.s.ns).length [nsCol (if x_11.fst.s.used (cutIn x_11.snd)=(0:Int)then x_11.fst.s.ns++[x_11.fst.w.at (cutIn x_11.snd)] else x_11.fst.s.ns)] false (x_15.fst*(1:Nat)) 9) (nsSB x_17.fst.s x_17.fst.c1) ∧SBle (SB.rows true x_11.fst.s.fs.length [fkCol x_11.fst.s.fs,fvCol x_11.fst.s.fs] false (x_15.snd*(2:Nat)) 60) (fsSB x_17.fst.s x_17.fst.c2) ∧(1:Nat)=(1:Nat) ∧SBle (SB.fmap x_11.fst.w.ad (FCol.int IntKind.i64 x_11.fst.w.ag) none) (SB.fmap x_17.fst.w.ad (FCol.int IntKind.i64 x_17.fst.w.ag) none) ∧(1:Nat)=(1:Nat) ∧(x_11.fst.w.z=x_17.fst.w.z ∧x_11.fst.w.o=x_17.fst.w.o ∧(0:Nat)=(0:Nat) ∧x_11.fst.w.n=x_17.fst.w.n ∧x_11.fst.w.c=x_17.fst.w.c) ∧SBle (SB.view x.fst.w.z x.fst.w.o x.fst.w.n [Col.str x.fst.w.f]) (SB.view x_17.fst.w.z x_17.fst.w.o x_17.fst.w.n [Col.str x_17.fst.w.f]) ∧(thrB x_17.fst.w m x_17.fst.s x_17.snd.fst x_17.snd.snd=true →∀(x_19:Nat×Nat),(thrS x_17.fst.w m x_17.fst.s x_17.snd.fst x_17.snd.snd).ns.length≤x_19.fst ∧(thrS x_17.fst.w m x_17.fst.s x_17.snd.fst x_17.snd.snd).fs.length≤x_19.snd →((-9223372036854775808:Int)≤(↑x_4.fst:Int)+(1:Int) ∧(↑x_4.fst:Int)+(1:Int)≤(9223372036854775807:Int)) ∧∃(y:Nat×Wk×Nat×Nat),((y.fst≤(16:Nat) ∧refsTo x.fst.w (thr x.fst.w m) x.snd.fst x.snd.snd y.fst (Wk.see x.fst.w x.fst.s x.snd.fst x.snd.snd)=some y.snd.fst ∧y.snd.fst.ns.length≤y.snd.snd.fst ∧y.snd.fst.fs.length≤y.snd.snd.snd) ∧(16:Nat) - y.fst<(16:Nat) - x_4.fst) ∧(↑x_4.fst:Int)+(1:Int)=(↑y.fst:Int) ∧(7:Nat)=(7:Nat) ∧x_17.fst.w.fr=x.fst.w.fr ∧x_17.fst.w.to=x.fst.w.to ∧(0:Nat)=(0:Nat) ∧(0:Nat)=(0:Nat) ∧((0:Nat)=(0:Nat) ∧(thrS x_17.fst.w m x_17.fst.s x_17.snd.fst x_17.snd.snd).ns.length=y.snd.fst.ns.length ∧x_19.fst=y.snd.snd.fst) ∧True ∧(↑(thrS x_17.fst.w m x_17.fst.s x_17.snd.fst x_17.snd.snd).lk:Int)=(↑y.snd.fst.lk:Int) ∧((0:Nat)=(0:Nat) ∧(thrS x_17.fst.w m x_17.fst.s x_17.snd.fst x_17.snd.snd).fs.length=y.snd.fst.fs.length ∧x_19.snd=y.snd.snd.snd) ∧True ∧SBle (SB.fmap (thrS x_17.fst.w m x_17.fst.s x_17.snd.fst x_17.snd.snd).ud (FCol.int IntKind.i64 (thrS x_17.fst.w m x_17.fst.s x_17.snd.fst x_17.snd.snd).us) none) (usSB y.snd.fst) ∧SBle (SB.rows true (thrS x_17.fst.w m x_17.fst.s x_17.snd.fst x_17.snd.snd).ns.length [nsCol (thrS x_17.fst.w m x_17.fst.s x_17.snd.fst x_17.snd.snd).ns] false (x_19.fst*(1:Nat)) 9) (nsSB y.snd.fst y.snd.snd.fst) ∧SBle (SB.rows true (thrS x_17.fst.w m x_17.fst.s x_17.snd.fst x_17.snd.snd).fs.length [fkCol (thrS x_17.fst.w m x_17.fst.s x_17.snd.fst x_17.snd.snd).fs,fvCol (thrS x_17.fst.w m x_17.fst.s x_17.snd.fst x_17.snd.snd).fs] false (x_19.snd*(2:Nat)) 60) (fsSB y.snd.fst y.snd.snd.snd) ∧SBle (SB.loop LoopState.ready none R) (SB.loop LoopState.ready none R) ∧SBle Q5 Q5 ∧SBle Q3 Q3 ∧SBle Q0 Q0 ∧SBle Q4 Q4 ∧SBle Q2 Q2 ∧SBle Q0 Q0 ∧SBle (SB.cells [SV.map (renF 8 [((7:Nat),renF 8 [((7:Nat),(7:Nat)),((5:Nat),(5:Nat)),((3:Nat),(17:Nat)),((2:Nat),(16:Nat)),((1:Nat),(1:Nat)),((6:Nat),(6:Nat)),((4:Nat),(4:Nat)),((0:Nat),(0:Nat))] 18 7),((5:Nat),renF 8 [((7:Nat),(7:Nat)),((5:Nat),(5:Nat)),((3:Nat),(17:Nat)),((2:Nat),(16:Nat)),((1:Nat),(1:Nat)),((6:Nat),(6:Nat)),((4:Nat),(4:Nat)),((0:Nat),(0:Nat))] 18 5),((3:Nat),renF 8 [((7:Nat),(7:Nat)),((5:Nat),(5:Nat)),((3:Nat),(17:Nat)),((2:Nat),(16:Nat)),((1:Nat),(1:Nat)),((6:Nat),(6:Nat)),((4:Nat),(4:Nat)),((0:Nat),(0:Nat))] 18 9),((2:Nat),renF 8 [((7:Nat),(7:Nat)),((5:Nat),(5:Nat)),((3:Nat),(17:Nat)),((2:Nat),(16:Nat)),((1:Nat),(1:Nat)),((6:Nat),(6:Nat)),((4:Nat),(4:Nat)),((0:Nat),(0:Nat))] 18 8),((1:Nat),renF 8 [((7:Nat),(7:Nat)),((5:Nat),(5:Nat)),((3:Nat),(17:Nat)),((2:Nat),(16:Nat)),((1:Nat),(1:Nat)),((6:Nat),(6:Nat)),((4:Nat),(4:Nat)),((0:Nat),(0:Nat))] 18 1),((6:Nat),renF 8 [((7:Nat),(7:Nat)),((5:Nat),(5:Nat)),((3:Nat),(17:Nat)),((2:Nat),(16:Nat)),((1:Nat),(1:Nat)),((6:Nat),(6:Nat)),((4:Nat),(4:Nat)),((0:Nat),(0:Nat))] 18 6),((4:Nat),renF 8 [((7:Nat),(7:Nat)),((5:Nat),(5:Nat)),((3:Nat),(17:Nat)),((2:Nat),(16:Nat)),((1:Nat),(1:Nat)),((6:Nat),(6:Nat)),((4:Nat),(4:Nat)),((0:Nat),(0:Nat))] 18 4),((0:Nat),(0:Nat))] 30 5)] 1 100) Q6 ∧SBle (SB.fmap x_17.fst.w.ad (FCol.int IntKind.i64 x_17.fst.w.ag) none) (SB.fmap x.fst.w.ad (FCol.int IntKind.i64 x.fst.w.ag) none) ∧SBle (SB.cells [SV.vslc (renF 8 [((7:Nat),renF 8 [((7:Nat),(7:Nat)),((5:Nat),(5:Nat)),((3:Nat),(17:Nat)),((2:Nat),(16:Nat)),((1:Nat),(1:Nat)),((6:Nat),(6:Nat)),((4:Nat),(4:Nat)),((0:Nat),(0:Nat))] 18 7),((5:Nat),renF 8 [((7:Nat),(7:Nat)),((5:Nat),(5:Nat)),((3:Nat),(17:Nat)),((2:Nat),(16:Nat)),((1:Nat),(1:Nat)),((6:Nat),(6:Nat)),((4:Nat),(4:Nat)),((0:Nat),(0:Nat))] 18 5),((3:Nat),renF 8 [((7:Nat),(7:Nat)),((5:Nat),(5:Nat)),((3:Nat),(17:Nat)),((2:Nat),(16:Nat)),((1:Nat),(1:Nat)),((6:Nat),(6:Nat)),((4:Nat),(4:Nat)),((0:Nat),(0:Nat))] 18 9),((2:Nat),renF 8 [((7:Nat),(7:Nat)),((5:Nat),(5:Nat)),((3:Nat),(17:Nat)),((2:Nat),(16:Nat)),((1:Nat),(1:Nat)),((6:Nat),(6:Nat)),((4:Nat),(4:Nat)),((0:Nat),(0:Nat))] 18 8),((1:Nat),renF 8 [((7:Nat),(7:Nat)),((5:Nat),(5:Nat)),((3:Nat),(17:Nat)),((2:Nat),(16:Nat)),((1:Nat),(1:Nat)),((6:Nat),(6:Nat)),((4:Nat),(4:Nat)),((0:Nat),(0:Nat))] 18 1),((6:Nat),renF 8 [((7:Nat),(7:Nat)),((5:Nat),(5:Nat)),((3:Nat),(17:Nat)),((2:Nat),(16:Nat)),((1:Nat),(1:Nat)),((6:Nat),(6:Nat)),((4:Nat),(4:Nat)),((0:Nat),(0:Nat))] 18 6),((4:Nat),renF 8 [((7:Nat),(7:Nat)),((5:Nat),(5:Nat)),((3:Nat),(17:Nat)),((2:Nat),(16:Nat)),((1:Nat),(1:Nat)),((6:Nat),(6:Nat)),((4:Nat),(4:Nat)),((0:Nat),(0:Nat))] 18 4),((0:Nat),(0:Nat))] 30 7) 1 x_17.fst.w.z x_17.fst.w.o 0 x_17.fst.w.n x_17.fst.w.c] 1 22) Q1 ∧SBle x.fst.w.view x.fst.w.view ∧True) ∧(thrB x_17.fst.w m x_17.fst.s x_17.snd.fst x_17.snd.snd=false →∀(x_19:List UInt8×List UInt8),(thrB x.fst.w (m+(1:Nat)) x.fst.s x.snd.fst x.snd.snd=true →∃(x_21:Nat×Nat),((thrS x.fst.w (m+(1:Nat)) x.fst.s x.snd.fst x.snd.snd).ns.length≤x_21.fst ∧(thrS x.fst.w (m+(1:Nat)) x.fst.s x.snd.fst x.snd.snd).fs.length≤x_21.snd) ∧False) ∧(thrB x.fst.w (m+(1:Nat)) x.fst.s x.snd.fst x.snd.snd=false →∃(x:List UInt8×List UInt8),(0:Nat)=(0:Nat) ∧SBle (SB.cells [SV.str false x_19.fst,SV.str false x_19.snd] 2 231) (SB.cells [SV.str false x.fst,SV.str false x.snd] 2 231) ∧True))) ∧(lookT x_11.fst.w (cutIn x_11.snd)=false →∀(x_15:List UInt8×List UInt8),(thrB x.fst.w (m+(1:Nat)) x.fst.s x.snd.fst x.snd.snd=true →∃(x_17:Nat×Nat),((thrS x.fst.w (m+(1:Nat)) x.fst.s x.snd.fst x.snd.snd).ns.length≤x_17.fst ∧(thrS x.fst.w (m+(1:Nat)) x.fst.s x.snd.fst x.snd.snd).fs.length≤x_17.snd) ∧False) ∧(thrB x.fst.w (m+(1:Nat)) x.fst.s x.snd.fst x.snd.snd=false →∃(x:List UInt8×List UInt8),(0:Nat)=(0:Nat) ∧SBle (SB.cells [SV.str false x_15.fst,SV.str false x_15.snd] 2 231) (SB.cells [SV.str false x.fst,SV.str false x.snd] 2 231) ∧True))) ∧(hashB x_11.snd=false →∀(x_14:List UInt8×List UInt8),(thrB x.fst.w (m+(1:Nat)) x.fst.s x.snd.fst x.snd.snd=true →∃(x_16:Nat×Nat),((thrS x.fst.w (m+(1:Nat)) x.fst.s x.snd.fst x.snd.snd).ns.length≤x_16.fst ∧(thrS x.fst.w (m+(1:Nat)) x.fst.s x.snd.fst x.snd.snd).fs.length≤x_16.snd) ∧False) ∧(thrB x.fst.w (m+(1:Nat)) x.fst.s x.snd.fst x.snd.snd=false →∃(x:List UInt8×List UInt8),(0:Nat)=(0:Nat) ∧SBle (SB.cells [SV.str false x_14.fst,SV.str false x_14.snd] 2 231) (SB.cells [SV.str false x.fst,SV.str false x.snd] 2 231) ∧True)))) ∧(meetsB x.fst.w.fr x.fst.w.to (toX x.snd.fst x.snd.snd (↑x_4.fst:Int).toNat)=false →((-9223372036854775808:Int)≤(↑x_4.fst:Int)+(1:Int) ∧(↑x_4.fst:Int)+(1:Int)≤(9223372036854775807:Int)) ∧∃(y:Nat×Wk×Nat×Nat),((y.fst≤(16:Nat) ∧refsTo x.fst.w (thr x.fst.w m) x.snd.fst x.snd.snd y.fst (Wk.see x.fst.w x.fst.s x.snd.fst x.snd.snd)=some y.snd.fst ∧y.snd.fst.ns.length≤y.snd.snd.fst ∧y.snd.fst.fs.length≤y.snd.snd.snd) ∧(16:Nat) - y.fst<(16:Nat) - x_4.fst) ∧(↑x_4.fst:Int)+(1:Int)=(↑y.fst:Int) ∧(7:Nat)=(7:Nat) ∧x.fst.w.fr=x.fst.w.fr ∧x.fst.w.to=x.fst.w.to ∧(0:Nat)=(0:Nat) ∧(0:Nat)=(0:Nat) ∧((0:Nat)=(0:Nat) ∧x_4.snd.fst.ns.length=y.snd.fst.ns.length ∧x_4.snd.snd.fst=y.snd.snd.fst) ∧True ∧(↑x_4.snd.fst.lk:Int)=(↑y.snd.fst.lk:Int) ∧((0:Nat)=(0:Nat) ∧x_4.snd.fst.fs.length=y.snd.fst.fs.length ∧x_4.snd.snd.snd=y.snd.snd.snd) ∧True ∧SBle (SB.fmap x_4.snd.fst.ud (FCol.int IntKind.i64 x_4.snd.fst.us) none) (usSB y.snd.fst) ∧SBle (SB.rows true x_4.snd.fst.ns.length [nsCol x_4.snd.fst.ns] false (x_4.snd.snd.fst*(1:Nat)) 9) (nsSB y.snd.fst y.snd.snd.fst) ∧SBle (SB.rows true x_4.snd.fst.fs.length [fkCol x_4.snd.fst.fs,fvCol x_4.snd.fst.fs] false (x_4.snd.snd.snd*(2:Nat)) 60) (fsSB y.snd.fst y.snd.snd.snd) ∧SBle (SB.loop LoopState.ready none R) (SB.loop LoopState.ready none R) ∧SBle Q5 Q5 ∧SBle Q3 Q3 ∧SBle Q0 Q0 ∧SBle Q4 Q4 ∧SBle Q2 Q2 ∧SBle Q0 Q0 ∧SBle Q6 Q6 ∧SBle (SB.fmap x.fst.w.ad (FCol.int IntKind.i64 x.fst.w.ag) none) (SB.fmap x.fst.w.ad (FCol.int IntKind.i64 x.fst.w.ag) none) ∧SBle Q1 Q1 ∧SBle x.fst.w.view x.fst.w.view ∧True))) ∧(decide ((↑x_4.fst:Int)<(16:Int))=false →(thrB x.fst.w (m+(1:Nat)) x.fst.s x.snd.fst x.snd.snd=true →∃(x_8:Nat×Nat),((thrS x.fst.w (m+(1:Nat)) x.fst.s x.snd.fst x.snd.snd).ns.length≤x_8.fst ∧(thrS x.fst.w (m+(1:Nat)) x.fst.s x.snd.fst x.snd.snd).fs.length≤x_8.snd) ∧(7:Nat)=(7:Nat) ∧x.fst.w.fr=x.fst.w.fr ∧x.fst.w.to=x.fst.w.to ∧(0:Nat)=(0:Nat) ∧(0:Nat)=(0:Nat) ∧((0:Nat)=(0:Nat) ∧x_4.snd.fst.ns.length=(thrS x.fst.w (m+(1:Nat)) x.fst.s x.snd.fst x.snd.snd).ns.length ∧x_4.snd.snd.fst=x_8.fst) ∧True ∧(↑x_4.snd.fst.lk:Int)=(↑(thrS x.fst.w (m+(1:Nat)) x.fst.s x.snd.fst x.snd.snd).lk:Int) ∧((0:Nat)=(0:Nat) ∧x_4.snd.fst.fs.length=(thrS x.fst.w (m+(1:Nat)) x.fst.s x.snd.fst x.snd.snd).fs.length ∧x_4.snd.snd.snd=x_8.snd) ∧True ∧SBle (SB.fmap x_4.snd.fst.ud (FCol.int IntKind.i64 x_4.snd.fst.us) none) (usSB (thrS x.fst.w (m+(1:Nat)) x.fst.s x.snd.fst x.snd.snd)) ∧SBle (SB.rows true x_4.snd.fst.ns.length [nsCol x_4.snd.fst.ns] false (x_4.snd.snd.fst*(1:Nat)) 9) (nsSB (thrS x.fst.w (m+(1:Nat)) x.fst.s x.snd.fst x.snd.snd) x_8.fst) ∧SBle (SB.rows true x_4.snd.fst.fs.length [fkCol x_4.snd.fst.fs,fvCol x_4.snd.fst.fs] false (x_4.snd.snd.snd*(2:Nat)) 60) (fsSB (thrS x.fst.w (m+(1:Nat)) x.fst.s x.snd.fst x.snd.snd) x_8.snd) ∧SBle Q6 Q6 ∧SBle (SB.fmap x.fst.w.ad (FCol.int IntKind.i64 x.fst.w.ag) none) (SB.fmap x.fst.w.ad (FCol.int IntKind.i64 x.fst.w.ag) none) ∧SBle Q1 Q1 ∧True) ∧(thrB x.fst.w (m+(1:Nat)) x.fst.s x.snd.fst x.snd.snd=false →∃(_x:List UInt8×List UInt8),False))))) (SB.cells [SV.map 5] 1 100))) (SB.cells (SV.str false x.snd.snd).cells 1 9))) (SB.cells SV.niliface.cells 1 80))) (SB.cells (SV.agg (nodeCells x.snd.fst)).cells 19 116))) (SB.cells x.snd.fst.sv.cells 19 116))) (SB.cells [SV.vslc 7 1 x.fst.w.z x.fst.w.o 0 x.fst.w.n x.fst.w.c] 1 22))) (SB.cells (SV.ptr 0 true 0).cells 1 95)):=by kernel_rfl
end Go.Proofs.YtoalfimkkibpdaaGreatDoor
namespace Go.Proofs.YtoalfimkkibpdaaGreatDoor
open Go Sx
set_option maxRecDepth 20000
theorem used_take (w:Sp)(s:Wk)(h t:List UInt8):(s.take w h).used t=if t=h then s.used h+1 else s.used t:=by
 show dflt (s.ud t||decide (t=h)) (bif decide (t=h)then s.used h+1 else s.us t)=_
 by_cases e:t=h
 ·rw[if_pos e,decide_eq_true e,Bool.or_true];rfl
 ·rw[if_neg e,decide_eq_false e,Bool.or_false];rfl
theorem Wk.Fit.mono {s:Wk} {j k:Nat} (h:s.Fit j)(hk:j≤k):s.Fit k:=⟨fun t=>by have:=h.u t;omega,by have:=h.ns;omega,h.fs,h.lk⟩
theorem Wk.Fit.small {s:Wk} {k:Nat} (h:s.Fit k)(hk:k≤1000):s.Small:=⟨fun t=>by have:=h.u t;omega,by have:=h.ns;omega,by have:=h.lk;omega,by have:=h.fs;have:=h.lk;omega⟩
theorem Wk.Fit.take {s:Wk} {k:Nat} (h:s.Fit k)(w:Sp)(t:List UInt8):(s.take w t).Fit (k+1):=by
 refine⟨fun r=> ?_,?_,h.fs,h.lk⟩
 ·rw[used_take]
  have h1:=h.u r
  have h2:=h.u t
  split<;>omega
 ·have:=h.ns
  show(if s.used t=0 then s.ns++[w.at t] else s.ns).length≤_
  split
  ·rw[List.length_append];simp;omega
  ·omega
theorem Wk.Fit.see {s:Wk} (h:s.Fit (s.lk+1))(hl:s.lk<400)(w:Sp)(x:Nd)(p:List UInt8):(s.see w x p).Fit (s.see w x p).lk:=by
 refine⟨h.u,h.ns,?_,hl⟩
 have:=h.fs
 show(if seeB w x p=true then s.fs++[(pairsL (cat p x.p),x.v)] else s.fs).length≤s.lk+1
 split
 ·rw[List.length_append];simp;omega
 ·omega
theorem snfol_fit {w:Sp} {s s':Wk} {t:List UInt8} {y:Nd} {k:Nat} (h:s.Fit k)(hf:snfol w s t=some (y,s')):s'.Fit (k+1)∧s'.lk=s.lk∧validB y=true:=by
 unfold snfol at hf
 split at hf
 ·rename_i hi
  injection hf with hf;injection hf with h1 h2;subst h1;subst h2
  exact⟨h.mono (Nat.le_succ _),rfl,inl_valid hi⟩
 ·split at hf
  ·rename_i hi
   injection hf with hf;injection hf with h1 h2;subst h1;subst h2
   simp only[lookT,Bool.and_eq_true] at hi
   exact⟨h.take w _,rfl,get_valid hi.2.2⟩
  ·cases hf
def ThrFit (_w:Sp)(T:Wk→Nd→List UInt8→Option Wk):Prop:=∀ s x p s',s.Fit (s.lk+1)→T s x p=some s'→s'.Fit s'.lk∧s.lk<s'.lk
theorem refsTo_fit {w:Sp} {T:Wk→Nd→List UInt8→Option Wk} (hT:ThrFit w T) {x:Nd} {p:List UInt8}: ∀ {i:Nat} {s s':Wk},s.Fit s.lk→refsTo w T x p i s=some s'→s'.Fit s'.lk∧s.lk≤s'.lk
 | 0,s,s',h,e=>by
   injection e with e;subst e;exact⟨h,Nat.le_refl _⟩
 | i+1,s,s',h,e=>by
   unfold refsTo at e
   split at e
   ·cases e
   ·rename_i s1 h1
    obtain⟨g1,g2⟩:=refsTo_fit hT h h1
    unfold refStep at e
    split at e
    ·injection e with e;subst e;exact⟨g1,g2⟩
    ·cases hm:meetsB w.fr w.to (toX x p i)with
     | false =>
       rw[hm] at e
       injection e with e;subst e;exact⟨g1,g2⟩
     | true =>
       rw[hm] at e
       simp only[cond_true] at e
       split at e
       ·cases e
       ·rename_i y s2 hf
        obtain⟨q1,q2,_⟩:=snfol_fit g1 hf
        obtain⟨r1,r2⟩:=hT s2 y _ s' (by rw[q2];exact q1) e
        exact⟨r1,by omega⟩
theorem thr_fit (w:Sp): ∀ m,ThrFit w (thr w m)
 | 0=>fun s x p s' _ e=>by cases e
 | m+1=>fun s x p s' h e=>by
   unfold thr at e
   split at e
   ·cases e
   ·rename_i hl
    obtain⟨g1,g2⟩:=refsTo_fit (thr_fit w m) (h.see (by omega) w x p) e
    have:(s.see w x p).lk=s.lk+1:=rfl
    exact⟨g1,by omega⟩
theorem refsTo_none {w:Sp} {T:Wk→Nd→List UInt8→Option Wk} {x:Nd} {p:List UInt8} {s:Wk}: ∀ {j i:Nat},i≤j→refsTo w T x p i s=none→refsTo w T x p j s=none
 | 0,i,hj,e=>by
   have:i=0:=by omega
   subst this;exact e
 | j+1,i,hj,e=>by
   by_cases h:i=j+1
   ·subst h;exact e
   ·unfold refsTo
    rw[refsTo_none (by omega:i≤j) e]
section
variable {w : Sp} {T : Wk → Nd → List UInt8 → Option Wk} {x : Nd} {p : List UInt8} {s s' : Wk} {i : Nat}
theorem refsTo_step (h:refsTo w T x p i s=some s'):refsTo w T x p (i+1) s=refStep w T x p i s':=by
 rw[refsTo,h]
theorem refStep_empty (h:x.r i=[]):refStep w T x p i s=some s:=by rw[refStep,if_pos h]
theorem refStep_out (h:meetsB w.fr w.to (toX x p i)=false):refStep w T x p i s=some s:=by
 rw[refStep,h]
 split<;>rfl
theorem refStep_none (h: ¬ x.r i=[])(hm:meetsB w.fr w.to (toX x p i)=true)(hf:snfol w s (x.r i)=none):refStep w T x p i s=none:=by
 rw[refStep,if_neg h,hm,hf];rfl
theorem refStep_on (h: ¬ x.r i=[])(hm:meetsB w.fr w.to (toX x p i)=true) {y:Nd} (hf:snfol w s (x.r i)=some (y,s')):refStep w T x p i s=T s' y (toX x p i):=by
 rw[refStep,if_neg h,hm,hf];rfl
theorem snfol_in {t:List UInt8} (h:inlB t=true):snfol w s t=some (getD t,s):=by rw[snfol,if_pos h]
theorem snfol_take {t:List UInt8} (h:inlB t=false)(h1:hashB t=true)(h2:lookT w (cutIn t)=true):snfol w s t=some (getD (w.at (cutIn t)),s.take w (cutIn t)):=by
 rw[snfol,if_neg (by rw[h];simp),if_pos (by rw[h1,h2];rfl)]
theorem snfol_no {t:List UInt8} (h:inlB t=false)(h1:hashB t=false∨lookT w (cutIn t)=false):snfol w s t=none:=by
 rw[snfol,if_neg (by rw[h];simp),if_neg (by rcases h1 with h1 | h1<;>rw[h1]<;>simp)]
end
theorem toX_len {x:Nd} (h:x.Short)(p:List UInt8)(i:Nat):(toX x p i).length≤p.length+13:=by
 have:=h.p
 unfold toX cat
 split<;>simp<;>omega
end Go.Proofs.YtoalfimkkibpdaaGreatDoor
namespace Go.Proofs.YtoalfimkkibpdaaGreatDoor
open Go Sx
set_option maxRecDepth 20000
theorem fs_snoc {l:List (List UInt8×List UInt8)} {k v:List UInt8} {c:Nat} {ty:TypeId}:SBle (.rows true (l.length+1) [.str fun j=>if j<l.length then(l.getD j ([],[])).1 else selS [k] (j - l.length),.str fun j=>if j<l.length then(l.getD j ([],[])).2 else selS [v] (j - l.length)] false (c*2) ty) (.rows true (l++[(k,v)]).length [fkCol (l++[(k,v)]),fvCol (l++[(k,v)])] false (c*2) ty):=by
 refine rows_le (by simp) rfl rfl fun q c c' h1 h2 i hi E=> ?_
 have e:=sel_snoc l (k,v) ([],[]) i hi
 have hz: ¬ i<l.length→i - l.length=0:=by omega
 match q,h1,h2 with
 | 0,h1,h2 =>
   simp only[List.getElem?_cons_zero,Option.some.injEq] at h1 h2
   subst h1;subst h2
   simp only[fkCol,Col.at,SV.val,e]
   by_cases h:i<l.length
   ·rw[if_pos h,if_pos h]
   ·rw[if_neg h,if_neg h,hz h];rfl
 | 1,h1,h2 =>
   simp only[List.getElem?_cons_succ,List.getElem?_cons_zero,Option.some.injEq] at h1 h2
   subst h1;subst h2
   simp only[fvCol,Col.at,SV.val,e]
   by_cases h:i<l.length
   ·rw[if_pos h,if_pos h]
   ·rw[if_neg h,if_neg h,hz h];rfl
 | q+2,h1,h2=>simp at h1
section
variable {w : Sp} {m : Nat} {s s' : Wk} {x : Nd} {p : List UInt8}
theorem thr_end (hl: ¬ 400≤s.lk)(h:refsTo w (thr w m) x p 16 (s.see w x p)=some s'):thrB w (m+1) s x p=true∧thrS w (m+1) s x p=s':=by
 have:thr w (m+1) s x p=some s':=by rw[thr,if_neg hl,h]
 exact⟨by rw[thrB,this];rfl,by rw[thrS,this]⟩
theorem thr_bad (hl: ¬ 400≤s.lk)(h:refsTo w (thr w m) x p 16 (s.see w x p)=none):thrB w (m+1) s x p=false:=by
 rw[thrB,thr,if_neg hl,h];rfl
theorem thrS_eq (h:thrB w m s x p=true):thr w m s x p=some (thrS w m s x p):=by
 unfold thrB at h
 unfold thrS
 cases hx:thr w m s x p with
 | none=>rw[hx] at h;cases h
 | some s'=>rfl
theorem thrB_none (h:thrB w m s x p=false):thr w m s x p=none:=by
 unfold thrB at h
 cases hx:thr w m s x p with
 | none=>rfl
 | some s'=>rw[hx] at h;cases h
theorem flaw_leT {a b:List UInt8} {ty:TypeId}:SBle (SB.cells [SV.str true a,SV.str true b] 2 ty) (SB.cells [SV.str false (a,b).1,SV.str false (a,b).2] 2 ty):=SBle.cells (fun _=>rfl) rfl
theorem flaw_le' {a b:List UInt8} {ty:TypeId}:SBle (SB.cells [SV.str false a,SV.str false b] 2 ty) (SB.cells [SV.str false (a,b).1,SV.str false (a,b).2] 2 ty):=SBle.refl _
theorem toX_br (h:x.k=3)(i:Nat)(hi:i<16):cat (cat p x.p) [UInt8.ofNat ((i:Int)% 256).toNat]=toX x p i:=by
 rw[toX,if_pos h,show((i:Int)% 256).toNat=i by omega]
end
section
attribute [local irreducible] getB' getD inlB hashB cutIn lookT meetsB hasB keyB pathL pairsL toX thr thrB thrS refsTo Wk.used
set_option maxHeartbeats 4000000 in
theorem through_holds {m:Nat} {x:SnG×Nd×List UInt8} (hx:(thrC (m+1)).pre x):Holds (runM (cfgTh m x.1 x.2.1 x.2.2) 94 Tryz.f94 (thrC (m+1)) x):=by
 refine Holds.of_eq (vcSnThrough m x) ?_
 obtain⟨⟨w,s,c1,c2⟩,y,p⟩:=x
 obtain⟨hw,_,⟨hc1,hc2⟩,hf,hm,hy,hp⟩:=hx
 dsimp only at hw hc1 hc2 hf hm hy hp ⊢
 have hm:401≤s.lk+(m+1):=hm
 have hyp:=hy.p
 have hcat:(cat p y.p).length=p.length+y.p.length:=by unfold cat;simp
 have hlk:=hf.lk
 have hfs:=hf.fs
 have hns:=hf.ns
 by_cases hl:400≤s.lk
 ·have hB:thrB w (m+1) s y p=false:=by unfold thrB thr;rw[if_pos hl];rfl
  rw[hB,decide_eq_true (show(400:Int)≤(s.lk:Int)by omega)]
  exact⟨fun _=>⟨(fun h=>by cases h),fun _=>⟨(_,_),rfl,flaw_leT,trivial⟩⟩,(fun h=>by cases h)⟩
 refine⟨fun h=>absurd (of_decide_eq_true h) (by omega),fun _=>⟨⟨by omega,by omega⟩,⟨by omega,?_⟩,?_⟩⟩
 ·
  have no:seeB w y p=false→(s.see w y p).fs=s.fs:=fun h=>by show(if seeB w y p=true then _ else _)=_;rw[h];rfl
  have yes:seeB w y p=true→(s.see w y p).fs=s.fs++[(pairsL (cat p y.p),y.v)]:=fun h=>by show(if seeB w y p=true then _ else _)=_;rw[h];rfl
  have eb:seeB w y p=(!decide (y.v=[])&&(hasB w.fr w.to (cat p y.p)&&keyB (cat p y.p))):=rfl
  have le0:seeB w y p=false→SBle (SB.rows true s.fs.length [fkCol s.fs,fvCol s.fs] false (c2*2) 60) (fsSB (s.see w y p) c2):=fun h=>by
   unfold fsSB;rw[no h];exact SBle.refl _
  have le1:seeB w y p=true→∀ c,SBle (SB.rows true (s.fs.length+1) [.str fun j=>if j<s.fs.length then(s.fs.getD j ([],[])).1 else selS [pairsL (cat p y.p)] (j - s.fs.length),.str fun j=>if j<s.fs.length then(s.fs.getD j ([],[])).2 else selS [y.v] (j - s.fs.length)] false (c*2) 60) (fsSB (s.see w y p) c):=fun h c=>by
   unfold fsSB;rw[yes h];exact fs_snoc
  have wfr:=hw.fr
  have wto:=hw.to
  refine⟨fun hv=>⟨⟨wfr,wto⟩,fun hh=>⟨by omega,fun hk=> ?_,fun hk=> ?_⟩,fun hh=> ?_⟩,fun hv=> ?_⟩
  ·rw[hv,hh,hk] at eb
   have l1:=le1 eb
   refine⟨rfl,rfl,rfl,⟨⟨by omega,trivial,by omega,by omega⟩,rfl,fun c hc=>⟨rfl,⟨c,?_⟩⟩⟩⟩
   rw[if_pos (show seeB w y p=true from eb),List.length_append]
   have l1:=l1 c
   repeat' first
    | exact l1
    | exact SBle.refl _
    | refine And.intro ?_ ?_
    | rfl
    | assumption
    | omega
    | exact trivial
    | fail
  all_goals
   first
    | rw[hv,hh,hk] at eb
    | rw[hv,hh] at eb
    | rw[hv] at eb
   have l0:=le0 (eb.trans (by first | rfl | simp))
   have e0:seeB w y p=false:=eb.trans (by first | rfl | simp)
   refine⟨c2,?_⟩
   rw[e0]
   simp only[Bool.false_eq_true,if_false]
   repeat' first
    | exact l0
    | exact SBle.refl _
    | refine And.intro ?_ ?_
    | rfl
    | assumption
    | omega
    | exact trivial
    | fail
 ·intro c2' hc2' R
  refine⟨⟨(0,s.see w y p,c1,c2'),⟨⟨Nat.zero_le _,by unfold refsTo;rfl,hc1,hc2'⟩,?_⟩⟩,fun z hz=> ?_⟩
  ·repeat' first
    | exact SBle.refl _
    | refine And.intro ?_ ?_
    | rfl
    | assumption
    | omega
    | exact trivial
    | fail
  obtain⟨i,si,d1,d2⟩:=z
  obtain⟨hi16,hi,hd1,hd2⟩:=hz
  dsimp only at hi16 hi hd1 hd2 ⊢
  obtain⟨fi,hlki⟩:=refsTo_fit (thr_fit w m) (hf.see (by omega) w y p) hi
  have hlki:s.lk+1≤si.lk:=hlki
  have fil:=fi.lk
  simp only[-eq_self,Int.toNat_natCast]
  refine⟨fun hlt=> ?_,fun hlt=> ?_⟩
  ·have hlt:i<16:=by have:=of_decide_eq_true hlt;omega
   simp only[-eq_self,sel16 y.r hlt]
   have bad:refsTo w (thr w m) y p (i+1) (s.see w y p)=none→∀(a b:List UInt8),(thrB w (m+1) s y p=true→∃(q:Nat×Nat),((thrS w (m+1) s y p).ns.length≤q.1∧(thrS w (m+1) s y p).fs.length≤q.2)∧False)∧(thrB w (m+1) s y p=false→∃(q:List UInt8×List UInt8),(0:Nat)=0∧SBle (SB.cells [SV.str false a,SV.str false b] 2 231) (SB.cells [SV.str false q.1,SV.str false q.2] 2 231)∧True):=fun h a b=>by
    have hB:=thr_bad hl (refsTo_none (by omega:i+1≤16) h)
    rw[hB]
    exact⟨(fun h=>by cases h),fun _=>⟨(a,b),rfl,flaw_le',trivial⟩⟩
   refine⟨⟨by omega,by omega,by omega⟩,fun h0=>⟨⟨by omega,by omega⟩,(i+1,si,d1,d2),⟨⟨⟨by show i+1≤16;omega,(refsTo_step hi).trans (refStep_empty (of_decide_eq_true h0)),hd1,hd2⟩,by show 16 - (i+1)<16 - i;omega⟩,?_⟩⟩,fun h0=> ?_⟩
   ·repeat' first
     | exact SBle.refl _
     | refine And.intro ?_ ?_
     | rfl
     | assumption
     | omega
     | exact trivial
     | fail
   have h0:=of_decide_eq_false h0
   have htl:=toX_len hy p i
   refine⟨by omega,⟨fun h3=>⟨by omega,(),trivial,toX_br (of_decide_eq_true h3) i hlt,?_⟩,fun h3=>⟨(),trivial,by unfold toX;rw[if_neg (of_decide_eq_false h3)],?_⟩⟩,fun _ _=>⟨⟨hw.fr,hw.to⟩,fun hM=>⟨rfl,?_⟩,fun hM=>⟨⟨by omega,by omega⟩,(i+1,si,d1,d2),⟨⟨⟨by show i+1≤16;omega,(refsTo_step hi).trans (refStep_out hM),hd1,hd2⟩,by show 16 - (i+1)<16 - i;omega⟩,?_⟩⟩⟩⟩
   ·repeat' first
     | exact SBle.refl _
     | refine And.intro ?_ ?_
     | rfl
     | assumption
     | omega
     | exact trivial
     | fail
   ·repeat' first
     | exact SBle.refl _
     | refine And.intro ?_ ?_
     | rfl
     | assumption
     | omega
     | exact trivial
     | fail
   rotate_left
   ·repeat' first
     | exact SBle.refl _
     | refine And.intro ?_ ?_
     | rfl
     | assumption
     | omega
     | exact trivial
     | fail
   have hrl:(y.r i).length<9223372036854775808:=by
    rcases hy.r i hlt with e | e
    ·exact absurd e h0
    ·have:=may_len e;omega
   have go: ∀ {yy:Nd} {s2:Wk},snfol w si (y.r i)=some (yy,s2)→s2.Fit (s2.lk+1)∧(401≤s2.lk+m)∧yy.Short∧(toX y p i).length≤13*s2.lk∧s2.Small:=fun h=>by
    obtain⟨q1,q2,q3⟩:=snfol_fit fi h
    exact⟨by rw[q2];exact q1,by omega,valid_short q3,by omega,q1.small (by omega)⟩
   have on: ∀ {yy:Nd} {s2:Wk},snfol w si (y.r i)=some (yy,s2)→thrB w m s2 yy (toX y p i)=true→refsTo w (thr w m) y p (i+1) (s.see w y p)=some (thrS w m s2 yy (toX y p i)):=fun h hb=>by
    rw[refsTo_step hi,refStep_on h0 hM h,thrS_eq hb]
   have off: ∀ {yy:Nd} {s2:Wk},snfol w si (y.r i)=some (yy,s2)→thrB w m s2 yy (toX y p i)=false→refsTo w (thr w m) y p (i+1) (s.see w y p)=none:=fun h hb=>by
    rw[refsTo_step hi,refStep_on h0 hM h,thrB_none hb]
   refine⟨(⟨w,si,d1,d2⟩,y.r i),⟨hw,fi.small (by omega),⟨hd1,hd2⟩,hrl⟩,?_⟩
   dsimp only
   have inn:inlB (y.r i)=true→snfol w si (y.r i)=some (getD (y.r i),si):=snfol_in
   have inh:inlB (y.r i)=false→hashB (y.r i)=true→lookT w (cutIn (y.r i))=true→snfol w si (y.r i)=some (getD (w.at (cutIn (y.r i))),si.take w (cutIn (y.r i))):=snfol_take
   have inb:inlB (y.r i)=false→(hashB (y.r i)=false∨lookT w (cutIn (y.r i))=false)→refsTo w (thr w m) y p (i+1) (s.see w y p)=none:=fun h1 h2=>by
    rw[refsTo_step hi,refStep_none h0 hM (snfol_no h1 h2)]
   have hsuc:i+1≤16:=by omega
   have hmea:16 - (i+1)<16 - i:=by omega
   refine⟨rfl,rfl,rfl,rfl,rfl,rfl,rfl,⟨rfl,rfl,rfl⟩,trivial,rfl,⟨rfl,rfl,rfl⟩,trivial,SBle.refl _,SBle.refl _,SBle.refl _,rfl,SBle.refl _,rfl,⟨rfl,rfl,rfl,rfl,rfl⟩,SBle.refl _,fun h1 e he=> ?_,fun h1=>⟨fun h2=>⟨fun h3 e he=> ?_,fun h3 yy=>bad (inb h1 (.inr h3)) _ _⟩,fun h2 yy=>bad (inb h1 (.inl h2)) _ _⟩⟩
   ·have hfol:=inn h1
    obtain⟨g1,g2,g3,g4,g5⟩:=go hfol
    refine⟨(⟨w,si,e.1,e.2⟩,getD (y.r i),toX y p i),⟨hw,g5,he,g1,g2,g3,g4⟩,?_⟩
    dsimp only
    have on:=on hfol
    have off:=off hfol
    repeat' first
     | exact fun hb yy=>bad (off hb) _ _
     | refine fun hb q hq=>⟨⟨by omega,by omega⟩,(i+1,thrS w m si (getD (y.r i)) (toX y p i),q.1,q.2),⟨⟨hsuc,on hb,hq.1,hq.2⟩,hmea⟩,?_⟩
     | exact SBle.refl _
     | refine And.intro ?_ ?_
     | rfl
     | assumption
     | omega
     | exact trivial
     | fail
   ·have hfol:=inh h1 h2 h3
    obtain⟨g1,g2,g3,g4,g5⟩:=go hfol
    refine⟨(⟨w,si.take w (cutIn (y.r i)),e.1,e.2⟩,getD (w.at (cutIn (y.r i))),toX y p i),⟨hw,g5,he,g1,g2,g3,g4⟩,?_⟩
    dsimp only
    have on:=on hfol
    have off:=off hfol
    repeat' first
     | exact fun hb yy=>bad (off hb) _ _
     | refine fun hb q hq=>⟨⟨by omega,by omega⟩,(i+1,thrS w m (si.take w (cutIn (y.r i))) (getD (w.at (cutIn (y.r i)))) (toX y p i),q.1,q.2),⟨⟨hsuc,on hb,hq.1,hq.2⟩,hmea⟩,?_⟩
     | exact SBle.refl _
     | refine And.intro ?_ ?_
     | rfl
     | assumption
     | omega
     | exact trivial
     | fail
  ·have e16:i=16:=by have:=of_decide_eq_false hlt;omega
   subst e16
   obtain⟨k1,k2⟩:=thr_end hl hi
   rw[k1,k2]
   refine⟨fun _=>⟨(d1,d2),⟨hd1,hd2⟩,?_⟩,(fun h=>by cases h)⟩
   repeat' first
    | exact SBle.refl _
    | refine And.intro ?_ ?_
    | rfl
    | assumption
    | omega
    | exact trivial
    | fail
end
end Go.Proofs.YtoalfimkkibpdaaGreatDoor
namespace Go.Proofs.YtoalfimkkibpdaaGreatDoor
open Go Sx
set_option maxRecDepth 20000
theorem listX3_of {m:Nat} (h:CallOk Tryz.prog 94 (memPT (thrC m))):SummOk Tryz.prog (fun f=>lookPT f (listX3 m)):=.cons h (memPT_mono _) (.cons snfollow_ok (memPT_mono _) listX2_ok)
theorem thr_all: ∀ m,CallOk Tryz.prog 94 (memPT (thrC m))
 | 0=>mem_ok (n:=20) (fn:=Tryz.f94) Tryz.func94 (by kernel_rfl) (by kernel_rfl) (thrC 0) fun x hx=>by
   obtain⟨_,_,_,hf,hm,_⟩:=hx
   have:=hf.lk
   omega
 | m+1=>mem_ok (n:=20) (fn:=Tryz.f94) Tryz.func94 (by kernel_rfl) (by kernel_rfl) (thrC (m+1)) fun x hx=>⟨cfgTh m x.1 x.2.1 x.2.2,⟨mixes,listX3_of (thr_all m),fns_ok⟩,rfl,through_holds hx⟩
theorem listX3_ok (m:Nat):SummOk Tryz.prog (fun f=>lookPT f (listX3 m)):=listX3_of (thr_all m)
end Go.Proofs.YtoalfimkkibpdaaGreatDoor
namespace Go.Proofs.YtoalfimkkibpdaaGreatDoor
open Go Sx
set_option maxRecDepth 20000
def numOf (n:Int):List UInt8:=textOf (digits n)
structure Upto (n:Nat)(t:Nat→Bool)(i:Nat):Prop where
 le:i≤n
 all: ∀ j,j<i→t j=true
noncomputable def annUpto (tmp:Nat)(n:Nat)(t:Nat→Bool):LoopAnn :=
 {α:=Nat,pre:=fun _ i=>Upto n t i,mea:=fun _ i=>n - i,fresh:=0,slots:=fun _ i=>[(tmp,.int .i64 false i)],mem:=fun _ _=>[]}
structure Grow (n:Nat)(x:Nat×Nat):Prop where
 le:x.1≤n
 cap:x.1≤x.2
noncomputable def annGrow (tmp slot:Nat)(n:Nat)(f:Nat→List UInt8):LoopAnn :=
 {α:=Nat×Nat,pre:=fun _ x=>Grow n x,mea:=fun _ x=>n - x.1,fresh:=1,slots:=fun st x=>[(tmp,.int .i64 false x.1),(slot,.rslc st.nx 1 false 0 x.1 x.2)],
  mem:=fun st x=>[(st.nx,.rows false x.1 [.str f] false x.2 9)]}
theorem upto_all {n i:Nat} {t:Nat→Bool} (h:Upto n t i)(hi: ¬ (i:Int)<(n:Int)):(List.range n).all t=true:=by
 rw[List.all_eq_true]
 intro j hj
 have:=List.mem_range.1 hj
 exact h.all j (by omega)
theorem upto_none {n i:Nat} {t:Nat→Bool} (hi:(i:Int)<(n:Int))(ht:t i=false):(List.range n).all t=false:=by
 rw[List.all_eq_false]
 exact⟨i,List.mem_range.2 (by omega),by rw[ht];decide⟩
theorem upto_next {n i:Nat} {t:Nat→Bool} (h:Upto n t i)(hi:(i:Int)<(n:Int))(ht:t i=true):Upto n t (i+1):=⟨by omega,fun j hj=>by
 by_cases e:j=i
 ·subst e;exact ht
 ·exact h.all j (by omega)⟩
theorem bool_same {l:Bool} {a b:Bool} (h:a=b):sameVal (.bool l a) (.bool false b):=fun E=>by subst h;rfl
theorem flat_len {l:List (List UInt8)} {m:Nat} (h: ∀ x∈ l,x.length≤m):(flat l).length≤l.length*m:=by
 induction l with
 | nil=>simp[flat]
 | cons a r ih =>
   have h1:=h a (by simp)
   have h2:=ih fun x hx=>h x (by simp[hx])
   have:flat (a::r)=a++flat r:=by simp[flat]
   rw[this,List.length_append,List.length_cons,Nat.add_mul];omega
theorem flat_clen (a:List UInt8)(l:List (List UInt8)):(flat (a::l)).length=a.length+(flat l).length:=by simp[flat]
theorem flat_nlen:(flat []).length=0:=rfl
theorem listOf_len (l:List (List UInt8)):(listOf l).length≤(flat l).length+9:=by
 have:=head_len 192 (flat l).length
 rw[listOf,List.length_append];omega
theorem rowL_mem {f:Nat→List UInt8} {n:Nat} {y:List UInt8} (h:y∈ rowL f 0 n): ∃ i,i<n∧y=f i:=by
 obtain⟨j,hj⟩:=List.getElem?_of_mem h
 obtain⟨h1,h2⟩:=rowL_get hj
 exact⟨j,h1,by rw[← h2,Nat.zero_add]⟩
theorem Sx.SBle.empty {tot tot':Nat} {ty:TypeId} {cols:List Col} {z:Bool} (h:tot=tot'):SBle (.cells [] tot ty) (.rows z 0 cols false tot' ty):=by
 subst h
 intro _
 refine⟨rfl,fun E o ⟨c,fr,h1,h2,_,h4⟩=>⟨c,fr,h1,fun _=>h2,by omega,h4,fun i k col hi=>absurd hi (Nat.not_lt_zero _)⟩,fun _=>rfl⟩
theorem grow_row {_n:Nat} {F:Nat→List UInt8} {k:Nat} {v:List UInt8} (hv:v=F k) {c c':Nat} (hc:c=c') :
  SBle (.rows false (k+1) [.str fun j=>if j<k then F j else selS [v] (j - k)] false (c*1) 9) (.rows false (k+1) [.str F] false c' 9):=by
 refine Sx.SBle.strRows rfl (by omega) fun i hi=> ?_
 by_cases h:i<k
 ·rw[if_pos h]
 ·have e:i=k:=by omega
  subst e
  rw[if_neg h,Nat.sub_self,hv]
  rfl
theorem grow_next {n c _k:Nat} {y:Nat×Nat} (_h:Grow n y)(hk:(y.1:Int)<(n:Int))(hc:y.1+1≤c):Grow n (y.1+1,c):=⟨by show y.1+1≤n;omega,hc⟩
end Go.Proofs.YtoalfimkkibpdaaGreatDoor
namespace Go.Proofs.YtoalfimkkibpdaaGreatDoor
open Go Sx
set_option maxRecDepth 20000
structure Pp where
 k:Int
 root:List UInt8
 key:List UInt8
 to:List UInt8
 n:Nat
 f:Nat→List UInt8
def Pp.sv (x:Pp)(u:SV):SV:=.agg [.int .i64 false x.k,.str false x.root,.str false x.key,.str false x.to,u]
def nodeOk (f:Nat→List UInt8)(i:Nat):Bool:=!decide ((1000:Int)<((f i).length:Int))
def nodesOk (n:Nat)(f:Nat→List UInt8):Bool:=(List.range n).all (nodeOk f)
def Pp.ok (x:Pp):Bool:=(decide (x.k=0)&&decide (x.to=[])||decide (x.k=1))&&decide ((x.root.length:Int)=32)&& !decide ((6:Int)<(x.key.length:Int))&& !decide ((6:Int)<(x.to.length:Int)) &&
 !decide ((200:Int)<(x.n:Int))&&nodesOk x.n x.f
def rowT (f:Nat→List UInt8)(i:Nat):List UInt8:=textOf (f i)
def Pp.rows (x:Pp):List (List UInt8):=rowL (rowT x.f) 0 x.n
def Pp.items (x:Pp):List (List UInt8):=[numOf x.k,textOf x.root,textOf x.key,textOf x.to,listOf x.rows]
def Pp.put (x:Pp):List UInt8:=listOf x.items
def Pp.fits (x:Pp):Bool:=x.ok&& !decide ((65536:Int)<(x.put.length:Int))
def seenP (z:Bool)(o c:Nat)(x:Pp)(key:Option Nat):Seen:=⟨key,z,o,x.n,c,[.str x.f]⟩
noncomputable def cfgPV (x:Pp):Cfg:={cfg0 with summ:=fun f=>lookPT f list7,anns:=fun f=>if f=19 then [(12,always (annUpto 37 x.n (nodeOk x.f)))] else []}
theorem goodPV (x:Pp):Sx.Good Tryz.prog (cfgPV x):=⟨mixes,list7_ok,fns_ok⟩
def dP:List Col:=[.str fun _=>[]]
def shP:List Sh2:=[.agg [.one,.one,.one,.one,.slice dP]]
def paperOf (vs:List SV)(l:List Seen):Option (Pp×Bool×Nat×Nat×Option Nat):=match vs,l with
 | [.agg [.int .i64 false k,.str false root,.str false key,.str false to,_]],[⟨kk,z,o,n,c,[.str f]⟩]=>some (⟨k,root,key,to,n,f⟩,z,o,c,kk)
 | _,_=>none
theorem paperOf_eq {vs:List SV} {l:List Seen} {x:Pp} {z:Bool} {o c:Nat} {key:Option Nat} (h:paperOf vs l=some (x,z,o,c,key)):filled shP vs l=[x.sv (.vslc 0 1 z o 0 x.n c)]∧l=[seenP z o c x key]:=by
 unfold paperOf at h
 split at h
 ·injection h with h;injection h with h1 h;injection h with h2 h;injection h with h3 h;injection h with h4 h5
  subst h1;subst h2;subst h3;subst h4;subst h5
  exact⟨rfl,rfl⟩
 ·cases h
end Go.Proofs.YtoalfimkkibpdaaGreatDoor
namespace Go.Proofs.YtoalfimkkibpdaaGreatDoor
open Go Sx
set_option maxRecDepth 20000
def sameT (n:Nat)(f:Nat→List UInt8)(n':Nat)(f':Nat→List UInt8):Bool:=decide ((n:Int)=(n':Int))&&(List.range n).all fun i=>decide (f i=f' i)
def seenT2 (z:Bool)(o c n:Nat)(f:Nat→List UInt8)(key:Option Nat):Seen:=⟨key,z,o,n,c,[.str f]⟩
def shTT:List Sh2:=[.of (.slice dP),.of (.slice dP)]
noncomputable def cfgSE (n:Nat)(f f':Nat→List UInt8):Cfg:={cfg0 with summ:=fun f=>lookPT f reflList,anns:=fun g=>if g=40 then [(4,always (annUpto 13 n fun i=>decide (f i=f' i)))] else []}
theorem goodSE (n:Nat)(f f':Nat→List UInt8):Sx.Good Tryz.prog (cfgSE n f f'):=⟨mixes,reflList_ok,fns_ok⟩
end Go.Proofs.YtoalfimkkibpdaaGreatDoor
namespace Go.Proofs.YtoalfimkkibpdaaGreatDoor
open Go Sx
set_option maxRecDepth 20000
theorem vcEqualT (n n':Nat)(f f':Nat→List UInt8)(z z':Bool)(o o' c c':Nat)(key key':Option Nat):VC.holds (runS (cfgSE n f f') 40 Tryz.f40 [.vslc 0 1 z o 0 n c,.vslc 1 1 z' o' 0 n' c'] [seenT2 z o c n f key,seenT2 z' o' c' n' f' key'] (.ret (.bool false (sameT n f n' f'))))=(((!decide ((↑n:Int)=(↑n':Int)))=true →sameVal (SV.bool true false) (SV.bool false (sameT n f n' f'))) ∧((!decide ((↑n:Int)=(↑n':Int)))=false →(∃(y:Nat),Upto n (fun(i:Nat)=>decide (f i=f' i)) y ∧(0:Int)=(↑y:Int) ∧SBle (seenT2 z o c n f key).B (seenT2 z o c n f key).B ∧SBle (seenT2 z' o' c' n' f' key').B (seenT2 z' o' c' n' f' key').B ∧True) ∧∀(x:Nat),Upto n (fun(i:Nat)=>decide (f i=f' i)) x →(decide ((↑x:Int)<(↑n:Int))=true →((0:Int)≤(↑x:Int) ∧(↑x:Int)<(↑n:Int)) ∧(o=o ∧(0:Nat)+(↑x:Int).toNat<n) ∧((0:Int)≤(↑x:Int) ∧(↑x:Int)<(↑n':Int)) ∧(o'=o' ∧(0:Nat)+(↑x:Int).toNat<n') ∧((!decide (f ((0:Nat)+(↑x:Int).toNat)=f' ((0:Nat)+(↑x:Int).toNat)))=true →sameVal (SV.bool true false) (SV.bool false (sameT n f n' f'))) ∧((!decide (f ((0:Nat)+(↑x:Int).toNat)=f' ((0:Nat)+(↑x:Int).toNat)))=false →((-9223372036854775808:Int)≤(↑x:Int)+(1:Int) ∧(↑x:Int)+(1:Int)≤(9223372036854775807:Int)) ∧∃(y:Nat),(Upto n (fun(i:Nat)=>decide (f i=f' i)) y ∧n - y<n - x) ∧(↑x:Int)+(1:Int)=(↑y:Int) ∧SBle (seenT2 z o c n f key).B (seenT2 z o c n f key).B ∧SBle (seenT2 z' o' c' n' f' key').B (seenT2 z' o' c' n' f' key').B ∧True)) ∧(decide ((↑x:Int)<(↑n:Int))=false →sameVal (SV.bool true true) (SV.bool false (sameT n f n' f'))))):=by kernel_rfl
end Go.Proofs.YtoalfimkkibpdaaGreatDoor
namespace Go.Proofs.YtoalfimkkibpdaaGreatDoor
open Go Sx
set_option maxRecDepth 20000
theorem wdec {p:Prop} [Decidable p] (h:(!decide p)=false):p:=by
 cases hd:decide p with
 | true=>exact of_decide_eq_true hd
 | false=>rw[hd] at h;cases h
theorem wnot {p:Prop} [Decidable p] (h:(!decide p)=true):decide p=false:=by
 cases hd:decide p with
 | true=>rw[hd] at h;cases h
 | false=>rfl
theorem wyes {p:Prop} [Decidable p] (h:(!decide p)=false):decide p=true:=by
 cases hd:decide p with
 | true=>rfl
 | false=>rw[hd] at h;cases h
theorem equalT_holds {n n':Nat} {f f':Nat→List UInt8} (hn:n<9223372036854775808)(z z':Bool)(o o' c c':Nat)(key key':Option Nat):Holds (runS (cfgSE n f f') 40 Tryz.f40 [.vslc 0 1 z o 0 n c,.vslc 1 1 z' o' 0 n' c'] [seenT2 z o c n f key,seenT2 z' o' c' n' f' key'] (.ret (.bool false (sameT n f n' f')))):=by
 refine Holds.of_eq (vcEqualT n n' f f' z z' o o' c c' key key') ?_
 simp only[Int.toNat_natCast,Nat.zero_add]
 refine⟨fun h=>bool_same (by rw[sameT,wnot h];rfl),fun h=>⟨⟨0,⟨Nat.zero_le _,fun j hj=>absurd hj (Nat.not_lt_zero _)⟩,rfl,SBle.refl _,SBle.refl _,trivial⟩,fun i hi=>⟨fun a=> ?_,fun a=> ?_⟩⟩⟩
 ·simp only[decide_eq_true_eq] at a
  have e:(n:Int)=(n':Int):=wdec h
  refine⟨by omega,⟨trivial,by omega⟩,by omega,⟨trivial,by omega⟩,fun b=> ?_,fun b=>⟨by omega,i+1,⟨upto_next hi a (wyes b),by omega⟩,by omega,SBle.refl _,SBle.refl _,trivial⟩⟩
  exact bool_same (by rw[sameT,upto_none a (wnot b),Bool.and_false])
 ·simp only[decide_eq_false_iff_not] at a
  exact bool_same (by rw[sameT,upto_all hi a,wyes h];rfl)
def sameTSpec (vs:List SV)(l:List Seen):Option (Prop×Ans):=match vs,l with
 | [_,_],[⟨_,_,_,n,_,[.str f]⟩,⟨_,_,_,n',_,[.str f']⟩]=>some (n<9223372036854775808,.ret (.bool false (sameT n f n' f')))
 | _,_=>none
theorem equalT_ok:CallOk Tryz.prog 40 (ansVPT shTT sameTSpec):=by
 refine ansV_ok (n:=20) (fn:=Tryz.f40) Tryz.func40 (by kernel_rfl) (by kernel_rfl) ?_
 intro vs l q a h hq
 unfold sameTSpec at h
 split at h
 ·rename_i v v' key z o n c f key' z' o' n' c' f'
  injection h with h;injection h with h1 h2;subst h1;subst h2
  exact⟨_,goodSE n f f',rfl,rfl,equalT_holds hq z z' o o' c c' key key'⟩
 ·cases h
end Go.Proofs.YtoalfimkkibpdaaGreatDoor
namespace Go.Proofs.YtoalfimkkibpdaaGreatDoor
open Go Sx
set_option maxRecDepth 20000
def firstD (f:Nat→List UInt8):Nat→List UInt8→Bool
 | 0=>fun _=>false
 | i+1=>fun h=>firstD f i h||decide (h=shaL (f i))
def firstG (f:Nat→List UInt8):Nat→List UInt8→Int
 | 0=>fun _=>0
 | i+1=>fun h=>bif firstD f i h then firstG f i h else(bif decide (h=shaL (f i))then(i:Int)else 0)
theorem first_ok (f:Nat→List UInt8): ∀(n:Nat)(h:List UInt8),firstD f n h=true→0≤firstG f n h∧firstG f n h<n∧shaL (f (firstG f n h).toNat)=h
 | 0,h,e=>by cases e
 | n+1,h,e=>by
   unfold firstG
   cases hd:firstD f n h with
   | true =>
     obtain⟨h1,h2,h3⟩:=first_ok f n h hd
     exact⟨h1,by show firstG f n h<_;omega,h3⟩
   | false =>
     have hs:decide (h=shaL (f n))=true:=by
      unfold firstD at e
      rw[hd,Bool.false_or] at e;exact e
     rw[hs]
     simp only[cond_true,cond_false,Int.toNat_natCast]
     exact⟨by omega,by omega,(of_decide_eq_true hs).symm⟩
theorem first_all (f:Nat→List UInt8): ∀(n j:Nat),j<n→firstD f n (shaL (f j))=true
 | 0,j,h=>absurd h (Nat.not_lt_zero _)
 | n+1,j,h=>by
   unfold firstD
   by_cases e:j=n
   ·subst e;simp
   ·rw[first_all f n j (by omega)];rfl
theorem first_zero (f:Nat→List UInt8): ∀(n:Nat),firstG f n (shaL (f 0))=0
 | 0=>rfl
 | n+1=>by
   unfold firstG
   cases n with
   | zero=>simp[firstD]
   | succ n=>rw[first_all f (n+1) 0 (by omega),first_zero f (n+1)];rfl
theorem first_root {f:Nat→List UInt8} {n:Nat} {root:List UInt8}:(firstD f n root=true∧firstG f n root=0)↔(0<n∧shaL (f 0)=root):=by
 constructor
 ·rintro⟨h1,h2⟩
  obtain⟨_,g2,g3⟩:=first_ok f n root h1
  rw[h2] at g2 g3
  exact⟨by omega,g3⟩
 ·rintro⟨h1,rfl⟩
  exact⟨first_all f n 0 h1,first_zero f n⟩
def leB (a b:List UInt8):Bool:=Op.bytesLess a b||decide (a=b)
def Sp.full (w:Sp):Sp:={w with ad:=firstD w.f w.n,ag:=firstG w.f w.n}
def Wk.start:Wk:=⟨fun _=>false,fun _=>0,[],0,[]⟩
def snWalk (root:List UInt8)(w:Sp):Option Wk:=bif lookT w root then thr w 401 (Wk.start.take w root) (getD (w.at root)) [] else none
def snRes (root:List UInt8)(w:Sp):Option (List (List UInt8×List UInt8)) :=
 bif leB w.fr w.to&&(decide (0<w.n)&&(decide (w.n≤200)&&decide (shaL (w.f 0)=root)))then(match snWalk root w.full with
  | some s=>bif sameT s.ns.length (fun i=>s.ns.getD i []) w.n w.f then some s.fs else none
  | none=>none)else none
def snL (root:List UInt8)(w:Sp):List (List UInt8×List UInt8):=match snRes root w with
 | some l=>l
 | none=>[]
def snVerA (root:List UInt8)(w:Sp):Ans:=.fork (snRes root w).isSome fun b=>match b with
 | true=>.all Nat fun c=>.req ((snL root w).length≤c) (.new (fun k=>.tup [.rslc k 2 true 0 (snL root w).length c,.int .i64 true 0]) (.rows true (snL root w).length [fkCol (snL root w),fvCol (snL root w)] false (c*2) 60))
 | false=>.ret (.tup [.nilslc,.int .i64 true 10])
def mapAt (st:Sx.St)(i:Nat):Nat:=match st.m.get (ptrAt st i)with
 | some (.cells [.map k] _ _)=>k
 | _=>0
def annFirst (w:Sp):LoopAnn :=
 {α:=Nat,pre:=fun _ i=>i≤w.n,mea:=fun _ i=>w.n - i,fresh:=0,slots:=fun _ i=>[(37,.int .i64 false i)],mem:=fun st i=>[(mapAt st 8,.fmap (firstD w.f i) (.int .i64 (firstG w.f i)) none)]}
noncomputable def listX4:List (FuncId×PT):=(40,ansVPT shTT sameTSpec)::listX3 401
noncomputable def cfgSv (w:Sp):Cfg:={cfg0 with summ:=fun f=>lookPT f listX4,anns:=fun f=>if f=35 then [(5,always (annFirst w))] else []}
theorem listX4_ok:SummOk Tryz.prog (fun f=>lookPT f listX4):=.cons equalT_ok (ansVPT_mono _ _) (listX3_ok 401)
theorem goodSv (w:Sp):Sx.Good Tryz.prog (cfgSv w):=⟨mixes,listX4_ok,fns_ok⟩
def seenSp (w:Sp)(kk:Option Nat):Seen:=⟨kk,w.z,w.o,w.n,w.c,[.str w.f]⟩
end Go.Proofs.YtoalfimkkibpdaaGreatDoor
