/-
  Conditions that the executor computes, written out by a program (vcgen.py).
-/
import Derived.Test.YtoibaecagklkaaaGreatDoorMs
import Derived.Test.YtoibaecagklkaaaGreatDoorMp
import Derived.Test.YtoibaecagklkaaaGreatDoorMl
namespace Go.Proofs.YtoibaecagklkaaaGreatDoor
open Go Sx
set_option maxRecDepth 20000
theorem Gn (m:Nat)(x:wz×Nd×List UInt8):VC.holds (runM (PN m x.1 x.2.1 x.2.2) 84 Tryz.f84 (Fo (m+1)) x)=((fun P0:SB=>((fun P1:SB=>((fun P2:SB=>((fun P3:SB=>((fun P4:SB=>((fun P5:(wz×List UInt8)->Nd=>((fun P6:SB=>((fun P7:SB=>((fun P8:SB=>((fun P9:(Nat×Wk×Nat×Nat)->SB=>((fun P10:(Nat×Wk×Nat×Nat)->SB=>(((decide (400<=(x.fst.s.lk:Int))=true->(fG x.fst.w (m+1) x.fst.s x.snd.fst x.snd.snd=true->∃(u52:Nat×Nat),((cA x.fst.w (m+1) x.fst.s x.snd.fst x.snd.snd).ns.length<=u52.fst/\(cA x.fst.w (m+1) x.fst.s x.snd.fst x.snd.snd).fs.length<=u52.snd)/\False)/\(fG x.fst.w (m+1) x.fst.s x.snd.fst x.snd.snd=false->∃(u51:List UInt8×List UInt8),(0:Nat)=(0:Nat)/\ah (SB.cells [SV.str true [(116:UInt8),(111:UInt8),(111:UInt8),(32:UInt8),(109:UInt8),(97:UInt8),(110:UInt8),(121:UInt8),(32:UInt8),(110:UInt8),(111:UInt8),(100:UInt8),(101:UInt8),(115:UInt8)],SV.str true []] 2 207) (SB.cells [SV.str false u51.fst,SV.str false u51.snd] 2 207)/\True))/\(decide (400<=(x.fst.s.lk:Int))=false->((-9223372036854775808:Int)<=(x.fst.s.lk:Int)+1/\(x.fst.s.lk:Int)+1<=(9223372036854775807:Int))/\((x.snd.snd.length:Int)+(x.snd.fst.p.length:Int)<=9223372036854775807/\((!decide (x.snd.fst.v=[]))=true->(x.fst.w.fr.length<=1000/\x.fst.w.to.length<=1000)/\(hasB x.fst.w.fr x.fst.w.to (cat x.snd.snd x.snd.fst.p)=true->(cat x.snd.snd x.snd.fst.p).length<1099511627776 /\(nU (cat x.snd.snd x.snd.fst.p)=true->some P8=some P8/\some P1=some P1/\some P1=some P1/\(0+x.fst.s.fs.length<=x.fst.s.fs.length/\True/\2*(x.fst.s.fs.length+1)*32<=(281474976710656:Nat)/\x.fst.s.fs.length+1<(9223372036854775808:Nat))/\x.fst.c2*2=x.fst.c2*2/\∀(u50:Nat),x.fst.s.fs.length+1<=u50->some P1=some P1/\∃(u49:Nat),(if jt x.fst.w x.snd.fst x.snd.snd=true then x.fst.s.fs++[(bF (cat x.snd.snd x.snd.fst.p),x.snd.fst.v)] else x.fst.s.fs).length<=u49/\(7:Nat)=(7:Nat)/\x.fst.w.fr=x.fst.w.fr/\x.fst.w.to=x.fst.w.to/\(0:Nat)=(0:Nat)/\(0:Nat)=(0:Nat)/\((0:Nat)=(0:Nat)/\x.fst.s.ns.length=x.fst.s.ns.length/\x.fst.c1=x.fst.c1)/\True/\(x.fst.s.lk:Int)+1=(↑(x.fst.s.lk+1):Int)/\((0:Nat)=(0:Nat)/\x.fst.s.fs.length+1=(if jt x.fst.w x.snd.fst x.snd.snd=true then x.fst.s.fs++[(bF (cat x.snd.snd x.snd.fst.p),x.snd.fst.v)] else x.fst.s.fs).length/\u50=u49)/\True /\ah (SB.rows true (x.fst.s.fs.length+1) [au.str fun(u48:Nat)=>if u48<x.fst.s.fs.length then(x.fst.s.fs.getD u48 ([],[])).fst else bq [bF (cat x.snd.snd x.snd.fst.p)] (u48 - x.fst.s.fs.length),au.str fun(u47:Nat)=>if u47<x.fst.s.fs.length then(x.fst.s.fs.getD u47 ([],[])).snd else bq [x.snd.fst.v] (u47 - x.fst.s.fs.length)] false (u50*2) 50) (fU (Wk.qE x.fst.w x.fst.s x.snd.fst x.snd.snd) u49)/\ah P4 P4/\ah P2 P2/\ah P1 P1/\ah (fV x.fst.s) (fV x.fst.s)/\ah (fy x.fst.s x.fst.c1) (fy x.fst.s x.fst.c1)/\ah P7 P7/\ah (SB.fmap x.fst.w.ad (aV.int IntKind.i64 x.fst.w.ag) none) (SB.fmap x.fst.w.ad (aV.int IntKind.i64 x.fst.w.ag) none)/\ah P0 P0/\ah x.fst.w.view x.fst.w.view/\True)/\(nU (cat x.snd.snd x.snd.fst.p)=false->∃(u46:Nat),(if jt x.fst.w x.snd.fst x.snd.snd=true then x.fst.s.fs++[(bF (cat x.snd.snd x.snd.fst.p),x.snd.fst.v)] else x.fst.s.fs).length<=u46/\(7:Nat)=(7:Nat)/\x.fst.w.fr=x.fst.w.fr/\x.fst.w.to=x.fst.w.to/\(0:Nat)=(0:Nat)/\(0:Nat)=(0:Nat)/\((0:Nat)=(0:Nat)/\x.fst.s.ns.length=x.fst.s.ns.length/\x.fst.c1=x.fst.c1)/\True /\(x.fst.s.lk:Int)+1=(↑(x.fst.s.lk+1):Int)/\((0:Nat)=(0:Nat)/\x.fst.s.fs.length=(if jt x.fst.w x.snd.fst x.snd.snd=true then x.fst.s.fs++[(bF (cat x.snd.snd x.snd.fst.p),x.snd.fst.v)] else x.fst.s.fs).length/\x.fst.c2=u46)/\True/\ah (SB.rows true x.fst.s.fs.length [b8 x.fst.s.fs,b6 x.fst.s.fs] false (x.fst.c2*2) 50) (fU (Wk.qE x.fst.w x.fst.s x.snd.fst x.snd.snd) u46)/\ah P4 P4/\ah P2 P2/\ah P1 P1/\ah (fV x.fst.s) (fV x.fst.s)/\ah (fy x.fst.s x.fst.c1) (fy x.fst.s x.fst.c1)/\ah P7 P7/\ah (SB.fmap x.fst.w.ad (aV.int IntKind.i64 x.fst.w.ag) none) (SB.fmap x.fst.w.ad (aV.int IntKind.i64 x.fst.w.ag) none)/\ah P0 P0/\ah x.fst.w.view x.fst.w.view/\True))/\(hasB x.fst.w.fr x.fst.w.to (cat x.snd.snd x.snd.fst.p)=false->∃(u45:Nat),(if jt x.fst.w x.snd.fst x.snd.snd=true then x.fst.s.fs++[(bF (cat x.snd.snd x.snd.fst.p),x.snd.fst.v)] else x.fst.s.fs).length<=u45/\(7:Nat)=(7:Nat)/\x.fst.w.fr=x.fst.w.fr/\x.fst.w.to=x.fst.w.to/\(0:Nat)=(0:Nat)/\(0:Nat)=(0:Nat)/\((0:Nat)=(0:Nat)/\x.fst.s.ns.length=x.fst.s.ns.length/\x.fst.c1=x.fst.c1)/\True /\(x.fst.s.lk:Int)+1=(↑(x.fst.s.lk+1):Int)/\((0:Nat)=(0:Nat)/\x.fst.s.fs.length=(if jt x.fst.w x.snd.fst x.snd.snd=true then x.fst.s.fs++[(bF (cat x.snd.snd x.snd.fst.p),x.snd.fst.v)] else x.fst.s.fs).length/\x.fst.c2=u45)/\True/\ah (SB.rows true x.fst.s.fs.length [b8 x.fst.s.fs,b6 x.fst.s.fs] false (x.fst.c2*2) 50) (fU (Wk.qE x.fst.w x.fst.s x.snd.fst x.snd.snd) u45)/\ah P4 P4/\ah P2 P2/\ah P1 P1/\ah (fV x.fst.s) (fV x.fst.s)/\ah (fy x.fst.s x.fst.c1) (fy x.fst.s x.fst.c1)/\ah P7 P7/\ah (SB.fmap x.fst.w.ad (aV.int IntKind.i64 x.fst.w.ag) none) (SB.fmap x.fst.w.ad (aV.int IntKind.i64 x.fst.w.ag) none)/\ah P0 P0/\ah x.fst.w.view x.fst.w.view/\True))/\((!decide (x.snd.fst.v=[]))=false->∃(u44:Nat),(if jt x.fst.w x.snd.fst x.snd.snd=true then x.fst.s.fs++[(bF (cat x.snd.snd x.snd.fst.p),x.snd.fst.v)] else x.fst.s.fs).length<=u44/\(7:Nat)=(7:Nat)/\x.fst.w.fr=x.fst.w.fr/\x.fst.w.to=x.fst.w.to/\(0:Nat)=(0:Nat)/\(0:Nat)=(0:Nat)/\((0:Nat)=(0:Nat)/\x.fst.s.ns.length=x.fst.s.ns.length/\x.fst.c1=x.fst.c1)/\True /\(x.fst.s.lk:Int)+1=(↑(x.fst.s.lk+1):Int)/\((0:Nat)=(0:Nat)/\x.fst.s.fs.length=(if jt x.fst.w x.snd.fst x.snd.snd=true then x.fst.s.fs++[(bF (cat x.snd.snd x.snd.fst.p),x.snd.fst.v)] else x.fst.s.fs).length/\x.fst.c2=u44)/\True/\ah (SB.rows true x.fst.s.fs.length [b8 x.fst.s.fs,b6 x.fst.s.fs] false (x.fst.c2*2) 50) (fU (Wk.qE x.fst.w x.fst.s x.snd.fst x.snd.snd) u44)/\ah P4 P4/\ah P2 P2/\ah P1 P1/\ah (fV x.fst.s) (fV x.fst.s)/\ah (fy x.fst.s x.fst.c1) (fy x.fst.s x.fst.c1)/\ah P7 P7/\ah (SB.fmap x.fst.w.ad (aV.int IntKind.i64 x.fst.w.ag) none) (SB.fmap x.fst.w.ad (aV.int IntKind.i64 x.fst.w.ag) none)/\ah P0 P0/\ah x.fst.w.view x.fst.w.view/\True))/\∀(u43:Nat),(if jt x.fst.w x.snd.fst x.snd.snd=true then x.fst.s.fs++[(bF (cat x.snd.snd x.snd.fst.p),x.snd.fst.v)] else x.fst.s.fs).length<=u43->∀(u42:Loop),(∃(u41:Nat×Wk×Nat×Nat),(u41.fst<=16/\cU x.fst.w (oO x.fst.w m) x.snd.fst x.snd.snd u41.fst (Wk.qE x.fst.w x.fst.s x.snd.fst x.snd.snd)=some u41.snd.fst/\u41.snd.fst.ns.length<=u41.snd.snd.fst/\u41.snd.fst.fs.length<=u41.snd.snd.snd) /\0=(u41.fst:Int)/\(7:Nat)=(7:Nat)/\x.fst.w.fr=x.fst.w.fr/\x.fst.w.to=x.fst.w.to/\(0:Nat)=(0:Nat)/\(0:Nat)=(0:Nat)/\((0:Nat)=(0:Nat)/\x.fst.s.ns.length=u41.snd.fst.ns.length/\x.fst.c1=u41.snd.snd.fst)/\True/\(↑(x.fst.s.lk+1):Int)=(u41.snd.fst.lk:Int)/\((0:Nat)=(0:Nat)/\(if jt x.fst.w x.snd.fst x.snd.snd=true then x.fst.s.fs++[(bF (cat x.snd.snd x.snd.fst.p),x.snd.fst.v)] else x.fst.s.fs).length=u41.snd.fst.fs.length/\u43=u41.snd.snd.snd)/\True/\ah (SB.fmap x.fst.s.ud (aV.int IntKind.i64 x.fst.s.us) none) (fV u41.snd.fst)/\ah (SB.rows true x.fst.s.ns.length [qU x.fst.s.ns] false (x.fst.c1*1) 9) (fy u41.snd.fst u41.snd.snd.fst) /\ah (SB.rows true (if jt x.fst.w x.snd.fst x.snd.snd=true then x.fst.s.fs++[(bF (cat x.snd.snd x.snd.fst.p),x.snd.fst.v)] else x.fst.s.fs).length [b8 (if jt x.fst.w x.snd.fst x.snd.snd=true then x.fst.s.fs++[(bF (cat x.snd.snd x.snd.fst.p),x.snd.fst.v)] else x.fst.s.fs),b6 (if jt x.fst.w x.snd.fst x.snd.snd=true then x.fst.s.fs++[(bF (cat x.snd.snd x.snd.fst.p),x.snd.fst.v)] else x.fst.s.fs)] false (u43*2) 50) (fU u41.snd.fst u41.snd.snd.snd)/\ah (SB.loop LoopState.ready none u42) (SB.loop LoopState.ready none u42)/\ah P6 P6/\ah P3 P3/\ah P1 P1/\ah P4 P4/\ah P2 P2/\ah P1 P1/\ah P7 P7/\ah (SB.fmap x.fst.w.ad (aV.int IntKind.i64 x.fst.w.ag) none) (SB.fmap x.fst.w.ad (aV.int IntKind.i64 x.fst.w.ag) none)/\ah P0 P0/\ah x.fst.w.view x.fst.w.view/\True)/\∀(u40:Nat×Wk×Nat×Nat),u40.fst<=16/\cU x.fst.w (oO x.fst.w m) x.snd.fst x.snd.snd u40.fst (Wk.qE x.fst.w x.fst.s x.snd.fst x.snd.snd)=some u40.snd.fst/\u40.snd.fst.ns.length<=u40.snd.snd.fst/\u40.snd.fst.fs.length<=u40.snd.snd.snd->(decide ((u40.fst:Int)<16)=true->(0<=(u40.fst:Int)/\(u40.fst:Int)<16 /\(u40.fst:Int)<(↑(16:Nat):Int))/\(decide (bq [x.snd.fst.r 0,x.snd.fst.r 1,x.snd.fst.r 2,x.snd.fst.r 3,x.snd.fst.r 4,x.snd.fst.r 5,x.snd.fst.r 6,x.snd.fst.r 7,x.snd.fst.r 8,x.snd.fst.r 9,x.snd.fst.r 10,x.snd.fst.r 11,x.snd.fst.r 12,x.snd.fst.r 13,x.snd.fst.r 14,x.snd.fst.r 15] (u40.fst:Int).toNat=[])=true->((-9223372036854775808:Int)<=(u40.fst:Int)+1/\(u40.fst:Int)+1<=(9223372036854775807:Int))/\∃(u39:Nat×Wk×Nat×Nat),((u39.fst<=16/\cU x.fst.w (oO x.fst.w m) x.snd.fst x.snd.snd u39.fst (Wk.qE x.fst.w x.fst.s x.snd.fst x.snd.snd)=some u39.snd.fst/\u39.snd.fst.ns.length<=u39.snd.snd.fst/\u39.snd.fst.fs.length<=u39.snd.snd.snd)/\16 - u39.fst<16 - u40.fst)/\(u40.fst:Int)+1=(u39.fst:Int)/\(7:Nat)=(7:Nat)/\x.fst.w.fr=x.fst.w.fr/\x.fst.w.to=x.fst.w.to/\(0:Nat)=(0:Nat)/\(0:Nat)=(0:Nat)/\((0:Nat)=(0:Nat)/\u40.snd.fst.ns.length=u39.snd.fst.ns.length/\u40.snd.snd.fst=u39.snd.snd.fst)/\True/\(u40.snd.fst.lk:Int)=(u39.snd.fst.lk:Int)/\((0:Nat)=(0:Nat)/\u40.snd.fst.fs.length=u39.snd.fst.fs.length/\u40.snd.snd.snd=u39.snd.snd.snd)/\True /\ah (SB.fmap u40.snd.fst.ud (aV.int IntKind.i64 u40.snd.fst.us) none) (fV u39.snd.fst)/\ah (P10 u40) (fy u39.snd.fst u39.snd.snd.fst)/\ah (P9 u40) (fU u39.snd.fst u39.snd.snd.snd)/\ah (SB.loop LoopState.ready none u42) (SB.loop LoopState.ready none u42)/\ah P6 P6/\ah P3 P3/\ah P1 P1/\ah P4 P4/\ah P2 P2/\ah P1 P1/\ah P7 P7/\ah (SB.fmap x.fst.w.ad (aV.int IntKind.i64 x.fst.w.ag) none) (SB.fmap x.fst.w.ad (aV.int IntKind.i64 x.fst.w.ag) none)/\ah P0 P0/\ah x.fst.w.view x.fst.w.view/\True)/\(decide (bq [x.snd.fst.r 0,x.snd.fst.r 1,x.snd.fst.r 2,x.snd.fst.r 3,x.snd.fst.r 4,x.snd.fst.r 5,x.snd.fst.r 6,x.snd.fst.r 7,x.snd.fst.r 8,x.snd.fst.r 9,x.snd.fst.r 10,x.snd.fst.r 11,x.snd.fst.r 12,x.snd.fst.r 13,x.snd.fst.r 14,x.snd.fst.r 15] (u40.fst:Int).toNat=[])=false->(x.snd.snd.length:Int)+(x.snd.fst.p.length:Int)<=9223372036854775807/\((decide (x.snd.fst.k=3)=true->(↑(cat x.snd.snd x.snd.fst.p).length:Int)+(↑(1:Nat):Int)<=9223372036854775807/\∃(_:Unit),True/\cat (cat x.snd.snd x.snd.fst.p) [UInt8.ofNat ((u40.fst:Int)% 256).toNat]=pF x.snd.fst x.snd.snd (u40.fst:Int).toNat /\ah (GO x.fst.w u40.snd.fst 16 17 u40.snd.snd.fst u40.snd.snd.snd) (GO x.fst.w u40.snd.fst 16 17 u40.snd.snd.fst u40.snd.snd.snd)/\ah (fV u40.snd.fst) (fV u40.snd.fst)/\ah (fy u40.snd.fst u40.snd.snd.fst) (fy u40.snd.fst u40.snd.snd.fst)/\ah (fU u40.snd.fst u40.snd.snd.snd) (fU u40.snd.fst u40.snd.snd.snd)/\ah (SB.loop LoopState.ready none u42) (SB.loop LoopState.ready none u42)/\ah P6 P6/\ah P3 P3/\ah P1 P1/\ah P4 P4/\ah P2 P2/\ah P1 P1/\ah P7 P7/\ah (SB.fmap x.fst.w.ad (aV.int IntKind.i64 x.fst.w.ag) none) (SB.fmap x.fst.w.ad (aV.int IntKind.i64 x.fst.w.ag) none)/\ah P0 P0/\ah x.fst.w.view x.fst.w.view/\True)/\(decide (x.snd.fst.k=3)=false->∃(_:Unit),True/\cat x.snd.snd x.snd.fst.p=pF x.snd.fst x.snd.snd (u40.fst:Int).toNat/\ah (GO x.fst.w u40.snd.fst 16 17 u40.snd.snd.fst u40.snd.snd.snd) (GO x.fst.w u40.snd.fst 16 17 u40.snd.snd.fst u40.snd.snd.snd)/\ah (fV u40.snd.fst) (fV u40.snd.fst)/\ah (fy u40.snd.fst u40.snd.snd.fst) (fy u40.snd.fst u40.snd.snd.fst)/\ah (fU u40.snd.fst u40.snd.snd.snd) (fU u40.snd.fst u40.snd.snd.snd) /\ah (SB.loop LoopState.ready none u42) (SB.loop LoopState.ready none u42)/\ah P6 P6/\ah P3 P3/\ah P1 P1/\ah P4 P4/\ah P2 P2/\ah P1 P1/\ah P7 P7/\ah (SB.fmap x.fst.w.ad (aV.int IntKind.i64 x.fst.w.ag) none) (SB.fmap x.fst.w.ad (aV.int IntKind.i64 x.fst.w.ag) none)/\ah P0 P0/\ah x.fst.w.view x.fst.w.view/\True))/\∀(_:Unit),True->(x.fst.w.fr.length<=1000/\x.fst.w.to.length<=1000)/\(dS x.fst.w.fr x.fst.w.to (pF x.snd.fst x.snd.snd (u40.fst:Int).toNat)=true->u42=u42/\∃(u35:wz×List UInt8),(u35.fst.w.Ok/\u35.fst.s.Small/\(u35.fst.s.ns.length<=u35.fst.c1/\u35.fst.s.fs.length<=u35.fst.c2)/\u35.snd.length<9223372036854775808)/\(0:Nat)=(0:Nat)/\bq [x.snd.fst.r 0,x.snd.fst.r 1,x.snd.fst.r 2,x.snd.fst.r 3,x.snd.fst.r 4,x.snd.fst.r 5,x.snd.fst.r 6,x.snd.fst.r 7,x.snd.fst.r 8,x.snd.fst.r 9,x.snd.fst.r 10,x.snd.fst.r 11,x.snd.fst.r 12,x.snd.fst.r 13,x.snd.fst.r 14,x.snd.fst.r 15] (u40.fst:Int).toNat=u35.snd/\(7:Nat)=(7:Nat)/\x.fst.w.fr=u35.fst.w.fr/\x.fst.w.to=u35.fst.w.to/\(0:Nat)=(0:Nat)/\(0:Nat)=(0:Nat)/\((0:Nat)=(0:Nat) /\u40.snd.fst.ns.length=u35.fst.s.ns.length/\u40.snd.snd.fst=u35.fst.c1)/\True/\(u40.snd.fst.lk:Int)=(u35.fst.s.lk:Int)/\((0:Nat)=(0:Nat)/\u40.snd.fst.fs.length=u35.fst.s.fs.length/\u40.snd.snd.snd=u35.fst.c2)/\True/\ah (SB.fmap u40.snd.fst.ud (aV.int IntKind.i64 u40.snd.fst.us) none) (fV u35.fst.s)/\ah (P10 u40) (fy u35.fst.s u35.fst.c1)/\ah (P9 u40) (fU u35.fst.s u35.fst.c2)/\(1:Nat)=(1:Nat)/\ah (SB.fmap x.fst.w.ad (aV.int IntKind.i64 x.fst.w.ag) none) (SB.fmap u35.fst.w.ad (aV.int IntKind.i64 u35.fst.w.ag) none)/\(1:Nat)=(1:Nat)/\(x.fst.w.z=u35.fst.w.z/\x.fst.w.o=u35.fst.w.o/\(0:Nat)=(0:Nat)/\x.fst.w.n=u35.fst.w.n/\x.fst.w.c=u35.fst.w.c)/\ah (SB.view x.fst.w.z x.fst.w.o x.fst.w.n [au.str x.fst.w.f]) (SB.view u35.fst.w.z u35.fst.w.o u35.fst.w.n [au.str u35.fst.w.f])/\(bO u35.snd=true->∀(u34:Nat×Nat),u35.fst.s.ns.length<=u34.fst/\u35.fst.s.fs.length<=u34.snd->∃(u33:wz×Nd×List UInt8),(u33.fst.w.Ok/\u33.fst.s.Small/\(u33.fst.s.ns.length<=u33.fst.c1/\u33.fst.s.fs.length<=u33.fst.c2)/\u33.fst.s.Fit (u33.fst.s.lk+1)/\401<=u33.fst.s.lk+m/\u33.snd.fst.oC /\u33.snd.snd.length<=13*u33.fst.s.lk)/\(0:Nat)=(0:Nat)/\(getD u35.snd).k=u33.snd.fst.k/\(getD u35.snd).p=u33.snd.fst.p/\(getD u35.snd).v=u33.snd.fst.v/\(getD u35.snd).r 0=u33.snd.fst.r 0/\(getD u35.snd).r 1=u33.snd.fst.r 1/\(getD u35.snd).r 2=u33.snd.fst.r 2/\(getD u35.snd).r 3=u33.snd.fst.r 3/\(getD u35.snd).r 4=u33.snd.fst.r 4/\(getD u35.snd).r 5=u33.snd.fst.r 5/\(getD u35.snd).r 6=u33.snd.fst.r 6/\(getD u35.snd).r 7=u33.snd.fst.r 7/\(getD u35.snd).r 8=u33.snd.fst.r 8/\(getD u35.snd).r 9=u33.snd.fst.r 9/\(getD u35.snd).r 10=u33.snd.fst.r 10/\(getD u35.snd).r 11=u33.snd.fst.r 11/\(getD u35.snd).r 12=u33.snd.fst.r 12/\(getD u35.snd).r 13=u33.snd.fst.r 13/\(getD u35.snd).r 14=u33.snd.fst.r 14/\(getD u35.snd).r 15=u33.snd.fst.r 15/\pF x.snd.fst x.snd.snd (u40.fst:Int).toNat=u33.snd.snd/\(7:Nat)=(7:Nat)/\u35.fst.w.fr=u33.fst.w.fr/\u35.fst.w.to=u33.fst.w.to/\(0:Nat)=(0:Nat)/\(0:Nat)=(0:Nat)/\((0:Nat)=(0:Nat)/\u35.fst.s.ns.length=u33.fst.s.ns.length/\u34.fst=u33.fst.c1)/\True/\(u35.fst.s.lk:Int)=(u33.fst.s.lk:Int)/\((0:Nat)=(0:Nat) /\u35.fst.s.fs.length=u33.fst.s.fs.length/\u34.snd=u33.fst.c2)/\True/\ah (SB.fmap u35.fst.s.ud (aV.int IntKind.i64 u35.fst.s.us) none) (fV u33.fst.s)/\ah (SB.rows true u35.fst.s.ns.length [au.str fun(u32:Nat)=>u35.fst.s.ns.getD u32 []] false (u34.fst*1) 9) (fy u33.fst.s u33.fst.c1)/\ah (SB.rows true u35.fst.s.fs.length [au.str fun(u31:Nat)=>(u35.fst.s.fs.getD u31 ([],[])).fst,au.str fun(u30:Nat)=>(u35.fst.s.fs.getD u30 ([],[])).snd] false (u34.snd*2) 50) (fU u33.fst.s u33.fst.c2)/\(1:Nat)=(1:Nat)/\ah (SB.fmap u35.fst.w.ad (aV.int IntKind.i64 u35.fst.w.ag) none) (SB.fmap u33.fst.w.ad (aV.int IntKind.i64 u33.fst.w.ag) none)/\(1:Nat)=(1:Nat)/\(u35.fst.w.z=u33.fst.w.z/\u35.fst.w.o=u33.fst.w.o/\(0:Nat)=(0:Nat)/\u35.fst.w.n=u33.fst.w.n/\u35.fst.w.c=u33.fst.w.c)/\ah (SB.view x.fst.w.z x.fst.w.o x.fst.w.n [au.str x.fst.w.f]) (SB.view u33.fst.w.z u33.fst.w.o u33.fst.w.n [au.str u33.fst.w.f])/\(fG u33.fst.w m u33.fst.s u33.snd.fst u33.snd.snd=true->∀(u29:Nat×Nat),(cA u33.fst.w m u33.fst.s u33.snd.fst u33.snd.snd).ns.length<=u29.fst /\(cA u33.fst.w m u33.fst.s u33.snd.fst u33.snd.snd).fs.length<=u29.snd->((-9223372036854775808:Int)<=(u40.fst:Int)+1/\(u40.fst:Int)+1<=(9223372036854775807:Int))/\∃(u28:Nat×Wk×Nat×Nat),((u28.fst<=16/\cU x.fst.w (oO x.fst.w m) x.snd.fst x.snd.snd u28.fst (Wk.qE x.fst.w x.fst.s x.snd.fst x.snd.snd)=some u28.snd.fst/\u28.snd.fst.ns.length<=u28.snd.snd.fst/\u28.snd.fst.fs.length<=u28.snd.snd.snd)/\16 - u28.fst<16 - u40.fst)/\(u40.fst:Int)+1=(u28.fst:Int)/\(7:Nat)=(7:Nat)/\u33.fst.w.fr=x.fst.w.fr/\u33.fst.w.to=x.fst.w.to/\(0:Nat)=(0:Nat)/\(0:Nat)=(0:Nat)/\((0:Nat)=(0:Nat)/\(cA u33.fst.w m u33.fst.s u33.snd.fst u33.snd.snd).ns.length=u28.snd.fst.ns.length/\u29.fst=u28.snd.snd.fst)/\True/\(↑(cA u33.fst.w m u33.fst.s u33.snd.fst u33.snd.snd).lk:Int)=(u28.snd.fst.lk:Int)/\((0:Nat)=(0:Nat)/\(cA u33.fst.w m u33.fst.s u33.snd.fst u33.snd.snd).fs.length=u28.snd.fst.fs.length/\u29.snd=u28.snd.snd.snd)/\True /\ah (SB.fmap (cA u33.fst.w m u33.fst.s u33.snd.fst u33.snd.snd).ud (aV.int IntKind.i64 (cA u33.fst.w m u33.fst.s u33.snd.fst u33.snd.snd).us) none) (fV u28.snd.fst)/\ah (SB.rows true (cA u33.fst.w m u33.fst.s u33.snd.fst u33.snd.snd).ns.length [au.str fun(u27:Nat)=>(cA u33.fst.w m u33.fst.s u33.snd.fst u33.snd.snd).ns.getD u27 []] false (u29.fst*1) 9) (fy u28.snd.fst u28.snd.snd.fst)/\ah (SB.rows true (cA u33.fst.w m u33.fst.s u33.snd.fst u33.snd.snd).fs.length [au.str fun(u26:Nat)=>((cA u33.fst.w m u33.fst.s u33.snd.fst u33.snd.snd).fs.getD u26 ([],[])).fst,au.str fun(u25:Nat)=>((cA u33.fst.w m u33.fst.s u33.snd.fst u33.snd.snd).fs.getD u25 ([],[])).snd] false (u29.snd*2) 50) (fU u28.snd.fst u28.snd.snd.snd)/\ah (SB.loop LoopState.ready none u42) (SB.loop LoopState.ready none u42)/\ah P6 P6/\ah P3 P3/\ah P1 P1/\ah P4 P4/\ah P2 P2/\ah P1 P1/\ah P7 P7/\ah (SB.fmap u33.fst.w.ad (aV.int IntKind.i64 u33.fst.w.ag) none) (SB.fmap x.fst.w.ad (aV.int IntKind.i64 x.fst.w.ag) none)/\ah (SB.cells [SV.bP 7 1 u33.fst.w.z u33.fst.w.o 0 u33.fst.w.n u33.fst.w.c] 1 29) P0/\ah x.fst.w.view x.fst.w.view /\True)/\(fG u33.fst.w m u33.fst.s u33.snd.fst u33.snd.snd=false->∀(u24:List UInt8×List UInt8),(fG x.fst.w (m+1) x.fst.s x.snd.fst x.snd.snd=true->∃(u23:Nat×Nat),((cA x.fst.w (m+1) x.fst.s x.snd.fst x.snd.snd).ns.length<=u23.fst/\(cA x.fst.w (m+1) x.fst.s x.snd.fst x.snd.snd).fs.length<=u23.snd)/\False)/\(fG x.fst.w (m+1) x.fst.s x.snd.fst x.snd.snd=false->∃(u22:List UInt8×List UInt8),(0:Nat)=(0:Nat)/\ah (SB.cells [SV.str false u24.fst,SV.str false u24.snd] 2 207) (SB.cells [SV.str false u22.fst,SV.str false u22.snd] 2 207)/\True)))/\(bO u35.snd=false->(bI u35.snd=true->(cT u35.fst.w (aa u35.snd)=true->∀(u21:Nat×Nat),(if u35.fst.s.used (aa u35.snd)=0 then u35.fst.s.ns++[u35.fst.w.at (aa u35.snd)] else u35.fst.s.ns).length<=u21.fst/\u35.fst.s.fs.length<=u21.snd->∃(u20:wz×Nd×List UInt8),(u20.fst.w.Ok/\u20.fst.s.Small/\(u20.fst.s.ns.length<=u20.fst.c1/\u20.fst.s.fs.length<=u20.fst.c2)/\u20.fst.s.Fit (u20.fst.s.lk+1)/\401<=u20.fst.s.lk+m/\u20.snd.fst.oC/\u20.snd.snd.length<=13*u20.fst.s.lk)/\(0:Nat)=(0:Nat)/\(P5 u35).k=u20.snd.fst.k /\(P5 u35).p=u20.snd.fst.p/\(P5 u35).v=u20.snd.fst.v/\(P5 u35).r 0=u20.snd.fst.r 0/\(P5 u35).r 1=u20.snd.fst.r 1/\(P5 u35).r 2=u20.snd.fst.r 2/\(P5 u35).r 3=u20.snd.fst.r 3/\(P5 u35).r 4=u20.snd.fst.r 4/\(P5 u35).r 5=u20.snd.fst.r 5/\(P5 u35).r 6=u20.snd.fst.r 6/\(P5 u35).r 7=u20.snd.fst.r 7/\(P5 u35).r 8=u20.snd.fst.r 8/\(P5 u35).r 9=u20.snd.fst.r 9/\(P5 u35).r 10=u20.snd.fst.r 10/\(P5 u35).r 11=u20.snd.fst.r 11/\(P5 u35).r 12=u20.snd.fst.r 12/\(P5 u35).r 13=u20.snd.fst.r 13/\(P5 u35).r 14=u20.snd.fst.r 14/\(P5 u35).r 15=u20.snd.fst.r 15/\pF x.snd.fst x.snd.snd (u40.fst:Int).toNat=u20.snd.snd/\(7:Nat)=(7:Nat)/\u35.fst.w.fr=u20.fst.w.fr/\u35.fst.w.to=u20.fst.w.to/\(0:Nat)=(0:Nat)/\(0:Nat)=(0:Nat)/\((0:Nat)=(0:Nat)/\(if u35.fst.s.used (aa u35.snd)=0 then u35.fst.s.ns++[u35.fst.w.at (aa u35.snd)] else u35.fst.s.ns).length=u20.fst.s.ns.length/\u21.fst=u20.fst.c1)/\True/\(u35.fst.s.lk:Int)=(u20.fst.s.lk:Int)/\((0:Nat)=(0:Nat)/\u35.fst.s.fs.length=u20.fst.s.fs.length/\u21.snd=u20.fst.c2)/\True /\ah (SB.fmap (gd u35.fst.s.ud (aa u35.snd)) (aV.int IntKind.i64 (kK u35.fst.s.us (aa u35.snd) (u35.fst.s.used (aa u35.snd)+1))) none) (fV u20.fst.s)/\ah (SB.rows true (if u35.fst.s.used (aa u35.snd)=0 then u35.fst.s.ns++[u35.fst.w.at (aa u35.snd)] else u35.fst.s.ns).length [au.str fun(u19:Nat)=>(if u35.fst.s.used (aa u35.snd)=0 then u35.fst.s.ns++[u35.fst.w.at (aa u35.snd)] else u35.fst.s.ns).getD u19 []] false (u21.fst*1) 9) (fy u20.fst.s u20.fst.c1)/\ah (SB.rows true u35.fst.s.fs.length [au.str fun(u18:Nat)=>(u35.fst.s.fs.getD u18 ([],[])).fst,au.str fun(u17:Nat)=>(u35.fst.s.fs.getD u17 ([],[])).snd] false (u21.snd*2) 50) (fU u20.fst.s u20.fst.c2)/\(1:Nat)=(1:Nat)/\ah (SB.fmap u35.fst.w.ad (aV.int IntKind.i64 u35.fst.w.ag) none) (SB.fmap u20.fst.w.ad (aV.int IntKind.i64 u20.fst.w.ag) none)/\(1:Nat)=(1:Nat)/\(u35.fst.w.z=u20.fst.w.z/\u35.fst.w.o=u20.fst.w.o/\(0:Nat)=(0:Nat)/\u35.fst.w.n=u20.fst.w.n/\u35.fst.w.c=u20.fst.w.c)/\ah (SB.view x.fst.w.z x.fst.w.o x.fst.w.n [au.str x.fst.w.f]) (SB.view u20.fst.w.z u20.fst.w.o u20.fst.w.n [au.str u20.fst.w.f]) /\(fG u20.fst.w m u20.fst.s u20.snd.fst u20.snd.snd=true->∀(u16:Nat×Nat),(cA u20.fst.w m u20.fst.s u20.snd.fst u20.snd.snd).ns.length<=u16.fst/\(cA u20.fst.w m u20.fst.s u20.snd.fst u20.snd.snd).fs.length<=u16.snd->((-9223372036854775808:Int)<=(u40.fst:Int)+1/\(u40.fst:Int)+1<=(9223372036854775807:Int))/\∃(u15:Nat×Wk×Nat×Nat),((u15.fst<=16/\cU x.fst.w (oO x.fst.w m) x.snd.fst x.snd.snd u15.fst (Wk.qE x.fst.w x.fst.s x.snd.fst x.snd.snd)=some u15.snd.fst/\u15.snd.fst.ns.length<=u15.snd.snd.fst/\u15.snd.fst.fs.length<=u15.snd.snd.snd)/\16 - u15.fst<16 - u40.fst)/\(u40.fst:Int)+1=(u15.fst:Int)/\(7:Nat)=(7:Nat)/\u20.fst.w.fr=x.fst.w.fr/\u20.fst.w.to=x.fst.w.to/\(0:Nat)=(0:Nat)/\(0:Nat)=(0:Nat)/\((0:Nat)=(0:Nat)/\(cA u20.fst.w m u20.fst.s u20.snd.fst u20.snd.snd).ns.length=u15.snd.fst.ns.length/\u16.fst=u15.snd.snd.fst)/\True/\(↑(cA u20.fst.w m u20.fst.s u20.snd.fst u20.snd.snd).lk:Int)=(u15.snd.fst.lk:Int)/\((0:Nat)=(0:Nat)/\(cA u20.fst.w m u20.fst.s u20.snd.fst u20.snd.snd).fs.length=u15.snd.fst.fs.length/\u16.snd=u15.snd.snd.snd)/\True /\ah (SB.fmap (cA u20.fst.w m u20.fst.s u20.snd.fst u20.snd.snd).ud (aV.int IntKind.i64 (cA u20.fst.w m u20.fst.s u20.snd.fst u20.snd.snd).us) none) (fV u15.snd.fst)/\ah (SB.rows true (cA u20.fst.w m u20.fst.s u20.snd.fst u20.snd.snd).ns.length [au.str fun(u14:Nat)=>(cA u20.fst.w m u20.fst.s u20.snd.fst u20.snd.snd).ns.getD u14 []] false (u16.fst*1) 9) (fy u15.snd.fst u15.snd.snd.fst)/\ah (SB.rows true (cA u20.fst.w m u20.fst.s u20.snd.fst u20.snd.snd).fs.length [au.str fun(u13:Nat)=>((cA u20.fst.w m u20.fst.s u20.snd.fst u20.snd.snd).fs.getD u13 ([],[])).fst,au.str fun(u12:Nat)=>((cA u20.fst.w m u20.fst.s u20.snd.fst u20.snd.snd).fs.getD u12 ([],[])).snd] false (u16.snd*2) 50) (fU u15.snd.fst u15.snd.snd.snd)/\ah (SB.loop LoopState.ready none u42) (SB.loop LoopState.ready none u42)/\ah P6 P6/\ah P3 P3/\ah P1 P1/\ah P4 P4/\ah P2 P2/\ah P1 P1/\ah P7 P7/\ah (SB.fmap u20.fst.w.ad (aV.int IntKind.i64 u20.fst.w.ag) none) (SB.fmap x.fst.w.ad (aV.int IntKind.i64 x.fst.w.ag) none)/\ah (SB.cells [SV.bP 7 1 u20.fst.w.z u20.fst.w.o 0 u20.fst.w.n u20.fst.w.c] 1 29) P0/\ah x.fst.w.view x.fst.w.view /\True)/\(fG u20.fst.w m u20.fst.s u20.snd.fst u20.snd.snd=false->∀(u11:List UInt8×List UInt8),(fG x.fst.w (m+1) x.fst.s x.snd.fst x.snd.snd=true->∃(u10:Nat×Nat),((cA x.fst.w (m+1) x.fst.s x.snd.fst x.snd.snd).ns.length<=u10.fst/\(cA x.fst.w (m+1) x.fst.s x.snd.fst x.snd.snd).fs.length<=u10.snd)/\False)/\(fG x.fst.w (m+1) x.fst.s x.snd.fst x.snd.snd=false->∃(u9:List UInt8×List UInt8),(0:Nat)=(0:Nat)/\ah (SB.cells [SV.str false u11.fst,SV.str false u11.snd] 2 207) (SB.cells [SV.str false u9.fst,SV.str false u9.snd] 2 207)/\True)))/\(cT u35.fst.w (aa u35.snd)=false->∀(u8:List UInt8×List UInt8),(fG x.fst.w (m+1) x.fst.s x.snd.fst x.snd.snd=true->∃(u7:Nat×Nat),((cA x.fst.w (m+1) x.fst.s x.snd.fst x.snd.snd).ns.length<=u7.fst/\(cA x.fst.w (m+1) x.fst.s x.snd.fst x.snd.snd).fs.length<=u7.snd)/\False)/\(fG x.fst.w (m+1) x.fst.s x.snd.fst x.snd.snd=false->∃(u6:List UInt8×List UInt8),(0:Nat)=(0:Nat)/\ah (SB.cells [SV.str false u8.fst,SV.str false u8.snd] 2 207) (SB.cells [SV.str false u6.fst,SV.str false u6.snd] 2 207)/\True)))/\(bI u35.snd=false ->∀(u5:List UInt8×List UInt8),(fG x.fst.w (m+1) x.fst.s x.snd.fst x.snd.snd=true->∃(u4:Nat×Nat),((cA x.fst.w (m+1) x.fst.s x.snd.fst x.snd.snd).ns.length<=u4.fst/\(cA x.fst.w (m+1) x.fst.s x.snd.fst x.snd.snd).fs.length<=u4.snd)/\False)/\(fG x.fst.w (m+1) x.fst.s x.snd.fst x.snd.snd=false->∃(u3:List UInt8×List UInt8),(0:Nat)=(0:Nat)/\ah (SB.cells [SV.str false u5.fst,SV.str false u5.snd] 2 207) (SB.cells [SV.str false u3.fst,SV.str false u3.snd] 2 207)/\True))))/\(dS x.fst.w.fr x.fst.w.to (pF x.snd.fst x.snd.snd (u40.fst:Int).toNat)=false->((-9223372036854775808:Int)<=(u40.fst:Int)+1/\(u40.fst:Int)+1<=(9223372036854775807:Int))/\∃(u2:Nat×Wk×Nat×Nat),((u2.fst<=16/\cU x.fst.w (oO x.fst.w m) x.snd.fst x.snd.snd u2.fst (Wk.qE x.fst.w x.fst.s x.snd.fst x.snd.snd)=some u2.snd.fst/\u2.snd.fst.ns.length<=u2.snd.snd.fst/\u2.snd.fst.fs.length<=u2.snd.snd.snd)/\16 - u2.fst<16 - u40.fst)/\(u40.fst:Int)+1=(u2.fst:Int)/\(7:Nat)=(7:Nat)/\x.fst.w.fr=x.fst.w.fr/\x.fst.w.to=x.fst.w.to/\(0:Nat)=(0:Nat)/\(0:Nat)=(0:Nat)/\((0:Nat)=(0:Nat) /\u40.snd.fst.ns.length=u2.snd.fst.ns.length/\u40.snd.snd.fst=u2.snd.snd.fst)/\True/\(u40.snd.fst.lk:Int)=(u2.snd.fst.lk:Int)/\((0:Nat)=(0:Nat)/\u40.snd.fst.fs.length=u2.snd.fst.fs.length/\u40.snd.snd.snd=u2.snd.snd.snd)/\True/\ah (SB.fmap u40.snd.fst.ud (aV.int IntKind.i64 u40.snd.fst.us) none) (fV u2.snd.fst)/\ah (P10 u40) (fy u2.snd.fst u2.snd.snd.fst)/\ah (P9 u40) (fU u2.snd.fst u2.snd.snd.snd)/\ah (SB.loop LoopState.ready none u42) (SB.loop LoopState.ready none u42)/\ah P6 P6/\ah P3 P3/\ah P1 P1/\ah P4 P4/\ah P2 P2/\ah P1 P1/\ah P7 P7/\ah (SB.fmap x.fst.w.ad (aV.int IntKind.i64 x.fst.w.ag) none) (SB.fmap x.fst.w.ad (aV.int IntKind.i64 x.fst.w.ag) none)/\ah P0 P0/\ah x.fst.w.view x.fst.w.view/\True)))/\(decide ((u40.fst:Int)<16)=false->(fG x.fst.w (m+1) x.fst.s x.snd.fst x.snd.snd=true->∃(u1:Nat×Nat),((cA x.fst.w (m+1) x.fst.s x.snd.fst x.snd.snd).ns.length<=u1.fst/\(cA x.fst.w (m+1) x.fst.s x.snd.fst x.snd.snd).fs.length<=u1.snd)/\(7:Nat)=(7:Nat)/\x.fst.w.fr=x.fst.w.fr/\x.fst.w.to=x.fst.w.to/\(0:Nat)=(0:Nat)/\(0:Nat)=(0:Nat) /\((0:Nat)=(0:Nat)/\u40.snd.fst.ns.length=(cA x.fst.w (m+1) x.fst.s x.snd.fst x.snd.snd).ns.length/\u40.snd.snd.fst=u1.fst)/\True/\(u40.snd.fst.lk:Int)=(↑(cA x.fst.w (m+1) x.fst.s x.snd.fst x.snd.snd).lk:Int)/\((0:Nat)=(0:Nat)/\u40.snd.fst.fs.length=(cA x.fst.w (m+1) x.fst.s x.snd.fst x.snd.snd).fs.length/\u40.snd.snd.snd=u1.snd)/\True/\ah (SB.fmap u40.snd.fst.ud (aV.int IntKind.i64 u40.snd.fst.us) none) (fV (cA x.fst.w (m+1) x.fst.s x.snd.fst x.snd.snd))/\ah (P10 u40) (fy (cA x.fst.w (m+1) x.fst.s x.snd.fst x.snd.snd) u1.fst)/\ah (P9 u40) (fU (cA x.fst.w (m+1) x.fst.s x.snd.fst x.snd.snd) u1.snd)/\ah P7 P7/\ah (SB.fmap x.fst.w.ad (aV.int IntKind.i64 x.fst.w.ag) none) (SB.fmap x.fst.w.ad (aV.int IntKind.i64 x.fst.w.ag) none)/\ah P0 P0/\True)/\(fG x.fst.w (m+1) x.fst.s x.snd.fst x.snd.snd=false->∃(_:List UInt8×List UInt8),False)))))) (fun(u40:Nat×Wk×Nat×Nat)=>(SB.rows true u40.snd.fst.ns.length [qU u40.snd.fst.ns] false (u40.snd.snd.fst*1) 9)))) (fun(u40:Nat×Wk×Nat×Nat)=>(SB.rows true u40.snd.fst.fs.length [b8 u40.snd.fst.fs,b6 u40.snd.fst.fs] false (u40.snd.snd.snd*2) 50)))) (SB.cells (aZ [SV.str false x.fst.w.fr,SV.str false x.fst.w.to,SV.func (Fn.func (50:FuncId)) [] [SV.ptr 4 true 0,SV.ptr 6 true 0],SV.map 1,SV.bw 2 1 true 0 x.fst.s.ns.length x.fst.c1,SV.int .i64 false (x.fst.s.lk:Int),SV.bw 3 2 true 0 x.fst.s.fs.length x.fst.c2] 5 (SV.int .i64 false ((x.fst.s.lk:Int)+1)).cells) 7 92))) (SB.cells [SV.map 5] 1 90))) (SB.cells (SV.str false x.snd.snd).cells 1 9))) (fun(u35:wz×List UInt8)=>(getD (u35.fst.w.at (aa u35.snd)))))) (SB.cells SV.aI.cells 1 84))) (SB.cells (SV.agg (fj x.snd.fst)).cells 19 138))) (SB.cells x.snd.fst.sv.cells 19 138))) (SB.cells (SV.ptr 0 true 0).cells 1 82))) (SB.cells [SV.bP 7 1 x.fst.w.z x.fst.w.o 0 x.fst.w.n x.fst.w.c] 1 29)):=by kernel_rfl
theorem KZ (w:Sp)(s:Wk)(h t:List UInt8):(s.take w h).used t=if t=h then s.used h+1 else s.used t:=by
 show dflt (s.ud t||decide (t=h)) (bif decide (t=h)then s.used h+1 else s.us t)=_
 by_cases e:t=h
 ·rw[if_pos e,decide_eq_true e,Bool.or_true];rfl
 ·rw[if_neg e,decide_eq_false e,Bool.or_false];rfl
theorem Wk.Fit.mono {s:Wk}{j k:Nat}(h:s.Fit j)(hk:j<=k):s.Fit k:=⟨fun t=>by have:=h.u t;omega,by have:=h.ns;omega,h.fs,h.lk⟩
theorem Wk.Fit.small {s:Wk}{k:Nat}(h:s.Fit k)(hk:k<=1000):s.Small:=⟨fun t=>by have:=h.u t;omega,by have:=h.ns;omega,by have:=h.lk;omega,by have:=h.fs;have:=h.lk;omega⟩
theorem Wk.Fit.take {s:Wk}{k:Nat}(h:s.Fit k)(w:Sp)(t:List UInt8):(s.take w t).Fit (k+1):=by
 refine⟨fun r=> ?_,?_,h.fs,h.lk⟩
 ·rw[KZ]
  have h1:=h.u r
  have h2:=h.u t
  split<;>omega
 ·have:=h.ns
  show(if s.used t=0 then s.ns++[w.at t] else s.ns).length<=_
  split
  ·rw[List.length_append];simp;omega
  ·omega
theorem Wk.Fit.qE {s:Wk}(h:s.Fit (s.lk+1))(hl:s.lk<400)(w:Sp)(x:Nd)(p:List UInt8):(s.qE w x p).Fit (s.qE w x p).lk:=by
 refine⟨h.u,h.ns,?_,hl⟩
 have:=h.fs
 show(if jt w x p=true then s.fs++[(bF (cat p x.p),x.v)] else s.fs).length<=s.lk+1
 split
 ·rw[List.length_append];simp;omega
 ·omega
theorem A6 {w:Sp}{s s':Wk}{t:List UInt8}{y:Nd}{k:Nat}(h:s.Fit k)(hf:gp w s t=some (y,s')):s'.Fit (k+1)/\s'.lk=s.lk/\aS y=true:=by
 unfold gp at hf
 split at hf
 ·rename_i hi
  injection hf with hf;injection hf with h1 h2;subst h1;subst h2
  exact⟨h.mono (Nat.le_succ _),rfl,KK hi⟩
 ·split at hf
  ·rename_i hi
   injection hf with hf;injection hf with h1 h2;subst h1;subst h2
   simp only[cT,Bool.and_eq_true] at hi
   exact⟨h.take w _,rfl,uh hi.2.2⟩
  ·cases hf
def QD (_w:Sp)(T:Wk->Nd->List UInt8->Option Wk):Prop:=∀ s x p s',s.Fit (s.lk+1)->T s x p=some s'->s'.Fit s'.lk/\s.lk<s'.lk
theorem rX {w:Sp}{T:Wk->Nd->List UInt8->Option Wk}(hT:QD w T){x:Nd}{p:List UInt8}: ∀ {i:Nat} {s s':Wk},s.Fit s.lk->cU w T x p i s=some s'->s'.Fit s'.lk/\s.lk<=s'.lk
 | 0,s,s',h,e=>by
   injection e with e;subst e;exact⟨h,Nat.le_refl _⟩
 | i+1,s,s',h,e=>by
   unfold cU at e
   split at e
   ·cases e
   ·rename_i s1 h1
    obtain⟨g1,g2⟩:=rX hT h h1
    unfold fF at e
    split at e
    ·injection e with e;subst e;exact⟨g1,g2⟩
    ·cases hm:dS w.fr w.to (pF x p i)with
     | false =>
       rw[hm] at e
       injection e with e;subst e;exact⟨g1,g2⟩
     | true =>
       rw[hm] at e
       simp only[cond_true] at e
       split at e
       ·cases e
       ·rename_i y s2 hf
        obtain⟨q1,q2,_⟩:=A6 g1 hf
        obtain⟨r1,r2⟩:=hT s2 y _ s' (by rw[q2];exact q1) e
        exact⟨r1,by omega⟩
theorem wX (w:Sp): ∀ m,QD w (oO w m)
 | 0=>fun s x p s' _ e=>by cases e
 | m+1=>fun s x p s' h e=>by
   unfold oO at e
   split at e
   ·cases e
   ·rename_i hl
    obtain⟨g1,g2⟩:=rX (wX w m) (h.qE (by omega) w x p) e
    have:(s.qE w x p).lk=s.lk+1:=rfl
    exact⟨g1,by omega⟩
theorem vK {w:Sp}{T:Wk->Nd->List UInt8->Option Wk}{x:Nd}{p:List UInt8}{s:Wk}: ∀ {j i:Nat},i<=j->cU w T x p i s=none->cU w T x p j s=none
 | 0,i,hj,e=>by
   have:i=0:=by omega
   subst this;exact e
 | j+1,i,hj,e=>by
   by_cases h:i=j+1
   ·subst h;exact e
   ·unfold cU
    rw[vK (by omega:i<=j) e]
section
variable {w : Sp} {T : Wk -> Nd -> List UInt8 -> Option Wk} {x : Nd} {p : List UInt8} {s s' : Wk} {i : Nat}
theorem jl (h:cU w T x p i s=some s'):cU w T x p (i+1) s=fF w T x p i s':=by
 rw[cU,h]
theorem Av (h:x.r i=[]):fF w T x p i s=some s:=by rw[fF,if_pos h]
theorem E5 (h:dS w.fr w.to (pF x p i)=false):fF w T x p i s=some s:=by
 rw[fF,h]
 split<;>rfl
theorem D4 (h: ¬ x.r i=[])(hm:dS w.fr w.to (pF x p i)=true)(hf:gp w s (x.r i)=none):fF w T x p i s=none:=by
 rw[fF,if_neg h,hm,hf];rfl
theorem zK (h: ¬ x.r i=[])(hm:dS w.fr w.to (pF x p i)=true){y:Nd}(hf:gp w s (x.r i)=some (y,s')):fF w T x p i s=T s' y (pF x p i):=by
 rw[fF,if_neg h,hm,hf];rfl
theorem Pv {t:List UInt8}(h:bO t=true):gp w s t=some (getD t,s):=by rw[gp,if_pos h]
theorem Jl {t:List UInt8}(h:bO t=false)(h1:bI t=true)(h2:cT w (aa t)=true):gp w s t=some (getD (w.at (aa t)),s.take w (aa t)):=by
 rw[gp,if_neg (by rw[h];simp),if_pos (by rw[h1,h2];rfl)]
theorem Pf {t:List UInt8}(h:bO t=false)(h1:bI t=false∨cT w (aa t)=false):gp w s t=none:=by
 rw[gp,if_neg (by rw[h];simp),if_neg (by rcases h1 with h1 | h1<;>rw[h1]<;>simp)]
end
theorem Sk {x:Nd}(h:x.oC)(p:List UInt8)(i:Nat):(pF x p i).length<=p.length+13:=by
 have:=h.p
 unfold pF cat
 split<;>simp<;>omega
theorem SD {l:List (List UInt8×List UInt8)}{k v:List UInt8}{c:Nat}{ty:TypeId}:ah (.rows true (l.length+1) [.str fun j=>if j<l.length then(l.getD j ([],[])).1 else bq [k] (j - l.length),.str fun j=>if j<l.length then(l.getD j ([],[])).2 else bq [v] (j - l.length)] false (c*2) ty) (.rows true (l++[(k,v)]).length [b8 (l++[(k,v)]),b6 (l++[(k,v)])] false (c*2) ty):=by
 refine lu (by simp) rfl rfl fun q c c' h1 h2 i hi E=> ?_
 have e:=sS l (k,v) ([],[]) i hi
 have hz: ¬ i<l.length->i - l.length=0:=by omega
 match q,h1,h2 with
 | 0,h1,h2 =>
   simp only[List.getElem?_cons_zero,Option.some.injEq] at h1 h2
   subst h1;subst h2
   simp only[b8,au.at,SV.val,e]
   by_cases h:i<l.length
   ·rw[if_pos h,if_pos h]
   ·rw[if_neg h,if_neg h,hz h];rfl
 | 1,h1,h2 =>
   simp only[List.getElem?_cons_succ,List.getElem?_cons_zero,Option.some.injEq] at h1 h2
   subst h1;subst h2
   simp only[b6,au.at,SV.val,e]
   by_cases h:i<l.length
   ·rw[if_pos h,if_pos h]
   ·rw[if_neg h,if_neg h,hz h];rfl
 | q+2,h1,h2=>simp at h1
section
variable {w : Sp} {m : Nat} {s s' : Wk} {x : Nd} {p : List UInt8}
theorem RR (hl: ¬ 400<=s.lk)(h:cU w (oO w m) x p 16 (s.qE w x p)=some s'):fG w (m+1) s x p=true/\cA w (m+1) s x p=s':=by
 have:oO w (m+1) s x p=some s':=by rw[oO,if_neg hl,h]
 exact⟨by rw[fG,this];rfl,by rw[cA,this]⟩
theorem SL (hl: ¬ 400<=s.lk)(h:cU w (oO w m) x p 16 (s.qE w x p)=none):fG w (m+1) s x p=false:=by
 rw[fG,oO,if_neg hl,h];rfl
theorem JJ (h:fG w m s x p=true):oO w m s x p=some (cA w m s x p):=by
 unfold fG at h
 unfold cA
 cases hx:oO w m s x p with
 | none=>rw[hx] at h;cases h
 | some s'=>rfl
theorem BP (h:fG w m s x p=false):oO w m s x p=none:=by
 unfold fG at h
 cases hx:oO w m s x p with
 | none=>rfl
 | some s'=>rw[hx] at h;cases h
theorem Qb {a b:List UInt8}{ty:TypeId}:ah (SB.cells [SV.str true a,SV.str true b] 2 ty) (SB.cells [SV.str false (a,b).1,SV.str false (a,b).2] 2 ty):=ah.cells (fun _=>rfl) rfl
theorem Qe {a b:List UInt8}{ty:TypeId}:ah (SB.cells [SV.str false a,SV.str false b] 2 ty) (SB.cells [SV.str false (a,b).1,SV.str false (a,b).2] 2 ty):=ah.refl _
theorem U0 (h:x.k=3)(i:Nat)(hi:i<16):cat (cat p x.p) [UInt8.ofNat ((i:Int)% 256).toNat]=pF x p i:=by
 rw[pF,if_pos h,show((i:Int)% 256).toNat=i by omega]
end
section
attribute [local irreducible] bG getD bO bI aa cT dS hasB nU az bF pF oO fG cA cU Wk.used
set_option maxHeartbeats 4000000 in
theorem Aw {m:Nat}{x:wz×Nd×List UInt8}(hx:(Fo (m+1)).pre x):aA (runM (PN m x.1 x.2.1 x.2.2) 84 Tryz.f84 (Fo (m+1)) x):=by
 refine aA.of_eq (Gn m x) ?_
 obtain⟨⟨w,s,c1,c2⟩,y,p⟩:=x
 obtain⟨hw,_,⟨hc1,hc2⟩,hf,hm,hy,hp⟩:=hx
 dsimp only at hw hc1 hc2 hf hm hy hp ⊢
 have hm:401<=s.lk+(m+1):=hm
 have hyp:=hy.p
 have hcat:(cat p y.p).length=p.length+y.p.length:=by unfold cat;simp
 have hlk:=hf.lk
 have hfs:=hf.fs
 have hns:=hf.ns
 by_cases hl:400<=s.lk
 ·have hB:fG w (m+1) s y p=false:=by unfold fG oO;rw[if_pos hl];rfl
  rw[hB,decide_eq_true (show(400:Int)<=(s.lk:Int)by omega)]
  exact⟨fun _=>⟨(fun h=>by cases h),fun _=>⟨(_,_),rfl,Qb,trivial⟩⟩,(fun h=>by cases h)⟩
 refine⟨fun h=>absurd (of_decide_eq_true h) (by omega),fun _=>⟨⟨by omega,by omega⟩,⟨by omega,?_⟩,?_⟩⟩
 ·
  have no:jt w y p=false->(s.qE w y p).fs=s.fs:=fun h=>by show(if jt w y p=true then _ else _)=_;rw[h];rfl
  have yes:jt w y p=true->(s.qE w y p).fs=s.fs++[(bF (cat p y.p),y.v)]:=fun h=>by show(if jt w y p=true then _ else _)=_;rw[h];rfl
  have eb:jt w y p=(!decide (y.v=[])&&(hasB w.fr w.to (cat p y.p)&&nU (cat p y.p))):=rfl
  have le0:jt w y p=false->ah (SB.rows true s.fs.length [b8 s.fs,b6 s.fs] false (c2*2) 50) (fU (s.qE w y p) c2):=fun h=>by
   unfold fU;rw[no h];exact ah.refl _
  have le1:jt w y p=true->∀ c,ah (SB.rows true (s.fs.length+1) [.str fun j=>if j<s.fs.length then(s.fs.getD j ([],[])).1 else bq [bF (cat p y.p)] (j - s.fs.length),.str fun j=>if j<s.fs.length then(s.fs.getD j ([],[])).2 else bq [y.v] (j - s.fs.length)] false (c*2) 50) (fU (s.qE w y p) c):=fun h c=>by
   unfold fU;rw[yes h];exact SD
  have wfr:=hw.fr
  have wto:=hw.to
  refine⟨fun hv=>⟨⟨wfr,wto⟩,fun hh=>⟨by omega,fun hk=> ?_,fun hk=> ?_⟩,fun hh=> ?_⟩,fun hv=> ?_⟩
  ·rw[hv,hh,hk] at eb
   have l1:=le1 eb
   refine⟨rfl,rfl,rfl,⟨⟨by omega,trivial,by omega,by omega⟩,rfl,fun c hc=>⟨rfl,⟨c,?_⟩⟩⟩⟩
   rw[if_pos (show jt w y p=true from eb),List.length_append]
   have l1:=l1 c
   repeat' first
    | exact l1
    | exact ah.refl _
    | refine And.intro ?_ ?_
    | rfl
    | assumption
    | omega
    | exact trivial
    | fail
  all_goals
   first
    | rw[hv,hh,hk] at eb
    | rw[hv,hh] at eb
    | rw[hv] at eb
   have l0:=le0 (eb.trans (by first | rfl | simp))
   have e0:jt w y p=false:=eb.trans (by first | rfl | simp)
   refine⟨c2,?_⟩
   rw[e0]
   simp only[Bool.false_eq_true,if_false]
   repeat' first
    | exact l0
    | exact ah.refl _
    | refine And.intro ?_ ?_
    | rfl
    | assumption
    | omega
    | exact trivial
    | fail
 ·intro c2' hc2' R
  refine⟨⟨(0,s.qE w y p,c1,c2'),⟨⟨Nat.zero_le _,by unfold cU;rfl,hc1,hc2'⟩,?_⟩⟩,fun z hz=> ?_⟩
  ·repeat' first
    | exact ah.refl _
    | refine And.intro ?_ ?_
    | rfl
    | assumption
    | omega
    | exact trivial
    | fail
  obtain⟨i,si,d1,d2⟩:=z
  obtain⟨hi16,hi,hd1,hd2⟩:=hz
  dsimp only at hi16 hi hd1 hd2 ⊢
  obtain⟨fi,hlki⟩:=rX (wX w m) (hf.qE (by omega) w y p) hi
  have hlki:s.lk+1<=si.lk:=hlki
  have fil:=fi.lk
  simp only[-eq_self,Int.toNat_natCast]
  refine⟨fun hlt=> ?_,fun hlt=> ?_⟩
  ·have hlt:i<16:=by have:=of_decide_eq_true hlt;omega
   simp only[-eq_self,Ad y.r hlt]
   have bad:cU w (oO w m) y p (i+1) (s.qE w y p)=none->∀(a b:List UInt8),(fG w (m+1) s y p=true->∃(q:Nat×Nat),((cA w (m+1) s y p).ns.length<=q.1/\(cA w (m+1) s y p).fs.length<=q.2)/\False)/\(fG w (m+1) s y p=false->∃(q:List UInt8×List UInt8),(0:Nat)=0/\ah (SB.cells [SV.str false a,SV.str false b] 2 207) (SB.cells [SV.str false q.1,SV.str false q.2] 2 207)/\True):=fun h a b=>by
    have hB:=SL hl (vK (by omega:i+1<=16) h)
    rw[hB]
    exact⟨(fun h=>by cases h),fun _=>⟨(a,b),rfl,Qe,trivial⟩⟩
   refine⟨⟨by omega,by omega,by omega⟩,fun h0=>⟨⟨by omega,by omega⟩,(i+1,si,d1,d2),⟨⟨⟨by show i+1<=16;omega,(jl hi).trans (Av (of_decide_eq_true h0)),hd1,hd2⟩,by show 16 - (i+1)<16 - i;omega⟩,?_⟩⟩,fun h0=> ?_⟩
   ·repeat' first
     | exact ah.refl _
     | refine And.intro ?_ ?_
     | rfl
     | assumption
     | omega
     | exact trivial
     | fail
   have h0:=of_decide_eq_false h0
   have htl:=Sk hy p i
   refine⟨by omega,⟨fun h3=>⟨by omega,(),trivial,U0 (of_decide_eq_true h3) i hlt,?_⟩,fun h3=>⟨(),trivial,by unfold pF;rw[if_neg (of_decide_eq_false h3)],?_⟩⟩,fun _ _=>⟨⟨hw.fr,hw.to⟩,fun hM=>⟨rfl,?_⟩,fun hM=>⟨⟨by omega,by omega⟩,(i+1,si,d1,d2),⟨⟨⟨by show i+1<=16;omega,(jl hi).trans (E5 hM),hd1,hd2⟩,by show 16 - (i+1)<16 - i;omega⟩,?_⟩⟩⟩⟩
   ·repeat' first
     | exact ah.refl _
     | refine And.intro ?_ ?_
     | rfl
     | assumption
     | omega
     | exact trivial
     | fail
   ·repeat' first
     | exact ah.refl _
     | refine And.intro ?_ ?_
     | rfl
     | assumption
     | omega
     | exact trivial
     | fail
   rotate_left
   ·repeat' first
     | exact ah.refl _
     | refine And.intro ?_ ?_
     | rfl
     | assumption
     | omega
     | exact trivial
     | fail
   have hrl:(y.r i).length<9223372036854775808:=by
    rcases hy.r i hlt with e | e
    ·exact absurd e h0
    ·have:=tP e;omega
   have go: ∀ {yy:Nd} {s2:Wk},gp w si (y.r i)=some (yy,s2)->s2.Fit (s2.lk+1)/\(401<=s2.lk+m)/\yy.oC/\(pF y p i).length<=13*s2.lk/\s2.Small:=fun h=>by
    obtain⟨q1,q2,q3⟩:=A6 fi h
    exact⟨by rw[q2];exact q1,by omega,kW q3,by omega,q1.small (by omega)⟩
   have on: ∀ {yy:Nd} {s2:Wk},gp w si (y.r i)=some (yy,s2)->fG w m s2 yy (pF y p i)=true->cU w (oO w m) y p (i+1) (s.qE w y p)=some (cA w m s2 yy (pF y p i)):=fun h hb=>by
    rw[jl hi,zK h0 hM h,JJ hb]
   have off: ∀ {yy:Nd} {s2:Wk},gp w si (y.r i)=some (yy,s2)->fG w m s2 yy (pF y p i)=false->cU w (oO w m) y p (i+1) (s.qE w y p)=none:=fun h hb=>by
    rw[jl hi,zK h0 hM h,BP hb]
   refine⟨(⟨w,si,d1,d2⟩,y.r i),⟨hw,fi.small (by omega),⟨hd1,hd2⟩,hrl⟩,?_⟩
   dsimp only
   have inn:bO (y.r i)=true->gp w si (y.r i)=some (getD (y.r i),si):=Pv
   have inh:bO (y.r i)=false->bI (y.r i)=true->cT w (aa (y.r i))=true->gp w si (y.r i)=some (getD (w.at (aa (y.r i))),si.take w (aa (y.r i))):=Jl
   have inb:bO (y.r i)=false->(bI (y.r i)=false∨cT w (aa (y.r i))=false)->cU w (oO w m) y p (i+1) (s.qE w y p)=none:=fun h1 h2=>by
    rw[jl hi,D4 h0 hM (Pf h1 h2)]
   have hsuc:i+1<=16:=by omega
   have hmea:16 - (i+1)<16 - i:=by omega
   refine⟨rfl,rfl,rfl,rfl,rfl,rfl,rfl,⟨rfl,rfl,rfl⟩,trivial,rfl,⟨rfl,rfl,rfl⟩,trivial,ah.refl _,ah.refl _,ah.refl _,rfl,ah.refl _,rfl,⟨rfl,rfl,rfl,rfl,rfl⟩,ah.refl _,fun h1 e he=> ?_,fun h1=>⟨fun h2=>⟨fun h3 e he=> ?_,fun h3 yy=>bad (inb h1 (.inr h3)) _ _⟩,fun h2 yy=>bad (inb h1 (.inl h2)) _ _⟩⟩
   ·have hfol:=inn h1
    obtain⟨g1,g2,g3,g4,g5⟩:=go hfol
    refine⟨(⟨w,si,e.1,e.2⟩,getD (y.r i),pF y p i),⟨hw,g5,he,g1,g2,g3,g4⟩,?_⟩
    dsimp only
    have on:=on hfol
    have off:=off hfol
    repeat' first
     | exact fun hb yy=>bad (off hb) _ _
     | refine fun hb q hq=>⟨⟨by omega,by omega⟩,(i+1,cA w m si (getD (y.r i)) (pF y p i),q.1,q.2),⟨⟨hsuc,on hb,hq.1,hq.2⟩,hmea⟩,?_⟩
     | exact ah.refl _
     | refine And.intro ?_ ?_
     | rfl
     | assumption
     | omega
     | exact trivial
     | fail
   ·have hfol:=inh h1 h2 h3
    obtain⟨g1,g2,g3,g4,g5⟩:=go hfol
    refine⟨(⟨w,si.take w (aa (y.r i)),e.1,e.2⟩,getD (w.at (aa (y.r i))),pF y p i),⟨hw,g5,he,g1,g2,g3,g4⟩,?_⟩
    dsimp only
    have on:=on hfol
    have off:=off hfol
    repeat' first
     | exact fun hb yy=>bad (off hb) _ _
     | refine fun hb q hq=>⟨⟨by omega,by omega⟩,(i+1,cA w m (si.take w (aa (y.r i))) (getD (w.at (aa (y.r i)))) (pF y p i),q.1,q.2),⟨⟨hsuc,on hb,hq.1,hq.2⟩,hmea⟩,?_⟩
     | exact ah.refl _
     | refine And.intro ?_ ?_
     | rfl
     | assumption
     | omega
     | exact trivial
     | fail
  ·have e16:i=16:=by have:=of_decide_eq_false hlt;omega
   subst e16
   obtain⟨k1,k2⟩:=RR hl hi
   rw[k1,k2]
   refine⟨fun _=>⟨(d1,d2),⟨hd1,hd2⟩,?_⟩,(fun h=>by cases h)⟩
   repeat' first
    | exact ah.refl _
    | refine And.intro ?_ ?_
    | rfl
    | assumption
    | omega
    | exact trivial
    | fail
end
end Go.Proofs.YtoibaecagklkaaaGreatDoor
namespace Go.Proofs.YtoibaecagklkaaaGreatDoor
open Go Sx
set_option maxRecDepth 20000
theorem Bq {m:Nat}(h:aB Tryz.prog 84 (ig (Fo m))):bl Tryz.prog (fun f=>aG f (Cz m)):=.cons h (gD _) (.cons Fi (gD _) uI)
theorem JN: ∀ m,aB Tryz.prog 84 (ig (Fo m))
 | 0=>n7 (n:=20) (fn:=Tryz.f84) Tryz.func84 (by kernel_rfl) (by kernel_rfl) (Fo 0) fun x hx=>by
   obtain⟨_,_,_,hf,hm,_⟩:=hx
   have:=hf.lk
   omega
 | m+1=>n7 (n:=20) (fn:=Tryz.f84) Tryz.func84 (by kernel_rfl) (by kernel_rfl) (Fo (m+1)) fun x hx=>⟨PN m x.1 x.2.1 x.2.2,.of bS (Bq (JN m)) bt,rfl,Aw hx⟩
theorem Lb (m:Nat):bl Tryz.prog (fun f=>aG f (Cz m)):=Bq (JN m)
def numOf (n:Int):List UInt8:=ax (digits n)
structure tG (n:Nat)(t:Nat->Bool)(i:Nat):Prop where
 le:i<=n
 all: ∀ j,j<i->t j=true
noncomputable def D3 (tmp:Nat)(n:Nat)(t:Nat->Bool):bC :=
 {α:=Nat,pre:=fun _ i=>tG n t i,nY:=fun _ i=>n - i,fresh:=0,slots:=fun _ i=>[(tmp,.int .i64 false i)],mem:=fun _ _=>[]}
structure XT (n:Nat)(x:Nat×Nat):Prop where
 le:x.1<=n
 cap:x.1<=x.2
theorem sE {n i:Nat}{t:Nat->Bool}(h:tG n t i)(hi: ¬ (i:Int)<(n:Int)):(List.range n).all t=true:=by
 rw[List.all_eq_true]
 intro j hj
 have:=List.mem_range.1 hj
 exact h.all j (by omega)
theorem p7 {n i:Nat}{t:Nat->Bool}(hi:(i:Int)<(n:Int))(ht:t i=false):(List.range n).all t=false:=by
 rw[List.all_eq_false]
 exact⟨i,List.mem_range.2 (by omega),by rw[ht];decide⟩
theorem qB {n i:Nat}{t:Nat->Bool}(h:tG n t i)(hi:(i:Int)<(n:Int))(ht:t i=true):tG n t (i+1):=⟨by omega,fun j hj=>by
 by_cases e:j=i
 ·subst e;exact ht
 ·exact h.all j (by omega)⟩
theorem dU {l:Bool}{a b:Bool}(h:a=b):af (.bool l a) (.bool false b):=fun E=>by subst h;rfl
theorem Sx.ah.empty {tot tot':Nat}{ty:TypeId}{av:List au}{z:Bool}(h:tot=tot'):ah (.cells [] tot ty) (.rows z 0 av false tot' ty):=by
 subst h
 refine ah.of rfl rfl fun _=> ?_
 refine⟨rfl,fun E o ⟨c,fr,h1,h2,_,h4⟩=>⟨c,fr,h1,fun _=>h2,by omega,h4,fun i k col hi=>absurd hi (Nat.not_lt_zero _)⟩,fun _=>rfl⟩
structure Pp where
 k:Int
 root:List UInt8
 key:List UInt8
 to:List UInt8
 n:Nat
 f:Nat->List UInt8
def Pp.sv (x:Pp)(u:SV):SV:=.agg [.int .i64 false x.k,.str false x.root,.str false x.key,.str false x.to,u]
def VM (f:Nat->List UInt8)(i:Nat):Bool:=!decide ((1000:Int)<((f i).length:Int))
def Te (n:Nat)(f:Nat->List UInt8):Bool:=(List.range n).all (VM f)
def Pp.ok (x:Pp):Bool:=(decide (x.k=0)&&decide (x.to=[])||decide (x.k=1))&&decide ((x.root.length:Int)=32)&& !decide ((6:Int)<(x.key.length:Int))&& !decide ((6:Int)<(x.to.length:Int)) &&
 !decide ((200:Int)<(x.n:Int))&&Te x.n x.f
def XJ (f:Nat->List UInt8)(i:Nat):List UInt8:=ax (f i)
def Pp.rows (x:Pp):List (List UInt8):=gr (XJ x.f) 0 x.n
def Pp.items (x:Pp):List (List UInt8):=[numOf x.k,ax x.root,ax x.key,ax x.to,dL x.rows]
def Pp.put (x:Pp):List UInt8:=dL x.items
def Pp.fits (x:Pp):Bool:=x.ok&& !decide ((65536:Int)<(x.put.length:Int))
def dP:List au:=[.str fun _=>[]]
def gM (n:Nat)(f:Nat->List UInt8)(n':Nat)(f':Nat->List UInt8):Bool:=decide ((n:Int)=(n':Int))&&(List.range n).all fun i=>decide (f i=f' i)
def jC (z:Bool)(o c n:Nat)(f:Nat->List UInt8)(key:Option Nat):Seen:=⟨key,z,o,n,c,[.str f]⟩
def W9:List vv:=[.of (.slice dP),.of (.slice dP)]
noncomputable def NI (n:Nat)(f f':Nat->List UInt8):ff:={cg with cI:=fun f=>aG f e8,br:=fun g=>if g=51 then [(4,always (D3 13 n fun i=>decide (f i=f' i)))] else []}
theorem Uu (n:Nat)(f f':Nat->List UInt8):Sx.Good Tryz.prog (NI n f f'):=.of bS di bt
theorem NG (n n':Nat)(f f':Nat->List UInt8)(z z':Bool)(o o' c c':Nat)(key key':Option Nat):VC.holds (gJ (NI n f f') 51 Tryz.f51 [.bP 0 1 z o 0 n c,.bP 1 1 z' o' 0 n' c'] [jC z o c n f key,jC z' o' c' n' f' key'] (.ret (.bool false (gM n f n' f'))))=((((!decide ((n:Int)=(n':Int)))=true->af (SV.bool true false) (SV.bool false (gM n f n' f')))/\((!decide ((n:Int)=(n':Int)))=false->(∃(u5:Nat),tG n (fun(u4:Nat)=>decide (f u4=f' u4)) u5/\0=(u5:Int)/\ah (jC z o c n f key).B (jC z o c n f key).B/\ah (jC z' o' c' n' f' key').B (jC z' o' c' n' f' key').B/\True)/\∀(u3:Nat),tG n (fun(u2:Nat)=>decide (f u2=f' u2)) u3->(decide ((u3:Int)<(n:Int))=true->(0<=(u3:Int)/\(u3:Int)<(n:Int))/\(o=o/\0+(u3:Int).toNat<n)/\(0<=(u3:Int)/\(u3:Int)<(n':Int))/\(o'=o'/\0+(u3:Int).toNat<n')/\((!decide (f (0+(u3:Int).toNat)=f' (0+(u3:Int).toNat)))=true->af (SV.bool true false) (SV.bool false (gM n f n' f')))/\((!decide (f (0+(u3:Int).toNat)=f' (0+(u3:Int).toNat)))=false->((-9223372036854775808:Int)<=(u3:Int)+1/\(u3:Int)+1<=(9223372036854775807:Int))/\∃(u1:Nat),(tG n (fun(u0:Nat)=>decide (f u0=f' u0)) u1/\n - u1<n - u3)/\(u3:Int)+1=(u1:Int)/\ah (jC z o c n f key).B (jC z o c n f key).B /\ah (jC z' o' c' n' f' key').B (jC z' o' c' n' f' key').B/\True))/\(decide ((u3:Int)<(n:Int))=false->af (SV.bool true true) (SV.bool false (gM n f n' f')))))):=by kernel_rfl
theorem SZ {p:Prop}[Decidable p](h:(!decide p)=false):p:=by
 cases hd:decide p with
 | true=>exact of_decide_eq_true hd
 | false=>rw[hd] at h;cases h
theorem Sa {p:Prop}[Decidable p](h:(!decide p)=true):decide p=false:=by
 cases hd:decide p with
 | true=>rw[hd] at h;cases h
 | false=>rfl
theorem S4 {p:Prop}[Decidable p](h:(!decide p)=false):decide p=true:=by
 cases hd:decide p with
 | true=>rfl
 | false=>rw[hd] at h;cases h
theorem Di {n n':Nat}{f f':Nat->List UInt8}(hn:n<9223372036854775808)(z z':Bool)(o o' c c':Nat)(key key':Option Nat):aA (gJ (NI n f f') 51 Tryz.f51 [.bP 0 1 z o 0 n c,.bP 1 1 z' o' 0 n' c'] [jC z o c n f key,jC z' o' c' n' f' key'] (.ret (.bool false (gM n f n' f')))):=by
 refine aA.of_eq (NG n n' f f' z z' o o' c c' key key') ?_
 simp only[Int.toNat_natCast,Nat.zero_add]
 refine⟨fun h=>dU (by rw[gM,Sa h];rfl),fun h=>⟨⟨0,⟨Nat.zero_le _,fun j hj=>absurd hj (Nat.not_lt_zero _)⟩,rfl,ah.refl _,ah.refl _,trivial⟩,fun i hi=>⟨fun a=> ?_,fun a=> ?_⟩⟩⟩
 ·simp only[decide_eq_true_eq] at a
  have e:(n:Int)=(n':Int):=SZ h
  refine⟨by omega,⟨trivial,by omega⟩,by omega,⟨trivial,by omega⟩,fun b=> ?_,fun b=>⟨by omega,i+1,⟨qB hi a (S4 b),by omega⟩,by omega,ah.refl _,ah.refl _,trivial⟩⟩
  exact dU (by rw[gM,p7 a (Sa b),Bool.and_false])
 ·simp only[decide_eq_false_iff_not] at a
  exact dU (by rw[gM,sE hi a,S4 h];rfl)
def uU (vs:List SV)(l:List Seen):Option (Prop×c6):=match vs,l with
 | [_,_],[⟨_,_,_,n,_,[.str f]⟩,⟨_,_,_,n',_,[.str f']⟩]=>some (n<9223372036854775808,.ret (.bool false (gM n f n' f')))
 | _,_=>none
theorem MN:aB Tryz.prog 51 (cr W9 uU):=by
 refine fD (n:=20) (fn:=Tryz.f51) Tryz.func51 (by kernel_rfl) (by kernel_rfl) ?_
 intro vs l q a h hq
 unfold uU at h
 split at h
 ·rename_i v v' key z o n c f key' z' o' n' c' f'
  injection h with h;injection h with h1 h2;subst h1;subst h2
  exact⟨_,Uu n f f',rfl,rfl,Di hq z z' o o' c c' key key'⟩
 ·cases h
def bQ (f:Nat->List UInt8):Nat->List UInt8->Bool
 | 0=>fun _=>false
 | i+1=>fun h=>bQ f i h||decide (h=cL (f i))
def cF (f:Nat->List UInt8):Nat->List UInt8->Int
 | 0=>fun _=>0
 | i+1=>fun h=>bif bQ f i h then cF f i h else(bif decide (h=cL (f i))then(i:Int)else 0)
theorem tR (f:Nat->List UInt8): ∀(n:Nat) (h:List UInt8),bQ f n h=true->0<=cF f n h/\cF f n h<n/\cL (f (cF f n h).toNat)=h
 | 0,h,e=>by cases e
 | n+1,h,e=>by
   unfold cF
   cases hd:bQ f n h with
   | true =>
     obtain⟨h1,h2,h3⟩:=tR f n h hd
     exact⟨h1,by show cF f n h<_;omega,h3⟩
   | false =>
     have hs:decide (h=cL (f n))=true:=by
      unfold bQ at e
      rw[hd,Bool.false_or] at e;exact e
     rw[hs]
     simp only[cond_true,cond_false,Int.toNat_natCast]
     exact⟨by omega,by omega,(of_decide_eq_true hs).symm⟩
theorem vn (f:Nat->List UInt8): ∀(n j:Nat),j<n->bQ f n (cL (f j))=true
 | 0,j,h=>absurd h (Nat.not_lt_zero _)
 | n+1,j,h=>by
   unfold bQ
   by_cases e:j=n
   ·subst e;simp
   ·rw[vn f n j (by omega)];rfl
theorem sq (f:Nat->List UInt8): ∀(n:Nat),cF f n (cL (f 0))=0
 | 0=>rfl
 | n+1=>by
   unfold cF
   cases n with
   | zero=>simp[bQ]
   | succ n=>rw[vn f (n+1) 0 (by omega),sq f (n+1)];rfl
theorem zC {f:Nat->List UInt8}{n:Nat}{root:List UInt8}:(bQ f n root=true/\cF f n root=0)↔(0<n/\cL (f 0)=root):=by
 constructor
 ·rintro⟨h1,h2⟩
  obtain⟨_,g2,g3⟩:=tR f n root h1
  rw[h2] at g2 g3
  exact⟨by omega,g3⟩
 ·rintro⟨h1,rfl⟩
  exact⟨vn f n 0 h1,sq f n⟩
def Sl (a b:List UInt8):Bool:=Op.bytesLess a b||decide (a=b)
def Sp.full (w:Sp):Sp:={w with ad:=bQ w.f w.n,ag:=cF w.f w.n}
def Wk.start:Wk:=⟨fun _=>false,fun _=>0,[],0,[]⟩
def oI (root:List UInt8)(w:Sp):Option Wk:=bif cT w root then oO w 401 (Wk.start.take w root) (getD (w.at root)) [] else none
def cw (root:List UInt8)(w:Sp):Option (List (List UInt8×List UInt8)) :=
 bif Sl w.fr w.to&&(decide (0<w.n)&&(decide (w.n<=200)&&decide (cL (w.f 0)=root)))then(match oI root w.full with
  | some s=>bif gM s.ns.length (fun i=>s.ns.getD i []) w.n w.f then some s.fs else none
  | none=>none)else none
def i5 (root:List UInt8)(w:Sp):List (List UInt8×List UInt8):=match cw root w with
 | some l=>l
 | none=>[]
def DQ (root:List UInt8)(w:Sp):c6:=.fork (cw root w).isSome fun b=>match b with
 | true=>.all Nat fun c=>.req ((i5 root w).length<=c) (.new (fun k=>.aL [.bw k 2 true 0 (i5 root w).length c,.int .i64 true 0]) (.rows true (i5 root w).length [b8 (i5 root w),b6 (i5 root w)] false (c*2) 50))
 | false=>.ret (.aL [.aO,.int .i64 true 10])
def WR (st:Sx.St)(i:Nat):Nat:=match st.m.get (Pe st i)with
 | some (.cells [.map k] _ _)=>k
 | _=>0
def O4 (w:Sp):bC :=
 {α:=Nat,pre:=fun _ i=>i<=w.n,nY:=fun _ i=>w.n - i,fresh:=0,slots:=fun _ i=>[(37,.int .i64 false i)],mem:=fun st i=>[(WR st 8,.fmap (bQ w.f i) (.int .i64 (cF w.f i)) none)]}
noncomputable def Qr:List (FuncId×PT):=(51,cr W9 uU)::Cz 401
noncomputable def NY (w:Sp):ff:={cg with cI:=fun f=>aG f Qr,br:=fun f=>if f=14 then [(5,always (O4 w))] else []}
theorem L9:bl Tryz.prog (fun f=>aG f Qr):=.cons MN (cG _ _) (Lb 401)
theorem VE (w:Sp):Sx.Good Tryz.prog (NY w):=.of bS L9 bt
def m9 (w:Sp)(kk:Option Nat):Seen:=⟨kk,w.z,w.o,w.n,w.c,[.str w.f]⟩
theorem Jb (root:List UInt8)(w:Sp)(kk:Option Nat):VC.holds (gJ (NY w) 14 Tryz.f14 [.str false root,.agg [.str false w.fr,.str false w.to],.bP 0 1 w.z w.o 0 w.n w.c] [m9 w kk] (DQ root w))=((fun P0:SV=>((fun P1:(wz×List UInt8)->Nd=>((fun P2:SB=>((((!(Op.bytesLess w.fr w.to||decide (w.fr=w.to)))=true->((cw root w).isSome=true->∃(u25:Nat),(i5 root w).length<=u25/\False)/\((cw root w).isSome=false->af P0 P0))/\((!(Op.bytesLess w.fr w.to||decide (w.fr=w.to)))=false->(decide ((w.n:Int)=0)=true->((cw root w).isSome=true->∃(u24:Nat),(i5 root w).length<=u24/\False)/\((cw root w).isSome=false->af P0 P0))/\(decide ((w.n:Int)=0)=false->(decide (200<(w.n:Int))=true->((cw root w).isSome=true->∃(u23:Nat),(i5 root w).length<=u23/\False)/\((cw root w).isSome=false->af P0 P0))/\(decide (200<(w.n:Int))=false->(∃(u22:Nat),u22<=w.n/\0=(u22:Int)/\ah (SB.map [] 0) (SB.fmap (bQ w.f u22) (aV.int IntKind.i64 (cF w.f u22)) none)/\ah (SB.cells [SV.map 3] 1 90) (SB.cells [SV.map 3] 1 90)/\ah (SB.cells (SV.bP 0 1 w.z w.o 0 w.n w.c).cells 1 29) (SB.cells (SV.bP 0 1 w.z w.o 0 w.n w.c).cells 1 29)/\ah P2 P2/\ah (m9 w kk).B (m9 w kk).B/\True)/\∀(u21:Nat),u21<=w.n->(decide ((u21:Int)<(w.n:Int))=true->(0<=(u21:Int)/\(u21:Int)<(w.n:Int))/\(w.o=w.o /\0+(u21:Int).toNat<w.n)/\(True/\Gq [w.f (0+(u21:Int).toNat)])/\((!bQ w.f u21 (cL (flat [w.f (0+(u21:Int).toNat)])))=true->((-9223372036854775808:Int)<=(u21:Int)+1/\(u21:Int)+1<=(9223372036854775807:Int))/\∃(u20:Nat),(u20<=w.n/\w.n - u20<w.n - u21)/\(u21:Int)+1=(u20:Int)/\ah (SB.fmap (gd (bQ w.f u21) (cL (flat [w.f (0+(u21:Int).toNat)]))) (aV.int IntKind.i64 (kK (cF w.f u21) (cL (flat [w.f (0+(u21:Int).toNat)])) (u21:Int))) none) (SB.fmap (bQ w.f u20) (aV.int IntKind.i64 (cF w.f u20)) none)/\ah (SB.cells [SV.map 3] 1 90) (SB.cells [SV.map 3] 1 90)/\ah (SB.cells (SV.bP 0 1 w.z w.o 0 w.n w.c).cells 1 29) (SB.cells (SV.bP 0 1 w.z w.o 0 w.n w.c).cells 1 29)/\ah P2 P2/\ah (m9 w kk).B (m9 w kk).B/\True)/\((!bQ w.f u21 (cL (flat [w.f (0+(u21:Int).toNat)])))=false->((-9223372036854775808:Int)<=(u21:Int)+1/\(u21:Int)+1<=(9223372036854775807:Int))/\∃(u19:Nat),(u19<=w.n/\w.n - u19<w.n - u21)/\(u21:Int)+1=(u19:Int) /\ah (SB.fmap (bQ w.f u21) (aV.int IntKind.i64 (cF w.f u21)) none) (SB.fmap (bQ w.f u19) (aV.int IntKind.i64 (cF w.f u19)) none)/\ah (SB.cells [SV.map 3] 1 90) (SB.cells [SV.map 3] 1 90)/\ah (SB.cells (SV.bP 0 1 w.z w.o 0 w.n w.c).cells 1 29) (SB.cells (SV.bP 0 1 w.z w.o 0 w.n w.c).cells 1 29)/\ah P2 P2/\ah (m9 w kk).B (m9 w kk).B/\True))/\(decide ((u21:Int)<(w.n:Int))=false->((!bQ w.f u21 root)=true->((cw root w).isSome=true->∃(u18:Nat),(i5 root w).length<=u18/\False)/\((cw root w).isSome=false->af P0 P0))/\((!bQ w.f u21 root)=false->((!decide (dflt (bQ w.f u21 root) (cF w.f u21 root)=0))=true->((cw root w).isSome=true->∃(u17:Nat),(i5 root w).length<=u17/\False)/\((cw root w).isSome=false->af P0 P0))/\((!decide (dflt (bQ w.f u21 root) (cF w.f u21 root)=0))=false->∃(u16:wz×List UInt8),(u16.fst.w.Ok/\u16.fst.s.Small/\(u16.fst.s.ns.length<=u16.fst.c1/\u16.fst.s.fs.length<=u16.fst.c2)/\True)/\(0:Nat)=(0:Nat)/\root=u16.snd/\(7:Nat)=(7:Nat)/\w.fr=u16.fst.w.fr/\w.to=u16.fst.w.to/\(0:Nat)=(0:Nat) /\(0:Nat)=(0:Nat)/\u16.fst.s.ns.length=0/\0=(u16.fst.s.lk:Int)/\u16.fst.s.fs.length=0/\ah (SB.map [] 0) (fV u16.fst.s)/\(fy u16.fst.s u16.fst.c1).no=true/\(fU u16.fst.s u16.fst.c2).no=true/\(1:Nat)=(1:Nat)/\ah (SB.fmap (bQ w.f u21) (aV.int IntKind.i64 (cF w.f u21)) none) (SB.fmap u16.fst.w.ad (aV.int IntKind.i64 u16.fst.w.ag) none)/\(1:Nat)=(1:Nat)/\(w.z=u16.fst.w.z/\w.o=u16.fst.w.o/\(0:Nat)=(0:Nat)/\w.n=u16.fst.w.n/\w.c=u16.fst.w.c)/\ah (SB.view w.z w.o w.n [au.str w.f]) (SB.view u16.fst.w.z u16.fst.w.o u16.fst.w.n [au.str u16.fst.w.f])/\(cT u16.fst.w u16.snd=true->∀(u15:Nat×Nat),(if u16.fst.s.used u16.snd=0 then u16.fst.s.ns++[u16.fst.w.at u16.snd] else u16.fst.s.ns).length<=u15.fst/\u16.fst.s.fs.length<=u15.snd->∃(u14:wz×Nd×List UInt8),(u14.fst.w.Ok/\u14.fst.s.Small/\(u14.fst.s.ns.length<=u14.fst.c1/\u14.fst.s.fs.length<=u14.fst.c2)/\u14.fst.s.Fit (u14.fst.s.lk+1)/\401<=u14.fst.s.lk+401/\u14.snd.fst.oC/\u14.snd.snd.length<=13*u14.fst.s.lk)/\(0:Nat)=(0:Nat)/\(P1 u16).k=u14.snd.fst.k/\(P1 u16).p=u14.snd.fst.p /\(P1 u16).v=u14.snd.fst.v/\(P1 u16).r 0=u14.snd.fst.r 0/\(P1 u16).r 1=u14.snd.fst.r 1/\(P1 u16).r 2=u14.snd.fst.r 2/\(P1 u16).r 3=u14.snd.fst.r 3/\(P1 u16).r 4=u14.snd.fst.r 4/\(P1 u16).r 5=u14.snd.fst.r 5/\(P1 u16).r 6=u14.snd.fst.r 6/\(P1 u16).r 7=u14.snd.fst.r 7/\(P1 u16).r 8=u14.snd.fst.r 8/\(P1 u16).r 9=u14.snd.fst.r 9/\(P1 u16).r 10=u14.snd.fst.r 10/\(P1 u16).r 11=u14.snd.fst.r 11/\(P1 u16).r 12=u14.snd.fst.r 12/\(P1 u16).r 13=u14.snd.fst.r 13/\(P1 u16).r 14=u14.snd.fst.r 14/\(P1 u16).r 15=u14.snd.fst.r 15/\[]=u14.snd.snd/\(7:Nat)=(7:Nat)/\u16.fst.w.fr=u14.fst.w.fr/\u16.fst.w.to=u14.fst.w.to/\(0:Nat)=(0:Nat)/\(0:Nat)=(0:Nat)/\((0:Nat)=(0:Nat)/\(if u16.fst.s.used u16.snd=0 then u16.fst.s.ns++[u16.fst.w.at u16.snd] else u16.fst.s.ns).length=u14.fst.s.ns.length/\u15.fst=u14.fst.c1)/\True/\(u16.fst.s.lk:Int)=(u14.fst.s.lk:Int)/\((0:Nat)=(0:Nat)/\u16.fst.s.fs.length=u14.fst.s.fs.length/\u15.snd=u14.fst.c2)/\True/\ah (SB.fmap (gd u16.fst.s.ud u16.snd) (aV.int IntKind.i64 (kK u16.fst.s.us u16.snd (u16.fst.s.used u16.snd+1))) none) (fV u14.fst.s) /\ah (SB.rows true (if u16.fst.s.used u16.snd=0 then u16.fst.s.ns++[u16.fst.w.at u16.snd] else u16.fst.s.ns).length [au.str fun(u13:Nat)=>(if u16.fst.s.used u16.snd=0 then u16.fst.s.ns++[u16.fst.w.at u16.snd] else u16.fst.s.ns).getD u13 []] false (u15.fst*1) 9) (fy u14.fst.s u14.fst.c1)/\ah (SB.rows true u16.fst.s.fs.length [au.str fun(u12:Nat)=>(u16.fst.s.fs.getD u12 ([],[])).fst,au.str fun(u11:Nat)=>(u16.fst.s.fs.getD u11 ([],[])).snd] false (u15.snd*2) 50) (fU u14.fst.s u14.fst.c2)/\(1:Nat)=(1:Nat)/\ah (SB.fmap u16.fst.w.ad (aV.int IntKind.i64 u16.fst.w.ag) none) (SB.fmap u14.fst.w.ad (aV.int IntKind.i64 u14.fst.w.ag) none)/\(1:Nat)=(1:Nat)/\(u16.fst.w.z=u14.fst.w.z/\u16.fst.w.o=u14.fst.w.o/\(0:Nat)=(0:Nat)/\u16.fst.w.n=u14.fst.w.n/\u16.fst.w.c=u14.fst.w.c)/\ah (SB.view w.z w.o w.n [au.str w.f]) (SB.view u14.fst.w.z u14.fst.w.o u14.fst.w.n [au.str u14.fst.w.f])/\(fG u14.fst.w 401 u14.fst.s u14.snd.fst u14.snd.snd=true->∀(u10:Nat×Nat),(cA u14.fst.w 401 u14.fst.s u14.snd.fst u14.snd.snd).ns.length<=u10.fst /\(cA u14.fst.w 401 u14.fst.s u14.snd.fst u14.snd.snd).fs.length<=u10.snd->(((true=true/\0+(cA u14.fst.w 401 u14.fst.s u14.snd.fst u14.snd.snd).ns.length<=(cA u14.fst.w 401 u14.fst.s u14.snd.fst u14.snd.snd).ns.length)/\(u14.fst.w.z=w.z/\w.o=u14.fst.w.o/\0+u14.fst.w.n<=w.n)/\True)/\(cA u14.fst.w 401 u14.fst.s u14.snd.fst u14.snd.snd).ns.length<9223372036854775808)/\((!gM (cA u14.fst.w 401 u14.fst.s u14.snd.fst u14.snd.snd).ns.length (fun(u9:Nat)=>(cA u14.fst.w 401 u14.fst.s u14.snd.fst u14.snd.snd).ns.getD u9 []) u14.fst.w.n w.f)=true->((cw root w).isSome=true->∃(u8:Nat),(i5 root w).length<=u8/\False)/\((cw root w).isSome=false->af P0 P0))/\((!gM (cA u14.fst.w 401 u14.fst.s u14.snd.fst u14.snd.snd).ns.length (fun(u7:Nat)=>(cA u14.fst.w 401 u14.fst.s u14.snd.fst u14.snd.snd).ns.getD u7 []) u14.fst.w.n w.f)=false->((cw root w).isSome=true->∃(u6:Nat),(i5 root w).length<=u6 /\ah (SB.rows true (cA u14.fst.w 401 u14.fst.s u14.snd.fst u14.snd.snd).fs.length [au.str fun(u5:Nat)=>((cA u14.fst.w 401 u14.fst.s u14.snd.fst u14.snd.snd).fs.getD u5 ([],[])).fst,au.str fun(u4:Nat)=>((cA u14.fst.w 401 u14.fst.s u14.snd.fst u14.snd.snd).fs.getD u4 ([],[])).snd] false (u10.snd*2) 50) (SB.rows true (i5 root w).length [b8 (i5 root w),b6 (i5 root w)] false (u6*2) 50)/\af (SV.aL [SV.bw 29 2 true 0 (cA u14.fst.w 401 u14.fst.s u14.snd.fst u14.snd.snd).fs.length u10.snd,SV.int .i64 true 0]) (SV.aL [SV.bw 29 2 true 0 (i5 root w).length u6,SV.int .i64 true 0]))/\((cw root w).isSome=false->af (SV.aL [SV.bw 29 2 true 0 (cA u14.fst.w 401 u14.fst.s u14.snd.fst u14.snd.snd).fs.length u10.snd,SV.int .i64 true 0]) P0)))/\(fG u14.fst.w 401 u14.fst.s u14.snd.fst u14.snd.snd=false->∀(_:List UInt8×List UInt8),((cw root w).isSome=true->∃(u2:Nat),(i5 root w).length<=u2/\False)/\((cw root w).isSome=false->af P0 P0)))/\(cT u16.fst.w u16.snd=false->∀(_:List UInt8×List UInt8),((cw root w).isSome=true->∃(u0:Nat),(i5 root w).length<=u0/\False) /\((cw root w).isSome=false->af P0 P0))))))))))) (SB.cells (SV.agg [SV.str false w.fr,SV.str false w.to]).cells 2 28))) (fun(u16:wz×List UInt8)=>(getD (u16.fst.w.at u16.snd))))) (SV.aL [SV.aO,SV.int .i64 true 10])):=by kernel_rfl
end Go.Proofs.YtoibaecagklkaaaGreatDoor
