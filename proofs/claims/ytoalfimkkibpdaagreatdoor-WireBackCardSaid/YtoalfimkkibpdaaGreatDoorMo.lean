/-
  Conditions that the executor computes, written out by a program (vcgen.py).
-/
import Derived.Test.YtoalfimkkibpdaaGreatDoorMn
import Derived.Test.YtoalfimkkibpdaaGreatDoorMk
import Derived.Test.YtoalfimkkibpdaaGreatDoorMm
namespace Go.Proofs.YtoalfimkkibpdaaGreatDoor
open Go Sx
set_option maxRecDepth 20000
theorem vcText0 (x:Nd)(R:SV→Prop):VC.holds (runP cfgN4 161 Tryz.f161 [x.svL true 0] R)=((True∧R (SV.str false [(128:UInt8)]))):=by kernel_rfl
theorem vcText1 (x:Nd)(R:SV→Prop):VC.holds (runP cfgN4 161 Tryz.f161 [x.svL true 1] R)=(({k:=(1:Int),p:=x.p,v:=x.v,r:=fun(u1:Nat)=>[x.r 0,x.r 1,x.r 2,x.r 3,x.r 4,x.r 5,x.r 6,x.r 7,x.r 8,x.r 9,x.r 10,x.r 11,x.r 12,x.r 13,x.r 14,x.r 15].getD u1 []:Nd}.Few∧R (SV.str false (leafT {k:=(1:Int),p:=x.p,v:=x.v,r:=fun(u0:Nat)=>[x.r 0,x.r 1,x.r 2,x.r 3,x.r 4,x.r 5,x.r 6,x.r 7,x.r 8,x.r 9,x.r 10,x.r 11,x.r 12,x.r 13,x.r 14,x.r 15].getD u0 []:Nd})))):=by kernel_rfl
theorem vcText2 (x:Nd)(R:SV→Prop):VC.holds (runP cfgN4 161 Tryz.f161 [x.svL true 2] R)=(({k:=(2:Int),p:=x.p,v:=x.v,r:=fun(u1:Nat)=>[x.r 0,x.r 1,x.r 2,x.r 3,x.r 4,x.r 5,x.r 6,x.r 7,x.r 8,x.r 9,x.r 10,x.r 11,x.r 12,x.r 13,x.r 14,x.r 15].getD u1 []:Nd}.Few∧R (SV.str false (extT {k:=(2:Int),p:=x.p,v:=x.v,r:=fun(u0:Nat)=>[x.r 0,x.r 1,x.r 2,x.r 3,x.r 4,x.r 5,x.r 6,x.r 7,x.r 8,x.r 9,x.r 10,x.r 11,x.r 12,x.r 13,x.r 14,x.r 15].getD u0 []:Nd})))):=by kernel_rfl
theorem vcText3 (x:Nd)(R:SV→Prop):VC.holds (runP cfgN4 161 Tryz.f161 [x.svL true 3] R)=(({k:=(3:Int),p:=x.p,v:=x.v,r:=fun(u1:Nat)=>[x.r 0,x.r 1,x.r 2,x.r 3,x.r 4,x.r 5,x.r 6,x.r 7,x.r 8,x.r 9,x.r 10,x.r 11,x.r 12,x.r 13,x.r 14,x.r 15].getD u1 []:Nd}.Few∧R (SV.str false (branchT {k:=(3:Int),p:=x.p,v:=x.v,r:=fun(u0:Nat)=>[x.r 0,x.r 1,x.r 2,x.r 3,x.r 4,x.r 5,x.r 6,x.r 7,x.r 8,x.r 9,x.r 10,x.r 11,x.r 12,x.r 13,x.r 14,x.r 15].getD u0 []:Nd})))):=by kernel_rfl
theorem vcExt (L:Nat)(x:Nd)(R:SV→Prop):VC.holds (runP (cfgN6 L) 184 Tryz.f184 [x.sv] R)=((True∧((!pathB {k:=x.k,p:=x.p,v:=x.v,r:=fun(u3:Nat)=>[x.r 0,x.r 1,x.r 2,x.r 3,x.r 4,x.r 5,x.r 6,x.r 7,x.r 8,x.r 9,x.r 10,x.r 11,x.r 12,x.r 13,x.r 14,x.r 15].getD u3 []:Nd} (1:Int))=true→R (SV.bool true false))∧((!pathB {k:=x.k,p:=x.p,v:=x.v,r:=fun(u2:Nat)=>[x.r 0,x.r 1,x.r 2,x.r 3,x.r 4,x.r 5,x.r 6,x.r 7,x.r 8,x.r 9,x.r 10,x.r 11,x.r 12,x.r 13,x.r 14,x.r 15].getD u2 []:Nd} (1:Int))=false→((!decide (x.v=[]))=true→R (SV.bool true false))∧((!decide (x.v=[]))=false→True∧((!decide (behindI (fun(u1:Nat)=>[x.r 0,x.r 1,x.r 2,x.r 3,x.r 4,x.r 5,x.r 6,x.r 7,x.r 8,x.r 9,x.r 10,x.r 11,x.r 12,x.r 13,x.r 14,x.r 15].getD u1 []) 16=(1:Int)))=true→R (SV.bool true false))∧((!decide (behindI (fun(u0:Nat)=>[x.r 0,x.r 1,x.r 2,x.r 3,x.r 4,x.r 5,x.r 6,x.r 7,x.r 8,x.r 9,x.r 10,x.r 11,x.r 12,x.r 13,x.r 14,x.r 15].getD u0 []) 16=(1:Int)))=false→(x.r 0).length<9223372036854775808∧(hashB (x.r 0)=true→R (SV.bool true true))∧(hashB (x.r 0)=false→Rel L (x.r 0)∧(inlB (x.r 0)=true →R (SV.bool (false&&true) (decide ((getD (x.r 0)).k=3))))∧(inlB (x.r 0)=false→R (SV.bool true false)))))))):=by kernel_rfl
theorem vcBranch (L:Nat)(x:Nd)(R:SV→Prop):VC.holds (runP (cfgBr L x) 185 Tryz.f185 [x.sv] R)=((fun R0:Nat→SV=>((fun P0:SB=>((fun P1:SB=>((((!decide (x.p=[]))=true→R (SV.bool true false))∧((!decide (x.p=[]))=false→(decide (80<(x.v.length:Int))=true→R (SV.bool true false))∧(decide (80<(x.v.length:Int))=false→∀(u5:Loop),(∃(u4:Nat),(u4≤16∧mays inlB x.r u4=true)∧0=(u4:Int)∧SBle (SB.cells [SV.int .i64 (false&&true) (min (x.v.length:Int) 1)] 1 3) (SB.cells [SV.int .i64 false (min (x.v.length:Int) 1+fullN x.r u4)] 1 3)∧SBle (SB.loop LoopState.ready none u5) (SB.loop LoopState.ready none u5)∧SBle P0 P0∧SBle P1 P1∧SBle (SB.cells x.sv.cells 19 259) (SB.cells x.sv.cells 19 259)∧True)∧∀(u3:Nat),u3≤16∧mays inlB x.r u3=true→(decide ((u3:Int)<16)=true→(0≤(u3:Int)∧(u3:Int)<16∧(u3:Int)<(↑(16:Nat):Int))∧((!decide (selS [x.r 0,x.r 1,x.r 2,x.r 3,x.r 4,x.r 5,x.r 6,x.r 7,x.r 8,x.r 9,x.r 10,x.r 11,x.r 12,x.r 13,x.r 14,x.r 15] (u3:Int).toNat=[]))=true→u5=u5∧(selS [x.r 0,x.r 1,x.r 2,x.r 3,x.r 4,x.r 5,x.r 6,x.r 7,x.r 8,x.r 9,x.r 10,x.r 11,x.r 12,x.r 13,x.r 14,x.r 15] (u3:Int).toNat).length<9223372036854775808 ∧(hashB (selS [x.r 0,x.r 1,x.r 2,x.r 3,x.r 4,x.r 5,x.r 6,x.r 7,x.r 8,x.r 9,x.r 10,x.r 11,x.r 12,x.r 13,x.r 14,x.r 15] (u3:Int).toNat)=true→((-9223372036854775808:Int)≤min (x.v.length:Int) 1+fullN x.r u3+1∧min (x.v.length:Int) 1+fullN x.r u3+1≤(9223372036854775807:Int))∧((-9223372036854775808:Int)≤(u3:Int)+1∧(u3:Int)+1≤(9223372036854775807:Int))∧∃(u2:Nat),((u2≤16∧mays inlB x.r u2=true)∧16 - u2<16 - u3)∧(u3:Int)+1=(u2:Int)∧SBle (SB.cells [SV.int .i64 false (min (x.v.length:Int) 1+fullN x.r u3+1)] 1 3) (SB.cells [SV.int .i64 false (min (x.v.length:Int) 1+fullN x.r u2)] 1 3)∧SBle (SB.loop LoopState.ready none u5) (SB.loop LoopState.ready none u5)∧SBle P0 P0∧SBle P1 P1∧SBle (SB.cells x.sv.cells 19 259) (SB.cells x.sv.cells 19 259)∧True)∧(hashB (selS [x.r 0,x.r 1,x.r 2,x.r 3,x.r 4,x.r 5,x.r 6,x.r 7,x.r 8,x.r 9,x.r 10,x.r 11,x.r 12,x.r 13,x.r 14,x.r 15] (u3:Int).toNat)=false→Rel L (selS [x.r 0,x.r 1,x.r 2,x.r 3,x.r 4,x.r 5,x.r 6,x.r 7,x.r 8,x.r 9,x.r 10,x.r 11,x.r 12,x.r 13,x.r 14,x.r 15] (u3:Int).toNat) ∧(inlB (selS [x.r 0,x.r 1,x.r 2,x.r 3,x.r 4,x.r 5,x.r 6,x.r 7,x.r 8,x.r 9,x.r 10,x.r 11,x.r 12,x.r 13,x.r 14,x.r 15] (u3:Int).toNat)=true→((-9223372036854775808:Int)≤min (x.v.length:Int) 1+fullN x.r u3+1∧min (x.v.length:Int) 1+fullN x.r u3+1≤(9223372036854775807:Int))∧((-9223372036854775808:Int)≤(u3:Int)+1∧(u3:Int)+1≤(9223372036854775807:Int))∧∃(u1:Nat),((u1≤16∧mays inlB x.r u1=true)∧16 - u1<16 - u3)∧(u3:Int)+1=(u1:Int)∧SBle (SB.cells [SV.int .i64 false (min (x.v.length:Int) 1+fullN x.r u3+1)] 1 3) (SB.cells [SV.int .i64 false (min (x.v.length:Int) 1+fullN x.r u1)] 1 3)∧SBle (SB.loop LoopState.ready none u5) (SB.loop LoopState.ready none u5)∧SBle P0 P0∧SBle P1 P1∧SBle (SB.cells x.sv.cells 19 259) (SB.cells x.sv.cells 19 259)∧True)∧(inlB (selS [x.r 0,x.r 1,x.r 2,x.r 3,x.r 4,x.r 5,x.r 6,x.r 7,x.r 8,x.r 9,x.r 10,x.r 11,x.r 12,x.r 13,x.r 14,x.r 15] (u3:Int).toNat)=false→R (SV.bool true false)))) ∧((!decide (selS [x.r 0,x.r 1,x.r 2,x.r 3,x.r 4,x.r 5,x.r 6,x.r 7,x.r 8,x.r 9,x.r 10,x.r 11,x.r 12,x.r 13,x.r 14,x.r 15] (u3:Int).toNat=[]))=false→((-9223372036854775808:Int)≤(u3:Int)+1∧(u3:Int)+1≤(9223372036854775807:Int))∧∃(u0:Nat),((u0≤16∧mays inlB x.r u0=true)∧16 - u0<16 - u3)∧(u3:Int)+1=(u0:Int)∧SBle (SB.cells [SV.int .i64 false (min (x.v.length:Int) 1+fullN x.r u3)] 1 3) (SB.cells [SV.int .i64 false (min (x.v.length:Int) 1+fullN x.r u0)] 1 3)∧SBle (SB.loop LoopState.ready none u5) (SB.loop LoopState.ready none u5)∧SBle P0 P0∧SBle P1 P1∧SBle (SB.cells x.sv.cells 19 259) (SB.cells x.sv.cells 19 259)∧True))∧(decide ((u3:Int)<16)=false→R (SV.bool (false&&true) (decide (2≤min (x.v.length:Int) 1+fullN x.r u3))))))))) (SB.cells (SV.bool true false).cells 1 4))) (SB.cells (SV.agg [SV.int .i64 false x.k,SV.str false x.p,SV.str false x.v,R0 0,R0 1,R0 2,R0 3,R0 4,R0 5,R0 6,R0 7,R0 8,R0 9,R0 10,R0 11,R0 12,R0 13,R0 14,R0 15]).cells 19 259))) (fun(n0:Nat)=>SV.str false (x.r n0))):=by kernel_rfl
theorem vcValid0 (L:Nat)(x:Nd)(R:SV→Prop):VC.holds (runP (cfgN7 L) 160 Tryz.f160 [x.svL true 0] R)=((True∧R (SV.bool false (noneB {k:=(0:Int),p:=x.p,v:=x.v,r:=fun(u0:Nat)=>[x.r 0,x.r 1,x.r 2,x.r 3,x.r 4,x.r 5,x.r 6,x.r 7,x.r 8,x.r 9,x.r 10,x.r 11,x.r 12,x.r 13,x.r 14,x.r 15].getD u0 []:Nd})))):=by kernel_rfl
theorem vcValid1 (L:Nat)(x:Nd)(R:SV→Prop):VC.holds (runP (cfgN7 L) 160 Tryz.f160 [x.svL true 1] R)=((True∧R (SV.bool false (leafB {k:=(1:Int),p:=x.p,v:=x.v,r:=fun(u0:Nat)=>[x.r 0,x.r 1,x.r 2,x.r 3,x.r 4,x.r 5,x.r 6,x.r 7,x.r 8,x.r 9,x.r 10,x.r 11,x.r 12,x.r 13,x.r 14,x.r 15].getD u0 []:Nd})))):=by kernel_rfl
theorem vcValid2 (L:Nat)(x:Nd)(R:SV→Prop):VC.holds (runP (cfgN7 L) 160 Tryz.f160 [x.svL true 2] R)=((Rel L ([x.r 0,x.r 1,x.r 2,x.r 3,x.r 4,x.r 5,x.r 6,x.r 7,x.r 8,x.r 9,x.r 10,x.r 11,x.r 12,x.r 13,x.r 14,x.r 15].getD 0 [])∧R (SV.bool false (extW inlB {k:=(2:Int),p:=x.p,v:=x.v,r:=fun(u0:Nat)=>[x.r 0,x.r 1,x.r 2,x.r 3,x.r 4,x.r 5,x.r 6,x.r 7,x.r 8,x.r 9,x.r 10,x.r 11,x.r 12,x.r 13,x.r 14,x.r 15].getD u0 []:Nd})))):=by kernel_rfl
theorem vcValid3 (L:Nat)(x:Nd)(R:SV→Prop):VC.holds (runP (cfgN7 L) 160 Tryz.f160 [x.svL true 3] R)=(((RelR L fun(u1:Nat)=>[x.r 0,x.r 1,x.r 2,x.r 3,x.r 4,x.r 5,x.r 6,x.r 7,x.r 8,x.r 9,x.r 10,x.r 11,x.r 12,x.r 13,x.r 14,x.r 15].getD u1 [])∧R (SV.bool false (branchW inlB {k:=(3:Int),p:=x.p,v:=x.v,r:=fun(u0:Nat)=>[x.r 0,x.r 1,x.r 2,x.r 3,x.r 4,x.r 5,x.r 6,x.r 7,x.r 8,x.r 9,x.r 10,x.r 11,x.r 12,x.r 13,x.r 14,x.r 15].getD u0 []:Nd})))):=by kernel_rfl
theorem vcValidS (L:Nat)(x:Nd)(R:SV→Prop):VC.holds (runP (cfgN7 L) 160 Tryz.f160 [x.sv] R)=(((decide (x.k<0)=true→R (SV.bool true false))∧(decide (x.k<0)=false→(decide (3<x.k)=true→R (SV.bool true false))∧(decide (3<x.k)=false→(0≤x.k∧x.k<4)∧False)))):=by kernel_rfl
theorem vcNodeGet (L:Nat)(s:List UInt8):VC.holds (runA (cfgN8 L) 130 Tryz.f130 [.str false s] (getA' s))=((fun R0:Nat→SV=>((fun R1:Nat→SV=>((fun R2:Nat→SV=>((fun P0:SV=>((fun P1:SV=>((fun P2:SV=>((fun P3:SV=>((fun P4:List UInt8=>((s.length<1099511627776∧(decide (shapeK s=0)=true→(RelR L fun(u24:Nat)=>[[],[],[],[],[],[],[],[],[],[],[],[],[],[],[],[]].getD u24 [])∧((!validB {k:=(0:Int),p:=[],v:=[],r:=fun(u23:Nat)=>[[],[],[],[],[],[],[],[],[],[],[],[],[],[],[],[]].getD u23 []:Nd})=true→(getB' s=true→sameVal P0 P1)∧(getB' s=false→sameVal P0 P2))∧((!validB {k:=(0:Int),p:=[],v:=[],r:=fun(u22:Nat)=>[[],[],[],[],[],[],[],[],[],[],[],[],[],[],[],[]].getD u22 []:Nd})=false→(((0:Int)≤(0:Int)∧(0:Int)≤(3:Int))∧{k:=(0:Int),p:=[],v:=[],r:=fun(u21:Nat)=>[[],[],[],[],[],[],[],[],[],[],[],[],[],[],[],[]].getD u21 []:Nd}.Few)∧((!decide (putT {k:=(0:Int),p:=[],v:=[],r:=fun(u20:Nat)=>[[],[],[],[],[],[],[],[],[],[],[],[],[],[],[],[]].getD u20 []:Nd}=s))=true→(getB' s=true→sameVal P0 P1)∧(getB' s=false→sameVal P0 P2))∧((!decide (putT {k:=(0:Int),p:=[],v:=[],r:=fun(u19:Nat)=>[[],[],[],[],[],[],[],[],[],[],[],[],[],[],[],[]].getD u19 []:Nd}=s))=false →(getB' s=true→sameVal P3 P1)∧(getB' s=false→sameVal P3 P2))))∧(decide (shapeK s=0)=false→(decide (shapeK s=1)=true→(RelR L fun(u18:Nat)=>[noRefs 0,noRefs 1,noRefs 2,noRefs 3,noRefs 4,noRefs 5,noRefs 6,noRefs 7,noRefs 8,noRefs 9,noRefs 10,noRefs 11,noRefs 12,noRefs 13,noRefs 14,noRefs 15].getD u18 [])∧((!validB {k:=(1:Int),p:=ngetP P4,v:=cutIn (itemAt (cutIn s) 1),r:=fun(u17:Nat)=>[noRefs 0,noRefs 1,noRefs 2,noRefs 3,noRefs 4,noRefs 5,noRefs 6,noRefs 7,noRefs 8,noRefs 9,noRefs 10,noRefs 11,noRefs 12,noRefs 13,noRefs 14,noRefs 15].getD u17 []:Nd})=true→(getB' s=true→sameVal P0 P1)∧(getB' s=false→sameVal P0 P2))∧((!validB {k:=(1:Int),p:=ngetP P4,v:=cutIn (itemAt (cutIn s) 1),r:=fun(u16:Nat)=>[noRefs 0,noRefs 1,noRefs 2,noRefs 3,noRefs 4,noRefs 5,noRefs 6,noRefs 7,noRefs 8,noRefs 9,noRefs 10,noRefs 11,noRefs 12,noRefs 13,noRefs 14,noRefs 15].getD u16 []:Nd})=false→(((0:Int)≤(1:Int)∧(1:Int)≤(3:Int)) ∧{k:=(1:Int),p:=ngetP P4,v:=cutIn (itemAt (cutIn s) 1),r:=fun(u15:Nat)=>[noRefs 0,noRefs 1,noRefs 2,noRefs 3,noRefs 4,noRefs 5,noRefs 6,noRefs 7,noRefs 8,noRefs 9,noRefs 10,noRefs 11,noRefs 12,noRefs 13,noRefs 14,noRefs 15].getD u15 []:Nd}.Few)∧((!decide (putT {k:=(1:Int),p:=ngetP P4,v:=cutIn (itemAt (cutIn s) 1),r:=fun(u14:Nat)=>[noRefs 0,noRefs 1,noRefs 2,noRefs 3,noRefs 4,noRefs 5,noRefs 6,noRefs 7,noRefs 8,noRefs 9,noRefs 10,noRefs 11,noRefs 12,noRefs 13,noRefs 14,noRefs 15].getD u14 []:Nd}=s))=true→(getB' s=true→sameVal P0 P1)∧(getB' s=false→sameVal P0 P2))∧((!decide (putT {k:=(1:Int),p:=ngetP P4,v:=cutIn (itemAt (cutIn s) 1),r:=fun(u13:Nat)=>[noRefs 0,noRefs 1,noRefs 2,noRefs 3,noRefs 4,noRefs 5,noRefs 6,noRefs 7,noRefs 8,noRefs 9,noRefs 10,noRefs 11,noRefs 12,noRefs 13,noRefs 14,noRefs 15].getD u13 []:Nd}=s))=false→(getB' s=true →sameVal (SV.tup [SV.agg [SV.int .i64 true 1,SV.str false (ngetP P4),SV.str false (cutIn (itemAt (cutIn s) 1)),R0 0,R0 1,R0 2,R0 3,R0 4,R0 5,R0 6,R0 7,R0 8,R0 9,R0 10,R0 11,R0 12,R0 13,R0 14,R0 15],SV.int .i64 true 0]) P1)∧(getB' s=false→sameVal (SV.tup [SV.agg [SV.int .i64 true 1,SV.str false (ngetP P4),SV.str false (cutIn (itemAt (cutIn s) 1)),R0 0,R0 1,R0 2,R0 3,R0 4,R0 5,R0 6,R0 7,R0 8,R0 9,R0 10,R0 11,R0 12,R0 13,R0 14,R0 15],SV.int .i64 true 0]) P2))))∧(decide (shapeK s=1)=false→(decide (shapeK s=2)=true→(RelR L fun(u12:Nat)=>[oneRef (itemAt (cutIn s) 1) 0,oneRef (itemAt (cutIn s) 1) 1,oneRef (itemAt (cutIn s) 1) 2,oneRef (itemAt (cutIn s) 1) 3,oneRef (itemAt (cutIn s) 1) 4,oneRef (itemAt (cutIn s) 1) 5,oneRef (itemAt (cutIn s) 1) 6,oneRef (itemAt (cutIn s) 1) 7,oneRef (itemAt (cutIn s) 1) 8,oneRef (itemAt (cutIn s) 1) 9,oneRef (itemAt (cutIn s) 1) 10,oneRef (itemAt (cutIn s) 1) 11,oneRef (itemAt (cutIn s) 1) 12,oneRef (itemAt (cutIn s) 1) 13,oneRef (itemAt (cutIn s) 1) 14,oneRef (itemAt (cutIn s) 1) 15].getD u12 []) ∧((!validB {k:=(2:Int),p:=ngetP P4,v:=[],r:=fun(u11:Nat)=>[oneRef (itemAt (cutIn s) 1) 0,oneRef (itemAt (cutIn s) 1) 1,oneRef (itemAt (cutIn s) 1) 2,oneRef (itemAt (cutIn s) 1) 3,oneRef (itemAt (cutIn s) 1) 4,oneRef (itemAt (cutIn s) 1) 5,oneRef (itemAt (cutIn s) 1) 6,oneRef (itemAt (cutIn s) 1) 7,oneRef (itemAt (cutIn s) 1) 8,oneRef (itemAt (cutIn s) 1) 9,oneRef (itemAt (cutIn s) 1) 10,oneRef (itemAt (cutIn s) 1) 11,oneRef (itemAt (cutIn s) 1) 12,oneRef (itemAt (cutIn s) 1) 13,oneRef (itemAt (cutIn s) 1) 14,oneRef (itemAt (cutIn s) 1) 15].getD u11 []:Nd})=true→(getB' s=true→sameVal P0 P1)∧(getB' s=false→sameVal P0 P2)) ∧((!validB {k:=(2:Int),p:=ngetP P4,v:=[],r:=fun(u10:Nat)=>[oneRef (itemAt (cutIn s) 1) 0,oneRef (itemAt (cutIn s) 1) 1,oneRef (itemAt (cutIn s) 1) 2,oneRef (itemAt (cutIn s) 1) 3,oneRef (itemAt (cutIn s) 1) 4,oneRef (itemAt (cutIn s) 1) 5,oneRef (itemAt (cutIn s) 1) 6,oneRef (itemAt (cutIn s) 1) 7,oneRef (itemAt (cutIn s) 1) 8,oneRef (itemAt (cutIn s) 1) 9,oneRef (itemAt (cutIn s) 1) 10,oneRef (itemAt (cutIn s) 1) 11,oneRef (itemAt (cutIn s) 1) 12,oneRef (itemAt (cutIn s) 1) 13,oneRef (itemAt (cutIn s) 1) 14,oneRef (itemAt (cutIn s) 1) 15].getD u10 []:Nd})=false→(((0:Int)≤(2:Int)∧(2:Int)≤(3:Int)) ∧{k:=(2:Int),p:=ngetP P4,v:=[],r:=fun(u9:Nat)=>[oneRef (itemAt (cutIn s) 1) 0,oneRef (itemAt (cutIn s) 1) 1,oneRef (itemAt (cutIn s) 1) 2,oneRef (itemAt (cutIn s) 1) 3,oneRef (itemAt (cutIn s) 1) 4,oneRef (itemAt (cutIn s) 1) 5,oneRef (itemAt (cutIn s) 1) 6,oneRef (itemAt (cutIn s) 1) 7,oneRef (itemAt (cutIn s) 1) 8,oneRef (itemAt (cutIn s) 1) 9,oneRef (itemAt (cutIn s) 1) 10,oneRef (itemAt (cutIn s) 1) 11,oneRef (itemAt (cutIn s) 1) 12,oneRef (itemAt (cutIn s) 1) 13,oneRef (itemAt (cutIn s) 1) 14,oneRef (itemAt (cutIn s) 1) 15].getD u9 []:Nd}.Few) ∧((!decide (putT {k:=(2:Int),p:=ngetP P4,v:=[],r:=fun(u8:Nat)=>[oneRef (itemAt (cutIn s) 1) 0,oneRef (itemAt (cutIn s) 1) 1,oneRef (itemAt (cutIn s) 1) 2,oneRef (itemAt (cutIn s) 1) 3,oneRef (itemAt (cutIn s) 1) 4,oneRef (itemAt (cutIn s) 1) 5,oneRef (itemAt (cutIn s) 1) 6,oneRef (itemAt (cutIn s) 1) 7,oneRef (itemAt (cutIn s) 1) 8,oneRef (itemAt (cutIn s) 1) 9,oneRef (itemAt (cutIn s) 1) 10,oneRef (itemAt (cutIn s) 1) 11,oneRef (itemAt (cutIn s) 1) 12,oneRef (itemAt (cutIn s) 1) 13,oneRef (itemAt (cutIn s) 1) 14,oneRef (itemAt (cutIn s) 1) 15].getD u8 []:Nd}=s))=true→(getB' s=true→sameVal P0 P1)∧(getB' s=false→sameVal P0 P2)) ∧((!decide (putT {k:=(2:Int),p:=ngetP P4,v:=[],r:=fun(u7:Nat)=>[oneRef (itemAt (cutIn s) 1) 0,oneRef (itemAt (cutIn s) 1) 1,oneRef (itemAt (cutIn s) 1) 2,oneRef (itemAt (cutIn s) 1) 3,oneRef (itemAt (cutIn s) 1) 4,oneRef (itemAt (cutIn s) 1) 5,oneRef (itemAt (cutIn s) 1) 6,oneRef (itemAt (cutIn s) 1) 7,oneRef (itemAt (cutIn s) 1) 8,oneRef (itemAt (cutIn s) 1) 9,oneRef (itemAt (cutIn s) 1) 10,oneRef (itemAt (cutIn s) 1) 11,oneRef (itemAt (cutIn s) 1) 12,oneRef (itemAt (cutIn s) 1) 13,oneRef (itemAt (cutIn s) 1) 14,oneRef (itemAt (cutIn s) 1) 15].getD u7 []:Nd}=s))=false→(getB' s=true→sameVal (SV.tup [SV.agg [SV.int .i64 true 2,SV.str false (ngetP P4),SV.str false [],R1 0,R1 1,R1 2,R1 3,R1 4,R1 5,R1 6,R1 7,R1 8,R1 9,R1 10,R1 11,R1 12,R1 13,R1 14,R1 15],SV.int .i64 true 0]) P1)∧(getB' s=false→sameVal (SV.tup [SV.agg [SV.int .i64 true 2,SV.str false (ngetP P4),SV.str false [],R1 0,R1 1,R1 2,R1 3,R1 4,R1 5,R1 6,R1 7,R1 8,R1 9,R1 10,R1 11,R1 12,R1 13,R1 14,R1 15],SV.int .i64 true 0]) P2))))∧(decide (shapeK s=2)=false→(decide (shapeK s=3)=true →(RelR L fun(u6:Nat)=>[mk16 (rdRef (cutIn s)) 0,mk16 (rdRef (cutIn s)) 1,mk16 (rdRef (cutIn s)) 2,mk16 (rdRef (cutIn s)) 3,mk16 (rdRef (cutIn s)) 4,mk16 (rdRef (cutIn s)) 5,mk16 (rdRef (cutIn s)) 6,mk16 (rdRef (cutIn s)) 7,mk16 (rdRef (cutIn s)) 8,mk16 (rdRef (cutIn s)) 9,mk16 (rdRef (cutIn s)) 10,mk16 (rdRef (cutIn s)) 11,mk16 (rdRef (cutIn s)) 12,mk16 (rdRef (cutIn s)) 13,mk16 (rdRef (cutIn s)) 14,mk16 (rdRef (cutIn s)) 15].getD u6 [])∧((!validB {k:=(3:Int),p:=[],v:=cutIn (itemAt (cutIn s) 16),r:=fun(u5:Nat)=>[mk16 (rdRef (cutIn s)) 0,mk16 (rdRef (cutIn s)) 1,mk16 (rdRef (cutIn s)) 2,mk16 (rdRef (cutIn s)) 3,mk16 (rdRef (cutIn s)) 4,mk16 (rdRef (cutIn s)) 5,mk16 (rdRef (cutIn s)) 6,mk16 (rdRef (cutIn s)) 7,mk16 (rdRef (cutIn s)) 8,mk16 (rdRef (cutIn s)) 9,mk16 (rdRef (cutIn s)) 10,mk16 (rdRef (cutIn s)) 11,mk16 (rdRef (cutIn s)) 12,mk16 (rdRef (cutIn s)) 13,mk16 (rdRef (cutIn s)) 14,mk16 (rdRef (cutIn s)) 15].getD u5 []:Nd})=true→(getB' s=true→sameVal P0 P1)∧(getB' s=false→sameVal P0 P2)) ∧((!validB {k:=(3:Int),p:=[],v:=cutIn (itemAt (cutIn s) 16),r:=fun(u4:Nat)=>[mk16 (rdRef (cutIn s)) 0,mk16 (rdRef (cutIn s)) 1,mk16 (rdRef (cutIn s)) 2,mk16 (rdRef (cutIn s)) 3,mk16 (rdRef (cutIn s)) 4,mk16 (rdRef (cutIn s)) 5,mk16 (rdRef (cutIn s)) 6,mk16 (rdRef (cutIn s)) 7,mk16 (rdRef (cutIn s)) 8,mk16 (rdRef (cutIn s)) 9,mk16 (rdRef (cutIn s)) 10,mk16 (rdRef (cutIn s)) 11,mk16 (rdRef (cutIn s)) 12,mk16 (rdRef (cutIn s)) 13,mk16 (rdRef (cutIn s)) 14,mk16 (rdRef (cutIn s)) 15].getD u4 []:Nd})=false→(((0:Int)≤(3:Int)∧(3:Int)≤(3:Int))∧{k:=(3:Int),p:=[],v:=cutIn (itemAt (cutIn s) 16),r:=fun(u3:Nat)=>[mk16 (rdRef (cutIn s)) 0,mk16 (rdRef (cutIn s)) 1,mk16 (rdRef (cutIn s)) 2,mk16 (rdRef (cutIn s)) 3,mk16 (rdRef (cutIn s)) 4,mk16 (rdRef (cutIn s)) 5,mk16 (rdRef (cutIn s)) 6,mk16 (rdRef (cutIn s)) 7,mk16 (rdRef (cutIn s)) 8,mk16 (rdRef (cutIn s)) 9,mk16 (rdRef (cutIn s)) 10,mk16 (rdRef (cutIn s)) 11,mk16 (rdRef (cutIn s)) 12,mk16 (rdRef (cutIn s)) 13,mk16 (rdRef (cutIn s)) 14,mk16 (rdRef (cutIn s)) 15].getD u3 []:Nd}.Few) ∧((!decide (putT {k:=(3:Int),p:=[],v:=cutIn (itemAt (cutIn s) 16),r:=fun(u2:Nat)=>[mk16 (rdRef (cutIn s)) 0,mk16 (rdRef (cutIn s)) 1,mk16 (rdRef (cutIn s)) 2,mk16 (rdRef (cutIn s)) 3,mk16 (rdRef (cutIn s)) 4,mk16 (rdRef (cutIn s)) 5,mk16 (rdRef (cutIn s)) 6,mk16 (rdRef (cutIn s)) 7,mk16 (rdRef (cutIn s)) 8,mk16 (rdRef (cutIn s)) 9,mk16 (rdRef (cutIn s)) 10,mk16 (rdRef (cutIn s)) 11,mk16 (rdRef (cutIn s)) 12,mk16 (rdRef (cutIn s)) 13,mk16 (rdRef (cutIn s)) 14,mk16 (rdRef (cutIn s)) 15].getD u2 []:Nd}=s))=true→(getB' s=true→sameVal P0 P1)∧(getB' s=false→sameVal P0 P2))∧((!decide (putT {k:=(3:Int),p:=[],v:=cutIn (itemAt (cutIn s) 16),r:=fun(u1:Nat)=>[mk16 (rdRef (cutIn s)) 0,mk16 (rdRef (cutIn s)) 1,mk16 (rdRef (cutIn s)) 2,mk16 (rdRef (cutIn s)) 3,mk16 (rdRef (cutIn s)) 4,mk16 (rdRef (cutIn s)) 5,mk16 (rdRef (cutIn s)) 6,mk16 (rdRef (cutIn s)) 7,mk16 (rdRef (cutIn s)) 8,mk16 (rdRef (cutIn s)) 9,mk16 (rdRef (cutIn s)) 10,mk16 (rdRef (cutIn s)) 11,mk16 (rdRef (cutIn s)) 12,mk16 (rdRef (cutIn s)) 13,mk16 (rdRef (cutIn s)) 14,mk16 (rdRef (cutIn s)) 15].getD u1 []:Nd}=s))=false →(getB' s=true→sameVal (SV.tup [SV.agg [SV.int .i64 true 3,SV.str false [],SV.str false (cutIn (itemAt (cutIn s) 16)),R2 0,R2 1,R2 2,R2 3,R2 4,R2 5,R2 6,R2 7,R2 8,R2 9,R2 10,R2 11,R2 12,R2 13,R2 14,R2 15],SV.int .i64 true 0]) P1)∧(getB' s=false→sameVal (SV.tup [SV.agg [SV.int .i64 true 3,SV.str false [],SV.str false (cutIn (itemAt (cutIn s) 16)),R2 0,R2 1,R2 2,R2 3,R2 4,R2 5,R2 6,R2 7,R2 8,R2 9,R2 10,R2 11,R2 12,R2 13,R2 14,R2 15],SV.int .i64 true 0]) P2))))∧(decide (shapeK s=3)=false→∀(_u0:Nd),(getB' s=true→sameVal P0 P1)∧(getB' s=false→sameVal P0 P2)))))))) (cutIn (itemAt (cutIn s) 0)))) (SV.tup [SV.agg [SV.int .i64 true 0,SV.str true [],SV.str true [],SV.str true [],SV.str true [],SV.str true [],SV.str true [],SV.str true [],SV.str true [],SV.str true [],SV.str true [],SV.str true [],SV.str true [],SV.str true [],SV.str true [],SV.str true [],SV.str true [],SV.str true [],SV.str true []],SV.int .i64 true 0]))) (SV.tup [zeroN,SV.int .i64 true 2]))) (SV.tup [(getD s).sv,SV.int .i64 true 0]))) (SV.tup [SV.agg [SV.int .i64 true 0,SV.str true [],SV.str true [],SV.str true [],SV.str true [],SV.str true [],SV.str true [],SV.str true [],SV.str true [],SV.str true [],SV.str true [],SV.str true [],SV.str true [],SV.str true [],SV.str true [],SV.str true [],SV.str true [],SV.str true [],SV.str true []],SV.int .i64 true 2]))) (fun(n0:Nat)=>SV.str false (mk16 (rdRef (cutIn s)) n0)))) (fun(n0:Nat)=>SV.str false (oneRef (itemAt (cutIn s) 1) n0)))) (fun(n0:Nat)=>SV.str false (noRefs n0))):=by kernel_rfl
theorem vcInline (L:Nat)(t:List UInt8):VC.holds (runA (cfgN9 L) 136 Tryz.f136 [.str false t] (inlA t))=((fun R0:Nat→SV=>((fun P0:SV=>(((decide (32≤(t.length:Int))=true→(inlB t=true→sameVal P0 (SV.tup [(getD t).sv,SV.bool true true]))∧(inlB t=false→sameVal P0 (SV.tup [zeroN,SV.bool true false])))∧(decide (32≤(t.length:Int))=false→(t.length≤L∧t.length<1099511627776)∧(getB' t=true→(decide ((getD t).k=0)=true→(inlB t=true→sameVal P0 (SV.tup [(getD t).sv,SV.bool true true]))∧(inlB t=false→sameVal P0 (SV.tup [zeroN,SV.bool true false])))∧(decide ((getD t).k=0)=false→(inlB t=true→sameVal (SV.tup [SV.agg [SV.int .i64 false (getD t).k,SV.str false (getD t).p,SV.str false (getD t).v,R0 0,R0 1,R0 2,R0 3,R0 4,R0 5,R0 6,R0 7,R0 8,R0 9,R0 10,R0 11,R0 12,R0 13,R0 14,R0 15],SV.bool true true]) (SV.tup [(getD t).sv,SV.bool true true]))∧(inlB t=false→sameVal (SV.tup [SV.agg [SV.int .i64 false (getD t).k,SV.str false (getD t).p,SV.str false (getD t).v,R0 0,R0 1,R0 2,R0 3,R0 4,R0 5,R0 6,R0 7,R0 8,R0 9,R0 10,R0 11,R0 12,R0 13,R0 14,R0 15],SV.bool true true]) (SV.tup [zeroN,SV.bool true false]))))∧(getB' t=false→(inlB t=true→sameVal P0 (SV.tup [(getD t).sv,SV.bool true true]))∧(inlB t=false →sameVal P0 (SV.tup [zeroN,SV.bool true false]))))))) (SV.tup [SV.agg [SV.int .i64 true 0,SV.str true [],SV.str true [],SV.str true [],SV.str true [],SV.str true [],SV.str true [],SV.str true [],SV.str true [],SV.str true [],SV.str true [],SV.str true [],SV.str true [],SV.str true [],SV.str true [],SV.str true [],SV.str true [],SV.str true [],SV.str true []],SV.bool true false]))) (fun(n0:Nat)=>SV.str false ((getD t).r n0))):=by kernel_rfl
theorem vcInline0 (t:List UInt8):VC.holds (runA cfgNo 136 Tryz.f136 [.str false t] (inlA t))=((fun P0:SV=>(((decide (32≤(t.length:Int))=true→(inlB t=true→sameVal P0 (SV.tup [(getD t).sv,SV.bool true true]))∧(inlB t=false→sameVal P0 (SV.tup [zeroN,SV.bool true false])))∧(decide (32≤(t.length:Int))=false→False)))) (SV.tup [SV.agg [SV.int .i64 true 0,SV.str true [],SV.str true [],SV.str true [],SV.str true [],SV.str true [],SV.str true [],SV.str true [],SV.str true [],SV.str true [],SV.str true [],SV.str true [],SV.str true [],SV.str true [],SV.str true [],SV.str true [],SV.str true [],SV.str true [],SV.str true []],SV.bool true false])):=by kernel_rfl
end Go.Proofs.YtoalfimkkibpdaaGreatDoor
namespace Go.Proofs.YtoalfimkkibpdaaGreatDoor
open Go Sx
set_option maxRecDepth 20000
theorem headOf_pos (b:Int)(n:Nat):1≤(headOf b n).length:=by
 unfold headOf
 split<;>simp
theorem list_lt {s:List UInt8} (h:cutB s=true)(hl:cutL s=true):(cutIn s).length<s.length:=by
 have:=congrArg List.length (cut_only h)
 rw[hl] at this
 unfold againOf at this
 have hp:=headOf_pos 192 (cutIn s).length
 simp only[cond_true,List.length_append] at this
 omega
theorem hash_len {t:List UInt8} (h:hashB t=true):t.length=33:=by
 obtain⟨⟨h1,h2,h3⟩,h4⟩:=hash_iff.1 h
 have:=congrArg List.length (cut_only h1)
 rw[h2,h3] at this
 unfold againOf textOf headOf at this
 simp only[cond_false,List.append_nil,h4] at this
 simp only[show ¬ ((32:Nat)=1∧byteAt (cutIn t) 0<128)from by omega,if_false,List.length_append,h4] at this
 simpa using this.symm
theorem inlF_len {n:Nat} {t:List UInt8} (h:inlF n t=true):t.length<32:=by
 cases n with
 | zero=>simp[inlF] at h
 | succ n =>
   simp only[inlF,Bool.and_eq_true,decide_eq_true_eq] at h
   exact h.1
theorem inl_len {t:List UInt8} (h:inlB t=true):t.length<32:=inlF_len h
theorem behindI_over {r:Nat→List UInt8}: ∀ {n j:Nat},behindI r n≤(j:Int)→j<n→r j=[]
 | 0,_,_,h=>absurd h (Nat.not_lt_zero _)
 | n+1,j,h,hj=>by
   unfold behindI at h
   by_cases e:r n=[]
   ·rw[if_pos e] at h
    by_cases ej:j=n
    ·subst ej;exact e
    ·exact behindI_over h (by omega)
   ·rw[if_neg e] at h;omega
theorem mays_get {inl:List UInt8→Bool} {r:Nat→List UInt8}: ∀ {n j:Nat},mays inl r n=true→j<n→r j=[]∨mayW inl (r j)=true
 | 0,_,_,h=>absurd h (Nat.not_lt_zero _)
 | n+1,j,h,hj=>by
   simp only[mays,Bool.and_eq_true,Bool.or_eq_true,decide_eq_true_eq] at h
   by_cases ej:j=n
   ·subst ej;exact h.2
   ·exact mays_get h.1 (by omega)
theorem mays_not {inl:List UInt8→Bool} {r:Nat→List UInt8}: ∀ {n j:Nat},j<n→r j≠[]→mayW inl (r j)=false→mays inl r n=false
 | 0,_,h,_,_=>absurd h (Nat.not_lt_zero _)
 | n+1,j,hj,h0,h1=>by
   simp only[mays]
   by_cases ej:j=n
   ·subst ej
    rw[h1,show decide (r j=[])=false from decide_eq_false h0];simp
   ·rw[mays_not (n:=n) (by omega) h0 h1];rfl
theorem may_len {t:List UInt8} (h:mayW inlB t=true):t.length≤33:=by
 simp only[mayW,Bool.or_eq_true] at h
 rcases h with h | h
 ·have:=hash_len h;omega
 ·have:=inl_len h;omega
theorem path_len {x:Nd} {l:Int} (h:pathB x l=true):x.p.length≤12:=by
 simp only[pathB,Bool.and_eq_true,decide_eq_true_eq] at h
 omega
theorem leaf_parts {x:Nd} (h:leafB x=true):x.p.length≤12∧x.v≠[]∧x.v.length≤80∧∀ j,j<16→x.r j=[]:=by
 simp only[leafB,Bool.and_eq_true,Bool.not_eq_true',decide_eq_true_eq,decide_eq_false_iff_not] at h
 obtain⟨h1,h2,h3,h4⟩:=h
 exact⟨path_len h1,h2,by omega,fun j hj=>behindI_over (n:=16) (by omega) hj⟩
theorem ext_parts {x:Nd} {inl:List UInt8→Bool} (h:extW inl x=true):x.p.length≤12∧x.v=[]∧(∀ j,1≤j→j<16→x.r j=[])∧behindI x.r 16=1∧(hashB (x.r 0)=true∨(inl (x.r 0)=true∧(getD (x.r 0)).k=3)):=by
 simp only[extW,Bool.and_eq_true,Bool.or_eq_true,decide_eq_true_eq] at h
 obtain⟨h1,h2,h3,h4⟩:=h
 exact⟨path_len h1,h2,fun j h1 hj=>behindI_over (n:=16) (by omega) hj,h3,h4⟩
theorem branch_parts {x:Nd} {inl:List UInt8→Bool} (h:branchW inl x=true):x.p=[]∧x.v.length≤80∧mays inl x.r 16=true∧2≤min (x.v.length:Int) 1+fullN x.r 16:=by
 simp only[branchW,Bool.and_eq_true,decide_eq_true_eq] at h
 obtain⟨h1,h2,h3,h4⟩:=h
 exact⟨h1,by omega,h3,h4⟩
theorem none_parts {x:Nd} (h:noneB x=true):x.k=0∧x.p=[]∧x.v=[]∧∀ j,j<16→x.r j=[]:=by
 simp only[noneB,Bool.and_eq_true,decide_eq_true_eq,List.all_eq_true] at h
 exact⟨h.1,h.2.1,h.2.2.1,fun j hj=>h.2.2.2 j (List.mem_range.2 hj)⟩
theorem valid_cases {x:Nd} {inl:List UInt8→Bool} (h:validW inl x=true):(x.k=0∧noneB x=true)∨(x.k=1∧leafB x=true)∨(x.k=2∧extW inl x=true)∨(x.k=3∧branchW inl x=true):=by
 unfold validW at h
 split at h
 ·exact .inl ⟨by assumption,h⟩
 ·split at h
  ·exact .inr (.inl ⟨by assumption,h⟩)
  ·split at h
   ·exact .inr (.inr (.inl ⟨by assumption,h⟩))
   ·split at h
    ·exact .inr (.inr (.inr ⟨by assumption,h⟩))
    ·cases h
structure Nd.Short (x:Nd):Prop where
 k:0≤x.k∧x.k≤3
 p:x.p.length≤12
 v:x.v.length≤80
 r: ∀ j,j<16→x.r j=[]∨mayW inlB (x.r j)=true
theorem valid_short {x:Nd} (h:validB x=true):x.Short:=by
 rcases valid_cases h with ⟨hk,h⟩ | ⟨hk,h⟩ | ⟨hk,h⟩ | ⟨hk,h⟩
 ·obtain⟨_,h1,h2,h3⟩:=none_parts h
  exact⟨by omega,by rw[h1];simp,by rw[h2];simp,fun j hj=>.inl (h3 j hj)⟩
 ·obtain⟨h1,_,h2,h3⟩:=leaf_parts h
  exact⟨by omega,h1,h2,fun j hj=>.inl (h3 j hj)⟩
 ·obtain⟨h1,h2,h3,_,h4⟩:=ext_parts h
  refine⟨by omega,h1,by rw[h2];simp,fun j hj=> ?_⟩
  by_cases e:j=0
  ·subst e
   refine .inr ?_
   simp only[mayW,Bool.or_eq_true]
   exact h4.imp id fun h=>h.1
  ·exact .inl (h3 j (by omega) hj)
 ·obtain⟨h1,h2,h3,_⟩:=branch_parts h
  exact⟨by omega,by rw[h1];simp,h2,fun j hj=>mays_get h3 hj⟩
theorem Nd.Short.ref {x:Nd} (h:x.Short)(j:Nat)(hj:j<16):(x.r j).length≤33:=by
 rcases h.r j hj with h | h
 ·rw[h];simp
 ·exact may_len h
theorem Nd.Short.few {x:Nd} (h:x.Short):x.Few:=⟨by have:=h.p;omega,by have:=h.v;omega,fun j hj=>by have:=h.ref j hj;omega⟩
theorem mays_congr {f g:List UInt8→Bool} {r:Nat→List UInt8}: ∀ {n:Nat},(∀ j,j<n→r j≠[]→f (r j)=g (r j))→mays f r n=mays g r n
 | 0,_=>rfl
 | n+1,h=>by
   simp only[mays]
   rw[mays_congr fun j hj=>h j (by omega)]
   by_cases e:r n=[]
   ·simp[e]
   ·simp only[mayW,h n (by omega) e]
theorem valid_congr {f g:List UInt8→Bool} {x:Nd} (h: ∀ j,j<16→x.r j≠[]→f (x.r j)=g (x.r j)):validW f x=validW g x:=by
 have e3:branchW f x=branchW g x:=by simp only[branchW,mays_congr h]
 have e2:extW f x=extW g x:=by
  by_cases e:x.r 0=[]
  ·have hb:decide (behindI x.r 16=1)=false∨∃ j,1≤j∧j<16∧x.r j≠[]:=by
    by_cases hb:behindI x.r 16=1
    ·exfalso
     have hz: ∀ n,n≤16→(∀ j,j<n→x.r j=[])→behindI x.r n=0:=by
      intro n
      induction n with
      | zero=>intro _ _;rfl
      | succ n ih=>intro hn hj;rw[behindI,if_pos (hj n (by omega)),ih (by omega) fun j hj'=>hj j (by omega)]
     have:=hz 16 (by omega) fun j hj=>by
      by_cases e0:j=0
      ·subst e0;exact e
      ·exact behindI_over (n:=16) (by omega) hj
     omega
    ·exact .inl (decide_eq_false hb)
   by_cases hb:behindI x.r 16=1
   ·rcases ‹_∨_› with h1 | ⟨j,h1,h2,h3⟩
    ·exact absurd hb (of_decide_eq_false h1)
    ·exact absurd (behindI_over (n:=16) (by omega) h2) h3
   ·simp only[extW,hb,decide_false,Bool.false_and,Bool.and_false]
  ·simp only[extW,h 0 (by decide) e]
 simp only[validW,e2,e3]
theorem shape_list {s:List UInt8} (h:1≤shapeK s):cutB s=true∧cutL s=true∧cutRest s=[]∧shapeK s=listK (cutIn s):=by
 unfold shapeK at h ⊢
 split at h
 ·omega
 ·rename_i hs
  cases h1:cutB s<;>cases h2:cutL s<;>cases h3:decide (cutRest s=[])<;>simp only[h1,h2,h3,Bool.and_true,Bool.and_false,cond_false] at h<;>first
   | omega
   | exact⟨rfl,rfl,of_decide_eq_true h3,by rw[if_neg hs];rfl⟩
theorem refs_lt {s:List UInt8} (h:0≤shapeK s)(j:Nat)(hj:(getD s).r j≠[]):((getD s).r j).length<s.length:=by
 by_cases h1:1≤shapeK s
 ·obtain⟨g1,g2,_,_⟩:=shape_list h1
  have hl:=list_lt g1 g2
  have hit:=itemAt_le (cutIn s)
  have key: ∀(r:Nat→List UInt8),(∀ i,i<16→(r i).length≤(cutIn s).length)→(mk16 r j).length≤(cutIn s).length:=by
   intro r hr
   by_cases h16:j<16
   ·have:mk16 r j=r j:=getD16 r j h16
    rw[this];exact hr j h16
   ·have:mk16 r j=[]:=by
     unfold mk16 refs16
     rw[List.getD_eq_getElem?_getD,List.getElem?_eq_none (by simp;omega)];rfl
    rw[this];simp
  have e:((getD s).r j).length≤(cutIn s).length:=by
   unfold getD
   split
   ·exact key noRefs fun i hi=>by rw[show noRefs i=(fun _=>[]) i from getD16 (fun _=>[]) i hi];simp
   ·split
    ·refine key (oneRef (itemAt (cutIn s) 1)) fun i hi=> ?_
     have:oneRef (itemAt (cutIn s) 1) i=(fun i=>if i=0 then itemAt (cutIn s) 1 else []) i:=getD16 (fun i=>if i=0 then itemAt (cutIn s) 1 else []) i hi
     rw[this]
     show(if i=0 then itemAt (cutIn s) 1 else []).length≤_
     split
     ·exact hit 1
     ·simp
    ·split
     ·refine key (rdRef (cutIn s)) fun i _=> ?_
      unfold rdRef
      split
      ·simp
      ·exact hit i
     ·exact key noRefs fun i hi=>by rw[show noRefs i=(fun _=>[]) i from getD16 (fun _=>[]) i hi];simp
  omega
 ·exfalso
  apply hj
  have h0:shapeK s=0:=by omega
  unfold getD
  rw[if_neg (by omega),if_neg (by omega),if_neg (by omega)]
  show noRefs j=[]
  by_cases h16:j<16
  ·exact getD16 (fun _=>[]) j h16
  ·unfold noRefs refs16
   rw[List.getD_eq_getElem?_getD,List.getElem?_eq_none (by simp;omega)];rfl
theorem getW_congr {f g:List UInt8→Bool} {t:List UInt8} (h: ∀ r:List UInt8,r.length<t.length→f r=g r):getW f t=getW g t:=by
 unfold getW
 by_cases h0:0≤shapeK t
 ·rw[valid_congr (f:=f) (g:=g) fun j _ hr=>h _ (refs_lt h0 j hr)]
 ·rw[decide_eq_false h0];rfl
theorem inlF_fuel: ∀(n m:Nat)(t:List UInt8),t.length<n→t.length<m→inlF n t=inlF m t
 | 0,_,_,h,_=>absurd h (Nat.not_lt_zero _)
 | _,0,_,_,h=>absurd h (Nat.not_lt_zero _)
 | n+1,m+1,t,hn,hm=>by
   simp only[inlF]
   rw[getW_congr (t:=t) fun r hr=>inlF_fuel n m r (by omega) (by omega)]
theorem inl_eq (t:List UInt8):inlB t=(decide (t.length<32)&&(getB' t&& !decide ((getD t).k=0))):=by
 by_cases h:t.length<32
 ·unfold inlB getB'
  rw[show inlF 32 t=(decide (t.length<32)&&(getW (inlF 31) t&& !decide ((getD t).k=0)))from rfl]
  rw[getW_congr (t:=t) (f:=inlF 31) (g:=inlB) fun r hr=>inlF_fuel 31 32 r (by omega) (by omega)]
 ·rw[decide_eq_false h,Bool.false_and]
  exact Bool.eq_false_iff.2 fun h'=>h (inl_len h')
end Go.Proofs.YtoalfimkkibpdaaGreatDoor
namespace Go.Proofs.YtoalfimkkibpdaaGreatDoor
open Go Sx
set_option maxRecDepth 20000
theorem nd_ok {f:FuncId} {fn:Func} (hf:Tryz.prog.funcs[f]?=some fn)(hn:(fn.name== "runtime.NumGoroutine")=false)(hb:fn.body.isSome=true) {g:Nd→Option (Prop×SV)}
  (H: ∀ x p v,g x=some (p,v)→p→∃ cfg args',Sx.Good Tryz.prog cfg∧(∀ E,SV.vals E args'=SV.vals E [x.sv])∧SV.wfs 0 args'=true∧v.wf 0=true∧Holds (runP cfg f fn args' (fun u=>sameVal u v))):CallOk Tryz.prog f (purePT (ndSpec g)):=by
 refine pure_of_ans (ansW_ok (n:=20) hf hn hb ?_)
 intro args p a h hp
 obtain⟨⟨p0,v0⟩,hq,hpa⟩:=Option.map_eq_some_iff.1 h
 obtain⟨x,hx,hg⟩:=ndSpec_eq hq
 subst hx
 injection hpa with h1 h2;subst h1;subst h2
 obtain⟨cfg,args',c1,c2,c3,c4,c5⟩:=H x _ _ hg hp
 exact⟨cfg,args',c1,c2,c3,c4,c5⟩
theorem Nd.Few.kind {x:Nd} (h:x.Few)(k:Int):Nd.Few {k:=k,p:=x.p,v:=x.v,r:=fun(i:Nat)=>[x.r 0,x.r 1,x.r 2,x.r 3,x.r 4,x.r 5,x.r 6,x.r 7,x.r 8,x.r 9,x.r 10,x.r 11,x.r 12,x.r 13,x.r 14,x.r 15].getD i []} :=
 ⟨h.p,h.v,fun j hj=>by show([x.r 0,x.r 1,x.r 2,x.r 3,x.r 4,x.r 5,x.r 6,x.r 7,x.r 8,x.r 9,x.r 10,x.r 11,x.r 12,x.r 13,x.r 14,x.r 15].getD j []).length≤1000;rw[getD16 x.r j hj];exact h.r j hj⟩
theorem svL_vals (x:Nd) {k:Int} (h:x.k=k)(E:Nat→Nat):SV.vals E [x.svL true k]=SV.vals E [x.sv]:=by
 subst h;rfl
theorem kinds4 {k:Int} (h:0≤k∧k≤3):k=0∨k=1∨k=2∨k=3:=by omega
theorem ndtext_ok:CallOk Tryz.prog 161 (purePT (ndSpec fun x=>some ((0≤x.k∧x.k≤3)∧x.Few,.str false (putT x)))):=by
 refine nd_ok Tryz.func161 (by kernel_rfl) (by kernel_rfl) fun x p v h hp=> ?_
 injection h with h;injection h with h1 h2;subst h1;subst h2
 obtain⟨hk,hf⟩:=hp
 rcases kinds4 hk with e | e | e | e
 ·exact⟨cfgN4,[x.svL true 0],goodN4,svL_vals x e,rfl,rfl,Holds.of_eq (vcText0 x _) ⟨trivial,fun E=>by rw[putT,if_pos e]⟩⟩
 ·exact⟨cfgN4,[x.svL true 1],goodN4,svL_vals x e,rfl,rfl,Holds.of_eq (vcText1 x _) ⟨hf.kind 1,fun E=>by rw[putT,if_neg (by omega),if_pos e];rfl⟩⟩
 ·exact⟨cfgN4,[x.svL true 2],goodN4,svL_vals x e,rfl,rfl,Holds.of_eq (vcText2 x _) ⟨hf.kind 2,fun E=>by rw[putT,if_neg (by omega),if_neg (by omega),if_pos e];rfl⟩⟩
 ·exact⟨cfgN4,[x.svL true 3],goodN4,svL_vals x e,rfl,rfl,Holds.of_eq (vcText3 x _) ⟨hf.kind 3,fun E=>by rw[putT,if_neg (by omega),if_neg (by omega),if_neg (by omega)];rfl⟩⟩
section
variable {L : Nat} (hI : CallOk Tryz.prog 136 (ansPT (inlSpec L)))
include hI
theorem listN6_ok:SummOk Tryz.prog (fun f=>lookPT f (listN6 L)):=.cons hI (ansPT_mono _) listN5_ok
theorem goodN6:Sx.Good Tryz.prog (cfgN6 L):=⟨mixes,listN6_ok hI,fns_ok⟩
theorem goodBr (x:Nd):Sx.Good Tryz.prog (cfgBr L x):=⟨mixes,listN6_ok hI,fns_ok⟩
theorem ext_ok:CallOk Tryz.prog 184 (purePT (ndSpec fun x=>some (Rel L (x.r 0),.bool false (extW inlB x)))):=by
 refine nd_ok Tryz.func184 (by kernel_rfl) (by kernel_rfl) fun x p v h hp=> ?_
 injection h with h;injection h with h1 h2;subst h1;subst h2
 refine⟨cfgN6 L,[x.sv],goodN6 hI,fun E=>rfl,rfl,rfl,Holds.of_eq (vcExt L x _) ?_⟩
 have e:pathB {k:=x.k,p:=x.p,v:=x.v,r:=fun(i:Nat)=>[x.r 0,x.r 1,x.r 2,x.r 3,x.r 4,x.r 5,x.r 6,x.r 7,x.r 8,x.r 9,x.r 10,x.r 11,x.r 12,x.r 13,x.r 14,x.r 15].getD i []:Nd} 1=pathB x 1:=rfl
 rw[e,behindI_congr (getD16 x.r)]
 unfold extW
 have nn: ∀ {b:Bool},(!b)=true→b=false:=fun h=>by simpa using h
 have nf: ∀ {b:Bool},(!b)=false→b=true:=fun h=>by simpa using h
 refine⟨trivial,fun a=>bool_eq ?_,fun a=>⟨fun b=>bool_eq ?_,fun b=>⟨trivial,fun c=>bool_eq ?_,fun c=>⟨hp.2,fun d=>bool_eq ?_,fun d=>⟨hp,fun f=>bool_eq ?_,fun f=>bool_eq ?_⟩⟩⟩⟩⟩
 ·rw[nn a];rfl
 ·rw[nf a,nn b];rfl
 ·rw[nf a,nf b,nn c];rfl
 ·rw[nf a,nf b,nf c,d];rfl
 ·rw[nf a,nf b,nf c,d,f];rfl
 ·rw[nf a,nf b,nf c,d,f];rfl
theorem branch_ok:CallOk Tryz.prog 185 (purePT (ndSpec fun x=>some (RelR L x.r,.bool false (branchW inlB x)))):=by
 refine nd_ok Tryz.func185 (by kernel_rfl) (by kernel_rfl) fun x p v h hp=> ?_
 injection h with h;injection h with h1 h2;subst h1;subst h2
 have hp:RelR L x.r:=hp
 refine⟨cfgBr L x,[x.sv],goodBr hI x,fun E=>rfl,rfl,rfl,Holds.of_eq (vcBranch L x _) ?_⟩
 have nn: ∀ {b:Bool},(!b)=true→b=false:=fun h=>by simpa using h
 have nf: ∀ {b:Bool},(!b)=false→b=true:=fun h=>by simpa using h
 refine⟨fun a=>bool_eq ?_,fun a=>⟨fun b=>bool_eq ?_,fun b R=>⟨⟨0,⟨by omega,rfl⟩,rfl,cell1 (by simp[fullN]),SBle.refl _,SBle.refl _,SBle.refl _,SBle.refl _,trivial⟩,fun i hi=>⟨fun c=> ?_,fun c=> ?_⟩⟩⟩⟩
 ·unfold branchW;rw[nn a];rfl
 ·have b:=of_decide_eq_true b
  unfold branchW;rw[nf a,decide_eq_false (show ¬ (x.v.length:Int)≤80 by omega)];rfl
 ·have c:=of_decide_eq_true c
  have ei:i<16:=by omega
  rw[Int.toNat_natCast,sel16 x.r ei]
  have hr:=hp i ei
  have hfn:0≤fullN x.r i∧fullN x.r i≤i:=by
   have: ∀ n,0≤fullN x.r n∧fullN x.r n≤n:=by
    intro n
    induction n with
    | zero=>exact⟨Int.le_refl _,Int.le_refl _⟩
    | succ n ih=>unfold fullN;split<;>omega
   exact this i
  refine⟨by omega,fun d=> ?_,fun d=> ?_⟩
  ·have d: ¬ x.r i=[]:=of_decide_eq_false (nn d)
   have step:fullN x.r (i+1)=fullN x.r i+1:=by rw[fullN,if_neg d]
   refine⟨rfl,hr.2,fun f=>⟨by omega,by omega,i+1,⟨⟨by omega,?_⟩,by omega⟩,by omega,cell1 (by omega),SBle.refl _,SBle.refl _,SBle.refl _,SBle.refl _,trivial⟩,fun f=>⟨hr,fun g=>⟨by omega,by omega,i+1,⟨⟨by omega,?_⟩,by omega⟩,by omega,cell1 (by omega),SBle.refl _,SBle.refl _,SBle.refl _,SBle.refl _,trivial⟩,fun g=>bool_eq ?_⟩⟩
   ·simp only[mays,hi.2,mayW,f,Bool.true_or,Bool.or_true,Bool.and_true]
   ·simp only[mays,hi.2,mayW,g,Bool.or_true,Bool.and_true]
   ·have hm:mays inlB x.r 16=false:=mays_not ei d (by rw[mayW,f,g];rfl)
    unfold branchW
    rw[hm];simp
  ·have d:x.r i=[]:=of_decide_eq_true (nf d)
   have step:fullN x.r (i+1)=fullN x.r i:=by rw[fullN,if_pos d]
   refine⟨by omega,i+1,⟨⟨by omega,?_⟩,by omega⟩,by omega,cell1 (by omega),SBle.refl _,SBle.refl _,SBle.refl _,SBle.refl _,trivial⟩
   simp only[mays,hi.2,d,decide_true,Bool.true_or,Bool.and_true]
 ·have c:=of_decide_eq_false c
  have hi1:=hi.1
  have e:i=16:=by omega
  subst e
  have b:=of_decide_eq_false b
  refine bool_eq ?_
  unfold branchW
  rw[nf a,hi.2,decide_eq_true (show(x.v.length:Int)≤80 by omega)];rfl
theorem listN7_ok:SummOk Tryz.prog (fun f=>lookPT f (listN7 L)):=.cons (ext_ok hI) (purePT_mono _) (.cons (branch_ok hI) (purePT_mono _) listN5_ok)
theorem goodN7:Sx.Good Tryz.prog (cfgN7 L):=⟨mixes,listN7_ok hI,fns_ok⟩
theorem ndvalid_ok:CallOk Tryz.prog 160 (purePT (ndSpec fun x=>some (RelR L x.r,.bool false (validB x)))):=by
 refine nd_ok Tryz.func160 (by kernel_rfl) (by kernel_rfl) fun x p v h hp=> ?_
 injection h with h;injection h with h1 h2;subst h1;subst h2
 have hp:RelR L x.r:=hp
 by_cases hk:0≤x.k∧x.k≤3
 ·have hm:RelR L (fun(i:Nat)=>[x.r 0,x.r 1,x.r 2,x.r 3,x.r 4,x.r 5,x.r 6,x.r 7,x.r 8,x.r 9,x.r 10,x.r 11,x.r 12,x.r 13,x.r 14,x.r 15].getD i []):=fun j hj=>by
   show Rel L ([x.r 0,x.r 1,x.r 2,x.r 3,x.r 4,x.r 5,x.r 6,x.r 7,x.r 8,x.r 9,x.r 10,x.r 11,x.r 12,x.r 13,x.r 14,x.r 15].getD j [])
   rw[getD16 x.r j hj];exact hp j hj
  rcases kinds4 hk with e | e | e | e
  ·refine⟨cfgN7 L,[x.svL true 0],goodN7 hI,svL_vals x e,rfl,rfl,Holds.of_eq (vcValid0 L x _) ⟨trivial,bool_eq ?_⟩⟩
   rw[validB,validW,if_pos e]
   unfold noneB
   rw[e]
   congr 3
  ·refine⟨cfgN7 L,[x.svL true 1],goodN7 hI,svL_vals x e,rfl,rfl,Holds.of_eq (vcValid1 L x _) ⟨trivial,bool_eq ?_⟩⟩
   rw[validB,validW,if_neg (by omega),if_pos e]
   unfold leafB
   rw[behindI_congr (getD16 x.r)];rfl
  ·refine⟨cfgN7 L,[x.svL true 2],goodN7 hI,svL_vals x e,rfl,rfl,Holds.of_eq (vcValid2 L x _) ⟨hp 0 (by decide),bool_eq ?_⟩⟩
   rw[validB,validW,if_neg (by omega),if_neg (by omega),if_pos e]
   unfold extW
   rw[behindI_congr (getD16 x.r)];rfl
  ·refine⟨cfgN7 L,[x.svL true 3],goodN7 hI,svL_vals x e,rfl,rfl,Holds.of_eq (vcValid3 L x _) ⟨hm,bool_eq ?_⟩⟩
   rw[validB,validW,if_neg (by omega),if_neg (by omega),if_neg (by omega),if_pos e]
   unfold branchW
   have e1: ∀ n,n≤16→mays inlB (fun(i:Nat)=>[x.r 0,x.r 1,x.r 2,x.r 3,x.r 4,x.r 5,x.r 6,x.r 7,x.r 8,x.r 9,x.r 10,x.r 11,x.r 12,x.r 13,x.r 14,x.r 15].getD i []) n=mays inlB x.r n∧fullN (fun(i:Nat)=>[x.r 0,x.r 1,x.r 2,x.r 3,x.r 4,x.r 5,x.r 6,x.r 7,x.r 8,x.r 9,x.r 10,x.r 11,x.r 12,x.r 13,x.r 14,x.r 15].getD i []) n=fullN x.r n:=by
    intro n
    induction n with
    | zero=>intro _;exact⟨rfl,rfl⟩
    | succ n ih =>
      intro hn
      obtain⟨i1,i2⟩:=ih (by omega)
      have g:=getD16 x.r n (by omega)
      simp only[mays,fullN,i1,i2,g,and_self]
   obtain⟨i1,i2⟩:=e1 16 (by omega)
   rw[i1,i2]
 ·refine⟨cfgN7 L,[x.sv],goodN7 hI,fun E=>rfl,rfl,rfl,Holds.of_eq (vcValidS L x _) ?_⟩
  have hv:validB x=false:=by rw[validB,validW,if_neg (by omega),if_neg (by omega),if_neg (by omega),if_neg (by omega)]
  rw[hv]
  exact⟨fun _ _=>rfl,fun a=>⟨fun _ _=>rfl,fun b=>absurd ⟨by have:=of_decide_eq_false a;omega,by have:=of_decide_eq_false b;omega⟩ hk⟩⟩
theorem listN8_ok:SummOk Tryz.prog (fun f=>lookPT f (listN8 L)):=.cons (ndvalid_ok hI) (purePT_mono _) (.cons ndtext_ok (purePT_mono _) listN5_ok)
theorem goodN8:Sx.Good Tryz.prog (cfgN8 L):=⟨mixes,listN8_ok hI,fns_ok⟩
end
end Go.Proofs.YtoalfimkkibpdaaGreatDoor
namespace Go.Proofs.YtoalfimkkibpdaaGreatDoor
open Go Sx
set_option maxRecDepth 20000
theorem shape_nil: ¬ 0≤shapeK []:=by decide
theorem get_fit {L:Nat} {s:List UInt8} {X:Nd} (hX:getD s=X)(hk:0≤shapeK s)(hr:RelR L X.r) {V N:SV} (hV:sameVal V (.tup [X.sv,.int .i64 true 0]))(hN:sameVal N (.tup [zeroN,.int .i64 true 2])) :
  RelR L X.r∧((!validB X)=true→(getB' s=true→sameVal N (.tup [(getD s).sv,.int .i64 true 0]))∧(getB' s=false→sameVal N (.tup [zeroN,.int .i64 true 2]))) ∧
   ((!validB X)=false→((0≤X.k∧X.k≤3)∧X.Few)∧((!decide (putT X=s))=true→(getB' s=true→sameVal N (.tup [(getD s).sv,.int .i64 true 0]))∧(getB' s=false→sameVal N (.tup [zeroN,.int .i64 true 2]))) ∧
    ((!decide (putT X=s))=false→(getB' s=true→sameVal V (.tup [(getD s).sv,.int .i64 true 0]))∧(getB' s=false→sameVal V (.tup [zeroN,.int .i64 true 2])))):=by
 have hB:getB' s=(validB X&&decide (putT X=s)):=by
  unfold getB' getW
  rw[hX,decide_eq_true hk];rfl
 refine⟨hr,fun a=> ?_,fun a=> ?_⟩
 ·have a:validB X=false:=by simpa using a
  rw[hB,a]
  exact⟨(fun h=>by cases h),fun _=>hN⟩
 ·have a:validB X=true:=by simpa using a
  have hs:=valid_short a
  refine⟨⟨hs.k,hs.few⟩,fun b=> ?_,fun b=> ?_⟩
  ·have b:decide (putT X=s)=false:=by simpa using b
   rw[hB,a,b]
   exact⟨(fun h=>by cases h),fun _=>hN⟩
  ·have b:decide (putT X=s)=true:=by simpa using b
   rw[hB,a,b,hX]
   exact⟨fun _=>hV,fun h=>by cases h⟩
attribute [local irreducible] itemAt cutIn ngetP cutB cutRest rdRef
theorem lit_0:({k:=0,p:=[],v:=[],r:=fun(i:Nat)=>[[],[],[],[],[],[],[],[],[],[],[],[],[],[],[],[]].getD i []}:Nd)=zeroNd:=rfl
theorem litR_0:(fun(i:Nat)=>[[],[],[],[],[],[],[],[],[],[],[],[],[],[],[],[]].getD i [])=(zeroNd).r:=rfl
theorem lit_1 (s:List UInt8):({k:=1,p:=ngetP (cutIn (itemAt (cutIn s) 0)),v:=cutIn (itemAt (cutIn s) 1),r:=fun(i:Nat)=>[noRefs 0,noRefs 1,noRefs 2,noRefs 3,noRefs 4,noRefs 5,noRefs 6,noRefs 7,noRefs 8,noRefs 9,noRefs 10,noRefs 11,noRefs 12,noRefs 13,noRefs 14,noRefs 15].getD i []}:Nd)=rdLeaf s:=rfl
theorem litR_1 (s:List UInt8):(fun(i:Nat)=>[noRefs 0,noRefs 1,noRefs 2,noRefs 3,noRefs 4,noRefs 5,noRefs 6,noRefs 7,noRefs 8,noRefs 9,noRefs 10,noRefs 11,noRefs 12,noRefs 13,noRefs 14,noRefs 15].getD i [])=(rdLeaf s).r:=rfl
theorem lit_2 (s:List UInt8):({k:=2,p:=ngetP (cutIn (itemAt (cutIn s) 0)),v:=[],r:=fun(i:Nat)=>[oneRef (itemAt (cutIn s) 1) 0,oneRef (itemAt (cutIn s) 1) 1,oneRef (itemAt (cutIn s) 1) 2,oneRef (itemAt (cutIn s) 1) 3,oneRef (itemAt (cutIn s) 1) 4,oneRef (itemAt (cutIn s) 1) 5,oneRef (itemAt (cutIn s) 1) 6,oneRef (itemAt (cutIn s) 1) 7,oneRef (itemAt (cutIn s) 1) 8,oneRef (itemAt (cutIn s) 1) 9,oneRef (itemAt (cutIn s) 1) 10,oneRef (itemAt (cutIn s) 1) 11,oneRef (itemAt (cutIn s) 1) 12,oneRef (itemAt (cutIn s) 1) 13,oneRef (itemAt (cutIn s) 1) 14,oneRef (itemAt (cutIn s) 1) 15].getD i []}:Nd)=rdExt s:=rfl
theorem litR_2 (s:List UInt8):(fun(i:Nat)=>[oneRef (itemAt (cutIn s) 1) 0,oneRef (itemAt (cutIn s) 1) 1,oneRef (itemAt (cutIn s) 1) 2,oneRef (itemAt (cutIn s) 1) 3,oneRef (itemAt (cutIn s) 1) 4,oneRef (itemAt (cutIn s) 1) 5,oneRef (itemAt (cutIn s) 1) 6,oneRef (itemAt (cutIn s) 1) 7,oneRef (itemAt (cutIn s) 1) 8,oneRef (itemAt (cutIn s) 1) 9,oneRef (itemAt (cutIn s) 1) 10,oneRef (itemAt (cutIn s) 1) 11,oneRef (itemAt (cutIn s) 1) 12,oneRef (itemAt (cutIn s) 1) 13,oneRef (itemAt (cutIn s) 1) 14,oneRef (itemAt (cutIn s) 1) 15].getD i [])=(rdExt s).r:=rfl
theorem lit_3 (s:List UInt8):({k:=3,p:=[],v:=cutIn (itemAt (cutIn s) 16),r:=fun(i:Nat)=>[mk16 (rdRef (cutIn s)) 0,mk16 (rdRef (cutIn s)) 1,mk16 (rdRef (cutIn s)) 2,mk16 (rdRef (cutIn s)) 3,mk16 (rdRef (cutIn s)) 4,mk16 (rdRef (cutIn s)) 5,mk16 (rdRef (cutIn s)) 6,mk16 (rdRef (cutIn s)) 7,mk16 (rdRef (cutIn s)) 8,mk16 (rdRef (cutIn s)) 9,mk16 (rdRef (cutIn s)) 10,mk16 (rdRef (cutIn s)) 11,mk16 (rdRef (cutIn s)) 12,mk16 (rdRef (cutIn s)) 13,mk16 (rdRef (cutIn s)) 14,mk16 (rdRef (cutIn s)) 15].getD i []}:Nd)=rdBranch s:=rfl
theorem litR_3 (s:List UInt8):(fun(i:Nat)=>[mk16 (rdRef (cutIn s)) 0,mk16 (rdRef (cutIn s)) 1,mk16 (rdRef (cutIn s)) 2,mk16 (rdRef (cutIn s)) 3,mk16 (rdRef (cutIn s)) 4,mk16 (rdRef (cutIn s)) 5,mk16 (rdRef (cutIn s)) 6,mk16 (rdRef (cutIn s)) 7,mk16 (rdRef (cutIn s)) 8,mk16 (rdRef (cutIn s)) 9,mk16 (rdRef (cutIn s)) 10,mk16 (rdRef (cutIn s)) 11,mk16 (rdRef (cutIn s)) 12,mk16 (rdRef (cutIn s)) 13,mk16 (rdRef (cutIn s)) 14,mk16 (rdRef (cutIn s)) 15].getD i [])=(rdBranch s).r:=rfl
theorem shape_le (s:List UInt8):shapeK s≤3:=by
 have hp:pairK (cutIn s)≤3:=by
  unfold pairK
  cases (plainB (itemAt (cutIn s) 0)&&ngetB (cutIn (itemAt (cutIn s) 0)))<;>cases ngetLeaf (cutIn (itemAt (cutIn s) 0))<;>cases plainB (itemAt (cutIn s) 1)<;>decide
 have hl:listK (cutIn s)≤3:=by
  unfold listK
  cases itemsB (cutIn s)with
  | false=>show(-1:Int)≤3;decide
  | true =>
    simp only[cond_true]
    split
    ·exact hp
    ·split
     ·cases plainB (itemAt (cutIn s) 16)<;>decide
     ·decide
 unfold shapeK
 split
 ·decide
 ·cases (cutB s&&(cutL s&&decide (cutRest s=[])))with
  | false=>show(-1:Int)≤3;decide
  | true=>exact hl
theorem get_no {s:List UInt8} (hk: ¬ 0≤shapeK s):getB' s=false:=by
 unfold getB' getW
 rw[decide_eq_false hk];rfl
theorem rel_lt {L:Nat} {s:List UInt8} (hs:s.length≤L∧s.length<1099511627776)(hk:0≤shapeK s):RelR L (getD s).r:=by
 intro j _
 by_cases e:(getD s).r j=[]
 ·rw[e]
  have hp:0<s.length:=by
   cases s with
   | nil=>exact absurd hk shape_nil
   | cons a r=>simp
  exact⟨.inl (by simp;omega),by simp⟩
 ·have:=refs_lt hk j e
  exact⟨.inl (by omega),by omega⟩
section
variable {L : Nat} (hI : CallOk Tryz.prog 136 (ansPT (inlSpec L)))
include hI
theorem nodeGet_ok:CallOk Tryz.prog 130 (ansPT (getSpec' L)):=by
 refine ans_ok (n:=20) (fn:=Tryz.f130) Tryz.func130 (by kernel_rfl) (by kernel_rfl) ?_
 intro args p a h hp
 unfold getSpec' at h
 split at h
 ·rename_i s
  injection h with h;injection h with h1 h2;subst h1;subst h2
  refine⟨cfgN8 L,goodN8 hI,rfl,fun b=>by cases b<;>exact rfl,Holds.of_eq (vcNodeGet L s) ?_⟩
  have hp:s.length≤L∧s.length<1099511627776:=hp
  have hN:sameVal (SV.tup [zeroN,.int .i64 true 2]) (.tup [zeroN,.int .i64 true 2]):=fun _=>rfl
  refine⟨hp.2,fun a=> ?_,fun a=>⟨fun b=> ?_,fun b=>⟨fun c=> ?_,fun c=>⟨fun d=> ?_,fun d=> ?_⟩⟩⟩⟩
  ·have a:shapeK s=0:=of_decide_eq_true a
   have hX:getD s=zeroNd:=by unfold getD;rw[if_neg (by omega),if_neg (by omega),if_neg (by omega)]
   have hr:=rel_lt hp (by omega:0≤shapeK s)
   rw[hX] at hr
   rw[lit_0,litR_0]
   exact get_fit (L:=L) (X:=zeroNd) hX (by omega) hr (V:=.tup [zeroN,.int .i64 true 0]) (fun _=>rfl) hN
  ·have b:shapeK s=1:=of_decide_eq_true b
   have hX:getD s=rdLeaf s:=by unfold getD;rw[if_pos b]
   have hr:=rel_lt hp (by omega:0≤shapeK s)
   rw[hX] at hr
   rw[lit_1 s,litR_1 s]
   exact get_fit (L:=L) (X:=rdLeaf s) hX (by omega) hr (V:=.tup [(rdLeaf s).svL true 1,.int .i64 true 0]) (fun _=>rfl) hN
  ·have c:shapeK s=2:=of_decide_eq_true c
   have hX:getD s=rdExt s:=by unfold getD;rw[if_neg (by omega),if_pos c]
   have hr:=rel_lt hp (by omega:0≤shapeK s)
   rw[hX] at hr
   rw[lit_2 s,litR_2 s]
   exact get_fit (L:=L) (X:=rdExt s) hX (by omega) hr (V:=.tup [(rdExt s).svL true 2,.int .i64 true 0]) (fun _=>rfl) hN
  ·have d:shapeK s=3:=of_decide_eq_true d
   have hX:getD s=rdBranch s:=by unfold getD;rw[if_neg (by omega),if_neg (by omega),if_pos d]
   have hr:=rel_lt hp (by omega:0≤shapeK s)
   rw[hX] at hr
   rw[lit_3 s,litR_3 s]
   exact get_fit (L:=L) (X:=rdBranch s) hX (by omega) hr (V:=.tup [(rdBranch s).svL true 3,.int .i64 true 0]) (fun _=>rfl) hN
  ·have a:=of_decide_eq_false a
   have b:=of_decide_eq_false b
   have c:=of_decide_eq_false c
   have d:=of_decide_eq_false d
   have hk: ¬ 0≤shapeK s:=fun h0=>by
    have:=shape_le s
    omega
   exact fun x=>⟨(fun h=>by rw[get_no hk] at h;cases h),fun _=>hN⟩
 ·cases h
theorem inline_ok:CallOk Tryz.prog 136 (ansPT (inlSpec (L+1))):=by
 refine ans_ok (n:=20) (fn:=Tryz.f136) Tryz.func136 (by kernel_rfl) (by kernel_rfl) ?_
 intro args p a h hp
 unfold inlSpec at h
 split at h
 ·rename_i t
  injection h with h;injection h with h1 h2;subst h1;subst h2
  refine⟨cfgN9 L,⟨mixes,SummOk.cons (nodeGet_ok hI) (ansPT_mono _) listN5_ok,fns_ok⟩,rfl,fun b=>by cases b<;>exact rfl,Holds.of_eq (vcInline L t) ?_⟩
  have hp:Rel (L+1) t:=hp
  have hN:sameVal (SV.tup [zeroN,.bool true false]) (.tup [zeroN,.bool true false]):=fun _=>rfl
  refine⟨fun a=>⟨fun b=> ?_,fun _=>hN⟩,fun a=>⟨?_,fun b=>⟨fun c=>⟨fun d=> ?_,fun _=>hN⟩,fun c=>⟨fun d=>fun _=>rfl,fun d=> ?_⟩⟩,fun b=>⟨fun d=> ?_,fun _=>hN⟩⟩⟩
  ·have a:=of_decide_eq_true a
   have:=inl_len b
   omega
  ·have a:=of_decide_eq_false a
   rcases hp.1 with h | h<;>omega
  ·rw[inl_eq,c] at d
   simp at d
  ·have a:=of_decide_eq_false a
   rw[inl_eq,b,c,decide_eq_true (show t.length<32 by omega)] at d
   simp at d
  ·rw[inl_eq,b] at d
   simp at d
 ·cases h
end
theorem inline_0:CallOk Tryz.prog 136 (ansPT (inlSpec 0)):=by
 refine ans_ok (n:=20) (fn:=Tryz.f136) Tryz.func136 (by kernel_rfl) (by kernel_rfl) ?_
 intro args p a h hp
 unfold inlSpec at h
 split at h
 ·rename_i t
  injection h with h;injection h with h1 h2;subst h1;subst h2
  have hp:Rel 0 t:=hp
  have h32:32≤t.length:=by rcases hp.1 with h | h;exact absurd h (Nat.not_lt_zero _);exact h
  refine⟨cfgNo,goodNo,rfl,fun b=>by cases b<;>exact rfl,Holds.of_eq (vcInline0 t) ?_⟩
  have hN:sameVal (SV.tup [zeroN,.bool true false]) (.tup [zeroN,.bool true false]):=fun _=>rfl
  refine⟨fun a=>⟨fun b=> ?_,fun _=>hN⟩,fun a=> ?_⟩
  ·have:=inl_len b
   omega
  ·have a:=of_decide_eq_false a
   omega
 ·cases h
theorem inline_all: ∀ L,CallOk Tryz.prog 136 (ansPT (inlSpec L))
 | 0=>inline_0
 | L+1=>inline_ok (inline_all L)
end Go.Proofs.YtoalfimkkibpdaaGreatDoor
namespace Go.Proofs.YtoalfimkkibpdaaGreatDoor.Sx
open Go
theorem SatM.swap {Γ E m nx w} (h:SatM Γ E m nx w) {j:Nat} {X Y:SB} (hX:m.get j=some X)(hle:SBle X Y):SatM Γ E (m.put j Y) nx w:=by
 refine⟨fun i Z hi hz=> ?_,fun i i' Z Z' hi hz hi' hz' hr e=> ?_,fun i Z hi=> ?_,fun i Z hi hz hr=> ?_,h.ext,h.cx,h.kp⟩
 ·rcases Mem.get_put hi with ⟨rfl,rfl,_⟩ | ⟨_,hi⟩
  ·obtain⟨h1,h2,_⟩:=hle hz
   obtain⟨o,ho,hb⟩:=h.blk i X hX h1
   exact⟨o,ho,h2 E o hb⟩
  ·exact h.blk i Z hi hz
 ·rcases Mem.get_put hi with ⟨e1,e3,_⟩ | ⟨_,hi1⟩<;>rcases Mem.get_put hi' with ⟨e2,e4,_⟩ | ⟨_,hi2⟩
  ·exact e1.trans e2.symm
  ·subst e1;subst e3;exact h.inj _ _ _ _ hX (hle hz).1 hi2 hz' (hr.imp (hle hz).2.2 id) e
  ·subst e2;subst e4;exact h.inj _ _ _ _ hi1 hz hX (hle hz').1 (hr.imp id (hle hz').2.2) e
  ·exact h.inj _ _ _ _ hi1 hz hi2 hz' hr e
 ·rcases Mem.get_put hi with ⟨rfl,_,_⟩ | ⟨_,hi⟩
  ·exact h.lt _ _ hX
  ·exact h.lt _ _ hi
 ·rcases Mem.get_put hi with ⟨rfl,rfl,_⟩ | ⟨_,hi⟩
  ·obtain⟨h1,_,h3⟩:=hle hz
   exact h.own _ _ hX h1 (h3 hr)
  ·exact h.own _ _ hi hz hr
def rekey (k:Nat):SV→Option SV
 | .ptr j l o=>(match Nat.beq j k with
   | true=>some (.ptr 0 l o)
   | false=>none)
 | .slc j o n l c=>(match Nat.beq j k with
   | true=>some (.slc 0 o n l c)
   | false=>none)
 | .int a _ n=>some (.int a false n)
 | .bool _ b=>some (.bool false b)
 | .str _ s=>some (.str false s)
 | _=>none
def rekeys (k:Nat):List SV→Option (List SV)
 | []=>some []
 | v::r=>(match rekey k v,rekeys k r with
   | some x,some l=>some (x::l)
   | _,_=>none)
theorem rekey_val {k:Nat} {E:Nat→Nat} {v u:SV} (h:rekey k v=some u):u.val (fun _=>E k)=v.val E∧u.wf 1=true:=by
 unfold rekey at h
 split at h<;>first
  | cases h;done
  | (injection h with h;subst h;exact⟨rfl,rfl⟩)
  | skip
 ·split at h
  ·rename_i e
   injection h with h;subst h
   have e:=Nat.eq_of_beq_eq_true e
   subst e
   exact⟨rfl,rfl⟩
  ·cases h
 ·split at h
  ·rename_i e
   injection h with h;subst h
   have e:=Nat.eq_of_beq_eq_true e
   subst e
   exact⟨rfl,rfl⟩
  ·cases h
theorem rekeys_val {k:Nat} {E:Nat→Nat}: ∀ {l r:List SV},rekeys k l=some r→SV.vals (fun _=>E k) r=SV.vals E l∧SV.wfs 1 r=true
 | [],r,h=>by injection h with h;subst h;exact⟨rfl,rfl⟩
 | v::l,r,h=>by
   unfold rekeys at h
   split at h
   ·rename_i x l' hx hl
    injection h with h;subst h
    obtain⟨g1,g2⟩:=rekey_val (E:=E) hx
    obtain⟨g3,g4⟩:=rekeys_val (E:=E) hl
    exact⟨by simp only[SV.vals,g1,g3],by simp only[SV.wfs,g2,g4,Bool.and_self]⟩
   ·cases h
def boxKey:List SV→Option Nat
 | []=>none
 | .ptr j _ _::_=>some j
 | .slc j _ _ _ _::_=>some j
 | _::r=>boxKey r
def unkey (k:Nat):SV→SV
 | .ptr _ l o=>.ptr k l o
 | v=>v
def backOk:SV→Bool
 | .ptr j _ _=>Nat.beq j 0
 | v=>v.wf 0
theorem unkey_val {v:SV} (h:backOk v=true) {k:Nat} {E E':Nat→Nat} (he:E' 0=E k):(unkey k v).val E=v.val E':=by
 cases v
 case ptr j l o =>
  have e:=Nat.eq_of_beq_eq_true h
  subst e
  simp only[unkey,SV.val,he]
 all_goals exact SV.val_pure (by exact h) _ _
noncomputable def boxPT {G H:Type} (sb:G→SB)(sp:List SV→Option (G→Prop×(H→Prop×SV×G))):PT:=fun args m nx K=>match boxKey args with
 | some k=>(match rekeys k args with
   | some l=>(match sp l with
     | some g=>(match m.get k with
       | some B=>.ex G fun x=>.and (.atom (SBle B (sb x))) (.and (.atom (g x).1) (.all H fun y=>.imp ((g x).2 y).1 (K (unkey k ((g x).2 y).2.1) (m.put k (sb ((g x).2 y).2.2)) nx)))
       | none=>.fail "a call's block")
     | none=>.fail "a call's arguments")
   | none=>.fail "a call's arguments")
 | none=>.fail "a call's arguments"
theorem boxPT_mono {G H:Type} (sb:G→SB)(sp:List SV→Option (G→Prop×(H→Prop×SV×G))):MonoPT (boxPT sb sp):=by
 intro args m nx K K' hK h
 unfold boxPT at h ⊢
 split at h
 ·split at h
  ·split at h
   ·split at h
    ·obtain⟨x,h1,h2,h3⟩:=h
     exact⟨x,h1,h2,fun y hy=>hK _ _ _ (h3 y hy)⟩
    ·exact h.elim
   ·exact h.elim
  ·exact h.elim
 ·exact h.elim
def boxFit {G H:Type} (sb:G→SB)(g:H→Prop×SV×G)(v:SV)(m:Mem):VC:=match m.get 0 with
 | some X=>.ex H fun y=>.and (.atom (g y).1) (.and (.atom (SBle X (sb (g y).2.2))) (.atom (sameVal v (g y).2.1)))
 | none=>.fail "no block"
theorem box_ok {P:Program} {f:FuncId} {fn:Func} (hf:P.funcs[f]?=some fn)(hn:(fn.name== "runtime.NumGoroutine")=false)(hb:fn.body.isSome=true) {n:Nat} {G H:Type} {sb:G→SB} {sp:List SV→Option (G→Prop×(H→Prop×SV×G))}
  (hsb: ∀ x,(sb x).wf 0=true∧(sb x).ro=false∧(sb x).no=false)
  (h: ∀ args g x,sp args=some g→(g x).1→∃ cfg args',Good P cfg∧(∀ E,SV.vals E args'=SV.vals E args)∧SV.wfs 1 args'=true∧(∀ y,backOk ((g x).2 y).2.1=true) ∧
    Holds (runFn P (calling P cfg n) [] noP (cfg.anns f) cfg.rounds fn args' [(0,sb x)] 1 (fun v m _=>boxFit sb (g x).2 v m))):CallOk P f (boxPT sb sp):=by
 intro args m nx K hk hwf hargs Γ E w hs
 unfold boxPT at hk
 split at hk
 ·rename_i k hkey
  split at hk
  ·rename_i l hl
   split at hk
   ·rename_i g hg
    split at hk
    ·rename_i B hB
     obtain⟨x,h1,h2,h3⟩:=hk
     have h1:SBle B (sb x):=h1
     obtain⟨cfg,args',c1,c2,c3,c4,c5⟩:=h _ _ x hg h2
     obtain⟨s1,s2,s3⟩:=hsb x
     have hone:=hs.one hB h1 s3 s2 s1
     have hc:=calls_of_holds c1 hf hn hb c5 (by simp only[Mem.wf,Bool.and_true];exact SB.wf_mono (Nat.zero_le _) s1) c3 hone
     rw[c2,(rekeys_val (E:=E) hl).1] at hc
     refine out_of_calls hf hn hb (hc.mono ?_)
     rintro e w' ⟨v,rfl,E1,u,m1,nx1,g1,g2,g3,g4,g5⟩
     refine⟨v,rfl,?_⟩
     cases u with
     | none=>exact g5.elim
     | some u =>
       simp only[lift,boxFit] at g5
       split at g5
       ·rename_i X hX
        obtain⟨y,y1,y2,y3⟩:=g5
        have y2:SBle X (sb ((g x).2 y).2.2):=y2
        have y3:sameVal u ((g x).2 y).2.1:=y3
        obtain⟨t1,t2,t3⟩:=hsb ((g x).2 y).2.2
        have hsw:=g4.swap hX y2
        have hE0:E1 0=E k:=g1 0 (by omega)
        have hfr:=hs.frame hB (h1 s3).1 ((h1 s3).2.2 s2) hsw hE0 (Mem.get_putEq hX) t3 t2 t1
        refine⟨E,some (unkey k ((g x).2 y).2.1),_,nx,fun _ _=>rfl,Nat.le_refl _,fun z hz=> ?_,hfr,h3 y y1⟩
        injection hz with hz;subst hz
        rw[g3 u rfl,y3 E1]
        exact(unkey_val (c4 y) hE0).symm
       ·exact g5.elim
    ·exact hk.elim
   ·exact hk.elim
  ·exact hk.elim
 ·exact hk.elim
end Go.Proofs.YtoalfimkkibpdaaGreatDoor.Sx
namespace Go.Proofs.YtoalfimkkibpdaaGreatDoor
open Go Sx
set_option maxRecDepth 20000
def xor3 (a b c:Int):Int:=bitsOf .xor (bitsOf .xor a b) c
def rotr (x n:Int):Int:=bitsOf .or (x*(2^ (32 - n).toNat:Nat)% 4294967296) (x / (2^ n.toNat:Nat))
def bigS0 (a:Int):Int:=xor3 (rotr a 2) (rotr a 13) (rotr a 22)
def bigS1 (e:Int):Int:=xor3 (rotr e 6) (rotr e 11) (rotr e 25)
def smS0 (x:Int):Int:=xor3 (rotr x 7) (rotr x 18) (x / 8)
def smS1 (y:Int):Int:=xor3 (rotr y 17) (rotr y 19) (y / 1024)
def chF (e f g:Int):Int:=bitsOf .xor (bitsOf .and e f) (bitsOf .and (bitsOf .xor 4294967295 e) g)
def majF (a b c:Int):Int:=xor3 (bitsOf .and a b) (bitsOf .and a c) (bitsOf .and b c)
def cubeL:List Int:=[1116352408,1899447441,3049323471,3921009573,961987163,1508970993,2453635748,2870763221,3624381080,310598401,607225278,1426881987,1925078388,2162078206,2614888103,3248222580,3835390401,4022224774,264347078,604807628,770255983,1249150122,1555081692,1996064986,2554220882,2821834349,2952996808,3210313671,3336571891,3584528711,113926993,338241895,666307205,773529912,1294757372,1396182291,1695183700,1986661051,2177026350,2456956037,2730485921,2820302411,3259730800,3345764771,3516065817,3600352804,4094571909,275423344,430227734,506948616,659060556,883997877,958139571,1322822218,1537002063,1747873779,1955562222,2024104815,2227730452,2361852424,2428436474,2756734187,3204031479,3329325298]
def cube (i:Nat):Int:=sel cubeL i
def wordB (b:Nat→Int)(j:Nat):Int:=bitsOf .or (bitsOf .or (bitsOf .or (b (4*j)*16777216% 4294967296) (b (4*j+1)*65536% 4294967296)) (b (4*j+2)*256% 4294967296)) (b (4*j+3))
def nextW (a b c d:Int):Int:=(((a+smS0 b)% 4294967296+c)% 4294967296+smS1 d)% 4294967296
def wL (b:Nat→Int):Nat→Nat→Int
 | 0=>fun j=>if j<16 then wordB b j else 0
 | n+1=>fun j=>if j=16+n then nextW (wL b n (16+n - 16)) (wL b n (16+n - 15)) (wL b n (16+n - 7)) (wL b n (16+n - 2))else wL b n j
def t1F (v:Nat→Int)(k w:Int):Int:=((((v 7+bigS1 (v 4))% 4294967296+chF (v 4) (v 5) (v 6))% 4294967296+k)% 4294967296+w)% 4294967296
def t2F (v:Nat→Int):Int:=(bigS0 (v 0)+majF (v 0) (v 1) (v 2))% 4294967296
def roundV (v:Nat→Int)(k w:Int)(j:Nat):Int:=match j with
 | 0=>(t1F v k w+t2F v)% 4294967296
 | 1=>v 0
 | 2=>v 1
 | 3=>v 2
 | 4=>(v 3+t1F v k w)% 4294967296
 | 5=>v 4
 | 6=>v 5
 | 7=>v 6
 | _=>0
def vAt (W B:Nat→Int):Nat→Nat→Int
 | 0=>W
 | i+1=>roundV (vAt W B i) (cube i) (wL B 48 i)
def mixS (W B:Nat→Int)(j:Nat):Int:=(W j+vAt W B 64 j)% 4294967296
structure Sh where
 W:Nat→Int
 B:Nat→Int
 held:Int
 size:Int
def Sh.cs (x:Sh):List SV:=[.int .u32 false (x.W 0),.int .u32 false (x.W 1),.int .u32 false (x.W 2),.int .u32 false (x.W 3),.int .u32 false (x.W 4),.int .u32 false (x.W 5),.int .u32 false (x.W 6),.int .u32 false (x.W 7),.int .u8 false (x.B 0),.int .u8 false (x.B 1),.int .u8 false (x.B 2),.int .u8 false (x.B 3),.int .u8 false (x.B 4),.int .u8 false (x.B 5),.int .u8 false (x.B 6),.int .u8 false (x.B 7),.int .u8 false (x.B 8),.int .u8 false (x.B 9),.int .u8 false (x.B 10),.int .u8 false (x.B 11),.int .u8 false (x.B 12),.int .u8 false (x.B 13),.int .u8 false (x.B 14),.int .u8 false (x.B 15),.int .u8 false (x.B 16),.int .u8 false (x.B 17),.int .u8 false (x.B 18),.int .u8 false (x.B 19),.int .u8 false (x.B 20),.int .u8 false (x.B 21),.int .u8 false (x.B 22),.int .u8 false (x.B 23),.int .u8 false (x.B 24),.int .u8 false (x.B 25),.int .u8 false (x.B 26),.int .u8 false (x.B 27),.int .u8 false (x.B 28),.int .u8 false (x.B 29),.int .u8 false (x.B 30),.int .u8 false (x.B 31),.int .u8 false (x.B 32),.int .u8 false (x.B 33),.int .u8 false (x.B 34),.int .u8 false (x.B 35),.int .u8 false (x.B 36),.int .u8 false (x.B 37),.int .u8 false (x.B 38),.int .u8 false (x.B 39),.int .u8 false (x.B 40),.int .u8 false (x.B 41),.int .u8 false (x.B 42),.int .u8 false (x.B 43),.int .u8 false (x.B 44),.int .u8 false (x.B 45),.int .u8 false (x.B 46),.int .u8 false (x.B 47),.int .u8 false (x.B 48),.int .u8 false (x.B 49),.int .u8 false (x.B 50),.int .u8 false (x.B 51),.int .u8 false (x.B 52),.int .u8 false (x.B 53),.int .u8 false (x.B 54),.int .u8 false (x.B 55),.int .u8 false (x.B 56),.int .u8 false (x.B 57),.int .u8 false (x.B 58),.int .u8 false (x.B 59),.int .u8 false (x.B 60),.int .u8 false (x.B 61),.int .u8 false (x.B 62),.int .u8 false (x.B 63),.int .i64 false x.held,.int .u64 false x.size]
def Sh.sb (x:Sh):SB:=.cells x.cs 74 239
structure Sh.Ok (x:Sh):Prop where
 w: ∀ j,j<8→0≤x.W j∧x.W j≤4294967295
 b: ∀ j,j<64→0≤x.B j∧x.B j≤255
def rotN (n:Int):Bool:=decide (n=2)||(decide (n=6)||(decide (n=7)||(decide (n=11)||(decide (n=13)||(decide (n=17)||(decide (n=18)||(decide (n=19)||(decide (n=22)||decide (n=25)))))))))
def rightSpec:List SV→Option (Prop×SV)
 | [.int .u32 false x,.int .i64 false n]=>(match rotN n with
   | true=>some (0≤x∧x≤4294967295,.int .u32 false (rotr x n))
   | false=>none)
 | _=>none
noncomputable def annSpread (b:Nat→Int):LoopAnn :=
 {α:=Nat,pre:=fun _ n=>n≤48,mea:=fun _ n=>48 - n,fresh:=0,slots:=fun _ n=>[(6,.int .i64 false (16+(n:Int)))],
  mem:=fun _ n=>[(2,.rows false 64 [.int .u32 (wL b n)] false 64 265)]}
noncomputable def annRounds (W B:Nat→Int):LoopAnn :=
 {α:=Nat,pre:=fun _ i=>i≤64,mea:=fun _ i=>64 - i,fresh:=0,slots:=fun _ i=>[(18,.int .i64 false i)],
  mem:=fun _ i=>[(1,.rows false 64 [.int .u32 (wL B 48)] false 64 265),(2,.cells [.int .u32 false (vAt W B i 0),.int .u32 false (vAt W B i 1),.int .u32 false (vAt W B i 2),.int .u32 false (vAt W B i 3),.int .u32 false (vAt W B i 4),.int .u32 false (vAt W B i 5),.int .u32 false (vAt W B i 6),.int .u32 false (vAt W B i 7)] 8 236)]}
noncomputable def joinT1 (W B:Nat→Int):LoopAnn :=
 {α:=Nat,pre:=fun st i=>slot st.tmps 18=some (.int .i64 false (i:Int)),mea:=fun _ _=>0,fresh:=0,slots:=fun _ i=>[(9,.int .u32 false (t1F (vAt W B i) (cube i) (wL B 48 i)))],mem:=fun _ _=>[]}
noncomputable def joinT2 (W B:Nat→Int):LoopAnn :=
 {α:=Nat,pre:=fun st i=>slot st.tmps 18=some (.int .i64 false (i:Int)),mea:=fun _ _=>0,fresh:=0,slots:=fun _ i=>[(10,.int .u32 false (t2F (vAt W B i)))],mem:=fun _ _=>[]}
noncomputable def listS1:List (FuncId×PT):=(173,purePT rightSpec)::reflList
noncomputable def cfgSp (b:Nat→Int):Cfg:={cfg0 with summ:=fun f=>lookPT f listS1,anns:=fun f=>if f=172 then [(9,always (annSpread b))] else []}
def spreadSV (b:Nat→Int):SV:=.agg [.int .u32 false (wL b 48 0),.int .u32 false (wL b 48 1),.int .u32 false (wL b 48 2),.int .u32 false (wL b 48 3),.int .u32 false (wL b 48 4),.int .u32 false (wL b 48 5),.int .u32 false (wL b 48 6),.int .u32 false (wL b 48 7),.int .u32 false (wL b 48 8),.int .u32 false (wL b 48 9),.int .u32 false (wL b 48 10),.int .u32 false (wL b 48 11),.int .u32 false (wL b 48 12),.int .u32 false (wL b 48 13),.int .u32 false (wL b 48 14),.int .u32 false (wL b 48 15),.int .u32 false (wL b 48 16),.int .u32 false (wL b 48 17),.int .u32 false (wL b 48 18),.int .u32 false (wL b 48 19),.int .u32 false (wL b 48 20),.int .u32 false (wL b 48 21),.int .u32 false (wL b 48 22),.int .u32 false (wL b 48 23),.int .u32 false (wL b 48 24),.int .u32 false (wL b 48 25),.int .u32 false (wL b 48 26),.int .u32 false (wL b 48 27),.int .u32 false (wL b 48 28),.int .u32 false (wL b 48 29),.int .u32 false (wL b 48 30),.int .u32 false (wL b 48 31),.int .u32 false (wL b 48 32),.int .u32 false (wL b 48 33),.int .u32 false (wL b 48 34),.int .u32 false (wL b 48 35),.int .u32 false (wL b 48 36),.int .u32 false (wL b 48 37),.int .u32 false (wL b 48 38),.int .u32 false (wL b 48 39),.int .u32 false (wL b 48 40),.int .u32 false (wL b 48 41),.int .u32 false (wL b 48 42),.int .u32 false (wL b 48 43),.int .u32 false (wL b 48 44),.int .u32 false (wL b 48 45),.int .u32 false (wL b 48 46),.int .u32 false (wL b 48 47),.int .u32 false (wL b 48 48),.int .u32 false (wL b 48 49),.int .u32 false (wL b 48 50),.int .u32 false (wL b 48 51),.int .u32 false (wL b 48 52),.int .u32 false (wL b 48 53),.int .u32 false (wL b 48 54),.int .u32 false (wL b 48 55),.int .u32 false (wL b 48 56),.int .u32 false (wL b 48 57),.int .u32 false (wL b 48 58),.int .u32 false (wL b 48 59),.int .u32 false (wL b 48 60),.int .u32 false (wL b 48 61),.int .u32 false (wL b 48 62),.int .u32 false (wL b 48 63)]
def spreadSpec:List SV→Option (Sh→Prop×(Unit→Prop×SV×Sh))
 | [.slc 0 8 64 _ 64]=>some fun x=>(x.Ok,fun _=>(True,spreadSV x.B,x))
 | _=>none
noncomputable def listS2:List (FuncId×PT):=(172,boxPT Sh.sb spreadSpec)::listS1
noncomputable def cfgMix (W B:Nat→Int):Cfg:={cfg0 with summ:=fun f=>lookPT f listS2,anns:=fun f=>if f=142 then [(3,always (annRounds W B)),(1006,always (joinT1 W B)),(1007,always (joinT2 W B))] else []}
def mixSpec:List SV→Option (Sh→Prop×(Unit→Prop×SV×Sh))
 | [.ptr 0 true 0,.slc 0 8 64 _ 64]=>some fun x=>(x.Ok,fun _=>(True,.tup [],{x with W:=mixS x.W x.B}))
 | _=>none
noncomputable def runBox {G H:Type} (cfg:Cfg)(f:Nat)(fn:Func)(args:List SV)(sb:G→SB)(x:G)(g:H→Prop×SV×G):VC:=runFn Tryz.prog (calling Tryz.prog cfg 20) [] noP (cfg.anns f) cfg.rounds fn args [(0,sb x)] 1 (fun v m _=>boxFit sb g v m)
end Go.Proofs.YtoalfimkkibpdaaGreatDoor
