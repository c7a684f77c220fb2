/-
  Conditions that the executor computes, written out by a program (vcgen.py).
-/
import Derived.Test.YtoalfimkkibpdaaGreatDoorMm
namespace Go.Proofs.YtoalfimkkibpdaaGreatDoor
open Go Sx
set_option maxRecDepth 20000
theorem vcPlain (t:List UInt8):VC.holds (runA cfgN2 165 Tryz.f165 [.str false t] (plainA t))=((fun P0:SV=>((t.length<9223372036854775808∧(cutB t=true→(cutL t=true→(plainB t=true→sameVal P0 (SV.tup [SV.str false (cutIn t),SV.bool true true]))∧(plainB t=false→sameVal P0 P0))∧(cutL t=false→((!decide (cutRest t=[]))=true→(plainB t=true→sameVal P0 (SV.tup [SV.str false (cutIn t),SV.bool true true]))∧(plainB t=false→sameVal P0 P0))∧((!decide (cutRest t=[]))=false→(plainB t=true→sameVal (SV.tup [SV.str false (cutIn t),SV.bool true true]) (SV.tup [SV.str false (cutIn t),SV.bool true true]))∧(plainB t=false→sameVal (SV.tup [SV.str false (cutIn t),SV.bool true true]) P0))))∧(cutB t=false→(plainB t=true→sameVal P0 (SV.tup [SV.str false (cutIn t),SV.bool true true]))∧(plainB t=false→sameVal P0 P0))))) (SV.tup [SV.str true [],SV.bool true false])):=by kernel_rfl
theorem vcHash (t:List UInt8):VC.holds (runA cfgN2 135 Tryz.f135 [.str false t] (hashA t))=((fun P0:SV=>((fun P1:SV=>((t.length<9223372036854775808∧(cutB t=true→(cutL t=true→(hashB t=true→sameVal P0 P1)∧(hashB t=false→sameVal P0 P0))∧(cutL t=false→((!decide (cutRest t=[]))=true→(hashB t=true→sameVal P0 P1)∧(hashB t=false→sameVal P0 P0))∧((!decide (cutRest t=[]))=false→((!decide ((↑(cutIn t).length:Int)=32))=true→(hashB t=true→sameVal P0 P1)∧(hashB t=false→sameVal P0 P0))∧((!decide ((↑(cutIn t).length:Int)=32))=false→(hashB t=true→sameVal P1 P1)∧(hashB t=false→sameVal P1 P0)))))∧(cutB t=false→(hashB t=true→sameVal P0 P1)∧(hashB t=false→sameVal P0 P0))))) (SV.tup [SV.str false (cutIn t),SV.bool true true]))) (SV.tup [SV.str true [],SV.bool true false])):=by kernel_rfl
theorem vcNdPath (x:Nd)(least:Int)(R:SV→Prop):VC.holds (runP cfgN2 197 Tryz.f197 [x.sv,.int .i64 false least] R)=(((decide (least≤(x.p.length:Int))=true→(decide ((x.p.length:Int)≤12)=true→x.p.length<1152921504606846976∧R (SV.bool false (nibB x.p)))∧(decide ((x.p.length:Int)≤12)=false→R (SV.bool true false)))∧(decide (least≤(x.p.length:Int))=false→R (SV.bool true false)))):=by kernel_rfl
theorem vcBehind (x:Nd)(R:SV→Prop):VC.holds (runP (cfgNB x) 198 Tryz.f198 [x.sv] R)=((fun R0:Nat→SV=>((fun P0:SB=>((∀(u4:Loop),(∃(u3:Nat),u3≤16∧0=(u3:Int)∧SBle (SB.cells [SV.int .i64 true 0] 1 3) (SB.cells [SV.int .i64 false (behindI x.r u3)] 1 3)∧SBle (SB.loop LoopState.ready none u4) (SB.loop LoopState.ready none u4)∧SBle P0 P0∧SBle (SB.cells x.sv.cells 19 259) (SB.cells x.sv.cells 19 259)∧True)∧∀(u2:Nat),u2≤16→(decide ((u2:Int)<16)=true→(0≤(u2:Int)∧(u2:Int)<16∧(u2:Int)<(↑(16:Nat):Int))∧((!decide (selS [x.r 0,x.r 1,x.r 2,x.r 3,x.r 4,x.r 5,x.r 6,x.r 7,x.r 8,x.r 9,x.r 10,x.r 11,x.r 12,x.r 13,x.r 14,x.r 15] (u2:Int).toNat=[]))=true→u4=u4∧((-9223372036854775808:Int)≤(u2:Int)+1∧(u2:Int)+1≤(9223372036854775807:Int))∧((-9223372036854775808:Int)≤(u2:Int)+1∧(u2:Int)+1≤(9223372036854775807:Int))∧∃(u1:Nat),(u1≤16∧16 - u1<16 - u2)∧(u2:Int)+1=(u1:Int)∧SBle (SB.cells [SV.int .i64 false ((u2:Int)+1)] 1 3) (SB.cells [SV.int .i64 false (behindI x.r u1)] 1 3)∧SBle (SB.loop LoopState.ready none u4) (SB.loop LoopState.ready none u4)∧SBle P0 P0∧SBle (SB.cells x.sv.cells 19 259) (SB.cells x.sv.cells 19 259)∧True) ∧((!decide (selS [x.r 0,x.r 1,x.r 2,x.r 3,x.r 4,x.r 5,x.r 6,x.r 7,x.r 8,x.r 9,x.r 10,x.r 11,x.r 12,x.r 13,x.r 14,x.r 15] (u2:Int).toNat=[]))=false→((-9223372036854775808:Int)≤(u2:Int)+1∧(u2:Int)+1≤(9223372036854775807:Int))∧∃(u0:Nat),(u0≤16∧16 - u0<16 - u2)∧(u2:Int)+1=(u0:Int)∧SBle (SB.cells [SV.int .i64 false (behindI x.r u2)] 1 3) (SB.cells [SV.int .i64 false (behindI x.r u0)] 1 3)∧SBle (SB.loop LoopState.ready none u4) (SB.loop LoopState.ready none u4)∧SBle P0 P0∧SBle (SB.cells x.sv.cells 19 259) (SB.cells x.sv.cells 19 259)∧True))∧(decide ((u2:Int)<16)=false→R (SV.int .i64 false (behindI x.r u2)))))) (SB.cells (SV.agg [SV.int .i64 false x.k,SV.str false x.p,SV.str false x.v,R0 0,R0 1,R0 2,R0 3,R0 4,R0 5,R0 6,R0 7,R0 8,R0 9,R0 10,R0 11,R0 12,R0 13,R0 14,R0 15]).cells 19 259))) (fun(n0:Nat)=>SV.str false (x.r n0))):=by kernel_rfl
theorem vcNdNone (x:Nd)(R:SV→Prop):VC.holds (runP cfgN2 182 Tryz.f182 [x.sv] R)=((R (SV.bool (false&&true&&(false&&true&&(false&&true&&(false&&true&&(false&&true&&(false&&true&&(false&&true&&(false&&true&&(false&&true&&(false&&true&&(false&&true&&(false&&true&&(false&&true&&(false&&true&&(false&&true&&(false&&true&&(false&&true&&(false&&true&&(false&&true&&true)))))))))))))))&&true)))) (decide (x.k=0)&&(decide (x.p=[])&&(decide (x.v=[])&&(decide (x.r 0=[])&&(decide (x.r 1=[])&&(decide (x.r 2=[])&&(decide (x.r 3=[])&&(decide (x.r 4=[])&&(decide (x.r 5=[])&&(decide (x.r 6=[])&&(decide (x.r 7=[])&&(decide (x.r 8=[])&&(decide (x.r 9=[])&&(decide (x.r 10=[])&&(decide (x.r 11=[])&&(decide (x.r 12=[])&&(decide (x.r 13=[])&&(decide (x.r 14=[])&&(decide (x.r 15=[])&&true)))))))))))))))&&true))))))):=by kernel_rfl
end Go.Proofs.YtoalfimkkibpdaaGreatDoor
namespace Go.Proofs.YtoalfimkkibpdaaGreatDoor
open Go Sx
set_option maxRecDepth 20000
theorem plain_iff {t:List UInt8}:plainB t=true↔cutB t=true∧cutL t=false∧cutRest t=[]:=by
 simp only[plainB,Bool.and_eq_true,Bool.not_eq_true',decide_eq_true_eq,and_assoc]
theorem hash_iff {t:List UInt8}:hashB t=true↔(cutB t=true∧cutL t=false∧cutRest t=[])∧(cutIn t).length=32:=by
 simp only[hashB,Bool.and_eq_true,plain_iff,decide_eq_true_eq]
 constructor<;>rintro⟨h1,h2⟩<;>exact⟨h1,by omega⟩
theorem plain_holds {t:List UInt8} (ht:t.length<9223372036854775808):Holds (runA cfgN2 165 Tryz.f165 [.str false t] (plainA t)):=by
 refine Holds.of_eq (vcPlain t) ?_
 have no:sameVal (.tup [.str true [],.bool true false]) (.tup [.str true [],.bool true false]):=fun _=>rfl
 have F: ∀ {p:Prop},¬ (cutB t=true∧cutL t=false∧cutRest t=[])→plainB t=true→p:=fun h h'=>absurd (plain_iff.1 h') h
 refine⟨ht,fun a=>⟨fun b=>⟨F (by simp[b]),fun _=>no⟩,fun b=>⟨fun c=>⟨F (by simp at c;simp[c]),fun _=>no⟩,fun c=> ?_⟩⟩,fun a=>⟨F (by simp[a]),fun _=>no⟩⟩
 have c:cutRest t=[]:=by simpa using c
 have hB:=plain_iff.2 ⟨a,b,c⟩
 exact⟨fun _ _=>rfl,fun h=>by rw[hB] at h;cases h⟩
theorem hash_holds {t:List UInt8} (ht:t.length<9223372036854775808):Holds (runA cfgN2 135 Tryz.f135 [.str false t] (hashA t)):=by
 refine Holds.of_eq (vcHash t) ?_
 have no:sameVal (.tup [.str true [],.bool true false]) (.tup [.str true [],.bool true false]):=fun _=>rfl
 have F: ∀ {p:Prop},¬ ((cutB t=true∧cutL t=false∧cutRest t=[])∧(cutIn t).length=32)→hashB t=true→p:=fun h h'=>absurd (hash_iff.1 h') h
 refine⟨ht,fun a=>⟨fun b=>⟨F (by simp[b]),fun _=>no⟩,fun b=>⟨fun c=>⟨F (by simp at c;simp[c]),fun _=>no⟩,fun c=>⟨fun d=>⟨F (by simp at d;omega),fun _=>no⟩,fun d=> ?_⟩⟩⟩,fun a=>⟨F (by simp[a]),fun _=>no⟩⟩
 have c:cutRest t=[]:=by simpa using c
 have d:((cutIn t).length:Int)=32:=by simpa using d
 have hB:=hash_iff.2 ⟨⟨a,b,c⟩,by omega⟩
 exact⟨fun _ _=>rfl,fun h=>by rw[hB] at h;cases h⟩
def plainSpec:List SV→Option (Prop×Ans)
 | [.str false t]=>some (t.length<9223372036854775808,plainA t)
 | _=>none
def hashSpec:List SV→Option (Prop×Ans)
 | [.str false t]=>some (t.length<9223372036854775808,hashA t)
 | _=>none
theorem plain_ok:CallOk Tryz.prog 165 (ansPT plainSpec):=by
 refine ans_ok (n:=20) (fn:=Tryz.f165) Tryz.func165 (by kernel_rfl) (by kernel_rfl) ?_
 intro args p a h hp
 unfold plainSpec at h
 split at h
 ·injection h with h;injection h with h1 h2;subst h1;subst h2
  exact⟨_,goodN2',rfl,fun b=>by cases b<;>exact rfl,plain_holds hp⟩
 ·cases h
theorem hash_ok:CallOk Tryz.prog 135 (ansPT hashSpec):=by
 refine ans_ok (n:=20) (fn:=Tryz.f135) Tryz.func135 (by kernel_rfl) (by kernel_rfl) ?_
 intro args p a h hp
 unfold hashSpec at h
 split at h
 ·injection h with h;injection h with h1 h2;subst h1;subst h2
  exact⟨_,goodN2',rfl,fun b=>by cases b<;>exact rfl,hash_holds hp⟩
 ·cases h
def ndpathSpec:List SV→Option (Prop×SV)
 | [.agg l,.int .i64 false least]=>(match ndOf l with
   | some x=>some (True,.bool false (pathB x least))
   | none=>none)
 | _=>none
theorem ndpath_ok:CallOk Tryz.prog 197 (purePT ndpathSpec):=by
 refine pure_ok goodN2' (n:=20) (fn:=Tryz.f197) Tryz.func197 (by kernel_rfl) (by kernel_rfl) ?_
 intro args p r h hp
 unfold ndpathSpec at h
 split at h
 ·split at h
  ·rename_i l least _ x hx
   injection h with h;injection h with h1 h2;subst h1;subst h2
   rw[ndOf_eq hx]
   refine⟨rfl,rfl,Holds.of_eq (vcNdPath x least _) ⟨fun a=>⟨fun b=>⟨?_,bool_eq ?_⟩,fun b=>bool_eq ?_⟩,fun a=>bool_eq ?_⟩⟩
   ·have:=of_decide_eq_true b;omega
   ·rw[pathB,a,b];rfl
   ·rw[pathB,a,b];rfl
   ·rw[pathB,a];rfl
  ·cases h
 ·cases h
theorem sel16 (r:Nat→List UInt8) {i:Nat} (h:i<16):selS [r 0,r 1,r 2,r 3,r 4,r 5,r 6,r 7,r 8,r 9,r 10,r 11,r 12,r 13,r 14,r 15] i=r i:=by
 have:i=0∨i=1∨i=2∨i=3∨i=4∨i=5∨i=6∨i=7∨i=8∨i=9∨i=10∨i=11∨i=12∨i=13∨i=14∨i=15:=by omega
 rcases this with rfl | rfl | rfl | rfl | rfl | rfl | rfl | rfl | rfl | rfl | rfl | rfl | rfl | rfl | rfl | rfl<;>rfl
theorem cell1 {l l':Bool} {a b:Int} {tot:Nat} {ty:TypeId} (h:a=b):SBle (.cells [.int .i64 l a] tot ty) (.cells [.int .i64 l' b] tot ty):=by
 subst h
 exact SBle.cells (fun _=>rfl) rfl
theorem behind_holds (x:Nd):Holds (runP (cfgNB x) 198 Tryz.f198 [x.sv] (fun v=>sameVal v (.int .i64 false (behindI x.r 16)))):=by
 refine Holds.of_eq (vcBehind x _) ?_
 intro R
 refine⟨⟨0,by omega,rfl,cell1 rfl,SBle.refl _,SBle.refl _,SBle.refl _,trivial⟩,fun i hi=>⟨fun a=> ?_,fun a=> ?_⟩⟩
 ·have a:=of_decide_eq_true a
  have ei:i<16:=by omega
  rw[Int.toNat_natCast,sel16 x.r ei]
  refine⟨by omega,fun b=>⟨rfl,by omega,by omega,i+1,by omega,by omega,cell1 ?_,SBle.refl _,SBle.refl _,SBle.refl _,trivial⟩,fun b=>⟨by omega,i+1,by omega,by omega,cell1 ?_,SBle.refl _,SBle.refl _,SBle.refl _,trivial⟩⟩
  ·have b: ¬ x.r i=[]:=by simpa using b
   rw[behindI,if_neg b]
  ·have b:x.r i=[]:=by simpa using b
   rw[behindI,if_pos b]
 ·have a:=of_decide_eq_false a
  have e:i=16:=by omega
  rw[e];exact fun _=>rfl
def behindSpec:List SV→Option (Prop×SV)
 | [.agg l]=>(match ndOf l with
   | some x=>some (True,.int .i64 false (behindI x.r 16))
   | none=>none)
 | _=>none
theorem behind_ok:CallOk Tryz.prog 198 (purePT behindSpec):=by
 refine pure_of_ans (ans_ok (n:=20) (fn:=Tryz.f198) Tryz.func198 (by kernel_rfl) (by kernel_rfl) ?_)
 intro args p a h hp
 unfold behindSpec at h
 split at h
 ·split at h
  ·rename_i l x hx
   injection h with h;injection h with h1 h2;subst h1;subst h2
   rw[ndOf_eq hx]
   exact⟨_,goodNB x,rfl,rfl,behind_holds x⟩
  ·cases h
 ·cases h
def noneB (x:Nd):Bool:=decide (x.k=0)&&(decide (x.p=[])&&(decide (x.v=[])&&(List.range 16).all fun i=>decide (x.r i=[])))
def ndnoneSpec:List SV→Option (Prop×SV)
 | [.agg l]=>(match ndOf l with
   | some x=>some (True,.bool false (noneB x))
   | none=>none)
 | _=>none
theorem ndnone_ok:CallOk Tryz.prog 182 (purePT ndnoneSpec):=by
 refine pure_ok goodN2' (n:=20) (fn:=Tryz.f182) Tryz.func182 (by kernel_rfl) (by kernel_rfl) ?_
 intro args p r h hp
 unfold ndnoneSpec at h
 split at h
 ·split at h
  ·rename_i l x hx
   injection h with h;injection h with h1 h2;subst h1;subst h2
   rw[ndOf_eq hx]
   refine⟨rfl,rfl,Holds.of_eq (vcNdNone x _) (bool_eq ?_)⟩
   rw[noneB,show List.range 16=[0,1,2,3,4,5,6,7,8,9,10,11,12,13,14,15] from by decide]
   simp only[List.all_cons,List.all_nil,Bool.and_true]
  ·cases h
 ·cases h
noncomputable def listN3:List (FuncId×PT):=(165,ansPT plainSpec)::(135,ansPT hashSpec)::(197,purePT ndpathSpec)::(198,purePT behindSpec)::(182,purePT ndnoneSpec)::listN2
theorem listN3_ok:SummOk Tryz.prog (fun f=>lookPT f listN3):=.cons plain_ok (ansPT_mono _) (.cons hash_ok (ansPT_mono _) (.cons ndpath_ok (purePT_mono _) (.cons behind_ok (purePT_mono _) (.cons ndnone_ok (purePT_mono _) listN2_ok))))
noncomputable def cfgN3:Cfg:={cfg0 with summ:=fun f=>lookPT f listN3}
theorem goodN3:Sx.Good Tryz.prog cfgN3:=⟨mixes,listN3_ok,fns_ok⟩
end Go.Proofs.YtoalfimkkibpdaaGreatDoor
namespace Go.Proofs.YtoalfimkkibpdaaGreatDoor
open Go Sx
set_option maxRecDepth 20000
def leafB (x:Nd):Bool:=pathB x 0&&(!decide (x.v=[])&&(decide ((x.v.length:Int)≤80)&&decide (behindI x.r 16=0)))
def pathT (x:Nd)(leaf:Bool):List UInt8:=bif nibB x.p then nputL x.p leaf else []
def leafT (x:Nd):List UInt8:=listOf [textOf (pathT x true),textOf x.v]
def extT (x:Nd):List UInt8:=listOf [textOf (pathT x false),x.r 0]
def brI (r:Nat→List UInt8)(i j:Nat):List UInt8:=if j<i then(if r j=[] then [128] else r j)else [128]
def strs17 (f:Nat→List UInt8):List SV:=[.str false (f 0),.str false (f 1),.str false (f 2),.str false (f 3),.str false (f 4),.str false (f 5),.str false (f 6),.str false (f 7),.str false (f 8),.str false (f 9),.str false (f 10),.str false (f 11),.str false (f 12),.str false (f 13),.str false (f 14),.str false (f 15),.str false (f 16)]
def branchT (x:Nd):List UInt8:=listOf [brI x.r 16 0,brI x.r 16 1,brI x.r 16 2,brI x.r 16 3,brI x.r 16 4,brI x.r 16 5,brI x.r 16 6,brI x.r 16 7,brI x.r 16 8,brI x.r 16 9,brI x.r 16 10,brI x.r 16 11,brI x.r 16 12,brI x.r 16 13,brI x.r 16 14,brI x.r 16 15,textOf x.v]
def putT (x:Nd):List UInt8:=if x.k=0 then [128] else if x.k=1 then leafT x else if x.k=2 then extT x else branchT x
structure Nd.Few (x:Nd):Prop where
 p:x.p.length≤1000
 v:x.v.length≤1000
 r: ∀ j,j<16→(x.r j).length≤1000
noncomputable def annBT (x:Nd):LoopAnn :=
 {α:=Nat,pre:=fun _ i=>i≤16,mea:=fun _ i=>16 - i,fresh:=0,slots:=fun _ i=>[(7,.int .i64 false i)],mem:=fun _ i=>[(1,.cells (strs17 (brI x.r i)) 17 9)]}
noncomputable def cfgBT (x:Nd):Cfg:={cfg0 with summ:=fun f=>lookPT f listN3,anns:=fun f=>if f=192 then [(1,always (annBT x))] else []}
theorem goodBT (x:Nd):Sx.Good Tryz.prog (cfgBT x):=⟨mixes,listN3_ok,fns_ok⟩
end Go.Proofs.YtoalfimkkibpdaaGreatDoor
namespace Go.Proofs.YtoalfimkkibpdaaGreatDoor
open Go Sx
set_option maxRecDepth 20000
def refs16 (r0 r1 r2 r3 r4 r5 r6 r7 r8 r9 r10 r11 r12 r13 r14 r15:List UInt8):Nat→List UInt8:=fun i=>[r0,r1,r2,r3,r4,r5,r6,r7,r8,r9,r10,r11,r12,r13,r14,r15].getD i []
def mk16 (r:Nat→List UInt8):Nat→List UInt8:=refs16 (r 0) (r 1) (r 2) (r 3) (r 4) (r 5) (r 6) (r 7) (r 8) (r 9) (r 10) (r 11) (r 12) (r 13) (r 14) (r 15)
def noRefs:Nat→List UInt8:=refs16 [] [] [] [] [] [] [] [] [] [] [] [] [] [] [] []
def oneRef (t:List UInt8):Nat→List UInt8:=refs16 t [] [] [] [] [] [] [] [] [] [] [] [] [] [] []
def rdRef (s:List UInt8)(j:Nat):List UInt8:=if itemAt s j=[128] then [] else itemAt s j
def rdI (s:List UInt8)(i j:Nat):List UInt8:=if j<i then rdRef s j else []
def zeroNd:Nd:=⟨0,[],[],noRefs⟩
def rdLeaf (s:List UInt8):Nd:=⟨1,ngetP (cutIn (itemAt (cutIn s) 0)),cutIn (itemAt (cutIn s) 1),noRefs⟩
def rdExt (s:List UInt8):Nd:=⟨2,ngetP (cutIn (itemAt (cutIn s) 0)),[],oneRef (itemAt (cutIn s) 1)⟩
def rdBranch (s:List UInt8):Nd:=⟨3,[],cutIn (itemAt (cutIn s) 16),mk16 (rdRef (cutIn s))⟩
def pairK (s:List UInt8):Int:=bif plainB (itemAt s 0)&&ngetB (cutIn (itemAt s 0))then(bif ngetLeaf (cutIn (itemAt s 0))then(bif plainB (itemAt s 1)then 1 else -1)else 2)else -1
def listK (s:List UInt8):Int:=bif itemsB s then(if itemsN s=2 then pairK s else if itemsN s=17 then(bif plainB (itemAt s 16)then 3 else -1)else -1)else -1
def shapeK (s:List UInt8):Int:=if s=[128] then 0 else bif cutB s&&(cutL s&&decide (cutRest s=[]))then listK (cutIn s)else -1
def getD (s:List UInt8):Nd:=if shapeK s=1 then rdLeaf s else if shapeK s=2 then rdExt s else if shapeK s=3 then rdBranch s else zeroNd
def readA (s:List UInt8):Ans:=.fork (decide (shapeK s=0)) fun b=>match b with
 | true=>.ret (.tup [zeroN,.bool true true])
 | false=>.fork (decide (shapeK s=1)) fun b=>match b with
   | true=>.ret (.tup [(rdLeaf s).svL true 1,.bool true true])
   | false=>.fork (decide (shapeK s=2)) fun b=>match b with
     | true=>.ret (.tup [(rdExt s).svL true 2,.bool true true])
     | false=>.fork (decide (shapeK s=3)) fun b=>match b with
       | true=>.ret (.tup [(rdBranch s).svL true 3,.bool true true])
       | false=>.all Nd fun x=>.ret (.tup [x.sv,.bool true false])
def mayW (inl:List UInt8→Bool)(t:List UInt8):Bool:=hashB t||inl t
def extW (inl:List UInt8→Bool)(x:Nd):Bool:=pathB x 1&&(decide (x.v=[])&&(decide (behindI x.r 16=1)&&(hashB (x.r 0)||(inl (x.r 0)&&decide ((getD (x.r 0)).k=3)))))
def fullN (r:Nat→List UInt8):Nat→Int
 | 0=>0
 | i+1=>if r i=[] then fullN r i else fullN r i+1
def mays (inl:List UInt8→Bool)(r:Nat→List UInt8):Nat→Bool
 | 0=>true
 | i+1=>mays inl r i&&(decide (r i=[])||mayW inl (r i))
def branchW (inl:List UInt8→Bool)(x:Nd):Bool:=decide (x.p=[])&&(decide ((x.v.length:Int)≤80)&&(mays inl x.r 16&&decide (2≤min (x.v.length:Int) 1+fullN x.r 16)))
def validW (inl:List UInt8→Bool)(x:Nd):Bool:=if x.k=0 then noneB x else if x.k=1 then leafB x else if x.k=2 then extW inl x else if x.k=3 then branchW inl x else false
def getW (inl:List UInt8→Bool)(s:List UInt8):Bool:=decide (0≤shapeK s)&&(validW inl (getD s)&&decide (putT (getD s)=s))
def inlF:Nat→List UInt8→Bool
 | 0,_=>false
 | n+1,t=>decide (t.length<32)&&(getW (inlF n) t&& !decide ((getD t).k=0))
def inlB (t:List UInt8):Bool:=inlF 32 t
def validB (x:Nd):Bool:=validW inlB x
def getB' (s:List UInt8):Bool:=getW inlB s
end Go.Proofs.YtoalfimkkibpdaaGreatDoor
namespace Go.Proofs.YtoalfimkkibpdaaGreatDoor
open Go Sx
set_option maxRecDepth 20000
theorem vcLeaf (x:Nd)(R:SV→Prop):VC.holds (runP cfgN3 183 Tryz.f183 [x.sv] R)=((True∧(pathB {k:=x.k,p:=x.p,v:=x.v,r:=fun(u2:Nat)=>[x.r 0,x.r 1,x.r 2,x.r 3,x.r 4,x.r 5,x.r 6,x.r 7,x.r 8,x.r 9,x.r 10,x.r 11,x.r 12,x.r 13,x.r 14,x.r 15].getD u2 []:Nd} 0=true→((!decide (x.v=[]))=true→(decide ((x.v.length:Int)≤80)=true→True∧R (SV.bool (false&&true) (decide (behindI (fun(u1:Nat)=>[x.r 0,x.r 1,x.r 2,x.r 3,x.r 4,x.r 5,x.r 6,x.r 7,x.r 8,x.r 9,x.r 10,x.r 11,x.r 12,x.r 13,x.r 14,x.r 15].getD u1 []) 16=(0:Int)))))∧(decide ((x.v.length:Int)≤80)=false→R (SV.bool true false)))∧((!decide (x.v=[]))=false→R (SV.bool true false)))∧(pathB {k:=x.k,p:=x.p,v:=x.v,r:=fun(u0:Nat)=>[x.r 0,x.r 1,x.r 2,x.r 3,x.r 4,x.r 5,x.r 6,x.r 7,x.r 8,x.r 9,x.r 10,x.r 11,x.r 12,x.r 13,x.r 14,x.r 15].getD u0 []:Nd} 0=false→R (SV.bool true false)))):=by kernel_rfl
theorem vcLeafText (x:Nd)(R:SV→Prop):VC.holds (runP cfgN3 187 Tryz.f187 [x.sv] R)=((x.p.length<1073741824∧(nibB x.p=true→(nputL x.p true).length<1152921504606846976∧some (SB.cells x.sv.cells 19 259)=some (SB.cells x.sv.cells 19 259)∧x.v.length<1152921504606846976∧(((2:Nat)=(2:Nat)∧(2:Nat)≤(2:Nat))∧(2:Nat)≤(140737488355328:Nat)∧(flat [textOf (nputL x.p true),textOf x.v]).length≤140737488355328)∧(((0:Int)≤(192:Int)∧(192:Int)≤(192:Int))∧0≤(↑(flat [textOf (nputL x.p true),textOf x.v]).length:Int)∧(↑(flat [textOf (nputL x.p true),textOf x.v]).length:Int)<1152921504606846976)∧(↑(headOf 192 (↑(flat [textOf (nputL x.p true),textOf x.v]).length:Int).toNat).length:Int)+(↑(flat [textOf (nputL x.p true),textOf x.v]).length:Int)≤9223372036854775807∧R (SV.str false (cat (headOf 192 (↑(flat [textOf (nputL x.p true),textOf x.v]).length:Int).toNat) (flat [textOf (nputL x.p true),textOf x.v]))))∧(nibB x.p=false→(0:Nat)<(1152921504606846976:Nat)∧some (SB.cells x.sv.cells 19 259)=some (SB.cells x.sv.cells 19 259)∧x.v.length<1152921504606846976∧(((2:Nat)=(2:Nat)∧(2:Nat)≤(2:Nat))∧(2:Nat)≤(140737488355328:Nat) ∧(flat [textOf [],textOf x.v]).length≤140737488355328)∧(((0:Int)≤(192:Int)∧(192:Int)≤(192:Int))∧0≤(↑(flat [textOf [],textOf x.v]).length:Int)∧(↑(flat [textOf [],textOf x.v]).length:Int)<1152921504606846976)∧(↑(headOf 192 (↑(flat [textOf [],textOf x.v]).length:Int).toNat).length:Int)+(↑(flat [textOf [],textOf x.v]).length:Int)≤9223372036854775807∧R (SV.str false (cat (headOf 192 (↑(flat [textOf [],textOf x.v]).length:Int).toNat) (flat [textOf [],textOf x.v])))))):=by kernel_rfl
theorem vcExtText (x:Nd)(R:SV→Prop):VC.holds (runP cfgN3 188 Tryz.f188 [x.sv] R)=((x.p.length<1073741824∧(nibB x.p=true→(nputL x.p false).length<1152921504606846976∧some (SB.cells x.sv.cells 19 259)=some (SB.cells x.sv.cells 19 259)∧(((2:Nat)=(2:Nat)∧(2:Nat)≤(2:Nat))∧(2:Nat)≤(140737488355328:Nat)∧(flat [textOf (nputL x.p false),x.r 0]).length≤140737488355328)∧(((0:Int)≤(192:Int)∧(192:Int)≤(192:Int))∧0≤(↑(flat [textOf (nputL x.p false),x.r 0]).length:Int)∧(↑(flat [textOf (nputL x.p false),x.r 0]).length:Int)<1152921504606846976)∧(↑(headOf 192 (↑(flat [textOf (nputL x.p false),x.r 0]).length:Int).toNat).length:Int)+(↑(flat [textOf (nputL x.p false),x.r 0]).length:Int)≤9223372036854775807∧R (SV.str false (cat (headOf 192 (↑(flat [textOf (nputL x.p false),x.r 0]).length:Int).toNat) (flat [textOf (nputL x.p false),x.r 0]))))∧(nibB x.p=false→(0:Nat)<(1152921504606846976:Nat)∧some (SB.cells x.sv.cells 19 259)=some (SB.cells x.sv.cells 19 259)∧(((2:Nat)=(2:Nat)∧(2:Nat)≤(2:Nat))∧(2:Nat)≤(140737488355328:Nat)∧(flat [textOf [],x.r 0]).length≤140737488355328)∧(((0:Int)≤(192:Int)∧(192:Int)≤(192:Int)) ∧0≤(↑(flat [textOf [],x.r 0]).length:Int)∧(↑(flat [textOf [],x.r 0]).length:Int)<1152921504606846976)∧(↑(headOf 192 (↑(flat [textOf [],x.r 0]).length:Int).toNat).length:Int)+(↑(flat [textOf [],x.r 0]).length:Int)≤9223372036854775807∧R (SV.str false (cat (headOf 192 (↑(flat [textOf [],x.r 0]).length:Int).toNat) (flat [textOf [],x.r 0])))))):=by kernel_rfl
theorem vcNoneText (x:Nd)(R:SV→Prop):VC.holds (runP cfgN3 186 Tryz.f186 [x.sv] R)=(((0:Nat)<(1152921504606846976:Nat)∧R (SV.str true (textOf [])))):=by kernel_rfl
theorem vcBranchText (x:Nd)(R:SV→Prop):VC.holds (runP (cfgBT x) 189 Tryz.f189 [x.sv] R)=((fun R0:Nat→(Nat)→SV=>((fun R1:Nat→SV=>((fun R2:Nat→(Nat)→SV=>((fun R3:Nat→(Nat)→SV=>((fun R4:Nat→(Nat)→SV=>((fun R5:Nat→(Nat)→SV=>((fun P0:SB=>((fun P1:SB=>(((0:Nat)<(1152921504606846976:Nat)∧some P0=some P0∧(0:Nat)<(1152921504606846976:Nat)∧some P0=some P0∧(0:Nat)<(1152921504606846976:Nat)∧some P0=some P0∧(0:Nat)<(1152921504606846976:Nat)∧some P0=some P0∧(0:Nat)<(1152921504606846976:Nat)∧some P0=some P0∧(0:Nat)<(1152921504606846976:Nat)∧some P0=some P0∧(0:Nat)<(1152921504606846976:Nat)∧some P0=some P0∧(0:Nat)<(1152921504606846976:Nat)∧some P0=some P0∧(0:Nat)<(1152921504606846976:Nat)∧some P0=some P0∧(0:Nat)<(1152921504606846976:Nat)∧some P0=some P0∧(0:Nat)<(1152921504606846976:Nat)∧some P0=some P0∧(0:Nat)<(1152921504606846976:Nat)∧some P0=some P0∧(0:Nat)<(1152921504606846976:Nat)∧some P0=some P0∧(0:Nat)<(1152921504606846976:Nat)∧some P0=some P0∧(0:Nat)<(1152921504606846976:Nat)∧some P0=some P0∧(0:Nat)<(1152921504606846976:Nat)∧some P0=some P0∧(0:Nat)<(1152921504606846976:Nat)∧some P0=some P0∧∀(u4:Loop),(∃(u3:Nat),u3≤16∧0=(u3:Int) ∧SBle (SB.cells [SV.str true (textOf []),SV.str true (textOf []),SV.str true (textOf []),SV.str true (textOf []),SV.str true (textOf []),SV.str true (textOf []),SV.str true (textOf []),SV.str true (textOf []),SV.str true (textOf []),SV.str true (textOf []),SV.str true (textOf []),SV.str true (textOf []),SV.str true (textOf []),SV.str true (textOf []),SV.str true (textOf []),SV.str true (textOf []),SV.str true (textOf [])] 17 9) (SB.cells [R0 0 u3,R0 1 u3,R0 2 u3,R0 3 u3,R0 4 u3,R0 5 u3,R0 6 u3,R0 7 u3,R0 8 u3,R0 9 u3,R0 10 u3,R0 11 u3,R0 12 u3,R0 13 u3,R0 14 u3,R0 15 u3,R0 16 u3] 17 9)∧SBle (SB.loop LoopState.ready none u4) (SB.loop LoopState.ready none u4)∧SBle P1 P1∧SBle P0 P0∧SBle (SB.cells x.sv.cells 19 259) (SB.cells x.sv.cells 19 259)∧True)∧∀(u2:Nat),u2≤16→(decide ((u2:Int)<16)=true→(0≤(u2:Int)∧(u2:Int)<16∧(u2:Int)<(↑(16:Nat):Int))∧((!decide (selS [x.r 0,x.r 1,x.r 2,x.r 3,x.r 4,x.r 5,x.r 6,x.r 7,x.r 8,x.r 9,x.r 10,x.r 11,x.r 12,x.r 13,x.r 14,x.r 15] (u2:Int).toNat=[]))=true→u4=u4∧(0≤(u2:Int)∧(u2:Int)<17)∧(u2:Int).toNat<17 ∧((-9223372036854775808:Int)≤(u2:Int)+1∧(u2:Int)+1≤(9223372036854775807:Int))∧∃(u1:Nat),(u1≤16∧16 - u1<16 - u2)∧(u2:Int)+1=(u1:Int)∧SBle (SB.cells [R2 0 u2,R2 1 u2,R2 2 u2,R2 3 u2,R2 4 u2,R2 5 u2,R2 6 u2,R2 7 u2,R2 8 u2,R2 9 u2,R2 10 u2,R2 11 u2,R2 12 u2,R2 13 u2,R2 14 u2,R2 15 u2,R2 16 u2] 17 9) (SB.cells [R3 0 u1,R3 1 u1,R3 2 u1,R3 3 u1,R3 4 u1,R3 5 u1,R3 6 u1,R3 7 u1,R3 8 u1,R3 9 u1,R3 10 u1,R3 11 u1,R3 12 u1,R3 13 u1,R3 14 u1,R3 15 u1,R3 16 u1] 17 9)∧SBle (SB.loop LoopState.ready none u4) (SB.loop LoopState.ready none u4)∧SBle P1 P1∧SBle P0 P0∧SBle (SB.cells x.sv.cells 19 259) (SB.cells x.sv.cells 19 259)∧True)∧((!decide (selS [x.r 0,x.r 1,x.r 2,x.r 3,x.r 4,x.r 5,x.r 6,x.r 7,x.r 8,x.r 9,x.r 10,x.r 11,x.r 12,x.r 13,x.r 14,x.r 15] (u2:Int).toNat=[]))=false→((-9223372036854775808:Int)≤(u2:Int)+1∧(u2:Int)+1≤(9223372036854775807:Int))∧∃(u0:Nat),(u0≤16∧16 - u0<16 - u2)∧(u2:Int)+1=(u0:Int) ∧SBle (SB.cells [R4 0 u2,R4 1 u2,R4 2 u2,R4 3 u2,R4 4 u2,R4 5 u2,R4 6 u2,R4 7 u2,R4 8 u2,R4 9 u2,R4 10 u2,R4 11 u2,R4 12 u2,R4 13 u2,R4 14 u2,R4 15 u2,R4 16 u2] 17 9) (SB.cells [R5 0 u0,R5 1 u0,R5 2 u0,R5 3 u0,R5 4 u0,R5 5 u0,R5 6 u0,R5 7 u0,R5 8 u0,R5 9 u0,R5 10 u0,R5 11 u0,R5 12 u0,R5 13 u0,R5 14 u0,R5 15 u0,R5 16 u0] 17 9)∧SBle (SB.loop LoopState.ready none u4) (SB.loop LoopState.ready none u4)∧SBle P1 P1∧SBle P0 P0∧SBle (SB.cells x.sv.cells 19 259) (SB.cells x.sv.cells 19 259)∧True))∧(decide ((u2:Int)<16)=false→x.v.length<1152921504606846976∧some P0=some P0∧(((17:Nat)=(17:Nat)∧(17:Nat)≤(17:Nat))∧(17:Nat)≤(140737488355328:Nat)∧(flat [brI x.r u2 0,brI x.r u2 1,brI x.r u2 2,brI x.r u2 3,brI x.r u2 4,brI x.r u2 5,brI x.r u2 6,brI x.r u2 7,brI x.r u2 8,brI x.r u2 9,brI x.r u2 10,brI x.r u2 11,brI x.r u2 12,brI x.r u2 13,brI x.r u2 14,brI x.r u2 15,textOf x.v]).length≤140737488355328)∧(((0:Int)≤(192:Int)∧(192:Int)≤(192:Int)) ∧0≤(↑(flat [brI x.r u2 0,brI x.r u2 1,brI x.r u2 2,brI x.r u2 3,brI x.r u2 4,brI x.r u2 5,brI x.r u2 6,brI x.r u2 7,brI x.r u2 8,brI x.r u2 9,brI x.r u2 10,brI x.r u2 11,brI x.r u2 12,brI x.r u2 13,brI x.r u2 14,brI x.r u2 15,textOf x.v]).length:Int)∧(↑(flat [brI x.r u2 0,brI x.r u2 1,brI x.r u2 2,brI x.r u2 3,brI x.r u2 4,brI x.r u2 5,brI x.r u2 6,brI x.r u2 7,brI x.r u2 8,brI x.r u2 9,brI x.r u2 10,brI x.r u2 11,brI x.r u2 12,brI x.r u2 13,brI x.r u2 14,brI x.r u2 15,textOf x.v]).length:Int)<1152921504606846976)∧(↑(headOf 192 (↑(flat [brI x.r u2 0,brI x.r u2 1,brI x.r u2 2,brI x.r u2 3,brI x.r u2 4,brI x.r u2 5,brI x.r u2 6,brI x.r u2 7,brI x.r u2 8,brI x.r u2 9,brI x.r u2 10,brI x.r u2 11,brI x.r u2 12,brI x.r u2 13,brI x.r u2 14,brI x.r u2 15,textOf x.v]).length:Int).toNat).length:Int)+(↑(flat [brI x.r u2 0,brI x.r u2 1,brI x.r u2 2,brI x.r u2 3,brI x.r u2 4,brI x.r u2 5,brI x.r u2 6,brI x.r u2 7,brI x.r u2 8,brI x.r u2 9,brI x.r u2 10,brI x.r u2 11,brI x.r u2 12,brI x.r u2 13,brI x.r u2 14,brI x.r u2 15,textOf x.v]).length:Int)≤9223372036854775807 ∧R (SV.str false (cat (headOf 192 (↑(flat [brI x.r u2 0,brI x.r u2 1,brI x.r u2 2,brI x.r u2 3,brI x.r u2 4,brI x.r u2 5,brI x.r u2 6,brI x.r u2 7,brI x.r u2 8,brI x.r u2 9,brI x.r u2 10,brI x.r u2 11,brI x.r u2 12,brI x.r u2 13,brI x.r u2 14,brI x.r u2 15,textOf x.v]).length:Int).toNat) (flat [brI x.r u2 0,brI x.r u2 1,brI x.r u2 2,brI x.r u2 3,brI x.r u2 4,brI x.r u2 5,brI x.r u2 6,brI x.r u2 7,brI x.r u2 8,brI x.r u2 9,brI x.r u2 10,brI x.r u2 11,brI x.r u2 12,brI x.r u2 13,brI x.r u2 14,brI x.r u2 15,textOf x.v]))))))) (SB.cells (SV.agg [SV.int .i64 false x.k,SV.str false x.p,SV.str false x.v,R1 0,R1 1,R1 2,R1 3,R1 4,R1 5,R1 6,R1 7,R1 8,R1 9,R1 10,R1 11,R1 12,R1 13,R1 14,R1 15]).cells 19 259))) (SB.cells (setRange SV.nilslc.cells 0 (SV.slc ((0:Nat)+(1:Nat)) 0 17 true 17).cells) 1 22))) (fun(n0:Nat) (u0:Nat)=>SV.str false (brI x.r u0 n0)))) (fun(n0:Nat) (u2:Nat)=>SV.str false (brI x.r u2 n0)))) (fun(n0:Nat) (u1:Nat)=>SV.str false (brI x.r u1 n0)))) (fun(n0:Nat) (u2:Nat)=>SV.str false (if(u2:Int).toNat=n0 then selS [x.r 0,x.r 1,x.r 2,x.r 3,x.r 4,x.r 5,x.r 6,x.r 7,x.r 8,x.r 9,x.r 10,x.r 11,x.r 12,x.r 13,x.r 14,x.r 15] (u2:Int).toNat else brI x.r u2 n0)))) (fun(n0:Nat)=>SV.str false (x.r n0)))) (fun(n0:Nat) (u3:Nat)=>SV.str false (brI x.r u3 n0))):=by kernel_rfl
end Go.Proofs.YtoalfimkkibpdaaGreatDoor
namespace Go.Proofs.YtoalfimkkibpdaaGreatDoor
open Go Sx
set_option maxRecDepth 20000
theorem head_le9 (b:Int)(n:Nat):(headOf b n).length≤9:=by
 unfold headOf
 split
 ·simp
 ·have:=dig_len 8 n
  show(UInt8.ofNat _::digits n).length≤9
  rw[List.length_cons]
  have:(digits n).length≤8:=dig_len 8 n
  omega
theorem text_le (b:List UInt8):(textOf b).length≤b.length+9:=by
 unfold textOf
 split
 ·omega
 ·have:=head_le9 128 b.length
  rw[List.length_append];omega
theorem behindI_congr {r r':Nat→List UInt8}: ∀ {n:Nat},(∀ j,j<n→r j=r' j)→behindI r n=behindI r' n
 | 0,_=>rfl
 | n+1,h=>by
   unfold behindI
   rw[h n (by omega),behindI_congr (fun j hj=>h j (by omega))]
theorem getD16 (r:Nat→List UInt8)(j:Nat)(h:j<16):[r 0,r 1,r 2,r 3,r 4,r 5,r 6,r 7,r 8,r 9,r 10,r 11,r 12,r 13,r 14,r 15].getD j []=r j:=sel16 r h
theorem leaf_holds (x:Nd):Holds (runP cfgN3 183 Tryz.f183 [x.sv] (fun v=>sameVal v (.bool false (leafB x)))):=by
 refine Holds.of_eq (vcLeaf x _) ?_
 have e:pathB {k:=x.k,p:=x.p,v:=x.v,r:=fun(i:Nat)=>[x.r 0,x.r 1,x.r 2,x.r 3,x.r 4,x.r 5,x.r 6,x.r 7,x.r 8,x.r 9,x.r 10,x.r 11,x.r 12,x.r 13,x.r 14,x.r 15].getD i []:Nd} 0=pathB x 0:=rfl
 rw[e,behindI_congr (getD16 x.r)]
 unfold leafB
 refine⟨trivial,fun a=>⟨fun b=>⟨fun c=>⟨trivial,bool_eq ?_⟩,fun c=>bool_eq ?_⟩,fun b=>bool_eq ?_⟩,fun a=>bool_eq ?_⟩
 ·rw[a,b,c];rfl
 ·rw[a,b,c];rfl
 ·rw[a,b];rfl
 ·rw[a];rfl
def ndSpec (g:Nd→Option (Prop×SV)):List SV→Option (Prop×SV)
 | [.agg l]=>(match ndOf l with
   | some x=>g x
   | none=>none)
 | _=>none
theorem ndSpec_eq {g:Nd→Option (Prop×SV)} {args:List SV} {p:Prop} {v:SV} (h:ndSpec g args=some (p,v)): ∃ x,args=[x.sv]∧g x=some (p,v):=by
 unfold ndSpec at h
 split at h
 ·split at h
  ·rename_i x hx
   exact⟨x,by rw[ndOf_eq hx],h⟩
  ·cases h
 ·cases h
theorem nd_wf (x:Nd):SV.wfs 0 [x.sv]=true:=rfl
theorem leaf_ok:CallOk Tryz.prog 183 (purePT (ndSpec fun x=>some (True,.bool false (leafB x)))):=by
 refine pure_ok goodN3 (n:=20) (fn:=Tryz.f183) Tryz.func183 (by kernel_rfl) (by kernel_rfl) ?_
 intro args p r h hp
 obtain⟨x,hx,hg⟩:=ndSpec_eq h
 subst hx
 injection hg with hg;injection hg with h1 h2;subst h1;subst h2
 exact⟨nd_wf x,rfl,leaf_holds x⟩
theorem flat2_le {a b:List UInt8}:(flat [a,b]).length=a.length+b.length:=by simp[flat]
theorem pathT_le {x:Nd} {leaf:Bool}:(pathT x leaf).length≤x.p.length+2:=by
 unfold pathT
 cases nibB x.p with
 | false=>simp
 | true =>
   simp only[cond_true,nputL,pairsL_len,List.length_cons]
   cases decide ((x.p.length:Int)% 2=1)<;>simp only[cond_true,cond_false,List.length_cons]<;>omega
theorem leafText_holds {x:Nd} (hx:x.Few):Holds (runP cfgN3 187 Tryz.f187 [x.sv] (fun v=>sameVal v (.str false (leafT x)))):=by
 refine Holds.of_eq (vcLeafText x _) ?_
 have h1:=hx.p
 have h2:=hx.v
 have h3:=pathT_le (x:=x) (leaf:=true)
 have h4:=text_le (pathT x true)
 have h5:=text_le x.v
 have h6:=flat2_le (a:=textOf (pathT x true)) (b:=textOf x.v)
 have h7:=head_le9 192 (((flat [textOf (pathT x true),textOf x.v]).length:Nat):Int).toNat
 refine⟨by omega,fun a=> ?_,fun a=> ?_⟩
 ·have e:nputL x.p true=pathT x true:=by rw[pathT,a];rfl
  rw[e]
  exact⟨by omega,rfl,by omega,by omega,by omega,by omega,fun E=>by rw[leafT,listOf,Int.toNat_natCast];rfl⟩
 ·have e:[]=pathT x true:=by rw[pathT,a];rfl
  rw[e]
  exact⟨by omega,rfl,by omega,by omega,by omega,by omega,fun E=>by rw[leafT,listOf,Int.toNat_natCast];rfl⟩
theorem extText_holds {x:Nd} (hx:x.Few):Holds (runP cfgN3 188 Tryz.f188 [x.sv] (fun v=>sameVal v (.str false (extT x)))):=by
 refine Holds.of_eq (vcExtText x _) ?_
 have h1:=hx.p
 have h2:=hx.r 0 (by decide)
 have h3:=pathT_le (x:=x) (leaf:=false)
 have h4:=text_le (pathT x false)
 have h6:=flat2_le (a:=textOf (pathT x false)) (b:=x.r 0)
 have h7:=head_le9 192 (((flat [textOf (pathT x false),x.r 0]).length:Nat):Int).toNat
 refine⟨by omega,fun a=> ?_,fun a=> ?_⟩
 ·have e:nputL x.p false=pathT x false:=by rw[pathT,a];rfl
  rw[e]
  exact⟨by omega,rfl,by omega,by omega,by omega,fun E=>by rw[extT,listOf,Int.toNat_natCast];rfl⟩
 ·have e:[]=pathT x false:=by rw[pathT,a];rfl
  rw[e]
  exact⟨by omega,rfl,by omega,by omega,by omega,fun E=>by rw[extT,listOf,Int.toNat_natCast];rfl⟩
theorem strs17_le {f g:Nat→List UInt8} {tot:Nat} {ty:TypeId} (h: ∀ j,j<17→f j=g j):SBle (.cells (strs17 f) tot ty) (.cells (strs17 g) tot ty):=by
 have e:strs17 f=strs17 g:=by
  unfold strs17
  rw[h 0 (by decide),h 1 (by decide),h 2 (by decide),h 3 (by decide),h 4 (by decide),h 5 (by decide),h 6 (by decide),h 7 (by decide),h 8 (by decide),h 9 (by decide),h 10 (by decide),h 11 (by decide),h 12 (by decide),h 13 (by decide),h 14 (by decide),h 15 (by decide),h 16 (by decide)]
 rw[e];exact SBle.refl _
theorem brI_step {r:Nat→List UInt8} {i:Nat} (_hi:i<16)(h:r i≠[])(j:Nat):(if i=j then r i else brI r i j)=brI r (i+1) j:=by
 unfold brI
 by_cases e:i=j
 ·subst e
  rw[if_pos rfl,if_pos (by omega),if_neg h]
 ·rw[if_neg e]
  by_cases e1:j<i
  ·rw[if_pos e1,if_pos (show j<i+1 by omega)]
  ·rw[if_neg e1,if_neg (show ¬ j<i+1 by omega)]
theorem brI_skip {r:Nat→List UInt8} {i:Nat} (h:r i=[])(j:Nat):brI r i j=brI r (i+1) j:=by
 unfold brI
 by_cases e:i=j
 ·subst e
  rw[if_neg (by omega),if_pos (by omega),if_pos h]
 ·by_cases e1:j<i
  ·rw[if_pos e1,if_pos (show j<i+1 by omega)]
  ·rw[if_neg e1,if_neg (show ¬ j<i+1 by omega)]
theorem flat_le {l:List (List UInt8)} {m:Nat} (h: ∀ x∈ l,x.length≤m):(flat l).length≤l.length*m:=by
 induction l with
 | nil=>simp[flat]
 | cons a r ih =>
   have h1:=h a (List.mem_cons_self ..)
   have h2:=ih fun x hx=>h x (List.mem_cons_of_mem _ hx)
   have e:(flat (a::r)).length=a.length+(flat r).length:=by simp[flat]
   rw[e,List.length_cons,Nat.succ_mul];omega
theorem brI_le {x:Nd} (hx:x.Few)(i j:Nat)(h:j<16):(brI x.r i j).length≤1000:=by
 have:=hx.r j h
 unfold brI
 split
 ·split
  ·simp
  ·exact this
 ·simp
theorem branchText_holds {x:Nd} (hx:x.Few):Holds (runP (cfgBT x) 189 Tryz.f189 [x.sv] (fun v=>sameVal v (.str false (branchT x)))):=by
 refine Holds.of_eq (vcBranchText x _) ?_
 dsimp only
 refine⟨by omega,rfl,by omega,rfl,by omega,rfl,by omega,rfl,by omega,rfl,by omega,rfl,by omega,rfl,by omega,rfl,by omega,rfl,by omega,rfl,by omega,rfl,by omega,rfl,by omega,rfl,by omega,rfl,by omega,rfl,by omega,rfl,by omega,rfl,fun R=>⟨⟨0,by omega,rfl,Sx.SBle.cells (fun E=>rfl) rfl,SBle.refl _,SBle.refl _,SBle.refl _,SBle.refl _,trivial⟩,fun i hi=>⟨fun a=> ?_,fun a=> ?_⟩⟩⟩
 ·have a:=of_decide_eq_true a
  have ei:i<16:=by omega
  have es:=sel16 x.r ei
  rw[Int.toNat_natCast,es]
  refine⟨by omega,fun b=>⟨rfl,by omega,by omega,by omega,i+1,by omega,by omega,?_,SBle.refl _,SBle.refl _,SBle.refl _,SBle.refl _,trivial⟩,fun b=>⟨by omega,i+1,by omega,by omega,?_,SBle.refl _,SBle.refl _,SBle.refl _,SBle.refl _,trivial⟩⟩
  ·have b: ¬ x.r i=[]:=by simpa using b
   exact strs17_le (f:=fun j=>if i=j then x.r i else brI x.r i j) (g:=brI x.r (i+1)) fun j hj=>brI_step ei b j
  ·have b:x.r i=[]:=by simpa using b
   exact strs17_le fun j hj=>brI_skip b j
 ·have a:=of_decide_eq_false a
  have e:i=16:=by omega
  subst e
  have h1:=hx.v
  have h2:=text_le x.v
  have hb:=brI_le hx 16
  have h6:(flat [brI x.r 16 0,brI x.r 16 1,brI x.r 16 2,brI x.r 16 3,brI x.r 16 4,brI x.r 16 5,brI x.r 16 6,brI x.r 16 7,brI x.r 16 8,brI x.r 16 9,brI x.r 16 10,brI x.r 16 11,brI x.r 16 12,brI x.r 16 13,brI x.r 16 14,brI x.r 16 15,textOf x.v]).length≤17*2000:=by
   refine flat_le (m:=2000) fun y hy=> ?_
   simp only[List.mem_cons,List.not_mem_nil,or_false] at hy
   rcases hy with rfl | rfl | rfl | rfl | rfl | rfl | rfl | rfl | rfl | rfl | rfl | rfl | rfl | rfl | rfl | rfl | rfl
   ·exact Nat.le_trans (hb 0 (by decide)) (by decide)
   ·exact Nat.le_trans (hb 1 (by decide)) (by decide)
   ·exact Nat.le_trans (hb 2 (by decide)) (by decide)
   ·exact Nat.le_trans (hb 3 (by decide)) (by decide)
   ·exact Nat.le_trans (hb 4 (by decide)) (by decide)
   ·exact Nat.le_trans (hb 5 (by decide)) (by decide)
   ·exact Nat.le_trans (hb 6 (by decide)) (by decide)
   ·exact Nat.le_trans (hb 7 (by decide)) (by decide)
   ·exact Nat.le_trans (hb 8 (by decide)) (by decide)
   ·exact Nat.le_trans (hb 9 (by decide)) (by decide)
   ·exact Nat.le_trans (hb 10 (by decide)) (by decide)
   ·exact Nat.le_trans (hb 11 (by decide)) (by decide)
   ·exact Nat.le_trans (hb 12 (by decide)) (by decide)
   ·exact Nat.le_trans (hb 13 (by decide)) (by decide)
   ·exact Nat.le_trans (hb 14 (by decide)) (by decide)
   ·exact Nat.le_trans (hb 15 (by decide)) (by decide)
   ·omega
  have h7:=head_le9 192 (((flat [brI x.r 16 0,brI x.r 16 1,brI x.r 16 2,brI x.r 16 3,brI x.r 16 4,brI x.r 16 5,brI x.r 16 6,brI x.r 16 7,brI x.r 16 8,brI x.r 16 9,brI x.r 16 10,brI x.r 16 11,brI x.r 16 12,brI x.r 16 13,brI x.r 16 14,brI x.r 16 15,textOf x.v]).length:Nat):Int).toNat
  have e:branchT x=cat (headOf 192 (((flat [brI x.r 16 0,brI x.r 16 1,brI x.r 16 2,brI x.r 16 3,brI x.r 16 4,brI x.r 16 5,brI x.r 16 6,brI x.r 16 7,brI x.r 16 8,brI x.r 16 9,brI x.r 16 10,brI x.r 16 11,brI x.r 16 12,brI x.r 16 13,brI x.r 16 14,brI x.r 16 15,textOf x.v]).length:Nat):Int).toNat) (flat [brI x.r 16 0,brI x.r 16 1,brI x.r 16 2,brI x.r 16 3,brI x.r 16 4,brI x.r 16 5,brI x.r 16 6,brI x.r 16 7,brI x.r 16 8,brI x.r 16 9,brI x.r 16 10,brI x.r 16 11,brI x.r 16 12,brI x.r 16 13,brI x.r 16 14,brI x.r 16 15,textOf x.v]):=by rw[branchT,listOf,Int.toNat_natCast];rfl
  generalize flat [brI x.r 16 0,brI x.r 16 1,brI x.r 16 2,brI x.r 16 3,brI x.r 16 4,brI x.r 16 5,brI x.r 16 6,brI x.r 16 7,brI x.r 16 8,brI x.r 16 9,brI x.r 16 10,brI x.r 16 11,brI x.r 16 12,brI x.r 16 13,brI x.r 16 14,brI x.r 16 15,textOf x.v]=F at *
  exact⟨by omega,rfl,by omega,by omega,by omega,fun E=>by rw[e]⟩
theorem noneText_ok:CallOk Tryz.prog 186 (purePT (ndSpec fun _=>some (True,.str false [128]))):=by
 refine pure_ok goodN3 (n:=20) (fn:=Tryz.f186) Tryz.func186 (by kernel_rfl) (by kernel_rfl) ?_
 intro args p r h hp
 obtain⟨x,hx,hg⟩:=ndSpec_eq h
 subst hx
 injection hg with hg;injection hg with h1 h2;subst h1;subst h2
 exact⟨nd_wf x,rfl,Holds.of_eq (vcNoneText x _) ⟨by omega,fun E=>rfl⟩⟩
theorem leafText_ok:CallOk Tryz.prog 187 (purePT (ndSpec fun x=>some (x.Few,.str false (leafT x)))):=by
 refine pure_ok goodN3 (n:=20) (fn:=Tryz.f187) Tryz.func187 (by kernel_rfl) (by kernel_rfl) ?_
 intro args p r h hp
 obtain⟨x,hx,hg⟩:=ndSpec_eq h
 subst hx
 injection hg with hg;injection hg with h1 h2;subst h1;subst h2
 exact⟨nd_wf x,rfl,leafText_holds hp⟩
theorem extText_ok:CallOk Tryz.prog 188 (purePT (ndSpec fun x=>some (x.Few,.str false (extT x)))):=by
 refine pure_ok goodN3 (n:=20) (fn:=Tryz.f188) Tryz.func188 (by kernel_rfl) (by kernel_rfl) ?_
 intro args p r h hp
 obtain⟨x,hx,hg⟩:=ndSpec_eq h
 subst hx
 injection hg with hg;injection hg with h1 h2;subst h1;subst h2
 exact⟨nd_wf x,rfl,extText_holds hp⟩
theorem branchText_ok:CallOk Tryz.prog 189 (purePT (ndSpec fun x=>some (x.Few,.str false (branchT x)))):=by
 refine pure_of_ans (ans_ok (n:=20) (fn:=Tryz.f189) Tryz.func189 (by kernel_rfl) (by kernel_rfl) ?_)
 intro args p a h hp
 obtain⟨⟨p0,v0⟩,hq,hpa⟩:=Option.map_eq_some_iff.1 h
 obtain⟨x,hx,hg⟩:=ndSpec_eq hq
 subst hx
 injection hg with hg;injection hg with g1 g2;subst g1;subst g2
 injection hpa with h1 h2;subst h1;subst h2
 exact⟨_,goodBT x,nd_wf x,rfl,branchText_holds hp⟩
noncomputable def listN4:List (FuncId×PT):=(183,purePT (ndSpec fun x=>some (True,.bool false (leafB x))))::(186,purePT (ndSpec fun _=>some (True,.str false [128]))) ::
 (187,purePT (ndSpec fun x=>some (x.Few,.str false (leafT x))))::(188,purePT (ndSpec fun x=>some (x.Few,.str false (extT x))))::(189,purePT (ndSpec fun x=>some (x.Few,.str false (branchT x))))::listN3
theorem listN4_ok:SummOk Tryz.prog (fun f=>lookPT f listN4):=.cons leaf_ok (purePT_mono _) (.cons noneText_ok (purePT_mono _) (.cons leafText_ok (purePT_mono _) (.cons extText_ok (purePT_mono _) (.cons branchText_ok (purePT_mono _) listN3_ok))))
noncomputable def cfgN4:Cfg:={cfg0 with summ:=fun f=>lookPT f listN4}
theorem goodN4:Sx.Good Tryz.prog cfgN4:=⟨mixes,listN4_ok,fns_ok⟩
end Go.Proofs.YtoalfimkkibpdaaGreatDoor
namespace Go.Proofs.YtoalfimkkibpdaaGreatDoor
open Go Sx
set_option maxRecDepth 20000
def rdCells (s:List UInt8)(i:Nat):List SV:=[.int .i64 false 3,.str false [],.str false [],.str false (rdI s i 0),.str false (rdI s i 1),.str false (rdI s i 2),.str false (rdI s i 3),.str false (rdI s i 4),.str false (rdI s i 5),.str false (rdI s i 6),.str false (rdI s i 7),.str false (rdI s i 8),.str false (rdI s i 9),.str false (rdI s i 10),.str false (rdI s i 11),.str false (rdI s i 12),.str false (rdI s i 13),.str false (rdI s i 14),.str false (rdI s i 15)]
noncomputable def annRd (s:List UInt8):LoopAnn :=
 {α:=Nat,pre:=fun _ i=>i≤16,mea:=fun _ i=>16 - i,fresh:=0,slots:=fun _ i=>[(9,.int .i64 false i)],
  mem:=fun st i=>match slot st.tmps 4 with
   | some (.ptr k _ _)=>[(k,.cells (rdCells (cutIn s) i) 19 116)]
   | _=>[]}
noncomputable def cfgRd (s:List UInt8):Cfg:={cfg0 with summ:=fun f=>lookPT f listN4,anns:=fun f=>if f=191 then [(3,always (annRd s))] else []}
theorem goodRd (s:List UInt8):Sx.Good Tryz.prog (cfgRd s):=⟨mixes,listN4_ok,fns_ok⟩
end Go.Proofs.YtoalfimkkibpdaaGreatDoor
namespace Go.Proofs.YtoalfimkkibpdaaGreatDoor
open Go Sx
set_option maxRecDepth 20000
theorem vcRead (s:List UInt8):VC.holds (runA (cfgRd s) 162 Tryz.f162 [.str false s] (readA s))=((fun R0:Nat→(Nat)→SV=>((fun R1:Nat→(Nat)→SV=>((fun R2:Nat→(Nat)→SV=>((fun R3:Nat→(Nat)→SV=>((fun R4:Nat→(Nat)→SV=>((fun P0:SV=>((fun P1:SB=>((fun P2:SV=>((fun P3:SV=>((fun P4:SV=>((fun P5:SV=>((fun P6:Nat→SV=>((fun P7:Nat→SV=>((fun P8:SV=>((fun P9:SV=>((fun P10:SV=>((fun P11:Nat→SB=>((fun P12:SV=>(((0:Nat)<(1152921504606846976:Nat)∧(decide (s=textOf [])=true→(decide (shapeK s=0)=true→sameVal P5 P12)∧(decide (shapeK s=0)=false→(decide (shapeK s=1)=true→sameVal P5 P9)∧(decide (shapeK s=1)=false→(decide (shapeK s=2)=true→sameVal P5 P10)∧(decide (shapeK s=2)=false→(decide (shapeK s=3)=true→sameVal P5 P8)∧(decide (shapeK s=3)=false→∃(u17:Nd),sameVal P5 (SV.tup [u17.sv,SV.bool true false]))))))∧(decide (s=textOf [])=false→s.length<9223372036854775808∧(cutB s=true→((!cutL s)=true→(decide (shapeK s=0)=true→sameVal P0 P12)∧(decide (shapeK s=0)=false→(decide (shapeK s=1)=true→sameVal P0 P9)∧(decide (shapeK s=1)=false→(decide (shapeK s=2)=true→sameVal P0 P10)∧(decide (shapeK s=2)=false→(decide (shapeK s=3)=true→sameVal P0 P8)∧(decide (shapeK s=3)=false→∃(u16:Nd),sameVal P0 (SV.tup [u16.sv,SV.bool true false]))))))∧((!cutL s)=false→((!decide (cutRest s=[]))=true→(decide (shapeK s=0)=true→sameVal P0 P12)∧(decide (shapeK s=0)=false→(decide (shapeK s=1)=true→sameVal P0 P9) ∧(decide (shapeK s=1)=false→(decide (shapeK s=2)=true→sameVal P0 P10)∧(decide (shapeK s=2)=false→(decide (shapeK s=3)=true→sameVal P0 P8)∧(decide (shapeK s=3)=false→∃(u15:Nd),sameVal P0 (SV.tup [u15.sv,SV.bool true false]))))))∧((!decide (cutRest s=[]))=false→(cutIn s).length<1099511627776∧(itemsB (cutIn s)=true→∀(u14:Nat),itemsN (cutIn s)≤u14→(decide ((↑(itemsN (cutIn s)):Int)=2)=true→((0:Int)≤(0:Int)∧0<(↑(itemsN (cutIn s)):Int))∧0<itemsN (cutIn s)∧((0:Int)≤(1:Int)∧1<(↑(itemsN (cutIn s)):Int))∧1<itemsN (cutIn s)∧(itemAt (cutIn s) 0).length<9223372036854775808∧(plainB (itemAt (cutIn s) 0)=true→(cutIn (itemAt (cutIn s) 0)).length<1099511627776∧(ngetB (cutIn (itemAt (cutIn s) 0))=true→((!ngetLeaf (cutIn (itemAt (cutIn s) 0)))=true→(decide (shapeK s=0)=true→sameVal P3 P12)∧(decide (shapeK s=0)=false→(decide (shapeK s=1)=true→sameVal P3 P9)∧(decide (shapeK s=1)=false→(decide (shapeK s=2)=true→sameVal P3 P10)∧(decide (shapeK s=2)=false→(decide (shapeK s=3)=true→sameVal P3 P8)∧(decide (shapeK s=3)=false →∃(u13:Nd),sameVal P3 (SV.tup [u13.sv,SV.bool true false]))))))∧((!ngetLeaf (cutIn (itemAt (cutIn s) 0)))=false→(itemAt (cutIn s) 1).length<9223372036854775808∧(plainB (itemAt (cutIn s) 1)=true→(decide (shapeK s=0)=true→sameVal P2 P12)∧(decide (shapeK s=0)=false→(decide (shapeK s=1)=true→sameVal P2 P9)∧(decide (shapeK s=1)=false→(decide (shapeK s=2)=true→sameVal P2 P10)∧(decide (shapeK s=2)=false→(decide (shapeK s=3)=true→sameVal P2 P8)∧(decide (shapeK s=3)=false→∃(u12:Nd),sameVal P2 (SV.tup [u12.sv,SV.bool true false]))))))∧(plainB (itemAt (cutIn s) 1)=false→(decide (shapeK s=0)=true→sameVal P4 P12)∧(decide (shapeK s=0)=false→(decide (shapeK s=1)=true→sameVal P4 P9)∧(decide (shapeK s=1)=false→(decide (shapeK s=2)=true→sameVal P4 P10)∧(decide (shapeK s=2)=false→(decide (shapeK s=3)=true→sameVal P4 P8)∧(decide (shapeK s=3)=false→∃(u11:Nd),sameVal P4 (SV.tup [u11.sv,SV.bool true false]))))))))∧(ngetB (cutIn (itemAt (cutIn s) 0))=false→(decide (shapeK s=0)=true→sameVal P0 P12)∧(decide (shapeK s=0)=false →(decide (shapeK s=1)=true→sameVal P0 P9)∧(decide (shapeK s=1)=false→(decide (shapeK s=2)=true→sameVal P0 P10)∧(decide (shapeK s=2)=false→(decide (shapeK s=3)=true→sameVal P0 P8)∧(decide (shapeK s=3)=false→∃(u10:Nd),sameVal P0 (SV.tup [u10.sv,SV.bool true false])))))))∧(plainB (itemAt (cutIn s) 0)=false→(decide (shapeK s=0)=true→sameVal P0 P12)∧(decide (shapeK s=0)=false→(decide (shapeK s=1)=true→sameVal P0 P9)∧(decide (shapeK s=1)=false→(decide (shapeK s=2)=true→sameVal P0 P10)∧(decide (shapeK s=2)=false→(decide (shapeK s=3)=true→sameVal P0 P8)∧(decide (shapeK s=3)=false→∃(u9:Nd),sameVal P0 (SV.tup [u9.sv,SV.bool true false])))))))∧(decide ((↑(itemsN (cutIn s)):Int)=2)=false→(decide ((↑(itemsN (cutIn s)):Int)=17)=true→(∃(u8:Nat),u8≤16∧0=(u8:Int) ∧SBle (SB.cells [SV.int .i64 true 3,SV.str true [],SV.str true [],SV.str true [],SV.str true [],SV.str true [],SV.str true [],SV.str true [],SV.str true [],SV.str true [],SV.str true [],SV.str true [],SV.str true [],SV.str true [],SV.str true [],SV.str true [],SV.str true [],SV.str true [],SV.str true []] 19 116) (SB.cells [SV.int .i64 false 3,SV.str false [],SV.str false [],R0 0 u8,R0 1 u8,R0 2 u8,R0 3 u8,R0 4 u8,R0 5 u8,R0 6 u8,R0 7 u8,R0 8 u8,R0 9 u8,R0 10 u8,R0 11 u8,R0 12 u8,R0 13 u8,R0 14 u8,R0 15 u8] 19 116)∧SBle P1 P1∧SBle (P11 u14) (P11 u14)∧SBle P1 P1∧True)∧∀(u7:Nat),u7≤16→(decide ((u7:Int)<16)=true→(0≤(u7:Int)∧(u7:Int)<(↑(itemsN (cutIn s)):Int))∧0+(u7:Int).toNat<itemsN (cutIn s)∧(0:Nat)<(1152921504606846976:Nat)∧some (P11 u14)=some (P11 u14)∧((!decide (itemAt (cutIn s) (0+(u7:Int).toNat)=textOf []))=true→(0≤(u7:Int)∧(u7:Int)<(↑(itemsN (cutIn s)):Int))∧0+(u7:Int).toNat<itemsN (cutIn s)∧(0≤(u7:Int)∧(u7:Int)<16)∧(u7:Int).toNat<16∧((-9223372036854775808:Int)≤(u7:Int)+1∧(u7:Int)+1≤(9223372036854775807:Int)) ∧∃(u6:Nat),(u6≤16∧16 - u6<16 - u7)∧(u7:Int)+1=(u6:Int)∧SBle (SB.cells [SV.int .i64 false 3,SV.str false [],SV.str false [],R1 0 u7,R1 1 u7,R1 2 u7,R1 3 u7,R1 4 u7,R1 5 u7,R1 6 u7,R1 7 u7,R1 8 u7,R1 9 u7,R1 10 u7,R1 11 u7,R1 12 u7,R1 13 u7,R1 14 u7,R1 15 u7] 19 116) (SB.cells [SV.int .i64 false 3,SV.str false [],SV.str false [],R2 0 u6,R2 1 u6,R2 2 u6,R2 3 u6,R2 4 u6,R2 5 u6,R2 6 u6,R2 7 u6,R2 8 u6,R2 9 u6,R2 10 u6,R2 11 u6,R2 12 u6,R2 13 u6,R2 14 u6,R2 15 u6] 19 116)∧SBle P1 P1∧SBle (P11 u14) (P11 u14)∧SBle P1 P1∧True)∧((!decide (itemAt (cutIn s) (0+(u7:Int).toNat)=textOf []))=false→((-9223372036854775808:Int)≤(u7:Int)+1∧(u7:Int)+1≤(9223372036854775807:Int))∧∃(u5:Nat),(u5≤16∧16 - u5<16 - u7)∧(u7:Int)+1=(u5:Int) ∧SBle (SB.cells [SV.int .i64 false 3,SV.str false [],SV.str false [],R3 0 u7,R3 1 u7,R3 2 u7,R3 3 u7,R3 4 u7,R3 5 u7,R3 6 u7,R3 7 u7,R3 8 u7,R3 9 u7,R3 10 u7,R3 11 u7,R3 12 u7,R3 13 u7,R3 14 u7,R3 15 u7] 19 116) (SB.cells [SV.int .i64 false 3,SV.str false [],SV.str false [],R4 0 u5,R4 1 u5,R4 2 u5,R4 3 u5,R4 4 u5,R4 5 u5,R4 6 u5,R4 7 u5,R4 8 u5,R4 9 u5,R4 10 u5,R4 11 u5,R4 12 u5,R4 13 u5,R4 14 u5,R4 15 u5] 19 116)∧SBle P1 P1∧SBle (P11 u14) (P11 u14)∧SBle P1 P1∧True))∧(decide ((u7:Int)<16)=false→((0:Int)≤(16:Int)∧16<(↑(itemsN (cutIn s)):Int))∧16<itemsN (cutIn s)∧(itemAt (cutIn s) 16).length<9223372036854775808∧(plainB (itemAt (cutIn s) 16)=true→(decide (shapeK s=0)=true→sameVal (P6 u7) P12)∧(decide (shapeK s=0)=false→(decide (shapeK s=1)=true→sameVal (P6 u7) P9)∧(decide (shapeK s=1)=false→(decide (shapeK s=2)=true→sameVal (P6 u7) P10)∧(decide (shapeK s=2)=false→(decide (shapeK s=3)=true→sameVal (P6 u7) P8)∧(decide (shapeK s=3)=false→∃(u4:Nd),sameVal (P6 u7) (SV.tup [u4.sv,SV.bool true false]))))))∧(plainB (itemAt (cutIn s) 16)=false →(decide (shapeK s=0)=true→sameVal (P7 u7) P12)∧(decide (shapeK s=0)=false→(decide (shapeK s=1)=true→sameVal (P7 u7) P9)∧(decide (shapeK s=1)=false→(decide (shapeK s=2)=true→sameVal (P7 u7) P10)∧(decide (shapeK s=2)=false→(decide (shapeK s=3)=true→sameVal (P7 u7) P8)∧(decide (shapeK s=3)=false→∃(u3:Nd),sameVal (P7 u7) (SV.tup [u3.sv,SV.bool true false]))))))))∧(decide ((↑(itemsN (cutIn s)):Int)=17)=false→(decide (shapeK s=0)=true→sameVal P0 P12)∧(decide (shapeK s=0)=false→(decide (shapeK s=1)=true→sameVal P0 P9)∧(decide (shapeK s=1)=false→(decide (shapeK s=2)=true→sameVal P0 P10)∧(decide (shapeK s=2)=false→(decide (shapeK s=3)=true→sameVal P0 P8)∧(decide (shapeK s=3)=false→∃(u2:Nd),sameVal P0 (SV.tup [u2.sv,SV.bool true false]))))))))∧(itemsB (cutIn s)=false→(decide (shapeK s=0)=true→sameVal P0 P12)∧(decide (shapeK s=0)=false→(decide (shapeK s=1)=true→sameVal P0 P9)∧(decide (shapeK s=1)=false→(decide (shapeK s=2)=true→sameVal P0 P10)∧(decide (shapeK s=2)=false→(decide (shapeK s=3)=true →sameVal P0 P8)∧(decide (shapeK s=3)=false→∃(u1:Nd),sameVal P0 (SV.tup [u1.sv,SV.bool true false])))))))))∧(cutB s=false→(decide (shapeK s=0)=true→sameVal P0 P12)∧(decide (shapeK s=0)=false→(decide (shapeK s=1)=true→sameVal P0 P9)∧(decide (shapeK s=1)=false→(decide (shapeK s=2)=true→sameVal P0 P10)∧(decide (shapeK s=2)=false→(decide (shapeK s=3)=true→sameVal P0 P8)∧(decide (shapeK s=3)=false→∃(u0:Nd),sameVal P0 (SV.tup [u0.sv,SV.bool true false])))))))))) (SV.tup [zeroN,SV.bool true true]))) (fun(u14:Nat)=>(SB.rows true (itemsN (cutIn s)) [Col.str (itemAt (cutIn s))] false u14 9)))) (SV.tup [(rdExt s).svL true 2,SV.bool true true]))) (SV.tup [(rdLeaf s).svL true 1,SV.bool true true]))) (SV.tup [(rdBranch s).svL true 3,SV.bool true true]))) (fun(u7:Nat)=>(SV.tup [SV.agg [SV.int .i64 false 3,SV.str false [],SV.str true [],R3 0 u7,R3 1 u7,R3 2 u7,R3 3 u7,R3 4 u7,R3 5 u7,R3 6 u7,R3 7 u7,R3 8 u7,R3 9 u7,R3 10 u7,R3 11 u7,R3 12 u7,R3 13 u7,R3 14 u7,R3 15 u7],SV.bool true false])))) (fun(u7:Nat)=>(SV.tup [SV.agg [SV.int .i64 false 3,SV.str false [],SV.str false (cutIn (itemAt (cutIn s) 16)),R3 0 u7,R3 1 u7,R3 2 u7,R3 3 u7,R3 4 u7,R3 5 u7,R3 6 u7,R3 7 u7,R3 8 u7,R3 9 u7,R3 10 u7,R3 11 u7,R3 12 u7,R3 13 u7,R3 14 u7,R3 15 u7],SV.bool true true])))) (SV.tup [SV.agg [SV.int .i64 true 0,SV.str true [],SV.str true [],SV.str true [],SV.str true [],SV.str true [],SV.str true [],SV.str true [],SV.str true [],SV.str true [],SV.str true [],SV.str true [],SV.str true [],SV.str true [],SV.str true [],SV.str true [],SV.str true [],SV.str true [],SV.str true []],SV.bool true true]))) (SV.tup [SV.agg [SV.int .i64 true 1,SV.str false (ngetP (cutIn (itemAt (cutIn s) 0))),SV.str true [],SV.str true [],SV.str true [],SV.str true [],SV.str true [],SV.str true [],SV.str true [],SV.str true [],SV.str true [],SV.str true [],SV.str true [],SV.str true [],SV.str true [],SV.str true [],SV.str true [],SV.str true [],SV.str true []],SV.bool true false]))) (SV.tup [SV.agg [SV.int .i64 true 2,SV.str false (ngetP (cutIn (itemAt (cutIn s) 0))),SV.str true [],Col.at 1 (Col.str (itemAt (cutIn s))),SV.str true [],SV.str true [],SV.str true [],SV.str true [],SV.str true [],SV.str true [],SV.str true [],SV.str true [],SV.str true [],SV.str true [],SV.str true [],SV.str true [],SV.str true [],SV.str true [],SV.str true []],SV.bool true true]))) (SV.tup [SV.agg [SV.int .i64 true 1,SV.str false (ngetP (cutIn (itemAt (cutIn s) 0))),SV.str false (cutIn (itemAt (cutIn s) 1)),SV.str true [],SV.str true [],SV.str true [],SV.str true [],SV.str true [],SV.str true [],SV.str true [],SV.str true [],SV.str true [],SV.str true [],SV.str true [],SV.str true [],SV.str true [],SV.str true [],SV.str true [],SV.str true []],SV.bool true true]))) (SB.cells (SV.agg [SV.int .i64 true 0,SV.str true [],SV.str true [],SV.str true [],SV.str true [],SV.str true [],SV.str true [],SV.str true [],SV.str true [],SV.str true [],SV.str true [],SV.str true [],SV.str true [],SV.str true [],SV.str true [],SV.str true [],SV.str true [],SV.str true [],SV.str true []]).cells 19 116))) (SV.tup [SV.agg [SV.int .i64 true 0,SV.str true [],SV.str true [],SV.str true [],SV.str true [],SV.str true [],SV.str true [],SV.str true [],SV.str true [],SV.str true [],SV.str true [],SV.str true [],SV.str true [],SV.str true [],SV.str true [],SV.str true [],SV.str true [],SV.str true [],SV.str true []],SV.bool true false]))) (fun(n0:Nat) (u5:Nat)=>SV.str false (rdI (cutIn s) u5 n0)))) (fun(n0:Nat) (u7:Nat)=>SV.str false (rdI (cutIn s) u7 n0)))) (fun(n0:Nat) (u6:Nat)=>SV.str false (rdI (cutIn s) u6 n0)))) (fun(n0:Nat) (u7:Nat)=>SV.str false (if(u7:Int).toNat=n0 then itemAt (cutIn s) (0+(u7:Int).toNat)else rdI (cutIn s) u7 n0)))) (fun(n0:Nat) (u8:Nat)=>SV.str false (rdI (cutIn s) u8 n0))):=by kernel_rfl
end Go.Proofs.YtoalfimkkibpdaaGreatDoor
namespace Go.Proofs.YtoalfimkkibpdaaGreatDoor
open Go Sx
set_option maxRecDepth 20000
def Fit5 (k:Int)(A B C D E:Prop):Prop:=(decide (k=0)=true→A)∧(decide (k=0)=false→(decide (k=1)=true→B)∧(decide (k=1)=false→(decide (k=2)=true→C)∧(decide (k=2)=false→(decide (k=3)=true→D)∧(decide (k=3)=false→E))))
theorem fit0 {k:Int} {A B C D E:Prop} (h:k=0)(a:A):Fit5 k A B C D E:=by subst h;exact⟨fun _=>a,fun h=>absurd h (by decide)⟩
theorem fit1 {k:Int} {A B C D E:Prop} (h:k=1)(a:B):Fit5 k A B C D E:=by subst h;exact⟨fun h=>absurd h (by decide),fun _=>⟨fun _=>a,fun h=>absurd h (by decide)⟩⟩
theorem fit2 {k:Int} {A B C D E:Prop} (h:k=2)(a:C):Fit5 k A B C D E:=by subst h;exact⟨fun h=>absurd h (by decide),fun _=>⟨fun h=>absurd h (by decide),fun _=>⟨fun _=>a,fun h=>absurd h (by decide)⟩⟩⟩
theorem fit3 {k:Int} {A B C D E:Prop} (h:k=3)(a:D):Fit5 k A B C D E:=by subst h;exact⟨fun h=>absurd h (by decide),fun _=>⟨fun h=>absurd h (by decide),fun _=>⟨fun h=>absurd h (by decide),fun _=>⟨fun _=>a,fun h=>absurd h (by decide)⟩⟩⟩⟩
theorem fitN {k:Int} {A B C D E:Prop} (h:k= -1)(a:E):Fit5 k A B C D E:=by subst h;exact⟨fun h=>absurd h (by decide),fun _=>⟨fun h=>absurd h (by decide),fun _=>⟨fun h=>absurd h (by decide),fun _=>⟨fun h=>absurd h (by decide),fun _=>a⟩⟩⟩⟩
theorem rdC_le {f g:Nat→List UInt8} {tot:Nat} {ty:TypeId} (h: ∀ j,j<16→f j=g j):SBle (.cells [.int .i64 false 3,.str false [],.str false [],.str false (f 0),.str false (f 1),.str false (f 2),.str false (f 3),.str false (f 4),.str false (f 5),.str false (f 6),.str false (f 7),.str false (f 8),.str false (f 9),.str false (f 10),.str false (f 11),.str false (f 12),.str false (f 13),.str false (f 14),.str false (f 15)] tot ty) (.cells [.int .i64 false 3,.str false [],.str false [],.str false (g 0),.str false (g 1),.str false (g 2),.str false (g 3),.str false (g 4),.str false (g 5),.str false (g 6),.str false (g 7),.str false (g 8),.str false (g 9),.str false (g 10),.str false (g 11),.str false (g 12),.str false (g 13),.str false (g 14),.str false (g 15)] tot ty):=by
 rw[h 0 (by decide),h 1 (by decide),h 2 (by decide),h 3 (by decide),h 4 (by decide),h 5 (by decide),h 6 (by decide),h 7 (by decide),h 8 (by decide),h 9 (by decide),h 10 (by decide),h 11 (by decide),h 12 (by decide),h 13 (by decide),h 14 (by decide),h 15 (by decide)]
 exact SBle.refl _
theorem rdI_step {t:List UInt8} {i:Nat} (h:itemAt t i≠[128])(j:Nat):(if i=j then itemAt t i else rdI t i j)=rdI t (i+1) j:=by
 unfold rdI
 by_cases e:i=j
 ·subst e
  rw[if_pos rfl,if_pos (show i<i+1 by omega),rdRef,if_neg h]
 ·rw[if_neg e]
  by_cases e1:j<i
  ·rw[if_pos e1,if_pos (show j<i+1 by omega)]
  ·rw[if_neg e1,if_neg (show ¬ j<i+1 by omega)]
theorem rdI_skip {t:List UInt8} {i:Nat} (h:itemAt t i=[128])(j:Nat):rdI t i j=rdI t (i+1) j:=by
 unfold rdI
 by_cases e:i=j
 ·subst e
  rw[if_neg (show ¬ i<i by omega),if_pos (show i<i+1 by omega),rdRef,if_pos h]
 ·by_cases e1:j<i
  ·rw[if_pos e1,if_pos (show j<i+1 by omega)]
  ·rw[if_neg e1,if_neg (show ¬ j<i+1 by omega)]
attribute [local irreducible] itemAt itemsN itemsB cutIn cutB cutRest cutL plainB ngetB ngetLeaf ngetP
theorem read_holds {s:List UInt8} (hs:s.length<1099511627776):Holds (runA (cfgRd s) 162 Tryz.f162 [.str false s] (readA s)):=by
 refine Holds.of_eq (vcRead s) ?_
 try dsimp only
 have hin:=cutIn_le s
 have hit:=itemAt_le (cutIn s)
 have hin2:=fun k=>cutIn_le (itemAt (cutIn s) k)
 refine⟨by omega,fun a=>fit0 ?_ (fun _=>rfl),fun a=>⟨by omega,fun b=>⟨fun c=>fitN ?_ ⟨zeroNd,fun _=>rfl⟩,fun c=>⟨fun d=>fitN ?_ ⟨zeroNd,fun _=>rfl⟩,fun d=>⟨by omega,fun e=>fun cap hcap=>⟨fun f=> ?_,fun f=>⟨fun g=> ?_,fun g=>fitN ?_ ⟨zeroNd,fun _=>rfl⟩⟩⟩,fun e=>fitN ?_ ⟨zeroNd,fun _=>rfl⟩⟩⟩⟩,fun b=>fitN ?_ ⟨zeroNd,fun _=>rfl⟩⟩⟩
 ·have a:s=[128]:=of_decide_eq_true a
  rw[shapeK,if_pos a]
 ·have a: ¬ s=[128]:=of_decide_eq_false a
  have c:cutL s=false:=by simpa using c
  rw[shapeK,if_neg a,b,c];rfl
 ·have a: ¬ s=[128]:=of_decide_eq_false a
  have c:cutL s=true:=by simpa using c
  have d:decide (cutRest s=[])=false:=by simpa using d
  rw[shapeK,if_neg a,b,c,d];rfl
 ·have a: ¬ s=[128]:=of_decide_eq_false a
  have c:cutL s=true:=by simpa using c
  have d:decide (cutRest s=[])=true:=by simpa using d
  have f:=of_decide_eq_true f
  have f:itemsN (cutIn s)=2:=by omega
  have hk:shapeK s=pairK (cutIn s):=by rw[shapeK,if_neg a,b,c,d,listK,e,if_pos f];rfl
  have i0:=hit 0
  have i1:=hit 1
  have i2:=hin2 0
  refine⟨by omega,by omega,by omega,by omega,by omega,fun g=>⟨by omega,fun h=>⟨fun k=>fit2 ?_ (fun _=>rfl),fun k=>⟨by omega,fun l=>fit1 ?_ (fun _=>rfl),fun l=>fitN ?_ ⟨⟨1,ngetP (cutIn (itemAt (cutIn s) 0)),[],noRefs⟩,fun _=>rfl⟩⟩⟩,fun h=>fitN ?_ ⟨zeroNd,fun _=>rfl⟩⟩,fun g=>fitN ?_ ⟨zeroNd,fun _=>rfl⟩⟩
  ·have k:ngetLeaf (cutIn (itemAt (cutIn s) 0))=false:=by simpa using k
   rw[hk,pairK,g,h,k];rfl
  ·have k:ngetLeaf (cutIn (itemAt (cutIn s) 0))=true:=by simpa using k
   rw[hk,pairK,g,h,k,l];rfl
  ·have k:ngetLeaf (cutIn (itemAt (cutIn s) 0))=true:=by simpa using k
   rw[hk,pairK,g,h,k,l];rfl
  ·rw[hk,pairK,g,h];rfl
  ·rw[hk,pairK,g];rfl
 ·have a: ¬ s=[128]:=of_decide_eq_false a
  have c:cutL s=true:=by simpa using c
  have d:decide (cutRest s=[])=true:=by simpa using d
  have f:=of_decide_eq_false f
  have f: ¬ itemsN (cutIn s)=2:=by omega
  have g:=of_decide_eq_true g
  have g:itemsN (cutIn s)=17:=by omega
  have hk:shapeK s=bif plainB (itemAt (cutIn s) 16)then 3 else -1:=by rw[shapeK,if_neg a,b,c,d,listK,e,if_neg f,if_pos g];rfl
  have i16:=hit 16
  refine⟨⟨0,by omega,rfl,Sx.SBle.cells (fun E=>rfl) rfl,SBle.refl _,SBle.refl _,SBle.refl _,trivial⟩,fun i hi=>⟨fun h=> ?_,fun h=> ?_⟩⟩
  ·have h:=of_decide_eq_true h
   rw[Int.toNat_natCast,Nat.zero_add]
   refine⟨by omega,by omega,by omega,rfl,fun k=>⟨by omega,by omega,by omega,by omega,by omega,i+1,by omega,by omega,?_,SBle.refl _,SBle.refl _,SBle.refl _,trivial⟩,fun k=>⟨by omega,i+1,by omega,by omega,?_,SBle.refl _,SBle.refl _,SBle.refl _,trivial⟩⟩
   ·have k: ¬ itemAt (cutIn s) i=[128]:=by
     have:decide (itemAt (cutIn s) i=textOf [])=false:=by simpa using k
     exact of_decide_eq_false this
    exact rdC_le (f:=fun j=>if i=j then itemAt (cutIn s) i else rdI (cutIn s) i j) fun j _=>rdI_step k j
   ·have k:itemAt (cutIn s) i=[128]:=by
     have:decide (itemAt (cutIn s) i=textOf [])=true:=by simpa using k
     exact of_decide_eq_true this
    exact rdC_le fun j _=>rdI_skip k j
  ·have h:=of_decide_eq_false h
   have ei:i=16:=by omega
   subst ei
   refine⟨by omega,by omega,by omega,fun k=>fit3 ?_ (fun _=>rfl),fun k=>fitN ?_ ⟨⟨3,[],[],mk16 (rdRef (cutIn s))⟩,fun _=>rfl⟩⟩
   ·rw[hk,k];rfl
   ·rw[hk,k];rfl
 ·have a: ¬ s=[128]:=of_decide_eq_false a
  have c:cutL s=true:=by simpa using c
  have d:decide (cutRest s=[])=true:=by simpa using d
  have f:=of_decide_eq_false f
  have f: ¬ itemsN (cutIn s)=2:=by omega
  have g:=of_decide_eq_false g
  have g: ¬ itemsN (cutIn s)=17:=by omega
  rw[shapeK,if_neg a,b,c,d,listK,e,if_neg f,if_neg g];rfl
 ·have a: ¬ s=[128]:=of_decide_eq_false a
  have c:cutL s=true:=by simpa using c
  have d:decide (cutRest s=[])=true:=by simpa using d
  rw[shapeK,if_neg a,b,c,d,listK,e];rfl
 ·have a: ¬ s=[128]:=of_decide_eq_false a
  rw[shapeK,if_neg a,b];rfl
def readSpec:List SV→Option (Prop×Ans)
 | [.str false s]=>some (s.length<1099511627776,readA s)
 | _=>none
theorem read_ok:CallOk Tryz.prog 162 (ansPT readSpec):=by
 refine ans_ok (n:=20) (fn:=Tryz.f162) Tryz.func162 (by kernel_rfl) (by kernel_rfl) ?_
 intro args p a h hp
 unfold readSpec at h
 split at h
 ·rename_i s
  injection h with h;injection h with h1 h2;subst h1;subst h2
  refine⟨_,goodRd s,rfl,fun b=> ?_,read_holds hp⟩
  cases b with
  | true=>exact rfl
  | false =>
    intro b
    cases b with
    | true=>exact rfl
    | false =>
      intro b
      cases b with
      | true=>exact rfl
      | false =>
        intro b
        cases b with
        | true=>exact rfl
        | false=>exact fun x=>rfl
 ·cases h
end Go.Proofs.YtoalfimkkibpdaaGreatDoor
namespace Go.Proofs.YtoalfimkkibpdaaGreatDoor
open Go Sx
set_option maxRecDepth 20000
noncomputable def listN5:List (FuncId×PT):=(162,ansPT readSpec)::listN4
theorem listN5_ok:SummOk Tryz.prog (fun f=>lookPT f listN5):=.cons read_ok (ansPT_mono _) listN4_ok
def Rel (L:Nat)(t:List UInt8):Prop:=(t.length<L∨32≤t.length)∧t.length<9223372036854775808
def inlA (t:List UInt8):Ans:=.fork (inlB t) fun b=>match b with
 | true=>.ret (.tup [(getD t).sv,.bool true true])
 | false=>.ret (.tup [zeroN,.bool true false])
def inlSpec (L:Nat):List SV→Option (Prop×Ans)
 | [.str false t]=>some (Rel L t,inlA t)
 | _=>none
noncomputable def listN6 (L:Nat):List (FuncId×PT):=(136,ansPT (inlSpec L))::listN5
noncomputable def cfgN6 (L:Nat):Cfg:={cfg0 with summ:=fun f=>lookPT f (listN6 L)}
noncomputable def annBr (x:Nd):LoopAnn :=
 {α:=Nat,pre:=fun _ i=>i≤16∧mays inlB x.r i=true,mea:=fun _ i=>16 - i,fresh:=0,slots:=fun _ i=>[(7,.int .i64 false i)],
  mem:=fun _ i=>[(2,.cells [.int .i64 false (min (x.v.length:Int) 1+fullN x.r i)] 1 3)]}
noncomputable def cfgBr (L:Nat)(x:Nd):Cfg:={cfg0 with summ:=fun f=>lookPT f (listN6 L),anns:=fun f=>if f=192 then [(1,always (annBr x))] else []}
def RelR (L:Nat)(r:Nat→List UInt8):Prop:=∀ j,j<16→Rel L (r j)
noncomputable def listN7 (L:Nat):List (FuncId×PT):=(184,purePT (ndSpec fun x=>some (Rel L (x.r 0),.bool false (extW inlB x))))::(185,purePT (ndSpec fun x=>some (RelR L x.r,.bool false (branchW inlB x))))::listN5
noncomputable def cfgN7 (L:Nat):Cfg:={cfg0 with summ:=fun f=>lookPT f (listN7 L)}
noncomputable def listN8 (L:Nat):List (FuncId×PT):=(160,purePT (ndSpec fun x=>some (RelR L x.r,.bool false (validB x))))::(161,purePT (ndSpec fun x=>some ((0≤x.k∧x.k≤3)∧x.Few,.str false (putT x))))::listN5
noncomputable def cfgN8 (L:Nat):Cfg:={cfg0 with summ:=fun f=>lookPT f (listN8 L)}
def getA' (s:List UInt8):Ans:=.fork (getB' s) fun b=>match b with
 | true=>.ret (.tup [(getD s).sv,.int .i64 true 0])
 | false=>.ret (.tup [zeroN,.int .i64 true 2])
def getSpec' (L:Nat):List SV→Option (Prop×Ans)
 | [.str false s]=>some (s.length≤L∧s.length<1099511627776,getA' s)
 | _=>none
noncomputable def cfgN9 (L:Nat):Cfg:={cfg0 with summ:=fun f=>lookPT f ((130,ansPT (getSpec' L))::listN5)}
noncomputable def cfgNo:Cfg:={cfg0 with summ:=fun f=>lookPT f ((130,fun _ _ _ _=>.fail "not to be called")::listN5)}
theorem goodNo:Sx.Good Tryz.prog cfgNo:=⟨mixes,SummOk.cons (fun _ _ _ _ h=>h.elim) (fun _ _ _ _ _ _ h=>h) listN5_ok,fns_ok⟩
end Go.Proofs.YtoalfimkkibpdaaGreatDoor
