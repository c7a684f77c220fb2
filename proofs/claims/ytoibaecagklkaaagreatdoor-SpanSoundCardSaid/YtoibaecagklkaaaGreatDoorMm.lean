/-
  Conditions that the executor computes, written out by a program (vcgen.py).
-/
import Derived.Test.YtoibaecagklkaaaGreatDoorMl
namespace Go.Proofs.YtoibaecagklkaaaGreatDoor
open Go Sx
set_option maxRecDepth 20000
theorem V6 (x:Nd)(R:SV->Prop):VC.holds (dm wF 186 Tryz.f186 [x.sv] R)=((True/\(fZ {k:=x.k,p:=x.p,v:=x.v,r:=fun(u2:Nat)=>[x.r 0,x.r 1,x.r 2,x.r 3,x.r 4,x.r 5,x.r 6,x.r 7,x.r 8,x.r 9,x.r 10,x.r 11,x.r 12,x.r 13,x.r 14,x.r 15].getD u2 []:Nd} 0=true->((!decide (x.v=[]))=true->(decide ((x.v.length:Int)<=80)=true->True/\R (SV.bool (false&&true) (decide (bX (fun(u1:Nat)=>[x.r 0,x.r 1,x.r 2,x.r 3,x.r 4,x.r 5,x.r 6,x.r 7,x.r 8,x.r 9,x.r 10,x.r 11,x.r 12,x.r 13,x.r 14,x.r 15].getD u1 []) 16=(0:Int)))))/\(decide ((x.v.length:Int)<=80)=false->R (SV.bool true false)))/\((!decide (x.v=[]))=false->R (SV.bool true false)))/\(fZ {k:=x.k,p:=x.p,v:=x.v,r:=fun(u0:Nat)=>[x.r 0,x.r 1,x.r 2,x.r 3,x.r 4,x.r 5,x.r 6,x.r 7,x.r 8,x.r 9,x.r 10,x.r 11,x.r 12,x.r 13,x.r 14,x.r 15].getD u0 []:Nd} 0=false->R (SV.bool true false)))):=by kernel_rfl
theorem Iv (x:Nd)(R:SV->Prop):VC.holds (dm wF 190 Tryz.f190 [x.sv] R)=((x.p.length<1073741824/\(fB x.p=true->(cZ x.p true).length<1152921504606846976/\some (SB.cells x.sv.cells 19 238)=some (SB.cells x.sv.cells 19 238)/\x.v.length<1152921504606846976/\(((2:Nat)=(2:Nat)/\(2:Nat)<=(2:Nat))/\(2:Nat)<=(140737488355328:Nat)/\(flat [ax (cZ x.p true),ax x.v]).length<=140737488355328)/\(((0:Int)<=(192:Int)/\(192:Int)<=(192:Int))/\0<=(↑(flat [ax (cZ x.p true),ax x.v]).length:Int)/\(↑(flat [ax (cZ x.p true),ax x.v]).length:Int)<1152921504606846976)/\(↑(bJ 192 (↑(flat [ax (cZ x.p true),ax x.v]).length:Int).toNat).length:Int)+(↑(flat [ax (cZ x.p true),ax x.v]).length:Int)<=9223372036854775807/\R (SV.str false (cat (bJ 192 (↑(flat [ax (cZ x.p true),ax x.v]).length:Int).toNat) (flat [ax (cZ x.p true),ax x.v]))))/\(fB x.p=false->(0:Nat)<(1152921504606846976:Nat)/\some (SB.cells x.sv.cells 19 238)=some (SB.cells x.sv.cells 19 238)/\x.v.length<1152921504606846976/\(((2:Nat)=(2:Nat)/\(2:Nat)<=(2:Nat))/\(2:Nat)<=(140737488355328:Nat) /\(flat [ax [],ax x.v]).length<=140737488355328)/\(((0:Int)<=(192:Int)/\(192:Int)<=(192:Int))/\0<=(↑(flat [ax [],ax x.v]).length:Int)/\(↑(flat [ax [],ax x.v]).length:Int)<1152921504606846976)/\(↑(bJ 192 (↑(flat [ax [],ax x.v]).length:Int).toNat).length:Int)+(↑(flat [ax [],ax x.v]).length:Int)<=9223372036854775807/\R (SV.str false (cat (bJ 192 (↑(flat [ax [],ax x.v]).length:Int).toNat) (flat [ax [],ax x.v])))))):=by kernel_rfl
theorem LZ (x:Nd)(R:SV->Prop):VC.holds (dm wF 191 Tryz.f191 [x.sv] R)=((x.p.length<1073741824/\(fB x.p=true->(cZ x.p false).length<1152921504606846976/\some (SB.cells x.sv.cells 19 238)=some (SB.cells x.sv.cells 19 238)/\(((2:Nat)=(2:Nat)/\(2:Nat)<=(2:Nat))/\(2:Nat)<=(140737488355328:Nat)/\(flat [ax (cZ x.p false),x.r 0]).length<=140737488355328)/\(((0:Int)<=(192:Int)/\(192:Int)<=(192:Int))/\0<=(↑(flat [ax (cZ x.p false),x.r 0]).length:Int)/\(↑(flat [ax (cZ x.p false),x.r 0]).length:Int)<1152921504606846976)/\(↑(bJ 192 (↑(flat [ax (cZ x.p false),x.r 0]).length:Int).toNat).length:Int)+(↑(flat [ax (cZ x.p false),x.r 0]).length:Int)<=9223372036854775807/\R (SV.str false (cat (bJ 192 (↑(flat [ax (cZ x.p false),x.r 0]).length:Int).toNat) (flat [ax (cZ x.p false),x.r 0]))))/\(fB x.p=false->(0:Nat)<(1152921504606846976:Nat)/\some (SB.cells x.sv.cells 19 238)=some (SB.cells x.sv.cells 19 238)/\(((2:Nat)=(2:Nat)/\(2:Nat)<=(2:Nat))/\(2:Nat)<=(140737488355328:Nat)/\(flat [ax [],x.r 0]).length<=140737488355328)/\(((0:Int)<=(192:Int)/\(192:Int)<=(192:Int)) /\0<=(↑(flat [ax [],x.r 0]).length:Int)/\(↑(flat [ax [],x.r 0]).length:Int)<1152921504606846976)/\(↑(bJ 192 (↑(flat [ax [],x.r 0]).length:Int).toNat).length:Int)+(↑(flat [ax [],x.r 0]).length:Int)<=9223372036854775807/\R (SV.str false (cat (bJ 192 (↑(flat [ax [],x.r 0]).length:Int).toNat) (flat [ax [],x.r 0])))))):=by kernel_rfl
theorem I6 (x:Nd)(R:SV->Prop):VC.holds (dm wF 189 Tryz.f189 [x.sv] R)=(((0:Nat)<(1152921504606846976:Nat)/\R (SV.str true (ax [])))):=by kernel_rfl
theorem CA (x:Nd)(R:SV->Prop):VC.holds (dm (Nk x) 192 Tryz.f192 [x.sv] R)=((fun R0:Nat->(Nat)->SV=>((fun R1:Nat->SV=>((fun R2:Nat->(Nat)->SV=>((fun R3:Nat->(Nat)->SV=>((fun R4:Nat->(Nat)->SV=>((fun R5:Nat->(Nat)->SV=>((fun P0:SB=>((fun P1:SB=>(((0:Nat)<(1152921504606846976:Nat)/\some P0=some P0/\(0:Nat)<(1152921504606846976:Nat)/\some P0=some P0/\(0:Nat)<(1152921504606846976:Nat)/\some P0=some P0/\(0:Nat)<(1152921504606846976:Nat)/\some P0=some P0/\(0:Nat)<(1152921504606846976:Nat)/\some P0=some P0/\(0:Nat)<(1152921504606846976:Nat)/\some P0=some P0/\(0:Nat)<(1152921504606846976:Nat)/\some P0=some P0/\(0:Nat)<(1152921504606846976:Nat)/\some P0=some P0/\(0:Nat)<(1152921504606846976:Nat)/\some P0=some P0/\(0:Nat)<(1152921504606846976:Nat)/\some P0=some P0/\(0:Nat)<(1152921504606846976:Nat)/\some P0=some P0/\(0:Nat)<(1152921504606846976:Nat)/\some P0=some P0/\(0:Nat)<(1152921504606846976:Nat)/\some P0=some P0/\(0:Nat)<(1152921504606846976:Nat)/\some P0=some P0/\(0:Nat)<(1152921504606846976:Nat)/\some P0=some P0/\(0:Nat)<(1152921504606846976:Nat)/\some P0=some P0/\(0:Nat)<(1152921504606846976:Nat)/\some P0=some P0/\∀(u4:Loop),(∃(u3:Nat),u3<=16/\0=(u3:Int) /\ah (SB.cells [SV.str true (ax []),SV.str true (ax []),SV.str true (ax []),SV.str true (ax []),SV.str true (ax []),SV.str true (ax []),SV.str true (ax []),SV.str true (ax []),SV.str true (ax []),SV.str true (ax []),SV.str true (ax []),SV.str true (ax []),SV.str true (ax []),SV.str true (ax []),SV.str true (ax []),SV.str true (ax []),SV.str true (ax [])] 17 9) (SB.cells [R0 0 u3,R0 1 u3,R0 2 u3,R0 3 u3,R0 4 u3,R0 5 u3,R0 6 u3,R0 7 u3,R0 8 u3,R0 9 u3,R0 10 u3,R0 11 u3,R0 12 u3,R0 13 u3,R0 14 u3,R0 15 u3,R0 16 u3] 17 9)/\ah (SB.loop LoopState.ready none u4) (SB.loop LoopState.ready none u4)/\ah P1 P1/\ah P0 P0/\ah (SB.cells x.sv.cells 19 238) (SB.cells x.sv.cells 19 238)/\True)/\∀(u2:Nat),u2<=16->(decide ((u2:Int)<16)=true->(0<=(u2:Int)/\(u2:Int)<16/\(u2:Int)<(↑(16:Nat):Int))/\((!decide (bq [x.r 0,x.r 1,x.r 2,x.r 3,x.r 4,x.r 5,x.r 6,x.r 7,x.r 8,x.r 9,x.r 10,x.r 11,x.r 12,x.r 13,x.r 14,x.r 15] (u2:Int).toNat=[]))=true->u4=u4/\(0<=(u2:Int)/\(u2:Int)<17)/\(u2:Int).toNat<17 /\((-9223372036854775808:Int)<=(u2:Int)+1/\(u2:Int)+1<=(9223372036854775807:Int))/\∃(u1:Nat),(u1<=16/\16 - u1<16 - u2)/\(u2:Int)+1=(u1:Int)/\ah (SB.cells [R2 0 u2,R2 1 u2,R2 2 u2,R2 3 u2,R2 4 u2,R2 5 u2,R2 6 u2,R2 7 u2,R2 8 u2,R2 9 u2,R2 10 u2,R2 11 u2,R2 12 u2,R2 13 u2,R2 14 u2,R2 15 u2,R2 16 u2] 17 9) (SB.cells [R3 0 u1,R3 1 u1,R3 2 u1,R3 3 u1,R3 4 u1,R3 5 u1,R3 6 u1,R3 7 u1,R3 8 u1,R3 9 u1,R3 10 u1,R3 11 u1,R3 12 u1,R3 13 u1,R3 14 u1,R3 15 u1,R3 16 u1] 17 9)/\ah (SB.loop LoopState.ready none u4) (SB.loop LoopState.ready none u4)/\ah P1 P1/\ah P0 P0/\ah (SB.cells x.sv.cells 19 238) (SB.cells x.sv.cells 19 238)/\True)/\((!decide (bq [x.r 0,x.r 1,x.r 2,x.r 3,x.r 4,x.r 5,x.r 6,x.r 7,x.r 8,x.r 9,x.r 10,x.r 11,x.r 12,x.r 13,x.r 14,x.r 15] (u2:Int).toNat=[]))=false->((-9223372036854775808:Int)<=(u2:Int)+1/\(u2:Int)+1<=(9223372036854775807:Int))/\∃(u0:Nat),(u0<=16/\16 - u0<16 - u2)/\(u2:Int)+1=(u0:Int) /\ah (SB.cells [R4 0 u2,R4 1 u2,R4 2 u2,R4 3 u2,R4 4 u2,R4 5 u2,R4 6 u2,R4 7 u2,R4 8 u2,R4 9 u2,R4 10 u2,R4 11 u2,R4 12 u2,R4 13 u2,R4 14 u2,R4 15 u2,R4 16 u2] 17 9) (SB.cells [R5 0 u0,R5 1 u0,R5 2 u0,R5 3 u0,R5 4 u0,R5 5 u0,R5 6 u0,R5 7 u0,R5 8 u0,R5 9 u0,R5 10 u0,R5 11 u0,R5 12 u0,R5 13 u0,R5 14 u0,R5 15 u0,R5 16 u0] 17 9)/\ah (SB.loop LoopState.ready none u4) (SB.loop LoopState.ready none u4)/\ah P1 P1/\ah P0 P0/\ah (SB.cells x.sv.cells 19 238) (SB.cells x.sv.cells 19 238)/\True))/\(decide ((u2:Int)<16)=false->x.v.length<1152921504606846976/\some P0=some P0/\(((17:Nat)=(17:Nat)/\(17:Nat)<=(17:Nat))/\(17:Nat)<=(140737488355328:Nat)/\(flat [aQ x.r u2 0,aQ x.r u2 1,aQ x.r u2 2,aQ x.r u2 3,aQ x.r u2 4,aQ x.r u2 5,aQ x.r u2 6,aQ x.r u2 7,aQ x.r u2 8,aQ x.r u2 9,aQ x.r u2 10,aQ x.r u2 11,aQ x.r u2 12,aQ x.r u2 13,aQ x.r u2 14,aQ x.r u2 15,ax x.v]).length<=140737488355328)/\(((0:Int)<=(192:Int)/\(192:Int)<=(192:Int)) /\0<=(↑(flat [aQ x.r u2 0,aQ x.r u2 1,aQ x.r u2 2,aQ x.r u2 3,aQ x.r u2 4,aQ x.r u2 5,aQ x.r u2 6,aQ x.r u2 7,aQ x.r u2 8,aQ x.r u2 9,aQ x.r u2 10,aQ x.r u2 11,aQ x.r u2 12,aQ x.r u2 13,aQ x.r u2 14,aQ x.r u2 15,ax x.v]).length:Int)/\(↑(flat [aQ x.r u2 0,aQ x.r u2 1,aQ x.r u2 2,aQ x.r u2 3,aQ x.r u2 4,aQ x.r u2 5,aQ x.r u2 6,aQ x.r u2 7,aQ x.r u2 8,aQ x.r u2 9,aQ x.r u2 10,aQ x.r u2 11,aQ x.r u2 12,aQ x.r u2 13,aQ x.r u2 14,aQ x.r u2 15,ax x.v]).length:Int)<1152921504606846976)/\(↑(bJ 192 (↑(flat [aQ x.r u2 0,aQ x.r u2 1,aQ x.r u2 2,aQ x.r u2 3,aQ x.r u2 4,aQ x.r u2 5,aQ x.r u2 6,aQ x.r u2 7,aQ x.r u2 8,aQ x.r u2 9,aQ x.r u2 10,aQ x.r u2 11,aQ x.r u2 12,aQ x.r u2 13,aQ x.r u2 14,aQ x.r u2 15,ax x.v]).length:Int).toNat).length:Int)+(↑(flat [aQ x.r u2 0,aQ x.r u2 1,aQ x.r u2 2,aQ x.r u2 3,aQ x.r u2 4,aQ x.r u2 5,aQ x.r u2 6,aQ x.r u2 7,aQ x.r u2 8,aQ x.r u2 9,aQ x.r u2 10,aQ x.r u2 11,aQ x.r u2 12,aQ x.r u2 13,aQ x.r u2 14,aQ x.r u2 15,ax x.v]).length:Int)<=9223372036854775807 /\R (SV.str false (cat (bJ 192 (↑(flat [aQ x.r u2 0,aQ x.r u2 1,aQ x.r u2 2,aQ x.r u2 3,aQ x.r u2 4,aQ x.r u2 5,aQ x.r u2 6,aQ x.r u2 7,aQ x.r u2 8,aQ x.r u2 9,aQ x.r u2 10,aQ x.r u2 11,aQ x.r u2 12,aQ x.r u2 13,aQ x.r u2 14,aQ x.r u2 15,ax x.v]).length:Int).toNat) (flat [aQ x.r u2 0,aQ x.r u2 1,aQ x.r u2 2,aQ x.r u2 3,aQ x.r u2 4,aQ x.r u2 5,aQ x.r u2 6,aQ x.r u2 7,aQ x.r u2 8,aQ x.r u2 9,aQ x.r u2 10,aQ x.r u2 11,aQ x.r u2 12,aQ x.r u2 13,aQ x.r u2 14,aQ x.r u2 15,ax x.v]))))))) (SB.cells (SV.agg [SV.int .i64 false x.k,SV.str false x.p,SV.str false x.v,R1 0,R1 1,R1 2,R1 3,R1 4,R1 5,R1 6,R1 7,R1 8,R1 9,R1 10,R1 11,R1 12,R1 13,R1 14,R1 15]).cells 19 238))) (SB.cells (aZ SV.aO.cells 0 (SV.slc ((0:Nat)+(1:Nat)) 0 17 true 17).cells) 1 29))) (fun(n0:Nat) (u0:Nat)=>SV.str false (aQ x.r u0 n0)))) (fun(n0:Nat) (u2:Nat)=>SV.str false (aQ x.r u2 n0)))) (fun(n0:Nat) (u1:Nat)=>SV.str false (aQ x.r u1 n0)))) (fun(n0:Nat) (u2:Nat)=>SV.str false (if(u2:Int).toNat=n0 then bq [x.r 0,x.r 1,x.r 2,x.r 3,x.r 4,x.r 5,x.r 6,x.r 7,x.r 8,x.r 9,x.r 10,x.r 11,x.r 12,x.r 13,x.r 14,x.r 15] (u2:Int).toNat else aQ x.r u2 n0)))) (fun(n0:Nat)=>SV.str false (x.r n0)))) (fun(n0:Nat) (u3:Nat)=>SV.str false (aQ x.r u3 n0))):=by kernel_rfl
theorem oo (b:Int)(n:Nat):(bJ b n).length<=9:=by
 unfold bJ
 split
 ·simp
 ·have:=Da 8 n
  show(UInt8.ofNat _::digits n).length<=9
  rw[List.length_cons]
  have:(digits n).length<=8:=Da 8 n
  omega
theorem iq (b:List UInt8):(ax b).length<=b.length+9:=by
 unfold ax
 split
 ·omega
 ·have:=oo 128 b.length
  rw[List.length_append];omega
theorem ew {r r':Nat->List UInt8}: ∀ {n:Nat},(∀ j,j<n->r j=r' j)->bX r n=bX r' n
 | 0,_=>rfl
 | n+1,h=>by
   unfold bX
   rw[h n (by omega),ew (fun j hj=>h j (by omega))]
theorem eo (r:Nat->List UInt8)(j:Nat)(h:j<16):[r 0,r 1,r 2,r 3,r 4,r 5,r 6,r 7,r 8,r 9,r 10,r 11,r 12,r 13,r 14,r 15].getD j []=r j:=Ad r h
theorem HL (x:Nd):aA (dm wF 186 Tryz.f186 [x.sv] (fun v=>af v (.bool false (js x)))):=by
 refine aA.of_eq (V6 x _) ?_
 have e:fZ {k:=x.k,p:=x.p,v:=x.v,r:=fun(i:Nat)=>[x.r 0,x.r 1,x.r 2,x.r 3,x.r 4,x.r 5,x.r 6,x.r 7,x.r 8,x.r 9,x.r 10,x.r 11,x.r 12,x.r 13,x.r 14,x.r 15].getD i []:Nd} 0=fZ x 0:=rfl
 rw[e,ew (eo x.r)]
 unfold js
 refine⟨trivial,fun a=>⟨fun b=>⟨fun c=>⟨trivial,cq ?_⟩,fun c=>cq ?_⟩,fun b=>cq ?_⟩,fun a=>cq ?_⟩
 ·rw[a,b,c];rfl
 ·rw[a,b,c];rfl
 ·rw[a,b];rfl
 ·rw[a];rfl
def dM (g:Nd->Option (Prop×SV)):List SV->Option (Prop×SV)
 | [.agg l]=>(match Ii l with
   | some x=>g x
   | none=>none)
 | _=>none
theorem jO {g:Nd->Option (Prop×SV)}{args:List SV}{p:Prop}{v:SV}(h:dM g args=some (p,v)): ∃ x,args=[x.sv]/\g x=some (p,v):=by
 unfold dM at h
 split at h
 ·split at h
  ·rename_i x hx
   exact⟨x,by rw[tZ hx],h⟩
  ·cases h
 ·cases h
theorem Em (x:Nd):SV.ep 0 [x.sv]=true:=rfl
theorem Sr:aB Tryz.prog 186 (aU (dM fun x=>some (True,.bool false (js x)))):=by
 refine fX Cw (n:=20) (fn:=Tryz.f186) Tryz.func186 (by kernel_rfl) (by kernel_rfl) ?_
 intro args p r h hp
 obtain⟨x,hx,hg⟩:=jO h
 subst hx
 injection hg with hg;injection hg with h1 h2;subst h1;subst h2
 exact⟨Em x,rfl,HL x⟩
theorem mH {a b:List UInt8}:(flat [a,b]).length=a.length+b.length:=by simp[flat]
theorem mq {x:Nd}{leaf:Bool}:(cD x leaf).length<=x.p.length+2:=by
 unfold cD
 cases fB x.p with
 | false=>simp
 | true =>
   simp only[cond_true,cZ,xz,List.length_cons]
   cases decide ((x.p.length:Int)% 2=1)<;>simp only[cond_true,cond_false,List.length_cons]<;>omega
theorem yw {x:Nd}(hx:x.mQ):aA (dm wF 190 Tryz.f190 [x.sv] (fun v=>af v (.str false (iI x)))):=by
 refine aA.of_eq (Iv x _) ?_
 have h1:=hx.p
 have h2:=hx.v
 have h3:=mq (x:=x) (leaf:=true)
 have h4:=iq (cD x true)
 have h5:=iq x.v
 have h6:=mH (a:=ax (cD x true)) (b:=ax x.v)
 have h7:=oo 192 (((flat [ax (cD x true),ax x.v]).length:Nat):Int).toNat
 refine⟨by omega,fun a=> ?_,fun a=> ?_⟩
 ·have e:cZ x.p true=cD x true:=by rw[cD,a];rfl
  rw[e]
  exact⟨by omega,rfl,by omega,by omega,by omega,by omega,fun E=>by rw[iI,dL,Int.toNat_natCast];rfl⟩
 ·have e:[]=cD x true:=by rw[cD,a];rfl
  rw[e]
  exact⟨by omega,rfl,by omega,by omega,by omega,by omega,fun E=>by rw[iI,dL,Int.toNat_natCast];rfl⟩
theorem Ar {x:Nd}(hx:x.mQ):aA (dm wF 191 Tryz.f191 [x.sv] (fun v=>af v (.str false (nX x)))):=by
 refine aA.of_eq (LZ x _) ?_
 have h1:=hx.p
 have h2:=hx.r 0 (by decide)
 have h3:=mq (x:=x) (leaf:=false)
 have h4:=iq (cD x false)
 have h6:=mH (a:=ax (cD x false)) (b:=x.r 0)
 have h7:=oo 192 (((flat [ax (cD x false),x.r 0]).length:Nat):Int).toNat
 refine⟨by omega,fun a=> ?_,fun a=> ?_⟩
 ·have e:cZ x.p false=cD x false:=by rw[cD,a];rfl
  rw[e]
  exact⟨by omega,rfl,by omega,by omega,by omega,fun E=>by rw[nX,dL,Int.toNat_natCast];rfl⟩
 ·have e:[]=cD x false:=by rw[cD,a];rfl
  rw[e]
  exact⟨by omega,rfl,by omega,by omega,by omega,fun E=>by rw[nX,dL,Int.toNat_natCast];rfl⟩
theorem Be {f g:Nat->List UInt8}{tot:Nat}{ty:TypeId}(h: ∀ j,j<17->f j=g j):ah (.cells (vl f) tot ty) (.cells (vl g) tot ty):=by
 have e:vl f=vl g:=by
  unfold vl
  rw[h 0 (by decide),h 1 (by decide),h 2 (by decide),h 3 (by decide),h 4 (by decide),h 5 (by decide),h 6 (by decide),h 7 (by decide),h 8 (by decide),h 9 (by decide),h 10 (by decide),h 11 (by decide),h 12 (by decide),h 13 (by decide),h 14 (by decide),h 15 (by decide),h 16 (by decide)]
 rw[e];exact ah.refl _
theorem NW {r:Nat->List UInt8}{i:Nat}(_hi:i<16)(h:r i≠[])(j:Nat):(if i=j then r i else aQ r i j)=aQ r (i+1) j:=by
 unfold aQ
 by_cases e:i=j
 ·subst e
  rw[if_pos rfl,if_pos (by omega),if_neg h]
 ·rw[if_neg e]
  by_cases e1:j<i
  ·rw[if_pos e1,if_pos (show j<i+1 by omega)]
  ·rw[if_neg e1,if_neg (show ¬ j<i+1 by omega)]
theorem Rb {r:Nat->List UInt8}{i:Nat}(h:r i=[])(j:Nat):aQ r i j=aQ r (i+1) j:=by
 unfold aQ
 by_cases e:i=j
 ·subst e
  rw[if_neg (by omega),if_pos (by omega),if_pos h]
 ·by_cases e1:j<i
  ·rw[if_pos e1,if_pos (show j<i+1 by omega)]
  ·rw[if_neg e1,if_neg (show ¬ j<i+1 by omega)]
theorem KE {l:List (List UInt8)}{m:Nat}(h: ∀ x∈ l,x.length<=m):(flat l).length<=l.length*m:=by
 induction l with
 | nil=>simp[flat]
 | cons a r ih =>
   have h1:=h a (List.mem_cons_self ..)
   have h2:=ih fun x hx=>h x (List.mem_cons_of_mem _ hx)
   have e:(flat (a::r)).length=a.length+(flat r).length:=by simp[flat]
   rw[e,List.length_cons,Nat.succ_mul];omega
theorem Vx {x:Nd}(hx:x.mQ)(i j:Nat)(h:j<16):(aQ x.r i j).length<=1000:=by
 have:=hx.r j h
 unfold aQ
 split
 ·split
  ·simp
  ·exact this
 ·simp
theorem uE {x:Nd}(hx:x.mQ):aA (dm (Nk x) 192 Tryz.f192 [x.sv] (fun v=>af v (.str false (eF x)))):=by
 refine aA.of_eq (CA x _) ?_
 dsimp only
 refine⟨by omega,rfl,by omega,rfl,by omega,rfl,by omega,rfl,by omega,rfl,by omega,rfl,by omega,rfl,by omega,rfl,by omega,rfl,by omega,rfl,by omega,rfl,by omega,rfl,by omega,rfl,by omega,rfl,by omega,rfl,by omega,rfl,by omega,rfl,fun R=>⟨⟨0,by omega,rfl,Sx.ah.cells (fun E=>rfl) rfl,ah.refl _,ah.refl _,ah.refl _,ah.refl _,trivial⟩,fun i hi=>⟨fun a=> ?_,fun a=> ?_⟩⟩⟩
 ·have a:=of_decide_eq_true a
  have ei:i<16:=by omega
  have es:=Ad x.r ei
  rw[Int.toNat_natCast,es]
  refine⟨by omega,fun b=>⟨rfl,by omega,by omega,by omega,i+1,by omega,by omega,?_,ah.refl _,ah.refl _,ah.refl _,ah.refl _,trivial⟩,fun b=>⟨by omega,i+1,by omega,by omega,?_,ah.refl _,ah.refl _,ah.refl _,ah.refl _,trivial⟩⟩
  ·have b: ¬ x.r i=[]:=by simpa using b
   exact Be (f:=fun j=>if i=j then x.r i else aQ x.r i j) (g:=aQ x.r (i+1)) fun j hj=>NW ei b j
  ·have b:x.r i=[]:=by simpa using b
   exact Be fun j hj=>Rb b j
 ·have a:=of_decide_eq_false a
  have e:i=16:=by omega
  subst e
  have h1:=hx.v
  have h2:=iq x.v
  have hb:=Vx hx 16
  have h6:(flat [aQ x.r 16 0,aQ x.r 16 1,aQ x.r 16 2,aQ x.r 16 3,aQ x.r 16 4,aQ x.r 16 5,aQ x.r 16 6,aQ x.r 16 7,aQ x.r 16 8,aQ x.r 16 9,aQ x.r 16 10,aQ x.r 16 11,aQ x.r 16 12,aQ x.r 16 13,aQ x.r 16 14,aQ x.r 16 15,ax x.v]).length<=17*2000:=by
   refine KE (m:=2000) fun y hy=> ?_
   simp only[List.mem_cons,List.not_mem_nil,or_false] at hy
   rcases hy with rfl | rfl | rfl | rfl | rfl | rfl | rfl | rfl | rfl | rfl | rfl | rfl | rfl | rfl | rfl | rfl | rfl
   ·exact Nat.le_trans (hb 0 (by decide)) (by decide)
   ·exact Nat.le_trans (hb 1 (by decide)) (by decide)
   ·exact Nat.le_trans (hb 2 (by decide)) (by decide)
   ·exact Nat.le_trans (hb 3 (by decide)) (by decide)
   ·exact Nat.le_trans (hb 4 (by decide)) (by decide)
   ·exact Nat.le_trans (hb 5 (by decide)) (by decide)
   ·exact Nat.le_trans (hb 6 (by decide)) (by decide)
   ·exact Nat.le_trans (hb 7 (by decide)) (by decide)
   ·exact Nat.le_trans (hb 8 (by decide)) (by decide)
   ·exact Nat.le_trans (hb 9 (by decide)) (by decide)
   ·exact Nat.le_trans (hb 10 (by decide)) (by decide)
   ·exact Nat.le_trans (hb 11 (by decide)) (by decide)
   ·exact Nat.le_trans (hb 12 (by decide)) (by decide)
   ·exact Nat.le_trans (hb 13 (by decide)) (by decide)
   ·exact Nat.le_trans (hb 14 (by decide)) (by decide)
   ·exact Nat.le_trans (hb 15 (by decide)) (by decide)
   ·omega
  have h7:=oo 192 (((flat [aQ x.r 16 0,aQ x.r 16 1,aQ x.r 16 2,aQ x.r 16 3,aQ x.r 16 4,aQ x.r 16 5,aQ x.r 16 6,aQ x.r 16 7,aQ x.r 16 8,aQ x.r 16 9,aQ x.r 16 10,aQ x.r 16 11,aQ x.r 16 12,aQ x.r 16 13,aQ x.r 16 14,aQ x.r 16 15,ax x.v]).length:Nat):Int).toNat
  have e:eF x=cat (bJ 192 (((flat [aQ x.r 16 0,aQ x.r 16 1,aQ x.r 16 2,aQ x.r 16 3,aQ x.r 16 4,aQ x.r 16 5,aQ x.r 16 6,aQ x.r 16 7,aQ x.r 16 8,aQ x.r 16 9,aQ x.r 16 10,aQ x.r 16 11,aQ x.r 16 12,aQ x.r 16 13,aQ x.r 16 14,aQ x.r 16 15,ax x.v]).length:Nat):Int).toNat) (flat [aQ x.r 16 0,aQ x.r 16 1,aQ x.r 16 2,aQ x.r 16 3,aQ x.r 16 4,aQ x.r 16 5,aQ x.r 16 6,aQ x.r 16 7,aQ x.r 16 8,aQ x.r 16 9,aQ x.r 16 10,aQ x.r 16 11,aQ x.r 16 12,aQ x.r 16 13,aQ x.r 16 14,aQ x.r 16 15,ax x.v]):=by rw[eF,dL,Int.toNat_natCast];rfl
  generalize flat [aQ x.r 16 0,aQ x.r 16 1,aQ x.r 16 2,aQ x.r 16 3,aQ x.r 16 4,aQ x.r 16 5,aQ x.r 16 6,aQ x.r 16 7,aQ x.r 16 8,aQ x.r 16 9,aQ x.r 16 10,aQ x.r 16 11,aQ x.r 16 12,aQ x.r 16 13,aQ x.r 16 14,aQ x.r 16 15,ax x.v]=F at *
  exact⟨by omega,rfl,by omega,by omega,by omega,fun E=>by rw[e]⟩
theorem Gf:aB Tryz.prog 189 (aU (dM fun _=>some (True,.str false [128]))):=by
 refine fX Cw (n:=20) (fn:=Tryz.f189) Tryz.func189 (by kernel_rfl) (by kernel_rfl) ?_
 intro args p r h hp
 obtain⟨x,hx,hg⟩:=jO h
 subst hx
 injection hg with hg;injection hg with h1 h2;subst h1;subst h2
 exact⟨Em x,rfl,aA.of_eq (I6 x _) ⟨by omega,fun E=>rfl⟩⟩
theorem EK:aB Tryz.prog 190 (aU (dM fun x=>some (x.mQ,.str false (iI x)))):=by
 refine fX Cw (n:=20) (fn:=Tryz.f190) Tryz.func190 (by kernel_rfl) (by kernel_rfl) ?_
 intro args p r h hp
 obtain⟨x,hx,hg⟩:=jO h
 subst hx
 injection hg with hg;injection hg with h1 h2;subst h1;subst h2
 exact⟨Em x,rfl,yw hp⟩
theorem IQ:aB Tryz.prog 191 (aU (dM fun x=>some (x.mQ,.str false (nX x)))):=by
 refine fX Cw (n:=20) (fn:=Tryz.f191) Tryz.func191 (by kernel_rfl) (by kernel_rfl) ?_
 intro args p r h hp
 obtain⟨x,hx,hg⟩:=jO h
 subst hx
 injection hg with hg;injection hg with h1 h2;subst h1;subst h2
 exact⟨Em x,rfl,Ar hp⟩
theorem AI:aB Tryz.prog 192 (aU (dM fun x=>some (x.mQ,.str false (eF x)))):=by
 refine dD (dA (n:=20) (fn:=Tryz.f192) Tryz.func192 (by kernel_rfl) (by kernel_rfl) ?_)
 intro args p a h hp
 obtain⟨⟨p0,v0⟩,hq,hpa⟩:=Option.map_eq_some_iff.1 h
 obtain⟨x,hx,hg⟩:=jO hq
 subst hx
 injection hg with hg;injection hg with g1 g2;subst g1;subst g2
 injection hpa with h1 h2;subst h1;subst h2
 exact⟨_,UA x,Em x,rfl,uE hp⟩
noncomputable def DB:List (FuncId×PT):=(186,aU (dM fun x=>some (True,.bool false (js x))))::(189,aU (dM fun _=>some (True,.str false [128]))) ::
 (190,aU (dM fun x=>some (x.mQ,.str false (iI x))))::(191,aU (dM fun x=>some (x.mQ,.str false (nX x))))::(192,aU (dM fun x=>some (x.mQ,.str false (eF x))))::CD
theorem vk:bl Tryz.prog (fun f=>aG f DB):=.cons Sr (aN _) (.cons Gf (aN _) (.cons EK (aN _) (.cons IQ (aN _) (.cons AI (aN _) uB))))
noncomputable def sQ:ff:={cg with cI:=fun f=>aG f DB}
theorem DW:Sx.Good Tryz.prog sQ:=.of bS vk bt
def RO (s:List UInt8)(i:Nat):List SV:=[.int .i64 false 3,.str false [],.str false [],.str false (ue s i 0),.str false (ue s i 1),.str false (ue s i 2),.str false (ue s i 3),.str false (ue s i 4),.str false (ue s i 5),.str false (ue s i 6),.str false (ue s i 7),.str false (ue s i 8),.str false (ue s i 9),.str false (ue s i 10),.str false (ue s i 11),.str false (ue s i 12),.str false (ue s i 13),.str false (ue s i 14),.str false (ue s i 15)]
noncomputable def WD (s:List UInt8):bC :=
 {α:=Nat,pre:=fun _ i=>i<=16,nY:=fun _ i=>16 - i,fresh:=0,slots:=fun _ i=>[(9,.int .i64 false i)],
  mem:=fun st i=>match slot st.tmps 4 with
   | some (.ptr k _ _)=>[(k,.cells (RO (aa s) i) 19 138)]
   | _=>[]}
noncomputable def Pr (s:List UInt8):ff:={cg with cI:=fun f=>aG f DB,br:=fun f=>if f=200 then [(3,always (WD s))] else []}
theorem VZ (s:List UInt8):Sx.Good Tryz.prog (Pr s):=.of bS vk bt
theorem UR (s:List UInt8):VC.holds (fW (Pr s) 167 Tryz.f167 [.str false s] (PD s))=((fun R0:Nat->(Nat)->SV=>((fun R1:Nat->(Nat)->SV=>((fun R2:Nat->(Nat)->SV=>((fun R3:Nat->(Nat)->SV=>((fun R4:Nat->(Nat)->SV=>((fun P0:SV=>((fun P1:SB=>((fun P2:SV=>((fun P3:SV=>((fun P4:SV=>((fun P5:SV=>((fun P6:Nat->SV=>((fun P7:Nat->SV=>((fun P8:SV=>((fun P9:SV=>((fun P10:SV=>((fun P11:Nat->SB=>((fun P12:SV=>(((0:Nat)<(1152921504606846976:Nat)/\(decide (s=ax [])=true->(decide (aq s=0)=true->af P5 P12)/\(decide (aq s=0)=false->(decide (aq s=1)=true->af P5 P9)/\(decide (aq s=1)=false->(decide (aq s=2)=true->af P5 P10)/\(decide (aq s=2)=false->(decide (aq s=3)=true->af P5 P8)/\(decide (aq s=3)=false->∃(u17:Nd),af P5 (SV.aL [u17.sv,SV.bool true false]))))))/\(decide (s=ax [])=false->s.length<9223372036854775808/\(bE s=true->((!cQ s)=true->(decide (aq s=0)=true->af P0 P12)/\(decide (aq s=0)=false->(decide (aq s=1)=true->af P0 P9)/\(decide (aq s=1)=false->(decide (aq s=2)=true->af P0 P10)/\(decide (aq s=2)=false->(decide (aq s=3)=true->af P0 P8)/\(decide (aq s=3)=false->∃(u16:Nd),af P0 (SV.aL [u16.sv,SV.bool true false]))))))/\((!cQ s)=false->((!decide (aE s=[]))=true->(decide (aq s=0)=true->af P0 P12)/\(decide (aq s=0)=false->(decide (aq s=1)=true->af P0 P9) /\(decide (aq s=1)=false->(decide (aq s=2)=true->af P0 P10)/\(decide (aq s=2)=false->(decide (aq s=3)=true->af P0 P8)/\(decide (aq s=3)=false->∃(u15:Nd),af P0 (SV.aL [u15.sv,SV.bool true false]))))))/\((!decide (aE s=[]))=false->(aa s).length<1099511627776/\(c9 (aa s)=true->∀(u14:Nat),bB (aa s)<=u14->(decide ((↑(bB (aa s)):Int)=2)=true->((0:Int)<=(0:Int)/\0<(↑(bB (aa s)):Int))/\0<bB (aa s)/\((0:Int)<=(1:Int)/\1<(↑(bB (aa s)):Int))/\1<bB (aa s)/\(aj (aa s) 0).length<9223372036854775808/\(cC (aj (aa s) 0)=true->(aa (aj (aa s) 0)).length<1099511627776/\(eC (aa (aj (aa s) 0))=true->((!c8 (aa (aj (aa s) 0)))=true->(decide (aq s=0)=true->af P3 P12)/\(decide (aq s=0)=false->(decide (aq s=1)=true->af P3 P9)/\(decide (aq s=1)=false->(decide (aq s=2)=true->af P3 P10)/\(decide (aq s=2)=false->(decide (aq s=3)=true->af P3 P8)/\(decide (aq s=3)=false ->∃(u13:Nd),af P3 (SV.aL [u13.sv,SV.bool true false]))))))/\((!c8 (aa (aj (aa s) 0)))=false->(aj (aa s) 1).length<9223372036854775808/\(cC (aj (aa s) 1)=true->(decide (aq s=0)=true->af P2 P12)/\(decide (aq s=0)=false->(decide (aq s=1)=true->af P2 P9)/\(decide (aq s=1)=false->(decide (aq s=2)=true->af P2 P10)/\(decide (aq s=2)=false->(decide (aq s=3)=true->af P2 P8)/\(decide (aq s=3)=false->∃(u12:Nd),af P2 (SV.aL [u12.sv,SV.bool true false]))))))/\(cC (aj (aa s) 1)=false->(decide (aq s=0)=true->af P4 P12)/\(decide (aq s=0)=false->(decide (aq s=1)=true->af P4 P9)/\(decide (aq s=1)=false->(decide (aq s=2)=true->af P4 P10)/\(decide (aq s=2)=false->(decide (aq s=3)=true->af P4 P8)/\(decide (aq s=3)=false->∃(u11:Nd),af P4 (SV.aL [u11.sv,SV.bool true false]))))))))/\(eC (aa (aj (aa s) 0))=false->(decide (aq s=0)=true->af P0 P12)/\(decide (aq s=0)=false ->(decide (aq s=1)=true->af P0 P9)/\(decide (aq s=1)=false->(decide (aq s=2)=true->af P0 P10)/\(decide (aq s=2)=false->(decide (aq s=3)=true->af P0 P8)/\(decide (aq s=3)=false->∃(u10:Nd),af P0 (SV.aL [u10.sv,SV.bool true false])))))))/\(cC (aj (aa s) 0)=false->(decide (aq s=0)=true->af P0 P12)/\(decide (aq s=0)=false->(decide (aq s=1)=true->af P0 P9)/\(decide (aq s=1)=false->(decide (aq s=2)=true->af P0 P10)/\(decide (aq s=2)=false->(decide (aq s=3)=true->af P0 P8)/\(decide (aq s=3)=false->∃(u9:Nd),af P0 (SV.aL [u9.sv,SV.bool true false])))))))/\(decide ((↑(bB (aa s)):Int)=2)=false->(decide ((↑(bB (aa s)):Int)=17)=true->(∃(u8:Nat),u8<=16/\0=(u8:Int) /\ah (SB.cells [SV.int .i64 true 3,SV.str true [],SV.str true [],SV.str true [],SV.str true [],SV.str true [],SV.str true [],SV.str true [],SV.str true [],SV.str true [],SV.str true [],SV.str true [],SV.str true [],SV.str true [],SV.str true [],SV.str true [],SV.str true [],SV.str true [],SV.str true []] 19 138) (SB.cells [SV.int .i64 false 3,SV.str false [],SV.str false [],R0 0 u8,R0 1 u8,R0 2 u8,R0 3 u8,R0 4 u8,R0 5 u8,R0 6 u8,R0 7 u8,R0 8 u8,R0 9 u8,R0 10 u8,R0 11 u8,R0 12 u8,R0 13 u8,R0 14 u8,R0 15 u8] 19 138)/\ah P1 P1/\ah (P11 u14) (P11 u14)/\ah P1 P1/\True)/\∀(u7:Nat),u7<=16->(decide ((u7:Int)<16)=true->(0<=(u7:Int)/\(u7:Int)<(↑(bB (aa s)):Int))/\0+(u7:Int).toNat<bB (aa s)/\(0:Nat)<(1152921504606846976:Nat)/\some (P11 u14)=some (P11 u14)/\((!decide (aj (aa s) (0+(u7:Int).toNat)=ax []))=true->(0<=(u7:Int)/\(u7:Int)<(↑(bB (aa s)):Int))/\0+(u7:Int).toNat<bB (aa s)/\(0<=(u7:Int)/\(u7:Int)<16)/\(u7:Int).toNat<16/\((-9223372036854775808:Int)<=(u7:Int)+1/\(u7:Int)+1<=(9223372036854775807:Int)) /\∃(u6:Nat),(u6<=16/\16 - u6<16 - u7)/\(u7:Int)+1=(u6:Int)/\ah (SB.cells [SV.int .i64 false 3,SV.str false [],SV.str false [],R1 0 u7,R1 1 u7,R1 2 u7,R1 3 u7,R1 4 u7,R1 5 u7,R1 6 u7,R1 7 u7,R1 8 u7,R1 9 u7,R1 10 u7,R1 11 u7,R1 12 u7,R1 13 u7,R1 14 u7,R1 15 u7] 19 138) (SB.cells [SV.int .i64 false 3,SV.str false [],SV.str false [],R2 0 u6,R2 1 u6,R2 2 u6,R2 3 u6,R2 4 u6,R2 5 u6,R2 6 u6,R2 7 u6,R2 8 u6,R2 9 u6,R2 10 u6,R2 11 u6,R2 12 u6,R2 13 u6,R2 14 u6,R2 15 u6] 19 138)/\ah P1 P1/\ah (P11 u14) (P11 u14)/\ah P1 P1/\True)/\((!decide (aj (aa s) (0+(u7:Int).toNat)=ax []))=false->((-9223372036854775808:Int)<=(u7:Int)+1/\(u7:Int)+1<=(9223372036854775807:Int))/\∃(u5:Nat),(u5<=16/\16 - u5<16 - u7)/\(u7:Int)+1=(u5:Int) /\ah (SB.cells [SV.int .i64 false 3,SV.str false [],SV.str false [],R3 0 u7,R3 1 u7,R3 2 u7,R3 3 u7,R3 4 u7,R3 5 u7,R3 6 u7,R3 7 u7,R3 8 u7,R3 9 u7,R3 10 u7,R3 11 u7,R3 12 u7,R3 13 u7,R3 14 u7,R3 15 u7] 19 138) (SB.cells [SV.int .i64 false 3,SV.str false [],SV.str false [],R4 0 u5,R4 1 u5,R4 2 u5,R4 3 u5,R4 4 u5,R4 5 u5,R4 6 u5,R4 7 u5,R4 8 u5,R4 9 u5,R4 10 u5,R4 11 u5,R4 12 u5,R4 13 u5,R4 14 u5,R4 15 u5] 19 138)/\ah P1 P1/\ah (P11 u14) (P11 u14)/\ah P1 P1/\True))/\(decide ((u7:Int)<16)=false->((0:Int)<=(16:Int)/\16<(↑(bB (aa s)):Int))/\16<bB (aa s)/\(aj (aa s) 16).length<9223372036854775808/\(cC (aj (aa s) 16)=true->(decide (aq s=0)=true->af (P6 u7) P12)/\(decide (aq s=0)=false->(decide (aq s=1)=true->af (P6 u7) P9)/\(decide (aq s=1)=false->(decide (aq s=2)=true->af (P6 u7) P10)/\(decide (aq s=2)=false->(decide (aq s=3)=true->af (P6 u7) P8)/\(decide (aq s=3)=false->∃(u4:Nd),af (P6 u7) (SV.aL [u4.sv,SV.bool true false]))))))/\(cC (aj (aa s) 16)=false ->(decide (aq s=0)=true->af (P7 u7) P12)/\(decide (aq s=0)=false->(decide (aq s=1)=true->af (P7 u7) P9)/\(decide (aq s=1)=false->(decide (aq s=2)=true->af (P7 u7) P10)/\(decide (aq s=2)=false->(decide (aq s=3)=true->af (P7 u7) P8)/\(decide (aq s=3)=false->∃(u3:Nd),af (P7 u7) (SV.aL [u3.sv,SV.bool true false]))))))))/\(decide ((↑(bB (aa s)):Int)=17)=false->(decide (aq s=0)=true->af P0 P12)/\(decide (aq s=0)=false->(decide (aq s=1)=true->af P0 P9)/\(decide (aq s=1)=false->(decide (aq s=2)=true->af P0 P10)/\(decide (aq s=2)=false->(decide (aq s=3)=true->af P0 P8)/\(decide (aq s=3)=false->∃(u2:Nd),af P0 (SV.aL [u2.sv,SV.bool true false]))))))))/\(c9 (aa s)=false->(decide (aq s=0)=true->af P0 P12)/\(decide (aq s=0)=false->(decide (aq s=1)=true->af P0 P9)/\(decide (aq s=1)=false->(decide (aq s=2)=true->af P0 P10)/\(decide (aq s=2)=false->(decide (aq s=3)=true ->af P0 P8)/\(decide (aq s=3)=false->∃(u1:Nd),af P0 (SV.aL [u1.sv,SV.bool true false])))))))))/\(bE s=false->(decide (aq s=0)=true->af P0 P12)/\(decide (aq s=0)=false->(decide (aq s=1)=true->af P0 P9)/\(decide (aq s=1)=false->(decide (aq s=2)=true->af P0 P10)/\(decide (aq s=2)=false->(decide (aq s=3)=true->af P0 P8)/\(decide (aq s=3)=false->∃(u0:Nd),af P0 (SV.aL [u0.sv,SV.bool true false])))))))))) (SV.aL [dg,SV.bool true true]))) (fun(u14:Nat)=>(SB.rows true (bB (aa s)) [au.str (aj (aa s))] false u14 9)))) (SV.aL [(qY s).vB true 2,SV.bool true true]))) (SV.aL [(lM s).vB true 1,SV.bool true true]))) (SV.aL [(gx s).vB true 3,SV.bool true true]))) (fun(u7:Nat)=>(SV.aL [SV.agg [SV.int .i64 false 3,SV.str false [],SV.str true [],R3 0 u7,R3 1 u7,R3 2 u7,R3 3 u7,R3 4 u7,R3 5 u7,R3 6 u7,R3 7 u7,R3 8 u7,R3 9 u7,R3 10 u7,R3 11 u7,R3 12 u7,R3 13 u7,R3 14 u7,R3 15 u7],SV.bool true false])))) (fun(u7:Nat)=>(SV.aL [SV.agg [SV.int .i64 false 3,SV.str false [],SV.str false (aa (aj (aa s) 16)),R3 0 u7,R3 1 u7,R3 2 u7,R3 3 u7,R3 4 u7,R3 5 u7,R3 6 u7,R3 7 u7,R3 8 u7,R3 9 u7,R3 10 u7,R3 11 u7,R3 12 u7,R3 13 u7,R3 14 u7,R3 15 u7],SV.bool true true])))) (SV.aL [SV.agg [SV.int .i64 true 0,SV.str true [],SV.str true [],SV.str true [],SV.str true [],SV.str true [],SV.str true [],SV.str true [],SV.str true [],SV.str true [],SV.str true [],SV.str true [],SV.str true [],SV.str true [],SV.str true [],SV.str true [],SV.str true [],SV.str true [],SV.str true []],SV.bool true true]))) (SV.aL [SV.agg [SV.int .i64 true 1,SV.str false (cV (aa (aj (aa s) 0))),SV.str true [],SV.str true [],SV.str true [],SV.str true [],SV.str true [],SV.str true [],SV.str true [],SV.str true [],SV.str true [],SV.str true [],SV.str true [],SV.str true [],SV.str true [],SV.str true [],SV.str true [],SV.str true [],SV.str true []],SV.bool true false]))) (SV.aL [SV.agg [SV.int .i64 true 2,SV.str false (cV (aa (aj (aa s) 0))),SV.str true [],au.at 1 (au.str (aj (aa s))),SV.str true [],SV.str true [],SV.str true [],SV.str true [],SV.str true [],SV.str true [],SV.str true [],SV.str true [],SV.str true [],SV.str true [],SV.str true [],SV.str true [],SV.str true [],SV.str true [],SV.str true []],SV.bool true true]))) (SV.aL [SV.agg [SV.int .i64 true 1,SV.str false (cV (aa (aj (aa s) 0))),SV.str false (aa (aj (aa s) 1)),SV.str true [],SV.str true [],SV.str true [],SV.str true [],SV.str true [],SV.str true [],SV.str true [],SV.str true [],SV.str true [],SV.str true [],SV.str true [],SV.str true [],SV.str true [],SV.str true [],SV.str true [],SV.str true []],SV.bool true true]))) (SB.cells (SV.agg [SV.int .i64 true 0,SV.str true [],SV.str true [],SV.str true [],SV.str true [],SV.str true [],SV.str true [],SV.str true [],SV.str true [],SV.str true [],SV.str true [],SV.str true [],SV.str true [],SV.str true [],SV.str true [],SV.str true [],SV.str true [],SV.str true [],SV.str true []]).cells 19 138))) (SV.aL [SV.agg [SV.int .i64 true 0,SV.str true [],SV.str true [],SV.str true [],SV.str true [],SV.str true [],SV.str true [],SV.str true [],SV.str true [],SV.str true [],SV.str true [],SV.str true [],SV.str true [],SV.str true [],SV.str true [],SV.str true [],SV.str true [],SV.str true [],SV.str true []],SV.bool true false]))) (fun(n0:Nat) (u5:Nat)=>SV.str false (ue (aa s) u5 n0)))) (fun(n0:Nat) (u7:Nat)=>SV.str false (ue (aa s) u7 n0)))) (fun(n0:Nat) (u6:Nat)=>SV.str false (ue (aa s) u6 n0)))) (fun(n0:Nat) (u7:Nat)=>SV.str false (if(u7:Int).toNat=n0 then aj (aa s) (0+(u7:Int).toNat)else ue (aa s) u7 n0)))) (fun(n0:Nat) (u8:Nat)=>SV.str false (ue (aa s) u8 n0))):=by kernel_rfl
def OL (k:Int)(A B C D E:Prop):Prop:=(decide (k=0)=true->A)/\(decide (k=0)=false->(decide (k=1)=true->B)/\(decide (k=1)=false->(decide (k=2)=true->C)/\(decide (k=2)=false->(decide (k=3)=true->D)/\(decide (k=3)=false->E))))
theorem Xy {k:Int}{A B C D E:Prop}(h:k=0)(a:A):OL k A B C D E:=by subst h;exact⟨fun _=>a,fun h=>absurd h (by decide)⟩
theorem XC {k:Int}{A B C D E:Prop}(h:k=1)(a:B):OL k A B C D E:=by subst h;exact⟨fun h=>absurd h (by decide),fun _=>⟨fun _=>a,fun h=>absurd h (by decide)⟩⟩
theorem Xv {k:Int}{A B C D E:Prop}(h:k=2)(a:C):OL k A B C D E:=by subst h;exact⟨fun h=>absurd h (by decide),fun _=>⟨fun h=>absurd h (by decide),fun _=>⟨fun _=>a,fun h=>absurd h (by decide)⟩⟩⟩
theorem XF {k:Int}{A B C D E:Prop}(h:k=3)(a:D):OL k A B C D E:=by subst h;exact⟨fun h=>absurd h (by decide),fun _=>⟨fun h=>absurd h (by decide),fun _=>⟨fun h=>absurd h (by decide),fun _=>⟨fun _=>a,fun h=>absurd h (by decide)⟩⟩⟩⟩
theorem DS {k:Int}{A B C D E:Prop}(h:k= -1)(a:E):OL k A B C D E:=by subst h;exact⟨fun h=>absurd h (by decide),fun _=>⟨fun h=>absurd h (by decide),fun _=>⟨fun h=>absurd h (by decide),fun _=>⟨fun h=>absurd h (by decide),fun _=>a⟩⟩⟩⟩
theorem Ra {f g:Nat->List UInt8}{tot:Nat}{ty:TypeId}(h: ∀ j,j<16->f j=g j):ah (.cells [.int .i64 false 3,.str false [],.str false [],.str false (f 0),.str false (f 1),.str false (f 2),.str false (f 3),.str false (f 4),.str false (f 5),.str false (f 6),.str false (f 7),.str false (f 8),.str false (f 9),.str false (f 10),.str false (f 11),.str false (f 12),.str false (f 13),.str false (f 14),.str false (f 15)] tot ty) (.cells [.int .i64 false 3,.str false [],.str false [],.str false (g 0),.str false (g 1),.str false (g 2),.str false (g 3),.str false (g 4),.str false (g 5),.str false (g 6),.str false (g 7),.str false (g 8),.str false (g 9),.str false (g 10),.str false (g 11),.str false (g 12),.str false (g 13),.str false (g 14),.str false (g 15)] tot ty):=by
 rw[h 0 (by decide),h 1 (by decide),h 2 (by decide),h 3 (by decide),h 4 (by decide),h 5 (by decide),h 6 (by decide),h 7 (by decide),h 8 (by decide),h 9 (by decide),h 10 (by decide),h 11 (by decide),h 12 (by decide),h 13 (by decide),h 14 (by decide),h 15 (by decide)]
 exact ah.refl _
theorem QS {t:List UInt8}{i:Nat}(h:aj t i≠[128])(j:Nat):(if i=j then aj t i else ue t i j)=ue t (i+1) j:=by
 unfold ue
 by_cases e:i=j
 ·subst e
  rw[if_pos rfl,if_pos (show i<i+1 by omega),aD,if_neg h]
 ·rw[if_neg e]
  by_cases e1:j<i
  ·rw[if_pos e1,if_pos (show j<i+1 by omega)]
  ·rw[if_neg e1,if_neg (show ¬ j<i+1 by omega)]
theorem Nw {t:List UInt8}{i:Nat}(h:aj t i=[128])(j:Nat):ue t i j=ue t (i+1) j:=by
 unfold ue
 by_cases e:i=j
 ·subst e
  rw[if_neg (show ¬ i<i by omega),if_pos (show i<i+1 by omega),aD,if_pos h]
 ·by_cases e1:j<i
  ·rw[if_pos e1,if_pos (show j<i+1 by omega)]
  ·rw[if_neg e1,if_neg (show ¬ j<i+1 by omega)]
attribute [local irreducible] aj bB c9 aa bE aE cQ cC eC c8 cV
theorem Hl {s:List UInt8}(hs:s.length<1099511627776):aA (fW (Pr s) 167 Tryz.f167 [.str false s] (PD s)):=by
 refine aA.of_eq (UR s) ?_
 try dsimp only
 have hin:=EE s
 have hit:=Cl (aa s)
 have hin2:=fun k=>EE (aj (aa s) k)
 refine⟨by omega,fun a=>Xy ?_ (fun _=>rfl),fun a=>⟨by omega,fun b=>⟨fun c=>DS ?_ ⟨eN,fun _=>rfl⟩,fun c=>⟨fun d=>DS ?_ ⟨eN,fun _=>rfl⟩,fun d=>⟨by omega,fun e=>fun cap hcap=>⟨fun f=> ?_,fun f=>⟨fun g=> ?_,fun g=>DS ?_ ⟨eN,fun _=>rfl⟩⟩⟩,fun e=>DS ?_ ⟨eN,fun _=>rfl⟩⟩⟩⟩,fun b=>DS ?_ ⟨eN,fun _=>rfl⟩⟩⟩
 ·have a:s=[128]:=of_decide_eq_true a
  rw[aq,if_pos a]
 ·have a: ¬ s=[128]:=of_decide_eq_false a
  have c:cQ s=false:=by simpa using c
  rw[aq,if_neg a,b,c];rfl
 ·have a: ¬ s=[128]:=of_decide_eq_false a
  have c:cQ s=true:=by simpa using c
  have d:decide (aE s=[])=false:=by simpa using d
  rw[aq,if_neg a,b,c,d];rfl
 ·have a: ¬ s=[128]:=of_decide_eq_false a
  have c:cQ s=true:=by simpa using c
  have d:decide (aE s=[])=true:=by simpa using d
  have f:=of_decide_eq_true f
  have f:bB (aa s)=2:=by omega
  have hk:aq s=lW (aa s):=by rw[aq,if_neg a,b,c,d,nS,e,if_pos f];rfl
  have i0:=hit 0
  have i1:=hit 1
  have i2:=hin2 0
  refine⟨by omega,by omega,by omega,by omega,by omega,fun g=>⟨by omega,fun h=>⟨fun k=>Xv ?_ (fun _=>rfl),fun k=>⟨by omega,fun l=>XC ?_ (fun _=>rfl),fun l=>DS ?_ ⟨⟨1,cV (aa (aj (aa s) 0)),[],ay⟩,fun _=>rfl⟩⟩⟩,fun h=>DS ?_ ⟨eN,fun _=>rfl⟩⟩,fun g=>DS ?_ ⟨eN,fun _=>rfl⟩⟩
  ·have k:c8 (aa (aj (aa s) 0))=false:=by simpa using k
   rw[hk,lW,g,h,k];rfl
  ·have k:c8 (aa (aj (aa s) 0))=true:=by simpa using k
   rw[hk,lW,g,h,k,l];rfl
  ·have k:c8 (aa (aj (aa s) 0))=true:=by simpa using k
   rw[hk,lW,g,h,k,l];rfl
  ·rw[hk,lW,g,h];rfl
  ·rw[hk,lW,g];rfl
 ·have a: ¬ s=[128]:=of_decide_eq_false a
  have c:cQ s=true:=by simpa using c
  have d:decide (aE s=[])=true:=by simpa using d
  have f:=of_decide_eq_false f
  have f: ¬ bB (aa s)=2:=by omega
  have g:=of_decide_eq_true g
  have g:bB (aa s)=17:=by omega
  have hk:aq s=bif cC (aj (aa s) 16)then 3 else -1:=by rw[aq,if_neg a,b,c,d,nS,e,if_neg f,if_pos g];rfl
  have i16:=hit 16
  refine⟨⟨0,by omega,rfl,Sx.ah.cells (fun E=>rfl) rfl,ah.refl _,ah.refl _,ah.refl _,trivial⟩,fun i hi=>⟨fun h=> ?_,fun h=> ?_⟩⟩
  ·have h:=of_decide_eq_true h
   rw[Int.toNat_natCast,Nat.zero_add]
   refine⟨by omega,by omega,by omega,rfl,fun k=>⟨by omega,by omega,by omega,by omega,by omega,i+1,by omega,by omega,?_,ah.refl _,ah.refl _,ah.refl _,trivial⟩,fun k=>⟨by omega,i+1,by omega,by omega,?_,ah.refl _,ah.refl _,ah.refl _,trivial⟩⟩
   ·have k: ¬ aj (aa s) i=[128]:=by
     have:decide (aj (aa s) i=ax [])=false:=by simpa using k
     exact of_decide_eq_false this
    exact Ra (f:=fun j=>if i=j then aj (aa s) i else ue (aa s) i j) fun j _=>QS k j
   ·have k:aj (aa s) i=[128]:=by
     have:decide (aj (aa s) i=ax [])=true:=by simpa using k
     exact of_decide_eq_true this
    exact Ra fun j _=>Nw k j
  ·have h:=of_decide_eq_false h
   have ei:i=16:=by omega
   subst ei
   refine⟨by omega,by omega,by omega,fun k=>XF ?_ (fun _=>rfl),fun k=>DS ?_ ⟨⟨3,[],[],aP (aD (aa s))⟩,fun _=>rfl⟩⟩
   ·rw[hk,k];rfl
   ·rw[hk,k];rfl
 ·have a: ¬ s=[128]:=of_decide_eq_false a
  have c:cQ s=true:=by simpa using c
  have d:decide (aE s=[])=true:=by simpa using d
  have f:=of_decide_eq_false f
  have f: ¬ bB (aa s)=2:=by omega
  have g:=of_decide_eq_false g
  have g: ¬ bB (aa s)=17:=by omega
  rw[aq,if_neg a,b,c,d,nS,e,if_neg f,if_neg g];rfl
 ·have a: ¬ s=[128]:=of_decide_eq_false a
  have c:cQ s=true:=by simpa using c
  have d:decide (aE s=[])=true:=by simpa using d
  rw[aq,if_neg a,b,c,d,nS,e];rfl
 ·have a: ¬ s=[128]:=of_decide_eq_false a
  rw[aq,if_neg a,b];rfl
def Ah:List SV->Option (Prop×c6)
 | [.str false s]=>some (s.length<1099511627776,PD s)
 | _=>none
theorem Tr:aB Tryz.prog 167 (cE Ah):=by
 refine dA (n:=20) (fn:=Tryz.f167) Tryz.func167 (by kernel_rfl) (by kernel_rfl) ?_
 intro args p a h hp
 unfold Ah at h
 split at h
 ·rename_i s
  injection h with h;injection h with h1 h2;subst h1;subst h2
  refine⟨_,VZ s,rfl,fun b=> ?_,Hl hp⟩
  cases b with
  | true=>exact rfl
  | false =>
    intro b
    cases b with
    | true=>exact rfl
    | false =>
      intro b
      cases b with
      | true=>exact rfl
      | false =>
        intro b
        cases b with
        | true=>exact rfl
        | false=>exact fun x=>rfl
 ·cases h
end Go.Proofs.YtoibaecagklkaaaGreatDoor
namespace Go.Proofs.YtoibaecagklkaaaGreatDoor
open Go Sx
set_option maxRecDepth 20000
noncomputable def rQ:List (FuncId×PT):=(167,cE Ah)::DB
theorem jP:bl Tryz.prog (fun f=>aG f rQ):=.cons Tr (cj _) vk
def Rel (L:Nat)(t:List UInt8):Prop:=(t.length<L∨32<=t.length)/\t.length<9223372036854775808
def V3 (t:List UInt8):c6:=.fork (bO t) fun b=>match b with
 | true=>.ret (.aL [(getD t).sv,.bool true true])
 | false=>.ret (.aL [dg,.bool true false])
def i6 (L:Nat):List SV->Option (Prop×c6)
 | [.str false t]=>some (Rel L t,V3 t)
 | _=>none
noncomputable def Ib (L:Nat):List (FuncId×PT):=(155,cE (i6 L))::rQ
noncomputable def Ng (L:Nat):ff:={cg with cI:=fun f=>aG f (Ib L)}
noncomputable def W3 (x:Nd):bC :=
 {α:=Nat,pre:=fun _ i=>i<=16/\iH bO x.r i=true,nY:=fun _ i=>16 - i,fresh:=0,slots:=fun _ i=>[(7,.int .i64 false i)],
  mem:=fun _ i=>[(2,.cells [.int .i64 false (min (x.v.length:Int) 1+cK x.r i)] 1 3)]}
noncomputable def Nc (L:Nat)(x:Nd):ff:={cg with cI:=fun f=>aG f (Ib L),br:=fun f=>if f=201 then [(1,always (W3 x))] else []}
def l7 (L:Nat)(r:Nat->List UInt8):Prop:=∀ j,j<16->Rel L (r j)
noncomputable def Pu (L:Nat):List (FuncId×PT):=(187,aU (dM fun x=>some (Rel L (x.r 0),.bool false (mJ bO x))))::(188,aU (dM fun x=>some (l7 L x.r,.bool false (c7 bO x))))::rQ
noncomputable def n6 (L:Nat):ff:={cg with cI:=fun f=>aG f (Pu L)}
noncomputable def Iy (L:Nat):List (FuncId×PT):=(152,aU (dM fun x=>some (l7 L x.r,.bool false (aS x))))::(153,aU (dM fun x=>some ((0<=x.k/\x.k<=3)/\x.mQ,.str false (cu x))))::rQ
noncomputable def NZ (L:Nat):ff:={cg with cI:=fun f=>aG f (Iy L)}
def T3 (s:List UInt8):c6:=.fork (bG s) fun b=>match b with
 | true=>.ret (.aL [(getD s).sv,.int .i64 true 0])
 | false=>.ret (.aL [dg,.int .i64 true 2])
def oE (L:Nat):List SV->Option (Prop×c6)
 | [.str false s]=>some (s.length<=L/\s.length<1099511627776,T3 s)
 | _=>none
noncomputable def TZ (L:Nat):ff:={cg with cI:=fun f=>aG f ((127,cE (oE L))::rQ)}
noncomputable def NN:ff:={cg with cI:=fun f=>aG f ((127,fun _ _ _ _=>.fail "not to be called")::rQ)}
theorem Up:Sx.Good Tryz.prog NN:=.of bS (bl.cons (fun _ _ _ _ h=>h.elim) (fun _ _ _ _ _ _ h=>h) jP) bt
theorem Tf (x:Nd)(R:SV->Prop):VC.holds (dm sQ 153 Tryz.f153 [x.vB true 0] R)=((True/\R (SV.str false [(128:UInt8)]))):=by kernel_rfl
theorem TL (x:Nd)(R:SV->Prop):VC.holds (dm sQ 153 Tryz.f153 [x.vB true 1] R)=(({k:=(1:Int),p:=x.p,v:=x.v,r:=fun(u1:Nat)=>[x.r 0,x.r 1,x.r 2,x.r 3,x.r 4,x.r 5,x.r 6,x.r 7,x.r 8,x.r 9,x.r 10,x.r 11,x.r 12,x.r 13,x.r 14,x.r 15].getD u1 []:Nd}.mQ/\R (SV.str false (iI {k:=(1:Int),p:=x.p,v:=x.v,r:=fun(u0:Nat)=>[x.r 0,x.r 1,x.r 2,x.r 3,x.r 4,x.r 5,x.r 6,x.r 7,x.r 8,x.r 9,x.r 10,x.r 11,x.r 12,x.r 13,x.r 14,x.r 15].getD u0 []:Nd})))):=by kernel_rfl
theorem Sj (x:Nd)(R:SV->Prop):VC.holds (dm sQ 153 Tryz.f153 [x.vB true 2] R)=(({k:=(2:Int),p:=x.p,v:=x.v,r:=fun(u1:Nat)=>[x.r 0,x.r 1,x.r 2,x.r 3,x.r 4,x.r 5,x.r 6,x.r 7,x.r 8,x.r 9,x.r 10,x.r 11,x.r 12,x.r 13,x.r 14,x.r 15].getD u1 []:Nd}.mQ/\R (SV.str false (nX {k:=(2:Int),p:=x.p,v:=x.v,r:=fun(u0:Nat)=>[x.r 0,x.r 1,x.r 2,x.r 3,x.r 4,x.r 5,x.r 6,x.r 7,x.r 8,x.r 9,x.r 10,x.r 11,x.r 12,x.r 13,x.r 14,x.r 15].getD u0 []:Nd})))):=by kernel_rfl
theorem S0 (x:Nd)(R:SV->Prop):VC.holds (dm sQ 153 Tryz.f153 [x.vB true 3] R)=(({k:=(3:Int),p:=x.p,v:=x.v,r:=fun(u1:Nat)=>[x.r 0,x.r 1,x.r 2,x.r 3,x.r 4,x.r 5,x.r 6,x.r 7,x.r 8,x.r 9,x.r 10,x.r 11,x.r 12,x.r 13,x.r 14,x.r 15].getD u1 []:Nd}.mQ/\R (SV.str false (eF {k:=(3:Int),p:=x.p,v:=x.v,r:=fun(u0:Nat)=>[x.r 0,x.r 1,x.r 2,x.r 3,x.r 4,x.r 5,x.r 6,x.r 7,x.r 8,x.r 9,x.r 10,x.r 11,x.r 12,x.r 13,x.r 14,x.r 15].getD u0 []:Nd})))):=by kernel_rfl
theorem W4 (L:Nat)(x:Nd)(R:SV->Prop):VC.holds (dm (Ng L) 187 Tryz.f187 [x.sv] R)=((True/\((!fZ {k:=x.k,p:=x.p,v:=x.v,r:=fun(u3:Nat)=>[x.r 0,x.r 1,x.r 2,x.r 3,x.r 4,x.r 5,x.r 6,x.r 7,x.r 8,x.r 9,x.r 10,x.r 11,x.r 12,x.r 13,x.r 14,x.r 15].getD u3 []:Nd} (1:Int))=true->R (SV.bool true false))/\((!fZ {k:=x.k,p:=x.p,v:=x.v,r:=fun(u2:Nat)=>[x.r 0,x.r 1,x.r 2,x.r 3,x.r 4,x.r 5,x.r 6,x.r 7,x.r 8,x.r 9,x.r 10,x.r 11,x.r 12,x.r 13,x.r 14,x.r 15].getD u2 []:Nd} (1:Int))=false->((!decide (x.v=[]))=true->R (SV.bool true false))/\((!decide (x.v=[]))=false->True/\((!decide (bX (fun(u1:Nat)=>[x.r 0,x.r 1,x.r 2,x.r 3,x.r 4,x.r 5,x.r 6,x.r 7,x.r 8,x.r 9,x.r 10,x.r 11,x.r 12,x.r 13,x.r 14,x.r 15].getD u1 []) 16=(1:Int)))=true->R (SV.bool true false))/\((!decide (bX (fun(u0:Nat)=>[x.r 0,x.r 1,x.r 2,x.r 3,x.r 4,x.r 5,x.r 6,x.r 7,x.r 8,x.r 9,x.r 10,x.r 11,x.r 12,x.r 13,x.r 14,x.r 15].getD u0 []) 16=(1:Int)))=false->(x.r 0).length<9223372036854775808/\(bI (x.r 0)=true->R (SV.bool true true))/\(bI (x.r 0)=false->Rel L (x.r 0)/\(bO (x.r 0)=true ->R (SV.bool (false&&true) (decide ((getD (x.r 0)).k=3))))/\(bO (x.r 0)=false->R (SV.bool true false)))))))):=by kernel_rfl
theorem N5 (L:Nat)(x:Nd)(R:SV->Prop):VC.holds (dm (Nc L x) 188 Tryz.f188 [x.sv] R)=((fun R0:Nat->SV=>((fun P0:SB=>((fun P1:SB=>((((!decide (x.p=[]))=true->R (SV.bool true false))/\((!decide (x.p=[]))=false->(decide (80<(x.v.length:Int))=true->R (SV.bool true false))/\(decide (80<(x.v.length:Int))=false->∀(u5:Loop),(∃(u4:Nat),(u4<=16/\iH bO x.r u4=true)/\0=(u4:Int)/\ah (SB.cells [SV.int .i64 (false&&true) (min (x.v.length:Int) 1)] 1 3) (SB.cells [SV.int .i64 false (min (x.v.length:Int) 1+cK x.r u4)] 1 3)/\ah (SB.loop LoopState.ready none u5) (SB.loop LoopState.ready none u5)/\ah P0 P0/\ah P1 P1/\ah (SB.cells x.sv.cells 19 238) (SB.cells x.sv.cells 19 238)/\True)/\∀(u3:Nat),u3<=16/\iH bO x.r u3=true->(decide ((u3:Int)<16)=true->(0<=(u3:Int)/\(u3:Int)<16/\(u3:Int)<(↑(16:Nat):Int))/\((!decide (bq [x.r 0,x.r 1,x.r 2,x.r 3,x.r 4,x.r 5,x.r 6,x.r 7,x.r 8,x.r 9,x.r 10,x.r 11,x.r 12,x.r 13,x.r 14,x.r 15] (u3:Int).toNat=[]))=true->u5=u5/\(bq [x.r 0,x.r 1,x.r 2,x.r 3,x.r 4,x.r 5,x.r 6,x.r 7,x.r 8,x.r 9,x.r 10,x.r 11,x.r 12,x.r 13,x.r 14,x.r 15] (u3:Int).toNat).length<9223372036854775808 /\(bI (bq [x.r 0,x.r 1,x.r 2,x.r 3,x.r 4,x.r 5,x.r 6,x.r 7,x.r 8,x.r 9,x.r 10,x.r 11,x.r 12,x.r 13,x.r 14,x.r 15] (u3:Int).toNat)=true->((-9223372036854775808:Int)<=min (x.v.length:Int) 1+cK x.r u3+1/\min (x.v.length:Int) 1+cK x.r u3+1<=(9223372036854775807:Int))/\((-9223372036854775808:Int)<=(u3:Int)+1/\(u3:Int)+1<=(9223372036854775807:Int))/\∃(u2:Nat),((u2<=16/\iH bO x.r u2=true)/\16 - u2<16 - u3)/\(u3:Int)+1=(u2:Int)/\ah (SB.cells [SV.int .i64 false (min (x.v.length:Int) 1+cK x.r u3+1)] 1 3) (SB.cells [SV.int .i64 false (min (x.v.length:Int) 1+cK x.r u2)] 1 3)/\ah (SB.loop LoopState.ready none u5) (SB.loop LoopState.ready none u5)/\ah P0 P0/\ah P1 P1/\ah (SB.cells x.sv.cells 19 238) (SB.cells x.sv.cells 19 238)/\True)/\(bI (bq [x.r 0,x.r 1,x.r 2,x.r 3,x.r 4,x.r 5,x.r 6,x.r 7,x.r 8,x.r 9,x.r 10,x.r 11,x.r 12,x.r 13,x.r 14,x.r 15] (u3:Int).toNat)=false->Rel L (bq [x.r 0,x.r 1,x.r 2,x.r 3,x.r 4,x.r 5,x.r 6,x.r 7,x.r 8,x.r 9,x.r 10,x.r 11,x.r 12,x.r 13,x.r 14,x.r 15] (u3:Int).toNat) /\(bO (bq [x.r 0,x.r 1,x.r 2,x.r 3,x.r 4,x.r 5,x.r 6,x.r 7,x.r 8,x.r 9,x.r 10,x.r 11,x.r 12,x.r 13,x.r 14,x.r 15] (u3:Int).toNat)=true->((-9223372036854775808:Int)<=min (x.v.length:Int) 1+cK x.r u3+1/\min (x.v.length:Int) 1+cK x.r u3+1<=(9223372036854775807:Int))/\((-9223372036854775808:Int)<=(u3:Int)+1/\(u3:Int)+1<=(9223372036854775807:Int))/\∃(u1:Nat),((u1<=16/\iH bO x.r u1=true)/\16 - u1<16 - u3)/\(u3:Int)+1=(u1:Int)/\ah (SB.cells [SV.int .i64 false (min (x.v.length:Int) 1+cK x.r u3+1)] 1 3) (SB.cells [SV.int .i64 false (min (x.v.length:Int) 1+cK x.r u1)] 1 3)/\ah (SB.loop LoopState.ready none u5) (SB.loop LoopState.ready none u5)/\ah P0 P0/\ah P1 P1/\ah (SB.cells x.sv.cells 19 238) (SB.cells x.sv.cells 19 238)/\True)/\(bO (bq [x.r 0,x.r 1,x.r 2,x.r 3,x.r 4,x.r 5,x.r 6,x.r 7,x.r 8,x.r 9,x.r 10,x.r 11,x.r 12,x.r 13,x.r 14,x.r 15] (u3:Int).toNat)=false->R (SV.bool true false)))) /\((!decide (bq [x.r 0,x.r 1,x.r 2,x.r 3,x.r 4,x.r 5,x.r 6,x.r 7,x.r 8,x.r 9,x.r 10,x.r 11,x.r 12,x.r 13,x.r 14,x.r 15] (u3:Int).toNat=[]))=false->((-9223372036854775808:Int)<=(u3:Int)+1/\(u3:Int)+1<=(9223372036854775807:Int))/\∃(u0:Nat),((u0<=16/\iH bO x.r u0=true)/\16 - u0<16 - u3)/\(u3:Int)+1=(u0:Int)/\ah (SB.cells [SV.int .i64 false (min (x.v.length:Int) 1+cK x.r u3)] 1 3) (SB.cells [SV.int .i64 false (min (x.v.length:Int) 1+cK x.r u0)] 1 3)/\ah (SB.loop LoopState.ready none u5) (SB.loop LoopState.ready none u5)/\ah P0 P0/\ah P1 P1/\ah (SB.cells x.sv.cells 19 238) (SB.cells x.sv.cells 19 238)/\True))/\(decide ((u3:Int)<16)=false->R (SV.bool (false&&true) (decide (2<=min (x.v.length:Int) 1+cK x.r u3))))))))) (SB.cells (SV.bool true false).cells 1 4))) (SB.cells (SV.agg [SV.int .i64 false x.k,SV.str false x.p,SV.str false x.v,R0 0,R0 1,R0 2,R0 3,R0 4,R0 5,R0 6,R0 7,R0 8,R0 9,R0 10,R0 11,R0 12,R0 13,R0 14,R0 15]).cells 19 238))) (fun(n0:Nat)=>SV.str false (x.r n0))):=by kernel_rfl
theorem NX (L:Nat)(x:Nd)(R:SV->Prop):VC.holds (dm (n6 L) 152 Tryz.f152 [x.vB true 0] R)=((True/\R (SV.bool false (nR {k:=(0:Int),p:=x.p,v:=x.v,r:=fun(u0:Nat)=>[x.r 0,x.r 1,x.r 2,x.r 3,x.r 4,x.r 5,x.r 6,x.r 7,x.r 8,x.r 9,x.r 10,x.r 11,x.r 12,x.r 13,x.r 14,x.r 15].getD u0 []:Nd})))):=by kernel_rfl
theorem OZ (L:Nat)(x:Nd)(R:SV->Prop):VC.holds (dm (n6 L) 152 Tryz.f152 [x.vB true 1] R)=((True/\R (SV.bool false (js {k:=(1:Int),p:=x.p,v:=x.v,r:=fun(u0:Nat)=>[x.r 0,x.r 1,x.r 2,x.r 3,x.r 4,x.r 5,x.r 6,x.r 7,x.r 8,x.r 9,x.r 10,x.r 11,x.r 12,x.r 13,x.r 14,x.r 15].getD u0 []:Nd})))):=by kernel_rfl
theorem N2 (L:Nat)(x:Nd)(R:SV->Prop):VC.holds (dm (n6 L) 152 Tryz.f152 [x.vB true 2] R)=((Rel L ([x.r 0,x.r 1,x.r 2,x.r 3,x.r 4,x.r 5,x.r 6,x.r 7,x.r 8,x.r 9,x.r 10,x.r 11,x.r 12,x.r 13,x.r 14,x.r 15].getD 0 [])/\R (SV.bool false (mJ bO {k:=(2:Int),p:=x.p,v:=x.v,r:=fun(u0:Nat)=>[x.r 0,x.r 1,x.r 2,x.r 3,x.r 4,x.r 5,x.r 6,x.r 7,x.r 8,x.r 9,x.r 10,x.r 11,x.r 12,x.r 13,x.r 14,x.r 15].getD u0 []:Nd})))):=by kernel_rfl
theorem Oo (L:Nat)(x:Nd)(R:SV->Prop):VC.holds (dm (n6 L) 152 Tryz.f152 [x.vB true 3] R)=(((l7 L fun(u1:Nat)=>[x.r 0,x.r 1,x.r 2,x.r 3,x.r 4,x.r 5,x.r 6,x.r 7,x.r 8,x.r 9,x.r 10,x.r 11,x.r 12,x.r 13,x.r 14,x.r 15].getD u1 [])/\R (SV.bool false (c7 bO {k:=(3:Int),p:=x.p,v:=x.v,r:=fun(u0:Nat)=>[x.r 0,x.r 1,x.r 2,x.r 3,x.r 4,x.r 5,x.r 6,x.r 7,x.r 8,x.r 9,x.r 10,x.r 11,x.r 12,x.r 13,x.r 14,x.r 15].getD u0 []:Nd})))):=by kernel_rfl
theorem Qo (L:Nat)(x:Nd)(R:SV->Prop):VC.holds (dm (n6 L) 152 Tryz.f152 [x.sv] R)=(((decide (x.k<0)=true->R (SV.bool true false))/\(decide (x.k<0)=false->(decide (3<x.k)=true->R (SV.bool true false))/\(decide (3<x.k)=false->(0<=x.k/\x.k<4)/\False)))):=by kernel_rfl
theorem LB (L:Nat)(s:List UInt8):VC.holds (fW (NZ L) 127 Tryz.f127 [.str false s] (T3 s))=((fun R0:Nat->SV=>((fun R1:Nat->SV=>((fun R2:Nat->SV=>((fun P0:SV=>((fun P1:SV=>((fun P2:SV=>((fun P3:SV=>((fun P4:List UInt8=>((s.length<1099511627776/\(decide (aq s=0)=true->(l7 L fun(u24:Nat)=>[[],[],[],[],[],[],[],[],[],[],[],[],[],[],[],[]].getD u24 [])/\((!aS {k:=(0:Int),p:=[],v:=[],r:=fun(u23:Nat)=>[[],[],[],[],[],[],[],[],[],[],[],[],[],[],[],[]].getD u23 []:Nd})=true->(bG s=true->af P0 P1)/\(bG s=false->af P0 P2))/\((!aS {k:=(0:Int),p:=[],v:=[],r:=fun(u22:Nat)=>[[],[],[],[],[],[],[],[],[],[],[],[],[],[],[],[]].getD u22 []:Nd})=false->(((0:Int)<=(0:Int)/\(0:Int)<=(3:Int))/\{k:=(0:Int),p:=[],v:=[],r:=fun(u21:Nat)=>[[],[],[],[],[],[],[],[],[],[],[],[],[],[],[],[]].getD u21 []:Nd}.mQ)/\((!decide (cu {k:=(0:Int),p:=[],v:=[],r:=fun(u20:Nat)=>[[],[],[],[],[],[],[],[],[],[],[],[],[],[],[],[]].getD u20 []:Nd}=s))=true->(bG s=true->af P0 P1)/\(bG s=false->af P0 P2))/\((!decide (cu {k:=(0:Int),p:=[],v:=[],r:=fun(u19:Nat)=>[[],[],[],[],[],[],[],[],[],[],[],[],[],[],[],[]].getD u19 []:Nd}=s))=false ->(bG s=true->af P3 P1)/\(bG s=false->af P3 P2))))/\(decide (aq s=0)=false->(decide (aq s=1)=true->(l7 L fun(u18:Nat)=>[ay 0,ay 1,ay 2,ay 3,ay 4,ay 5,ay 6,ay 7,ay 8,ay 9,ay 10,ay 11,ay 12,ay 13,ay 14,ay 15].getD u18 [])/\((!aS {k:=(1:Int),p:=cV P4,v:=aa (aj (aa s) 1),r:=fun(u17:Nat)=>[ay 0,ay 1,ay 2,ay 3,ay 4,ay 5,ay 6,ay 7,ay 8,ay 9,ay 10,ay 11,ay 12,ay 13,ay 14,ay 15].getD u17 []:Nd})=true->(bG s=true->af P0 P1)/\(bG s=false->af P0 P2))/\((!aS {k:=(1:Int),p:=cV P4,v:=aa (aj (aa s) 1),r:=fun(u16:Nat)=>[ay 0,ay 1,ay 2,ay 3,ay 4,ay 5,ay 6,ay 7,ay 8,ay 9,ay 10,ay 11,ay 12,ay 13,ay 14,ay 15].getD u16 []:Nd})=false->(((0:Int)<=(1:Int)/\(1:Int)<=(3:Int)) /\{k:=(1:Int),p:=cV P4,v:=aa (aj (aa s) 1),r:=fun(u15:Nat)=>[ay 0,ay 1,ay 2,ay 3,ay 4,ay 5,ay 6,ay 7,ay 8,ay 9,ay 10,ay 11,ay 12,ay 13,ay 14,ay 15].getD u15 []:Nd}.mQ)/\((!decide (cu {k:=(1:Int),p:=cV P4,v:=aa (aj (aa s) 1),r:=fun(u14:Nat)=>[ay 0,ay 1,ay 2,ay 3,ay 4,ay 5,ay 6,ay 7,ay 8,ay 9,ay 10,ay 11,ay 12,ay 13,ay 14,ay 15].getD u14 []:Nd}=s))=true->(bG s=true->af P0 P1)/\(bG s=false->af P0 P2))/\((!decide (cu {k:=(1:Int),p:=cV P4,v:=aa (aj (aa s) 1),r:=fun(u13:Nat)=>[ay 0,ay 1,ay 2,ay 3,ay 4,ay 5,ay 6,ay 7,ay 8,ay 9,ay 10,ay 11,ay 12,ay 13,ay 14,ay 15].getD u13 []:Nd}=s))=false->(bG s=true ->af (SV.aL [SV.agg [SV.int .i64 true 1,SV.str false (cV P4),SV.str false (aa (aj (aa s) 1)),R0 0,R0 1,R0 2,R0 3,R0 4,R0 5,R0 6,R0 7,R0 8,R0 9,R0 10,R0 11,R0 12,R0 13,R0 14,R0 15],SV.int .i64 true 0]) P1)/\(bG s=false->af (SV.aL [SV.agg [SV.int .i64 true 1,SV.str false (cV P4),SV.str false (aa (aj (aa s) 1)),R0 0,R0 1,R0 2,R0 3,R0 4,R0 5,R0 6,R0 7,R0 8,R0 9,R0 10,R0 11,R0 12,R0 13,R0 14,R0 15],SV.int .i64 true 0]) P2))))/\(decide (aq s=1)=false->(decide (aq s=2)=true->(l7 L fun(u12:Nat)=>[ak (aj (aa s) 1) 0,ak (aj (aa s) 1) 1,ak (aj (aa s) 1) 2,ak (aj (aa s) 1) 3,ak (aj (aa s) 1) 4,ak (aj (aa s) 1) 5,ak (aj (aa s) 1) 6,ak (aj (aa s) 1) 7,ak (aj (aa s) 1) 8,ak (aj (aa s) 1) 9,ak (aj (aa s) 1) 10,ak (aj (aa s) 1) 11,ak (aj (aa s) 1) 12,ak (aj (aa s) 1) 13,ak (aj (aa s) 1) 14,ak (aj (aa s) 1) 15].getD u12 []) /\((!aS {k:=(2:Int),p:=cV P4,v:=[],r:=fun(u11:Nat)=>[ak (aj (aa s) 1) 0,ak (aj (aa s) 1) 1,ak (aj (aa s) 1) 2,ak (aj (aa s) 1) 3,ak (aj (aa s) 1) 4,ak (aj (aa s) 1) 5,ak (aj (aa s) 1) 6,ak (aj (aa s) 1) 7,ak (aj (aa s) 1) 8,ak (aj (aa s) 1) 9,ak (aj (aa s) 1) 10,ak (aj (aa s) 1) 11,ak (aj (aa s) 1) 12,ak (aj (aa s) 1) 13,ak (aj (aa s) 1) 14,ak (aj (aa s) 1) 15].getD u11 []:Nd})=true->(bG s=true->af P0 P1)/\(bG s=false->af P0 P2)) /\((!aS {k:=(2:Int),p:=cV P4,v:=[],r:=fun(u10:Nat)=>[ak (aj (aa s) 1) 0,ak (aj (aa s) 1) 1,ak (aj (aa s) 1) 2,ak (aj (aa s) 1) 3,ak (aj (aa s) 1) 4,ak (aj (aa s) 1) 5,ak (aj (aa s) 1) 6,ak (aj (aa s) 1) 7,ak (aj (aa s) 1) 8,ak (aj (aa s) 1) 9,ak (aj (aa s) 1) 10,ak (aj (aa s) 1) 11,ak (aj (aa s) 1) 12,ak (aj (aa s) 1) 13,ak (aj (aa s) 1) 14,ak (aj (aa s) 1) 15].getD u10 []:Nd})=false->(((0:Int)<=(2:Int)/\(2:Int)<=(3:Int)) /\{k:=(2:Int),p:=cV P4,v:=[],r:=fun(u9:Nat)=>[ak (aj (aa s) 1) 0,ak (aj (aa s) 1) 1,ak (aj (aa s) 1) 2,ak (aj (aa s) 1) 3,ak (aj (aa s) 1) 4,ak (aj (aa s) 1) 5,ak (aj (aa s) 1) 6,ak (aj (aa s) 1) 7,ak (aj (aa s) 1) 8,ak (aj (aa s) 1) 9,ak (aj (aa s) 1) 10,ak (aj (aa s) 1) 11,ak (aj (aa s) 1) 12,ak (aj (aa s) 1) 13,ak (aj (aa s) 1) 14,ak (aj (aa s) 1) 15].getD u9 []:Nd}.mQ) /\((!decide (cu {k:=(2:Int),p:=cV P4,v:=[],r:=fun(u8:Nat)=>[ak (aj (aa s) 1) 0,ak (aj (aa s) 1) 1,ak (aj (aa s) 1) 2,ak (aj (aa s) 1) 3,ak (aj (aa s) 1) 4,ak (aj (aa s) 1) 5,ak (aj (aa s) 1) 6,ak (aj (aa s) 1) 7,ak (aj (aa s) 1) 8,ak (aj (aa s) 1) 9,ak (aj (aa s) 1) 10,ak (aj (aa s) 1) 11,ak (aj (aa s) 1) 12,ak (aj (aa s) 1) 13,ak (aj (aa s) 1) 14,ak (aj (aa s) 1) 15].getD u8 []:Nd}=s))=true->(bG s=true->af P0 P1)/\(bG s=false->af P0 P2)) /\((!decide (cu {k:=(2:Int),p:=cV P4,v:=[],r:=fun(u7:Nat)=>[ak (aj (aa s) 1) 0,ak (aj (aa s) 1) 1,ak (aj (aa s) 1) 2,ak (aj (aa s) 1) 3,ak (aj (aa s) 1) 4,ak (aj (aa s) 1) 5,ak (aj (aa s) 1) 6,ak (aj (aa s) 1) 7,ak (aj (aa s) 1) 8,ak (aj (aa s) 1) 9,ak (aj (aa s) 1) 10,ak (aj (aa s) 1) 11,ak (aj (aa s) 1) 12,ak (aj (aa s) 1) 13,ak (aj (aa s) 1) 14,ak (aj (aa s) 1) 15].getD u7 []:Nd}=s))=false->(bG s=true->af (SV.aL [SV.agg [SV.int .i64 true 2,SV.str false (cV P4),SV.str false [],R1 0,R1 1,R1 2,R1 3,R1 4,R1 5,R1 6,R1 7,R1 8,R1 9,R1 10,R1 11,R1 12,R1 13,R1 14,R1 15],SV.int .i64 true 0]) P1)/\(bG s=false->af (SV.aL [SV.agg [SV.int .i64 true 2,SV.str false (cV P4),SV.str false [],R1 0,R1 1,R1 2,R1 3,R1 4,R1 5,R1 6,R1 7,R1 8,R1 9,R1 10,R1 11,R1 12,R1 13,R1 14,R1 15],SV.int .i64 true 0]) P2))))/\(decide (aq s=2)=false->(decide (aq s=3)=true ->(l7 L fun(u6:Nat)=>[aP (aD (aa s)) 0,aP (aD (aa s)) 1,aP (aD (aa s)) 2,aP (aD (aa s)) 3,aP (aD (aa s)) 4,aP (aD (aa s)) 5,aP (aD (aa s)) 6,aP (aD (aa s)) 7,aP (aD (aa s)) 8,aP (aD (aa s)) 9,aP (aD (aa s)) 10,aP (aD (aa s)) 11,aP (aD (aa s)) 12,aP (aD (aa s)) 13,aP (aD (aa s)) 14,aP (aD (aa s)) 15].getD u6 [])/\((!aS {k:=(3:Int),p:=[],v:=aa (aj (aa s) 16),r:=fun(u5:Nat)=>[aP (aD (aa s)) 0,aP (aD (aa s)) 1,aP (aD (aa s)) 2,aP (aD (aa s)) 3,aP (aD (aa s)) 4,aP (aD (aa s)) 5,aP (aD (aa s)) 6,aP (aD (aa s)) 7,aP (aD (aa s)) 8,aP (aD (aa s)) 9,aP (aD (aa s)) 10,aP (aD (aa s)) 11,aP (aD (aa s)) 12,aP (aD (aa s)) 13,aP (aD (aa s)) 14,aP (aD (aa s)) 15].getD u5 []:Nd})=true->(bG s=true->af P0 P1)/\(bG s=false->af P0 P2)) /\((!aS {k:=(3:Int),p:=[],v:=aa (aj (aa s) 16),r:=fun(u4:Nat)=>[aP (aD (aa s)) 0,aP (aD (aa s)) 1,aP (aD (aa s)) 2,aP (aD (aa s)) 3,aP (aD (aa s)) 4,aP (aD (aa s)) 5,aP (aD (aa s)) 6,aP (aD (aa s)) 7,aP (aD (aa s)) 8,aP (aD (aa s)) 9,aP (aD (aa s)) 10,aP (aD (aa s)) 11,aP (aD (aa s)) 12,aP (aD (aa s)) 13,aP (aD (aa s)) 14,aP (aD (aa s)) 15].getD u4 []:Nd})=false->(((0:Int)<=(3:Int)/\(3:Int)<=(3:Int))/\{k:=(3:Int),p:=[],v:=aa (aj (aa s) 16),r:=fun(u3:Nat)=>[aP (aD (aa s)) 0,aP (aD (aa s)) 1,aP (aD (aa s)) 2,aP (aD (aa s)) 3,aP (aD (aa s)) 4,aP (aD (aa s)) 5,aP (aD (aa s)) 6,aP (aD (aa s)) 7,aP (aD (aa s)) 8,aP (aD (aa s)) 9,aP (aD (aa s)) 10,aP (aD (aa s)) 11,aP (aD (aa s)) 12,aP (aD (aa s)) 13,aP (aD (aa s)) 14,aP (aD (aa s)) 15].getD u3 []:Nd}.mQ) /\((!decide (cu {k:=(3:Int),p:=[],v:=aa (aj (aa s) 16),r:=fun(u2:Nat)=>[aP (aD (aa s)) 0,aP (aD (aa s)) 1,aP (aD (aa s)) 2,aP (aD (aa s)) 3,aP (aD (aa s)) 4,aP (aD (aa s)) 5,aP (aD (aa s)) 6,aP (aD (aa s)) 7,aP (aD (aa s)) 8,aP (aD (aa s)) 9,aP (aD (aa s)) 10,aP (aD (aa s)) 11,aP (aD (aa s)) 12,aP (aD (aa s)) 13,aP (aD (aa s)) 14,aP (aD (aa s)) 15].getD u2 []:Nd}=s))=true->(bG s=true->af P0 P1)/\(bG s=false->af P0 P2))/\((!decide (cu {k:=(3:Int),p:=[],v:=aa (aj (aa s) 16),r:=fun(u1:Nat)=>[aP (aD (aa s)) 0,aP (aD (aa s)) 1,aP (aD (aa s)) 2,aP (aD (aa s)) 3,aP (aD (aa s)) 4,aP (aD (aa s)) 5,aP (aD (aa s)) 6,aP (aD (aa s)) 7,aP (aD (aa s)) 8,aP (aD (aa s)) 9,aP (aD (aa s)) 10,aP (aD (aa s)) 11,aP (aD (aa s)) 12,aP (aD (aa s)) 13,aP (aD (aa s)) 14,aP (aD (aa s)) 15].getD u1 []:Nd}=s))=false ->(bG s=true->af (SV.aL [SV.agg [SV.int .i64 true 3,SV.str false [],SV.str false (aa (aj (aa s) 16)),R2 0,R2 1,R2 2,R2 3,R2 4,R2 5,R2 6,R2 7,R2 8,R2 9,R2 10,R2 11,R2 12,R2 13,R2 14,R2 15],SV.int .i64 true 0]) P1)/\(bG s=false->af (SV.aL [SV.agg [SV.int .i64 true 3,SV.str false [],SV.str false (aa (aj (aa s) 16)),R2 0,R2 1,R2 2,R2 3,R2 4,R2 5,R2 6,R2 7,R2 8,R2 9,R2 10,R2 11,R2 12,R2 13,R2 14,R2 15],SV.int .i64 true 0]) P2))))/\(decide (aq s=3)=false->∀(_:Nd),(bG s=true->af P0 P1)/\(bG s=false->af P0 P2)))))))) (aa (aj (aa s) 0)))) (SV.aL [SV.agg [SV.int .i64 true 0,SV.str true [],SV.str true [],SV.str true [],SV.str true [],SV.str true [],SV.str true [],SV.str true [],SV.str true [],SV.str true [],SV.str true [],SV.str true [],SV.str true [],SV.str true [],SV.str true [],SV.str true [],SV.str true [],SV.str true [],SV.str true []],SV.int .i64 true 0]))) (SV.aL [dg,SV.int .i64 true 2]))) (SV.aL [(getD s).sv,SV.int .i64 true 0]))) (SV.aL [SV.agg [SV.int .i64 true 0,SV.str true [],SV.str true [],SV.str true [],SV.str true [],SV.str true [],SV.str true [],SV.str true [],SV.str true [],SV.str true [],SV.str true [],SV.str true [],SV.str true [],SV.str true [],SV.str true [],SV.str true [],SV.str true [],SV.str true [],SV.str true []],SV.int .i64 true 2]))) (fun(n0:Nat)=>SV.str false (aP (aD (aa s)) n0)))) (fun(n0:Nat)=>SV.str false (ak (aj (aa s) 1) n0)))) (fun(n0:Nat)=>SV.str false (ay n0))):=by kernel_rfl
theorem Qv (L:Nat)(t:List UInt8):VC.holds (fW (TZ L) 155 Tryz.f155 [.str false t] (V3 t))=((fun R0:Nat->SV=>((fun P0:SV=>(((decide (32<=(t.length:Int))=true->(bO t=true->af P0 (SV.aL [(getD t).sv,SV.bool true true]))/\(bO t=false->af P0 (SV.aL [dg,SV.bool true false])))/\(decide (32<=(t.length:Int))=false->(t.length<=L/\t.length<1099511627776)/\(bG t=true->(decide ((getD t).k=0)=true->(bO t=true->af P0 (SV.aL [(getD t).sv,SV.bool true true]))/\(bO t=false->af P0 (SV.aL [dg,SV.bool true false])))/\(decide ((getD t).k=0)=false->(bO t=true->af (SV.aL [SV.agg [SV.int .i64 false (getD t).k,SV.str false (getD t).p,SV.str false (getD t).v,R0 0,R0 1,R0 2,R0 3,R0 4,R0 5,R0 6,R0 7,R0 8,R0 9,R0 10,R0 11,R0 12,R0 13,R0 14,R0 15],SV.bool true true]) (SV.aL [(getD t).sv,SV.bool true true]))/\(bO t=false->af (SV.aL [SV.agg [SV.int .i64 false (getD t).k,SV.str false (getD t).p,SV.str false (getD t).v,R0 0,R0 1,R0 2,R0 3,R0 4,R0 5,R0 6,R0 7,R0 8,R0 9,R0 10,R0 11,R0 12,R0 13,R0 14,R0 15],SV.bool true true]) (SV.aL [dg,SV.bool true false]))))/\(bG t=false->(bO t=true->af P0 (SV.aL [(getD t).sv,SV.bool true true]))/\(bO t=false ->af P0 (SV.aL [dg,SV.bool true false]))))))) (SV.aL [SV.agg [SV.int .i64 true 0,SV.str true [],SV.str true [],SV.str true [],SV.str true [],SV.str true [],SV.str true [],SV.str true [],SV.str true [],SV.str true [],SV.str true [],SV.str true [],SV.str true [],SV.str true [],SV.str true [],SV.str true [],SV.str true [],SV.str true [],SV.str true []],SV.bool true false]))) (fun(n0:Nat)=>SV.str false ((getD t).r n0))):=by kernel_rfl
theorem LY (t:List UInt8):VC.holds (fW NN 155 Tryz.f155 [.str false t] (V3 t))=((fun P0:SV=>(((decide (32<=(t.length:Int))=true->(bO t=true->af P0 (SV.aL [(getD t).sv,SV.bool true true]))/\(bO t=false->af P0 (SV.aL [dg,SV.bool true false])))/\(decide (32<=(t.length:Int))=false->False)))) (SV.aL [SV.agg [SV.int .i64 true 0,SV.str true [],SV.str true [],SV.str true [],SV.str true [],SV.str true [],SV.str true [],SV.str true [],SV.str true [],SV.str true [],SV.str true [],SV.str true [],SV.str true [],SV.str true [],SV.str true [],SV.str true [],SV.str true [],SV.str true [],SV.str true []],SV.bool true false])):=by kernel_rfl
end Go.Proofs.YtoibaecagklkaaaGreatDoor
