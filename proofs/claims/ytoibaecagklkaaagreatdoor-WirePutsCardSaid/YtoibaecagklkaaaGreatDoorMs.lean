/-
  Conditions that the executor computes, written out by a program (vcgen.py).
-/
import Derived.Test.YtoibaecagklkaaaGreatDoorMr
import Derived.Test.YtoibaecagklkaaaGreatDoorMo
import Derived.Test.YtoibaecagklkaaaGreatDoorMl
open Bool renaming eq_false_iff->K,false->t,not_eq_false'->ag,not_eq_true'->O,true->d
open Decidable renaming decide->D
open Go.IntKind renaming i64->H
open Go.Operand renaming const->I,tmp->w
open Go.Proofs.Tryz renaming f118->P,f119->Q,f120->G,f172->S,f173->T,f202->V,f218->W,f72->X,f73->an,f74->aA,func120->Y,prog->F
open Go.Value renaming int->J
open List renaming length_append->L,length_cons->a_,length_drop->Z,length_nil->a!,length_take->M,take->N,take_append_drop->bl
open Option renaming none->A,some->u
open UInt8 renaming ofNat->C
namespace Go.Proofs.YtoibaecagklkaaaGreatDoor
open Go Sx
variable {b s:e_}
section
open Go Sx
set_option maxRecDepth 20000
theorem V0 (p:e_)(R:SV->Prop):VC.holds (cA (SC p) 178 Tryz.f178 [.str t p] R)=((∃(y:Nat),jY p.length (sJ p) y /\(0:Int)=(↑y:Int) /\True) /\∀(x:Nat),jY p.length (sJ p) x ->Fk ((↑x:Int)<(↑p.length:Int)) (((0:Int)<=(↑x:Int) /\(↑x:Int)<(↑p.length:Int)) /\Fk ((15:Int)<ai p (↑x:Int)) (R (SV.bool d t)) (((-9223372036854775808:Int)<=(↑x:Int)+(1:Int) /\(↑x:Int)+(1:Int)<=(9223372036854775807:Int)) /\∃(y:Nat),(jY p.length (sJ p) y /\p.length - y<p.length - x) /\(↑x:Int)+(1:Int)=(↑y:Int) /\True)) (R (SV.bool d d))):=by kernel_rfl
theorem YO (k:e_)(R:SV->Prop):VC.holds (cA (SA k) 55 Tryz.f55 [.str t k] R)=((∃(y:Nat),y<=k.length /\[]=bD (ga k) 0 ((2:Nat)*y) /\(0:Int)=(↑y:Int) /\True) /\∀(x:Nat),x<=k.length ->Fk ((↑x:Int)<(↑k.length:Int)) (((0:Int)<=(↑x:Int) /\(↑x:Int)<(↑k.length:Int)) /\((0:Int)<=ai k (↑x:Int) /\ai k (↑x:Int)<=(255:Int) /\(0:Int)<(16:Int)) /\((0:Int)<=(↑x:Int) /\(↑x:Int)<(↑k.length:Int)) /\((0:Int)<=ai k (↑x:Int) /\ai k (↑x:Int)<=(255:Int) /\(0:Int)<(16:Int)) /\(↑(bD (ga k) 0 ((2:Nat)*x)).length:Int)+(↑(2:Nat):Int)<=(9223372036854775807:Int) /\((-9223372036854775808:Int)<=(↑x:Int)+(1:Int) /\(↑x:Int)+(1:Int)<=(9223372036854775807:Int)) /\∃(y:Nat),(y<=k.length /\k.length - y<k.length - x) /\cat (bD (ga k) 0 ((2:Nat)*x)) [C (ai k (↑x:Int) / (16:Int)).toNat,C (ai k (↑x:Int)% (16:Int)).toNat]=bD (ga k) 0 ((2:Nat)*y) /\(↑x:Int)+(1:Int)=(↑y:Int) /\True) (R (SV.str t (bD (ga k) 0 ((2:Nat)*x))))):=by kernel_rfl
theorem ab0 (p:e_):VC.holds (dB (Sz p) 139 Tryz.f139 [.str t p] (Jl p))=(((0:Int)<=(↑p.length:Int) /\(↑p.length:Int)<=(9223372036854775807:Int) /\(0:Int)<(2:Int)) /\Fk ((↑p.length:Int)% (2:Int)=(1:Int)) (Bk (kY p) (aa (SV.aD [SV.str d [],SV.bool d t]) (SV.aD [SV.str t (sI p),SV.bool d d])) (aa (SV.aD [SV.str d [],SV.bool d t]) (SV.aD [SV.str d [],SV.bool d t]))) (p.length<(1152921504606846976:Nat) /\Bk (!cY p) (Bk (kY p) (aa (SV.aD [SV.str d [],SV.bool d t]) (SV.aD [SV.str t (sI p),SV.bool d d])) (aa (SV.aD [SV.str d [],SV.bool d t]) (SV.aD [SV.str d [],SV.bool d t]))) ((∃(y:Nat),y<=p.length / (2:Nat) /\[]=bD (vh p) 0 y /\(0:Int)=(2:Int)*(↑y:Int) /\True) /\∀(x:Nat),x<=p.length / (2:Nat) ->((-9223372036854775808:Int)<=(2:Int)*(↑x:Int)+(1:Int) /\(2:Int)*(↑x:Int)+(1:Int)<=(9223372036854775807:Int)) /\Fk ((2:Int)*(↑x:Int)+(1:Int)<(↑p.length:Int)) (((0:Int)<=(2:Int)*(↑x:Int) /\(2:Int)*(↑x:Int)<(↑p.length:Int)) /\((-9223372036854775808:Int)<=(2:Int)*(↑x:Int)+(1:Int) /\(2:Int)*(↑x:Int)+(1:Int)<=(9223372036854775807:Int)) /\((0:Int)<=(2:Int)*(↑x:Int)+(1:Int) /\(2:Int)*(↑x:Int)+(1:Int)<(↑p.length:Int)) /\(↑(bD (vh p) 0 x).length:Int)+(↑(1:Nat):Int)<=(9223372036854775807:Int) /\((-9223372036854775808:Int)<=(2:Int)*(↑x:Int)+(2:Int) /\(2:Int)*(↑x:Int)+(2:Int)<=(9223372036854775807:Int)) /\∃(y:Nat),(y<=p.length / (2:Nat) /\p.length / (2:Nat) - y<p.length / (2:Nat) - x) /\cat (bD (vh p) 0 x) [C ((ai p ((2:Int)*(↑x:Int))*(16:Int)% (256:Int)+ai p ((2:Int)*(↑x:Int)+(1:Int)))% (256:Int)).toNat]=bD (vh p) 0 y /\(2:Int)*(↑x:Int)+(2:Int)=(2:Int)*(↑y:Int) /\True) (Bk (kY p) (aa (SV.aD [SV.str t (bD (vh p) 0 x),SV.bool d d]) (SV.aD [SV.str t (sI p),SV.bool d d])) (aa (SV.aD [SV.str t (bD (vh p) 0 x),SV.bool d d]) (SV.aD [SV.str d [],SV.bool d t])))))):=by kernel_rfl
theorem ab1 (p:e_)(leaf:Bool):VC.holds (dB Sw 203 Tryz.f203 [.str t p,.bool t leaf] (IJ p leaf))=((λQ0:SV=>((λQ1:SV=>(p.length<(1152921504606846976:Nat) /\Bk (!cY p) (Bk (cY p) (aa Q0 Q1) (aa Q0 Q0)) (((0:Int)<=(↑p.length:Int) /\(↑p.length:Int)<=(9223372036854775807:Int) /\(0:Int)<(2:Int)) /\Bk leaf (((0:Int)<=(↑p.length:Int) /\(↑p.length:Int)<=(9223372036854775807:Int) /\(0:Int)<(2:Int)) /\Fk ((↑p.length:Int)% (2:Int)=(0:Int)) ((↑(1:Nat):Int)+(1:Int)<=(9223372036854775807:Int) /\(↑(2:Nat):Int)+(↑p.length:Int)<=(9223372036854775807:Int) /\(cat (cat [C (((↑p.length:Int)% (2:Int)% (256:Int)+(2:Int))% (256:Int)).toNat] [C 0]) p).length<(1099511627776:Nat) /\Bk (kY (cat (cat [C (((↑p.length:Int)% (2:Int)% (256:Int)+(2:Int))% (256:Int)).toNat] [C 0]) p)) (Bk (cY p) (aa (SV.aD [SV.str t (sI (cat (cat [C (((↑p.length:Int)% (2:Int)% (256:Int)+(2:Int))% (256:Int)).toNat] [C 0]) p)),SV.bool d d]) Q1) (aa (SV.aD [SV.str t (sI (cat (cat [C (((↑p.length:Int)% (2:Int)% (256:Int)+(2:Int))% (256:Int)).toNat] [C 0]) p)),SV.bool d d]) Q0)) (Bk (cY p) (aa Q0 Q1) (aa Q0 Q0))) ((↑(1:Nat):Int)+(↑p.length:Int)<=(9223372036854775807:Int) /\(cat [C (((↑p.length:Int)% (2:Int)% (256:Int)+(2:Int))% (256:Int)).toNat] p).length<(1099511627776:Nat) /\Bk (kY (cat [C (((↑p.length:Int)% (2:Int)% (256:Int)+(2:Int))% (256:Int)).toNat] p)) (Bk (cY p) (aa (SV.aD [SV.str t (sI (cat [C (((↑p.length:Int)% (2:Int)% (256:Int)+(2:Int))% (256:Int)).toNat] p)),SV.bool d d]) Q1) (aa (SV.aD [SV.str t (sI (cat [C (((↑p.length:Int)% (2:Int)% (256:Int)+(2:Int))% (256:Int)).toNat] p)),SV.bool d d]) Q0)) (Bk (cY p) (aa Q0 Q1) (aa Q0 Q0)))) (((0:Int)<=(↑p.length:Int) /\(↑p.length:Int)<=(9223372036854775807:Int) /\(0:Int)<(2:Int)) /\Fk ((↑p.length:Int)% (2:Int)=(0:Int)) ((↑(1:Nat):Int)+(1:Int)<=(9223372036854775807:Int) /\(↑(2:Nat):Int)+(↑p.length:Int)<=(9223372036854775807:Int) /\(cat (cat [C ((↑p.length:Int)% (2:Int)% (256:Int)).toNat] [C 0]) p).length<(1099511627776:Nat) /\Bk (kY (cat (cat [C ((↑p.length:Int)% (2:Int)% (256:Int)).toNat] [C 0]) p)) (Bk (cY p) (aa (SV.aD [SV.str t (sI (cat (cat [C ((↑p.length:Int)% (2:Int)% (256:Int)).toNat] [C 0]) p)),SV.bool d d]) Q1) (aa (SV.aD [SV.str t (sI (cat (cat [C ((↑p.length:Int)% (2:Int)% (256:Int)).toNat] [C 0]) p)),SV.bool d d]) Q0)) (Bk (cY p) (aa Q0 Q1) (aa Q0 Q0))) ((↑(1:Nat):Int)+(↑p.length:Int)<=(9223372036854775807:Int) /\(cat [C ((↑p.length:Int)% (2:Int)% (256:Int)).toNat] p).length<(1099511627776:Nat) /\Bk (kY (cat [C ((↑p.length:Int)% (2:Int)% (256:Int)).toNat] p)) (Bk (cY p) (aa (SV.aD [SV.str t (sI (cat [C ((↑p.length:Int)% (2:Int)% (256:Int)).toNat] p)),SV.bool d d]) Q1) (aa (SV.aD [SV.str t (sI (cat [C ((↑p.length:Int)% (2:Int)% (256:Int)).toNat] p)),SV.bool d d]) Q0)) (Bk (cY p) (aa Q0 Q1) (aa Q0 Q0))))))) (SV.aD [SV.str t (bK p leaf),SV.bool d d]))) (SV.aD [SV.str d [],SV.bool d t])):=by kernel_rfl
theorem abZ (s:e_):VC.holds (dB Sy 174 Tryz.f174 [.str t s] (DP s))=((λQ0:SV=>((λQ1:SV=>((λQ2:SV=>((λQ3:SV=>((λQ4:SV=>((λQ5:SV=>(s.length<(1099511627776:Nat) /\Fk ((1:Int)<=(↑(ak s).length:Int)) (((0:Int)<=(1:Int) /\(1:Int)<=(↑(ak s).length:Int) /\(↑(ak s).length:Int)<=(↑(ak s).length:Int)) /\(aB (ak s) (u (w 28)) A 1 (↑(ak s).length:Int)).length<(1073741824:Nat) /\Bk (cY (aB (ak s) (u (w 28)) A 1 (↑(ak s).length:Int))) (Fk (bK (aB (ak s) (u (w 28)) A 1 (↑(ak s).length:Int)) (D ((0:Int)=(1:Int)))=s) (((0:Int)<=(1:Int) /\(1:Int)<=(↑(ak s).length:Int) /\(↑(ak s).length:Int)<=(↑(ak s).length:Int)) /\Bk (bI s) (aa Q5 Q2) (aa Q5 Q1)) (((0:Int)<=(1:Int) /\(1:Int)<=(↑(ak s).length:Int) /\(↑(ak s).length:Int)<=(↑(ak s).length:Int)) /\(aB (ak s) (u (w 28)) A 1 (↑(ak s).length:Int)).length<(1073741824:Nat) /\Bk (cY (aB (ak s) (u (w 28)) A 1 (↑(ak s).length:Int))) (Fk (bK (aB (ak s) (u (w 28)) A 1 (↑(ak s).length:Int)) (D ((1:Int)=(1:Int)))=s) (((0:Int)<=(1:Int) /\(1:Int)<=(↑(ak s).length:Int) /\(↑(ak s).length:Int)<=(↑(ak s).length:Int)) /\Bk (bI s) (aa Q4 Q2) (aa Q4 Q1)) (Fk ((2:Int)<=(↑(ak s).length:Int)) (((0:Int)<=(2:Int) /\(2:Int)<=(↑(ak s).length:Int) /\(↑(ak s).length:Int)<=(↑(ak s).length:Int)) /\(aB (ak s) (u (w 28)) A 2 (↑(ak s).length:Int)).length<(1073741824:Nat) /\Bk (cY (aB (ak s) (u (w 28)) A 2 (↑(ak s).length:Int))) (Fk (bK (aB (ak s) (u (w 28)) A 2 (↑(ak s).length:Int)) (D ((0:Int)=(1:Int)))=s) (((0:Int)<=(2:Int) /\(2:Int)<=(↑(ak s).length:Int) /\(↑(ak s).length:Int)<=(↑(ak s).length:Int)) /\Bk (bI s) (aa Q3 Q2) (aa Q3 Q1)) (((0:Int)<=(2:Int) /\(2:Int)<=(↑(ak s).length:Int) /\(↑(ak s).length:Int)<=(↑(ak s).length:Int)) /\(aB (ak s) (u (w 28)) A 2 (↑(ak s).length:Int)).length<(1073741824:Nat) /\Bk (cY (aB (ak s) (u (w 28)) A 2 (↑(ak s).length:Int))) (Fk (bK (aB (ak s) (u (w 28)) A 2 (↑(ak s).length:Int)) (D ((1:Int)=(1:Int)))=s) (((0:Int)<=(2:Int) /\(2:Int)<=(↑(ak s).length:Int) /\(↑(ak s).length:Int)<=(↑(ak s).length:Int)) /\Bk (bI s) (aa Q0 Q2) (aa Q0 Q1)) (Bk (bI s) (aa Q1 Q2) (aa Q1 Q1))) (Fk ([]=s) (((0:Int)<=(2:Int) /\(2:Int)<=(↑(ak s).length:Int) /\(↑(ak s).length:Int)<=(↑(ak s).length:Int)) /\Bk (bI s) (aa Q0 Q2) (aa Q0 Q1)) (Bk (bI s) (aa Q1 Q2) (aa Q1 Q1))))) (Fk ([]=s) (((0:Int)<=(2:Int) /\(2:Int)<=(↑(ak s).length:Int) /\(↑(ak s).length:Int)<=(↑(ak s).length:Int)) /\Bk (bI s) (aa Q3 Q2) (aa Q3 Q1)) (((0:Int)<=(2:Int) /\(2:Int)<=(↑(ak s).length:Int) /\(↑(ak s).length:Int)<=(↑(ak s).length:Int)) /\(aB (ak s) (u (w 28)) A 2 (↑(ak s).length:Int)).length<(1073741824:Nat) /\Bk (cY (aB (ak s) (u (w 28)) A 2 (↑(ak s).length:Int))) (Fk (bK (aB (ak s) (u (w 28)) A 2 (↑(ak s).length:Int)) (D ((1:Int)=(1:Int)))=s) (((0:Int)<=(2:Int) /\(2:Int)<=(↑(ak s).length:Int) /\(↑(ak s).length:Int)<=(↑(ak s).length:Int)) /\Bk (bI s) (aa Q0 Q2) (aa Q0 Q1)) (Bk (bI s) (aa Q1 Q2) (aa Q1 Q1))) (Fk ([]=s) (((0:Int)<=(2:Int) /\(2:Int)<=(↑(ak s).length:Int) /\(↑(ak s).length:Int)<=(↑(ak s).length:Int)) /\Bk (bI s) (aa Q0 Q2) (aa Q0 Q1)) (Bk (bI s) (aa Q1 Q2) (aa Q1 Q1)))))) (Bk (bI s) (aa Q1 Q2) (aa Q1 Q1)))) (Fk ([]=s) (((0:Int)<=(1:Int) /\(1:Int)<=(↑(ak s).length:Int) /\(↑(ak s).length:Int)<=(↑(ak s).length:Int)) /\Bk (bI s) (aa Q4 Q2) (aa Q4 Q1)) (Fk ((2:Int)<=(↑(ak s).length:Int)) (((0:Int)<=(2:Int) /\(2:Int)<=(↑(ak s).length:Int) /\(↑(ak s).length:Int)<=(↑(ak s).length:Int)) /\(aB (ak s) (u (w 28)) A 2 (↑(ak s).length:Int)).length<(1073741824:Nat) /\Bk (cY (aB (ak s) (u (w 28)) A 2 (↑(ak s).length:Int))) (Fk (bK (aB (ak s) (u (w 28)) A 2 (↑(ak s).length:Int)) (D ((0:Int)=(1:Int)))=s) (((0:Int)<=(2:Int) /\(2:Int)<=(↑(ak s).length:Int) /\(↑(ak s).length:Int)<=(↑(ak s).length:Int)) /\Bk (bI s) (aa Q3 Q2) (aa Q3 Q1)) (((0:Int)<=(2:Int) /\(2:Int)<=(↑(ak s).length:Int) /\(↑(ak s).length:Int)<=(↑(ak s).length:Int)) /\(aB (ak s) (u (w 28)) A 2 (↑(ak s).length:Int)).length<(1073741824:Nat) /\Bk (cY (aB (ak s) (u (w 28)) A 2 (↑(ak s).length:Int))) (Fk (bK (aB (ak s) (u (w 28)) A 2 (↑(ak s).length:Int)) (D ((1:Int)=(1:Int)))=s) (((0:Int)<=(2:Int) /\(2:Int)<=(↑(ak s).length:Int) /\(↑(ak s).length:Int)<=(↑(ak s).length:Int)) /\Bk (bI s) (aa Q0 Q2) (aa Q0 Q1)) (Bk (bI s) (aa Q1 Q2) (aa Q1 Q1))) (Fk ([]=s) (((0:Int)<=(2:Int) /\(2:Int)<=(↑(ak s).length:Int) /\(↑(ak s).length:Int)<=(↑(ak s).length:Int)) /\Bk (bI s) (aa Q0 Q2) (aa Q0 Q1)) (Bk (bI s) (aa Q1 Q2) (aa Q1 Q1))))) (Fk ([]=s) (((0:Int)<=(2:Int) /\(2:Int)<=(↑(ak s).length:Int) /\(↑(ak s).length:Int)<=(↑(ak s).length:Int)) /\Bk (bI s) (aa Q3 Q2) (aa Q3 Q1)) (((0:Int)<=(2:Int) /\(2:Int)<=(↑(ak s).length:Int) /\(↑(ak s).length:Int)<=(↑(ak s).length:Int)) /\(aB (ak s) (u (w 28)) A 2 (↑(ak s).length:Int)).length<(1073741824:Nat) /\Bk (cY (aB (ak s) (u (w 28)) A 2 (↑(ak s).length:Int))) (Fk (bK (aB (ak s) (u (w 28)) A 2 (↑(ak s).length:Int)) (D ((1:Int)=(1:Int)))=s) (((0:Int)<=(2:Int) /\(2:Int)<=(↑(ak s).length:Int) /\(↑(ak s).length:Int)<=(↑(ak s).length:Int)) /\Bk (bI s) (aa Q0 Q2) (aa Q0 Q1)) (Bk (bI s) (aa Q1 Q2) (aa Q1 Q1))) (Fk ([]=s) (((0:Int)<=(2:Int) /\(2:Int)<=(↑(ak s).length:Int) /\(↑(ak s).length:Int)<=(↑(ak s).length:Int)) /\Bk (bI s) (aa Q0 Q2) (aa Q0 Q1)) (Bk (bI s) (aa Q1 Q2) (aa Q1 Q1)))))) (Bk (bI s) (aa Q1 Q2) (aa Q1 Q1)))))) (Fk ([]=s) (((0:Int)<=(1:Int) /\(1:Int)<=(↑(ak s).length:Int) /\(↑(ak s).length:Int)<=(↑(ak s).length:Int)) /\Bk (bI s) (aa Q5 Q2) (aa Q5 Q1)) (((0:Int)<=(1:Int) /\(1:Int)<=(↑(ak s).length:Int) /\(↑(ak s).length:Int)<=(↑(ak s).length:Int)) /\(aB (ak s) (u (w 28)) A 1 (↑(ak s).length:Int)).length<(1073741824:Nat) /\Bk (cY (aB (ak s) (u (w 28)) A 1 (↑(ak s).length:Int))) (Fk (bK (aB (ak s) (u (w 28)) A 1 (↑(ak s).length:Int)) (D ((1:Int)=(1:Int)))=s) (((0:Int)<=(1:Int) /\(1:Int)<=(↑(ak s).length:Int) /\(↑(ak s).length:Int)<=(↑(ak s).length:Int)) /\Bk (bI s) (aa Q4 Q2) (aa Q4 Q1)) (Fk ((2:Int)<=(↑(ak s).length:Int)) (((0:Int)<=(2:Int) /\(2:Int)<=(↑(ak s).length:Int) /\(↑(ak s).length:Int)<=(↑(ak s).length:Int)) /\(aB (ak s) (u (w 28)) A 2 (↑(ak s).length:Int)).length<(1073741824:Nat) /\Bk (cY (aB (ak s) (u (w 28)) A 2 (↑(ak s).length:Int))) (Fk (bK (aB (ak s) (u (w 28)) A 2 (↑(ak s).length:Int)) (D ((0:Int)=(1:Int)))=s) (((0:Int)<=(2:Int) /\(2:Int)<=(↑(ak s).length:Int) /\(↑(ak s).length:Int)<=(↑(ak s).length:Int)) /\Bk (bI s) (aa Q3 Q2) (aa Q3 Q1)) (((0:Int)<=(2:Int) /\(2:Int)<=(↑(ak s).length:Int) /\(↑(ak s).length:Int)<=(↑(ak s).length:Int)) /\(aB (ak s) (u (w 28)) A 2 (↑(ak s).length:Int)).length<(1073741824:Nat) /\Bk (cY (aB (ak s) (u (w 28)) A 2 (↑(ak s).length:Int))) (Fk (bK (aB (ak s) (u (w 28)) A 2 (↑(ak s).length:Int)) (D ((1:Int)=(1:Int)))=s) (((0:Int)<=(2:Int) /\(2:Int)<=(↑(ak s).length:Int) /\(↑(ak s).length:Int)<=(↑(ak s).length:Int)) /\Bk (bI s) (aa Q0 Q2) (aa Q0 Q1)) (Bk (bI s) (aa Q1 Q2) (aa Q1 Q1))) (Fk ([]=s) (((0:Int)<=(2:Int) /\(2:Int)<=(↑(ak s).length:Int) /\(↑(ak s).length:Int)<=(↑(ak s).length:Int)) /\Bk (bI s) (aa Q0 Q2) (aa Q0 Q1)) (Bk (bI s) (aa Q1 Q2) (aa Q1 Q1))))) (Fk ([]=s) (((0:Int)<=(2:Int) /\(2:Int)<=(↑(ak s).length:Int) /\(↑(ak s).length:Int)<=(↑(ak s).length:Int)) /\Bk (bI s) (aa Q3 Q2) (aa Q3 Q1)) (((0:Int)<=(2:Int) /\(2:Int)<=(↑(ak s).length:Int) /\(↑(ak s).length:Int)<=(↑(ak s).length:Int)) /\(aB (ak s) (u (w 28)) A 2 (↑(ak s).length:Int)).length<(1073741824:Nat) /\Bk (cY (aB (ak s) (u (w 28)) A 2 (↑(ak s).length:Int))) (Fk (bK (aB (ak s) (u (w 28)) A 2 (↑(ak s).length:Int)) (D ((1:Int)=(1:Int)))=s) (((0:Int)<=(2:Int) /\(2:Int)<=(↑(ak s).length:Int) /\(↑(ak s).length:Int)<=(↑(ak s).length:Int)) /\Bk (bI s) (aa Q0 Q2) (aa Q0 Q1)) (Bk (bI s) (aa Q1 Q2) (aa Q1 Q1))) (Fk ([]=s) (((0:Int)<=(2:Int) /\(2:Int)<=(↑(ak s).length:Int) /\(↑(ak s).length:Int)<=(↑(ak s).length:Int)) /\Bk (bI s) (aa Q0 Q2) (aa Q0 Q1)) (Bk (bI s) (aa Q1 Q2) (aa Q1 Q1)))))) (Bk (bI s) (aa Q1 Q2) (aa Q1 Q1)))) (Fk ([]=s) (((0:Int)<=(1:Int) /\(1:Int)<=(↑(ak s).length:Int) /\(↑(ak s).length:Int)<=(↑(ak s).length:Int)) /\Bk (bI s) (aa Q4 Q2) (aa Q4 Q1)) (Fk ((2:Int)<=(↑(ak s).length:Int)) (((0:Int)<=(2:Int) /\(2:Int)<=(↑(ak s).length:Int) /\(↑(ak s).length:Int)<=(↑(ak s).length:Int)) /\(aB (ak s) (u (w 28)) A 2 (↑(ak s).length:Int)).length<(1073741824:Nat) /\Bk (cY (aB (ak s) (u (w 28)) A 2 (↑(ak s).length:Int))) (Fk (bK (aB (ak s) (u (w 28)) A 2 (↑(ak s).length:Int)) (D ((0:Int)=(1:Int)))=s) (((0:Int)<=(2:Int) /\(2:Int)<=(↑(ak s).length:Int) /\(↑(ak s).length:Int)<=(↑(ak s).length:Int)) /\Bk (bI s) (aa Q3 Q2) (aa Q3 Q1)) (((0:Int)<=(2:Int) /\(2:Int)<=(↑(ak s).length:Int) /\(↑(ak s).length:Int)<=(↑(ak s).length:Int)) /\(aB (ak s) (u (w 28)) A 2 (↑(ak s).length:Int)).length<(1073741824:Nat) /\Bk (cY (aB (ak s) (u (w 28)) A 2 (↑(ak s).length:Int))) (Fk (bK (aB (ak s) (u (w 28)) A 2 (↑(ak s).length:Int)) (D ((1:Int)=(1:Int)))=s) (((0:Int)<=(2:Int) /\(2:Int)<=(↑(ak s).length:Int) /\(↑(ak s).length:Int)<=(↑(ak s).length:Int)) /\Bk (bI s) (aa Q0 Q2) (aa Q0 Q1)) (Bk (bI s) (aa Q1 Q2) (aa Q1 Q1))) (Fk ([]=s) (((0:Int)<=(2:Int) /\(2:Int)<=(↑(ak s).length:Int) /\(↑(ak s).length:Int)<=(↑(ak s).length:Int)) /\Bk (bI s) (aa Q0 Q2) (aa Q0 Q1)) (Bk (bI s) (aa Q1 Q2) (aa Q1 Q1))))) (Fk ([]=s) (((0:Int)<=(2:Int) /\(2:Int)<=(↑(ak s).length:Int) /\(↑(ak s).length:Int)<=(↑(ak s).length:Int)) /\Bk (bI s) (aa Q3 Q2) (aa Q3 Q1)) (((0:Int)<=(2:Int) /\(2:Int)<=(↑(ak s).length:Int) /\(↑(ak s).length:Int)<=(↑(ak s).length:Int)) /\(aB (ak s) (u (w 28)) A 2 (↑(ak s).length:Int)).length<(1073741824:Nat) /\Bk (cY (aB (ak s) (u (w 28)) A 2 (↑(ak s).length:Int))) (Fk (bK (aB (ak s) (u (w 28)) A 2 (↑(ak s).length:Int)) (D ((1:Int)=(1:Int)))=s) (((0:Int)<=(2:Int) /\(2:Int)<=(↑(ak s).length:Int) /\(↑(ak s).length:Int)<=(↑(ak s).length:Int)) /\Bk (bI s) (aa Q0 Q2) (aa Q0 Q1)) (Bk (bI s) (aa Q1 Q2) (aa Q1 Q1))) (Fk ([]=s) (((0:Int)<=(2:Int) /\(2:Int)<=(↑(ak s).length:Int) /\(↑(ak s).length:Int)<=(↑(ak s).length:Int)) /\Bk (bI s) (aa Q0 Q2) (aa Q0 Q1)) (Bk (bI s) (aa Q1 Q2) (aa Q1 Q1)))))) (Bk (bI s) (aa Q1 Q2) (aa Q1 Q1))))))) (Bk (bI s) (aa Q1 Q2) (aa Q1 Q1)))) (SV.aD [SV.str (t&&d&&t) (aB (ak s) (u (w 39)) A 1 (↑(ak s).length:Int)),SV.bool (d&&d) (D ((0:Int)=(1:Int))),SV.bool d d]))) (SV.aD [SV.str (t&&d&&t) (aB (ak s) (u (w 39)) A 1 (↑(ak s).length:Int)),SV.bool (d&&d) (D ((1:Int)=(1:Int))),SV.bool d d]))) (SV.aD [SV.str (t&&d&&t) (aB (ak s) (u (w 39)) A 2 (↑(ak s).length:Int)),SV.bool (d&&d) (D ((0:Int)=(1:Int))),SV.bool d d]))) (SV.aD [SV.str t (bT s),SV.bool t (cD s),SV.bool d d]))) (SV.aD [SV.str d [],SV.bool d t,SV.bool d t]))) (SV.aD [SV.str (t&&d&&t) (aB (ak s) (u (w 39)) A 2 (↑(ak s).length:Int)),SV.bool (d&&d) (D ((1:Int)=(1:Int))),SV.bool d d])):=by kernel_rfl
def qf (k:Nat):List SV->Option (Prop×SV)
 | [.int .u64 t n]=>u (0<=n/\n<256^ k,.str t (uE k n))
 | _=>A
noncomputable def G8 (pt:PT):dK:={bE with cm:=λf=>ay f ((120,pt)::mR)}
theorem KX {pt:PT}(h:ax F 120 pt)(hm:bq pt):Sx.Good F (G8 pt):=.of bz (aQ.cons h hm fI) aU
theorem V3 (n:Int)(R:SV->Prop):VC.holds (cA (G8 X5) 120 G [.int .u64 t n] R)=((D (n=(0:Int))=d ->R (SV.str d [])) /\(D (n=(0:Int))=t ->((0:Int)<=n /\n<=(18446744073709551615:Int) /\(0:Int)<(256:Int)) /\((0:Int)<=n /\n<=(18446744073709551615:Int) /\(0:Int)<(256:Int)) /\False /\False)):=by kernel_rfl
theorem V4 (k:Nat)(n:Int)(R:SV->Prop):VC.holds (cA (G8 (aM (qf k))) 120 G [.int .u64 t n] R)=((D (n=(0:Int))=d ->R (SV.str d [])) /\(D (n=(0:Int))=t ->((0:Int)<=n /\n<=(18446744073709551615:Int) /\(0:Int)<(256:Int)) /\((0:Int)<=n /\n<=(18446744073709551615:Int) /\(0:Int)<(256:Int)) /\(((0:Int)<=n / (256:Int) /\n / (256:Int)<(256:Int)^ k) /\(↑(uE k (n / (256:Int))).length:Int)+(↑(1:Nat):Int)<=(9223372036854775807:Int) /\R (SV.str t (cat (uE k (n / (256:Int))) [C (n% (256:Int)% (256:Int)).toNat]))) /\((0:Int)<=n / (256:Int) /\n / (256:Int)<(256:Int)^ k) /\u (SB.cells [SV.int .u8 t (n% (256:Int)% (256:Int))] 1 5)=u (SB.cells [SV.int .u8 t (n% (256:Int)% (256:Int))] 1 5) /\(↑(uE k (n / (256:Int))).length:Int)+(↑(1:Nat):Int)<=(9223372036854775807:Int) /\R (SV.str t (cat (uE k (n / (256:Int))) [C (n% (256:Int)% (256:Int)).toNat])))):=by kernel_rfl
theorem Kq {n:Int}(h0:0<=n)(h1:n<256^ 0):av (cA (G8 X5) 120 G [.int .u64 t n] (λv=>aa v (.str t (uE 0 n)))):=by
 refine av.of_eq (V3 n _) ?_;have h1:n<1:=h1;obtain rfl:n=0:=by omega
 exact⟨λ_=>λ_=>rfl,λh=>by simp at h⟩
theorem CM {k:Nat}{n:Int}(h0:0<=n)(h1:n<256^ (k+1))(hk:k<8):av (cA (G8 (aM (qf k))) 120 G [.int .u64 t n] (λv=>aa v (.str t (uE (k+1) n)))):=by
 refine av.of_eq (V4 k n _) ?_;have hl:=zz k (n / 256);have h3:n<18446744073709551616:=by
  have: ∀ j,j<=8->(256:Int)^ j<=18446744073709551616:=by decide
  exact Int.lt_of_lt_of_le h1 (this (k+1) (by omega))
 rw[Int.pow_succ] at h1;generalize (256:Int)^ k=p at *;refine⟨λh=> ?_,λh=> ?_⟩
 ·have h:n=0:=by simpa using h
  subst h;rw[lR (Int.le_refl _)];exact λ_=>rfl
 ·have h: ¬ n=0:=by simpa using h
  have e:aa (.str t (cat (uE k (n / 256)) [C (n% 256% 256).toNat])) (.str t (uE (k+1) n)):=by apply cv;rw[uS (by omega),Int.emod_emod];rfl
  exact⟨by omega,by omega,⟨⟨by omega,by omega⟩,by omega,e⟩,⟨by omega,by omega⟩,rfl,by omega,e⟩
theorem CL: ∀ k,k<=8->ax F 120 (aM (qf k))
 | 0,_=>by
   refine dL (KX (X6 _) Qj) (n:=20) (fn:=G) Y (by kernel_rfl) (by kernel_rfl) ?_;intro args p r h hp;unfold qf at h;split at h
   ·cases h;exact⟨rfl,rfl,Kq hp.1 hp.2⟩
   ·cases h
 | k+1,hk=>by
   refine dL (KX (CL k (by omega)) (aG _)) (n:=20) (fn:=G) Y (by kernel_rfl) (by kernel_rfl) ?_;intro args p r h hp;unfold qf at h;split at h
   ·cases h;exact⟨rfl,rfl,CM hp.1 hp.2 (by omega)⟩
   ·cases h
theorem Sr:ax F 120 (aM lS):=by
 refine dL (KX (CL 7 (by omega)) (aG _)) (n:=20) (fn:=G) Y (by kernel_rfl) (by kernel_rfl) ?_;intro args p r h hp;unfold lS at h;split at h
 ·cases h;exact⟨rfl,rfl,CM hp.1 hp.2 (by omega)⟩
 ·cases h
noncomputable def A3:List (FuncId×PT):=(120,aM lS)::mR
theorem rW:aQ F (λf=>ay f A3):=.cons Sr (aG _) fI
noncomputable def G9:dK:={bE with cm:=λf=>ay f A3}
theorem TO:Sx.Good F G9:=.of bz rW aU
noncomputable def Xj (l:e_):aX :={α:=Int,pre:=λ_ i=>0<=i/\i<=l.length,jx:=λ_ i=>(l.length - i).toNat,fresh:=0,slots:=λ_ i=>[(3,.int .u64 t (num (l.take i.toNat))),(4,.int .i64 t i)],mem:=λ_ _=>[]}
noncomputable def EM (l:e_):dK:={bE with cm:=λf=>ay f A3,bh:=λf=>if f=218 then [(3,always (Xj l))] else []}
theorem TQ (l:e_):Sx.Good F (EM l):=.of bz rW aU
noncomputable def Sb (n:Nat)(f:Nat->e_):aX :={α:=Nat,pre:=λ_ i=>i<=n,jx:=λ_ i=>n - i,fresh:=0,slots:=λ_ i=>[(3,.str t (flat (bW f 0 i))),(4,.int .i64 t i)],mem:=λ_ _=>[]}
noncomputable def SM (n:Nat)(f:Nat->e_):dK:={bE with cm:=λf=>ay f A3,bh:=λg=>if g=119 then [(3,always (Sb n f))] else []}
theorem aaL (n:Nat)(f:Nat->e_):Sx.Good F (SM n f):=.of bz rW aU
theorem Zi (b:e_)(base:Int)(R:SV->Prop):VC.holds (cA G9 118 P [.str t b,.int .i64 t base] R)=(Fk ((↑b.length:Int)<=(55:Int)) (((-9223372036854775808:Int)<=base+(↑b.length:Int) /\base+(↑b.length:Int)<=(9223372036854775807:Int)) /\(↑(1:Nat):Int)+(↑b.length:Int)<=(9223372036854775807:Int) /\R (SV.str t (cat [C ((base+(↑b.length:Int))% (256:Int)).toNat] b))) (((0:Int)<=(↑b.length:Int)% (18446744073709551616:Int) /\(↑b.length:Int)% (18446744073709551616:Int)<(18446744073709551616:Int)) /\((-9223372036854775808:Int)<=base+(55:Int) /\base+(55:Int)<=(9223372036854775807:Int)) /\((-9223372036854775808:Int)<=base+(55:Int)+(↑(digits ((↑b.length:Int)% (18446744073709551616:Int))).length:Int) /\base+(55:Int)+(↑(digits ((↑b.length:Int)% (18446744073709551616:Int))).length:Int)<=(9223372036854775807:Int)) /\(↑(1:Nat):Int)+(↑(digits ((↑b.length:Int)% (18446744073709551616:Int))).length:Int)<=(9223372036854775807:Int) /\(↑(cat [C ((base+(55:Int)+(↑(digits ((↑b.length:Int)% (18446744073709551616:Int))).length:Int))% (256:Int)).toNat] (digits ((↑b.length:Int)% (18446744073709551616:Int)))).length:Int)+(↑b.length:Int)<=(9223372036854775807:Int) /\R (SV.str t (cat (cat [C ((base+(55:Int)+(↑(digits ((↑b.length:Int)% (18446744073709551616:Int))).length:Int))% (256:Int)).toNat] (digits ((↑b.length:Int)% (18446744073709551616:Int)))) b)))):=by kernel_rfl
theorem Zf (b:e_)(R:SV->Prop):VC.holds (cA G9 72 X [.str t b] R)=(Fk ((↑b.length:Int)=(1:Int)) (((0:Int)<=(0:Int) /\(0:Int)<(↑b.length:Int)) /\Fk (ai b (0:Int)<(128:Int)) (R (SV.str t b)) (Fk ((↑b.length:Int)<=(55:Int)) (((-9223372036854775808:Int)<=(128:Int)+(↑b.length:Int) /\(128:Int)+(↑b.length:Int)<=(9223372036854775807:Int)) /\(↑(1:Nat):Int)+(↑b.length:Int)<=(9223372036854775807:Int) /\R (SV.str t (cat [C (((128:Int)+(↑b.length:Int))% (256:Int)).toNat] b))) (((0:Int)<=(↑b.length:Int)% (18446744073709551616:Int) /\(↑b.length:Int)% (18446744073709551616:Int)<(18446744073709551616:Int)) /\((-9223372036854775808:Int)<=(183:Int)+(↑(digits ((↑b.length:Int)% (18446744073709551616:Int))).length:Int) /\(183:Int)+(↑(digits ((↑b.length:Int)% (18446744073709551616:Int))).length:Int)<=(9223372036854775807:Int)) /\(↑(1:Nat):Int)+(↑(digits ((↑b.length:Int)% (18446744073709551616:Int))).length:Int)<=(9223372036854775807:Int) /\(↑(cat [C (((183:Int)+(↑(digits ((↑b.length:Int)% (18446744073709551616:Int))).length:Int))% (256:Int)).toNat] (digits ((↑b.length:Int)% (18446744073709551616:Int)))).length:Int)+(↑b.length:Int)<=(9223372036854775807:Int) /\R (SV.str t (cat (cat [C (((183:Int)+(↑(digits ((↑b.length:Int)% (18446744073709551616:Int))).length:Int))% (256:Int)).toNat] (digits ((↑b.length:Int)% (18446744073709551616:Int)))) b))))) (Fk ((↑b.length:Int)<=(55:Int)) (((-9223372036854775808:Int)<=(128:Int)+(↑b.length:Int) /\(128:Int)+(↑b.length:Int)<=(9223372036854775807:Int)) /\(↑(1:Nat):Int)+(↑b.length:Int)<=(9223372036854775807:Int) /\R (SV.str t (cat [C (((128:Int)+(↑b.length:Int))% (256:Int)).toNat] b))) (((0:Int)<=(↑b.length:Int)% (18446744073709551616:Int) /\(↑b.length:Int)% (18446744073709551616:Int)<(18446744073709551616:Int)) /\((-9223372036854775808:Int)<=(183:Int)+(↑(digits ((↑b.length:Int)% (18446744073709551616:Int))).length:Int) /\(183:Int)+(↑(digits ((↑b.length:Int)% (18446744073709551616:Int))).length:Int)<=(9223372036854775807:Int)) /\(↑(1:Nat):Int)+(↑(digits ((↑b.length:Int)% (18446744073709551616:Int))).length:Int)<=(9223372036854775807:Int) /\(↑(cat [C (((183:Int)+(↑(digits ((↑b.length:Int)% (18446744073709551616:Int))).length:Int))% (256:Int)).toNat] (digits ((↑b.length:Int)% (18446744073709551616:Int)))).length:Int)+(↑b.length:Int)<=(9223372036854775807:Int) /\R (SV.str t (cat (cat [C (((183:Int)+(↑(digits ((↑b.length:Int)% (18446744073709551616:Int))).length:Int))% (256:Int)).toNat] (digits ((↑b.length:Int)% (18446744073709551616:Int)))) b))))):=by kernel_rfl
theorem Rs (l:e_)(R:SV->Prop):VC.holds (cA (EM l) 218 W [.str t l] R)=((∃(y:Int),((0:Int)<=y /\y<=(↑l.length:Int)) /\(0:Int)=num (N y.toNat l) /\(0:Int)=y /\True) /\∀(x:Int),(0:Int)<=x /\x<=(↑l.length:Int) ->(D (x<(↑l.length:Int))=d ->((0:Int)<=x /\x<(↑l.length:Int)) /\((0:Int)<=ai l x /\ai l x<=(18446744073709551615:Int)) /\((-9223372036854775808:Int)<=x+(1:Int) /\x+(1:Int)<=(9223372036854775807:Int)) /\∃(y:Int),(((0:Int)<=y /\y<=(↑l.length:Int)) /\((↑l.length:Int) - y).toNat<((↑l.length:Int) - x).toNat) /\(num (N x.toNat l)*(256:Int)% (18446744073709551616:Int)+ai l x)% (18446744073709551616:Int)=num (N y.toNat l) /\x+(1:Int)=y /\True) /\(D (x<(↑l.length:Int))=t ->R (SV.int .u64 t (num (N x.toNat l))))):=by kernel_rfl
theorem YW (n:Nat)(f:Nat->e_)(z:Bool)(o c:Nat)(key:Option Nat):VC.holds (fN (SM n f) 119 Q [.aS 0 1 z o 0 n c] [⟨key,z,o,n,c,[.str f]⟩] (.ret (.str t (flat (bW f 0 n)))))=((∃(y:Nat),y<=n /\[]=flat (bW f 0 y) /\(0:Int)=(↑y:Int) /\ah {key:=key,z:=z,o:=o,n:=n,c:=c,az:=[aE.str f]:Seen}.B {key:=key,z:=z,o:=o,n:=n,c:=c,az:=[aE.str f]:Seen}.B /\True) /\∀(x:Nat),x<=n ->Fk ((↑x:Int)<(↑n:Int)) (((0:Int)<=(↑x:Int) /\(↑x:Int)<(↑n:Int)) /\(o=o /\(0:Nat)+(↑x:Int).toNat<n) /\(↑(flat (bW f 0 x)).length:Int)+(↑(f ((0:Nat)+(↑x:Int).toNat)).length:Int)<=(9223372036854775807:Int) /\((-9223372036854775808:Int)<=(↑x:Int)+(1:Int) /\(↑x:Int)+(1:Int)<=(9223372036854775807:Int)) /\∃(y:Nat),(y<=n /\n - y<n - x) /\cat (flat (bW f 0 x)) (f ((0:Nat)+(↑x:Int).toNat))=flat (bW f 0 y) /\(↑x:Int)+(1:Int)=(↑y:Int) /\ah {key:=key,z:=z,o:=o,n:=n,c:=c,az:=[aE.str f]:Seen}.B {key:=key,z:=z,o:=o,n:=n,c:=c,az:=[aE.str f]:Seen}.B /\True) (aa (SV.str t (flat (bW f 0 x))) (SV.str t (flat (bW f 0 n))))):=by kernel_rfl
theorem Eo {base:Int}(h1:base=128∨base=192)(h2:b.length<1152921504606846976) :
  (D ((b.length:Int)<=55)=d->cat [C ((base+(b.length:Int))% 256).toNat] b=aN base b.length++b) /\
  (D ((b.length:Int)<=55)=t->cat (cat [C ((base+55+((digits ((b.length:Int)% 18446744073709551616)).length:Int))% 256).toNat] (digits ((b.length:Int)% 18446744073709551616))) b=aN base b.length++b):=by
 have e:(b.length:Int)% 18446744073709551616=b.length:=by omega
 have hd:=fV b.length;constructor
 ·intro h;simp only[decide_eq_true_eq] at h;unfold aN;rw[if_pos (by omega),show(base+(b.length:Int))% 256=base+b.length by omega];rfl
 ·intro h;simp only[decide_eq_false_iff_not] at h;unfold aN;rw[e,if_neg (by omega),show(base+55+((digits (b.length:Int)).length:Int))% 256=base+55+((digits (b.length:Int)).length:Int)by omega];rfl
theorem Kb {base:Int}(h1:base=128∨base=192)(h2:b.length<1152921504606846976):av (cA G9 118 P [.str t b,.int .i64 t base] (λv=>aa v (.str t (aN base b.length++b)))):=by refine av.gV (Zi b base _) (by delta Fk;exact rfl) ?_;obtain⟨g1,g2⟩:=Eo h1 h2;have hd:=fV ((b.length:Int)% 18446744073709551616);refine⟨λh=>⟨by omega,by omega,cv (g1 h)⟩,λh=>⟨by omega,by omega,by omega,by omega,?_,cv (g2 h)⟩⟩;simp only[cat,L,a_,a!];omega
def yj:List SV->Option (Prop×SV)
 | [.str t b,.int .i64 t base]=>u ((base=128∨base=192)/\b.length<1152921504606846976,.str t (aN base b.length++b))
 | _=>A
theorem W0:ax F 118 (aM yj):=by
 refine dL TO (n:=20) (fn:=P) Tryz.func118 (by kernel_rfl) (by kernel_rfl) ?_;intro args p r h hp;unfold yj at h;split at h
 ·cases h;exact⟨rfl,rfl,Kb hp.1 hp.2⟩
 ·cases h
theorem JL (hb:b.length<1152921504606846976):av (cA G9 72 X [.str t b] (λv=>aa v (.str t (aq b)))):=by
 refine av.gV (Zf b _) (by delta Fk;exact rfl) ?_;obtain⟨g1,g2⟩:=Eo (base:=128) (.inl rfl) hb;have hd:=fV ((b.length:Int)% 18446744073709551616);have hc: ∀ x:UInt8,((cat [x] (digits ((b.length:Int)% 18446744073709551616))).length:Int)<=9:=λx=>by simp only[cat,L,a_,a!];omega
 refine⟨λh=>⟨by simp at h;omega,λh2=>cv ?_,λh2=> ?_⟩,λh=> ?_⟩
 ·simp at h h2;exact(if_pos ⟨by omega,h2⟩).symm
 ·have ht:aN 128 b.length++b=aq b:=by simp only[decide_eq_false_iff_not] at h2;exact(iZ λx=>h2 x.2).symm
  refine⟨λh=>⟨by omega,by omega,cv ((g1 h).trans ht)⟩,λh=>⟨by omega,by omega,by omega,?_,cv ((g2 h).trans ht)⟩⟩;have:=hc (C (((183:Int)+((digits ((b.length:Int)% 18446744073709551616)).length:Int))% 256).toNat);omega
 ·have ht:aN 128 b.length++b=aq b:=by simp only[decide_eq_false_iff_not] at h;exact(iZ λx=>h (by omega)).symm
  refine⟨λh=>⟨by omega,by omega,cv ((g1 h).trans ht)⟩,λh=>⟨by omega,by omega,by omega,?_,cv ((g2 h).trans ht)⟩⟩;have:=hc (C (((183:Int)+((digits ((b.length:Int)% 18446744073709551616)).length:Int))% 256).toNat);omega
theorem VP:ax F 72 (aM og):=by
 refine dL TO (n:=20) (fn:=X) Tryz.func72 (by kernel_rfl) (by kernel_rfl) ?_;intro args p r h hp;unfold og at h;split at h
 ·cases h;exact⟨rfl,rfl,JL hp⟩
 ·cases h
theorem Cp {l:e_}(hl:l.length<=8):av (cA (EM l) 218 W [.str t l] (λv=>aa v (.int .u64 t (num l)))):=by
 refine av.of_eq (Rs l _) ?_;refine⟨⟨0,by omega,rfl,rfl,trivial⟩,λx ⟨h1,h2⟩=>⟨λh=> ?_,λh=> ?_⟩⟩
 ·simp only[decide_eq_true_eq] at h;have h3:=N8 h1 h hl;have h4:=L7 (l.take x.toNat);have h5:=cg l x;refine⟨by omega,by omega,by omega,x+1,by omega,?_,rfl,trivial⟩;rw[IN h1 h];omega
 ·simp only[decide_eq_false_iff_not] at h;obtain rfl:x=l.length:=by omega
  rw[Int.toNat_natCast,List.take_length];exact λ_=>rfl
def qL:List SV->Option (Prop×SV)
 | [.str t l]=>u (l.length<=8,.int .u64 t (num l))
 | _=>A
theorem L8:ax F 218 (bw λl=>(qL l).map λp=>(p.1,.ret p.2)):=by
 refine cn (n:=20) (fn:=W) Tryz.func218 (by kernel_rfl) (by kernel_rfl) ?_;intro args p a h hp;unfold qL at h;split at h
 ·rename_i l;cases h;exact⟨_,TQ l,rfl,rfl,Cp hp⟩
 ·cases h
theorem x6 (f:Nat->e_)(i:Nat):bW f 0 (i+1)=bW f 0 i++[f i]:=by unfold bW;rw[List.range_succ,List.map_append];simp
theorem wT (l:List e_)(a:e_):flat (l++[a])=flat l++a:=by simp[flat]
theorem yI (f:Nat->e_){i:Nat}: ∀ {n:Nat},i<=n->(flat (bW f 0 i)).length<=(flat (bW f 0 n)).length
 | 0,h=>by obtain rfl:i=0:=by omega
           exact Nat.le_refl _
 | n+1,h=>by
   by_cases e:i=n+1
   ·subst e;exact Nat.le_refl _
   ·have:=yI f (i:=i) (n:=n) (by omega);rw[x6,wT,L];omega
theorem HQ {n:Nat}{f:Nat->e_}(z:Bool)(o c:Nat)(key:Option Nat)(hf:(flat (bW f 0 n)).length<1152921504606846976)(hn:n<1152921504606846976) :
  av (fN (SM n f) 119 Q [.aS 0 1 z o 0 n c] [⟨key,z,o,n,c,[.str f]⟩] (.ret (.str t (flat (bW f 0 n))))):=by
 refine av.gV (YW n f z o c key) (by delta Fk;exact rfl) ?_;refine⟨⟨0,Nat.zero_le _,rfl,rfl,ah.refl _,trivial⟩,λx hx=>⟨λh=> ?_,λh=> ?_⟩⟩
 ·simp only[decide_eq_true_eq] at h;have h1:=yI f (i:=x+1) (n:=n) (by omega);rw[x6,wT,L] at h1;simp only[Int.toNat_natCast,Nat.zero_add];refine⟨by omega,⟨trivial,by omega⟩,by omega,by omega,x+1,by omega,?_,by omega,ah.refl _,trivial⟩;rw[x6,wT];rfl
 ·simp only[decide_eq_false_iff_not] at h;obtain rfl:x=n:=by omega
  exact λ_=>rfl
def gz (l:List e_):Prop:=(flat l).length<1152921504606846976/\l.length<1152921504606846976
def ZL (l:List e_):SV:=.str t (flat l)
theorem T4:ax F 119 (kU gz ZL):=by
 refine GJ (dN (n:=20) (fn:=Q) Tryz.func119 (by kernel_rfl) (by kernel_rfl) ?_);intro vs l q a h hq;unfold v8 at h;split at h
 ·rename_i n f r hx;obtain⟨z,o,c,key⟩:=r;cases h;obtain⟨e1,e2⟩:=BO hx;rw[e1,e2];exact⟨_,aaL n f,rfl,rfl,HQ z o c key hq.1 (by have:=hq.2;rwa [gQ] at this)⟩
 ·cases h
noncomputable def Ql:PT:=bw λl=>(qL l).map λp=>(p.1,.ret p.2)
noncomputable def Lv:List (FuncId×PT):=(118,aM yj)::(72,aM og)::(218,Ql)::(119,kU gz ZL)::A3
theorem Dp:aQ F (λf=>ay f Lv):=.cons W0 (aG _) (.cons VP (aG _) (.cons L8 (aZ _) (.cons T4 (kH _ _) rW)))
noncomputable def He:dK:={bE with cm:=λf=>ay f Lv}
theorem KY:Sx.Good F He:=.of bz Dp aU
def gF (s:e_):Bool:=!decide (s=[])&&(D (ai s 0<128)|| !decide (55<lead s)||decide (lead s - 54<=s.length))
def K5 (s:e_):cN:=.fork (gF s) λb=>match b with
 | true=>.ret (.aD [.bool t (cy s),.int .i64 t (cutFrom s),.int .u64 t (dH s),.bool d d])
 | false=>.ret (.aD [.bool d t,.int .i64 d 0,.int .u64 d 0,.bool d t])
def NW (l:List e_):SV:=.str t (aN 192 (flat l).length++flat l)
theorem YY (n:Nat)(f:Nat->e_)(z:Bool)(o c:Nat)(key:Option Nat):VC.holds (runT He 73 an n f z o c key NW)=(((z=z /\o=o /\(0:Nat)+n<=n) /\gz (bW (fun(j:Nat)=>f j) 0 n)) /\(((192:Int)=(128:Int)∨(192:Int)=(192:Int)) /\(flat (bW (fun(j:Nat)=>f j) 0 n)).length<(1152921504606846976:Nat)) /\aa (SV.str t (aN 192 (flat (bW (fun(j:Nat)=>f j) 0 n)).length++flat (bW (fun(j:Nat)=>f j) 0 n))) (NW (bW f 0 n))):=by kernel_rfl
theorem acf (n:Int)(R:SV->Prop):VC.holds (cA He 74 aA [.int .u64 t n] R)=(((0:Int)<=n /\n<(18446744073709551616:Int)) /\(digits n).length<(1152921504606846976:Nat) /\R (SV.str t (aq (digits n)))):=by kernel_rfl
theorem YU (s:e_):VC.holds (dB He 202 V [.str t s] (K5 s))=((λQ0:SV=>((λQ1:SV=>(Fk (s=[]) (Bk (gF s) (aa Q0 Q1) (aa Q0 Q0)) (((0:Int)<=(0:Int) /\(0:Int)<(↑s.length:Int)) /\((-9223372036854775808:Int)<=ai s (0:Int) /\ai s (0:Int)<=(9223372036854775807:Int)) /\Fk (ai s (0:Int)<(128:Int)) (Bk (gF s) (aa (SV.aD [SV.bool d t,SV.int .i64 d 0,SV.int .u64 d 1,SV.bool d d]) Q1) (aa (SV.aD [SV.bool d t,SV.int .i64 d 0,SV.int .u64 d 1,SV.bool d d]) Q0)) (Fk ((192:Int)<=ai s 0) (Fk (ai s (0:Int)<=(247:Int)) (((-9223372036854775808:Int)<=ai s (0:Int) - (192:Int) /\ai s (0:Int) - (192:Int)<=(9223372036854775807:Int)) /\Bk (gF s) (aa (SV.aD [SV.bool (t&&d) (D ((192:Int)<=ai s 0)),SV.int .i64 d 1,SV.int .u64 t ((ai s (0:Int) - (192:Int))% (18446744073709551616:Int)),SV.bool d d]) Q1) (aa (SV.aD [SV.bool (t&&d) (D ((192:Int)<=ai s 0)),SV.int .i64 d 1,SV.int .u64 t ((ai s (0:Int) - (192:Int))% (18446744073709551616:Int)),SV.bool d d]) Q0)) (((-9223372036854775808:Int)<=ai s (0:Int) - (192:Int) /\ai s (0:Int) - (192:Int)<=(9223372036854775807:Int)) /\((-9223372036854775808:Int)<=ai s (0:Int) - (192:Int) - (55:Int) /\ai s (0:Int) - (192:Int) - (55:Int)<=(9223372036854775807:Int)) /\((-9223372036854775808:Int)<=(1:Int)+(ai s (0:Int) - (192:Int) - (55:Int)) /\(1:Int)+(ai s (0:Int) - (192:Int) - (55:Int))<=(9223372036854775807:Int)) /\Fk ((↑s.length:Int)<(1:Int)+(ai s (0:Int) - (192:Int) - (55:Int))) (Bk (gF s) (aa Q0 Q1) (aa Q0 Q0)) (((-9223372036854775808:Int)<=(1:Int)+(ai s (0:Int) - (192:Int) - (55:Int)) /\(1:Int)+(ai s (0:Int) - (192:Int) - (55:Int))<=(9223372036854775807:Int)) /\((-9223372036854775808:Int)<=(1:Int)+(ai s (0:Int) - (192:Int) - (55:Int)) /\(1:Int)+(ai s (0:Int) - (192:Int) - (55:Int))<=(9223372036854775807:Int)) /\((0:Int)<=(1:Int) /\(1:Int)<=(1:Int)+(ai s (0:Int) - (192:Int) - (55:Int)) /\(1:Int)+(ai s (0:Int) - (192:Int) - (55:Int))<=(↑s.length:Int)) /\(aB s (u (I (J H 1))) (u (w 43)) 1 ((1:Int)+(ai s (0:Int) - (192:Int) - (55:Int)))).length<=(8:Nat) /\Bk (gF s) (aa (SV.aD [SV.bool (t&&d) (D ((192:Int)<=ai s 0)),SV.int .i64 t ((1:Int)+(ai s (0:Int) - (192:Int) - (55:Int))),SV.int .u64 t (num (aB s (u (I (J H 1))) (u (w 43)) 1 ((1:Int)+(ai s (0:Int) - (192:Int) - (55:Int))))),SV.bool d d]) Q1) (aa (SV.aD [SV.bool (t&&d) (D ((192:Int)<=ai s 0)),SV.int .i64 t ((1:Int)+(ai s (0:Int) - (192:Int) - (55:Int))),SV.int .u64 t (num (aB s (u (I (J H 1))) (u (w 43)) 1 ((1:Int)+(ai s (0:Int) - (192:Int) - (55:Int))))),SV.bool d d]) Q0)))) (Fk (ai s (0:Int)<=(183:Int)) (((-9223372036854775808:Int)<=ai s (0:Int) - (128:Int) /\ai s (0:Int) - (128:Int)<=(9223372036854775807:Int)) /\Bk (gF s) (aa (SV.aD [SV.bool (t&&d) (D ((192:Int)<=ai s 0)),SV.int .i64 d 1,SV.int .u64 t ((ai s (0:Int) - (128:Int))% (18446744073709551616:Int)),SV.bool d d]) Q1) (aa (SV.aD [SV.bool (t&&d) (D ((192:Int)<=ai s 0)),SV.int .i64 d 1,SV.int .u64 t ((ai s (0:Int) - (128:Int))% (18446744073709551616:Int)),SV.bool d d]) Q0)) (((-9223372036854775808:Int)<=ai s (0:Int) - (128:Int) /\ai s (0:Int) - (128:Int)<=(9223372036854775807:Int)) /\((-9223372036854775808:Int)<=ai s (0:Int) - (128:Int) - (55:Int) /\ai s (0:Int) - (128:Int) - (55:Int)<=(9223372036854775807:Int)) /\((-9223372036854775808:Int)<=(1:Int)+(ai s (0:Int) - (128:Int) - (55:Int)) /\(1:Int)+(ai s (0:Int) - (128:Int) - (55:Int))<=(9223372036854775807:Int)) /\Fk ((↑s.length:Int)<(1:Int)+(ai s (0:Int) - (128:Int) - (55:Int))) (Bk (gF s) (aa Q0 Q1) (aa Q0 Q0)) (((-9223372036854775808:Int)<=(1:Int)+(ai s (0:Int) - (128:Int) - (55:Int)) /\(1:Int)+(ai s (0:Int) - (128:Int) - (55:Int))<=(9223372036854775807:Int)) /\((-9223372036854775808:Int)<=(1:Int)+(ai s (0:Int) - (128:Int) - (55:Int)) /\(1:Int)+(ai s (0:Int) - (128:Int) - (55:Int))<=(9223372036854775807:Int)) /\((0:Int)<=(1:Int) /\(1:Int)<=(1:Int)+(ai s (0:Int) - (128:Int) - (55:Int)) /\(1:Int)+(ai s (0:Int) - (128:Int) - (55:Int))<=(↑s.length:Int)) /\(aB s (u (I (J H 1))) (u (w 43)) 1 ((1:Int)+(ai s (0:Int) - (128:Int) - (55:Int)))).length<=(8:Nat) /\Bk (gF s) (aa (SV.aD [SV.bool (t&&d) (D ((192:Int)<=ai s 0)),SV.int .i64 t ((1:Int)+(ai s (0:Int) - (128:Int) - (55:Int))),SV.int .u64 t (num (aB s (u (I (J H 1))) (u (w 43)) 1 ((1:Int)+(ai s (0:Int) - (128:Int) - (55:Int))))),SV.bool d d]) Q1) (aa (SV.aD [SV.bool (t&&d) (D ((192:Int)<=ai s 0)),SV.int .i64 t ((1:Int)+(ai s (0:Int) - (128:Int) - (55:Int))),SV.int .u64 t (num (aB s (u (I (J H 1))) (u (w 43)) 1 ((1:Int)+(ai s (0:Int) - (128:Int) - (55:Int))))),SV.bool d d]) Q0)))))))) (SV.aD [SV.bool t (cy s),SV.int .i64 t (cutFrom s),SV.int .u64 t (dH s),SV.bool d d]))) (SV.aD [SV.bool d t,SV.int .i64 d 0,SV.int .u64 d 0,SV.bool d t])):=by kernel_rfl
theorem QE:ax F 73 (kU gz NW):=by
 refine GJ (dN (n:=20) (fn:=an) Tryz.func73 (by kernel_rfl) (by kernel_rfl) ?_);intro vs l q a h hq;unfold v8 at h;split at h
 ·rename_i n f r hx;obtain⟨z,o,c,key⟩:=r;cases h;obtain⟨e1,e2⟩:=BO hx;rw[e1,e2];refine⟨_,KY,rfl,rfl,av.of_eq (YY n f z o c key) ?_⟩;exact⟨⟨⟨rfl,rfl,by omega⟩,hq⟩,⟨.inr rfl,hq.1⟩,λ_=>rfl⟩
 ·cases h
theorem Ya:ax F 74 (aM sj):=by
 refine dL KY (n:=20) (fn:=aA) Tryz.func74 (by kernel_rfl) (by kernel_rfl) ?_;intro args p r h hp;unfold sj at h;split at h
 ·rename_i n;cases h;have:=fV n;exact⟨rfl,rfl,av.of_eq (acf n _) ⟨hp,by omega,λ_=>rfl⟩⟩
 ·cases h
theorem rQ :gF s=d↔s≠[]/\(ai s 0<128∨¬ 55<lead s∨lead s - 54<=s.length):=by simp only[gF,Bool.and_eq_true,Bool.or_eq_true,O,decide_eq_true_eq,decide_eq_false_iff_not,or_assoc,ne_eq]
theorem tC {a a' l1 l2 l3 l4 l5 l6:Bool}{b b' c c':Int}(h1:a=a')(h2:b=b')(h3:c=c'):aa (.aD [.bool l1 a,.int .i64 l2 b,.int .u64 l3 c,.bool d d]) (.aD [.bool l4 a',.int .i64 l5 b',.int .u64 l6 c',.bool d d]):=by subst h1;subst h2;subst h3;exact λ_=>rfl
theorem HO (hs:s.length<9223372036854775808):av (dB He 202 V [.str t s] (K5 s)):=by
 refine av.gV (YU s) (by delta Bk Fk;exact rfl) ?_;have g0:=cg s 0;have hl:s=[]∨0<s.length:=by cases s<;>simp
 have e1:ai s 0<192->lead s=ai s 0 - 128:=vm;have e2: ¬ ai s 0<192->lead s=ai s 0 - 192:=vl;have eB: ∀ {p:Prop},¬ (s≠[]/\(ai s 0<128∨¬ 55<lead s∨lead s - 54<=s.length))->gF s=d->p:=λh h'=>absurd (rQ.1 h') h;have eN: ∀ {p:Prop},(s≠[]/\(ai s 0<128∨¬ 55<lead s∨lead s - 54<=s.length))->gF s=t->p:=λh h'=>by rw[rQ.2 h] at h';cases h'
 repeat' first
  | apply And.intro
  | intro (h:_=d)
  | intro (h:_=t)
 all_goals simp only[decide_eq_true_eq,decide_eq_false_iff_not] at *
 all_goals first
  | omega
  | exact λ_=>rfl
  | (rcases hl with hl | hl
     ·contradiction
     ·omega)
  | (simp only[aB,M,Z];omega)
  | (refine eB (λhh=> ?_) (by assumption);obtain⟨h1,h2⟩:=hh;first | contradiction | omega)
  | (refine eN ⟨by assumption,by omega⟩ (by assumption))
  | (have hA:ai s 0<128:=by assumption
     exact tC (by simp[cy];omega) (if_pos hA).symm (if_pos hA).symm)
  | (have hA: ¬ ai s 0<128:=by assumption
     have hL:55<lead s:=by omega
     refine tC rfl ?_ ?_
     ·unfold cutFrom;rw[if_neg hA,if_pos hL];omega
     ·unfold dH part;rw[if_neg hA,if_pos hL];simp only[aB];congr 2;omega)
  | (have hA: ¬ ai s 0<128:=by assumption
     have hL: ¬ 55<lead s:=by omega
     refine tC rfl ?_ ?_
     ·unfold cutFrom;rw[if_neg hA,if_neg hL]
     ·unfold dH;rw[if_neg hA,if_neg hL];omega)
def wY:List SV->Option (Prop×cN)
 | [.str t s]=>u (s.length<9223372036854775808,K5 s)
 | _=>A
theorem TS:ax F 202 (bw wY):=by
 refine cn (n:=20) (fn:=V) Tryz.func202 (by kernel_rfl) (by kernel_rfl) ?_;intro args p a h hp;unfold wY at h;split at h
 ·rename_i s;cases h;refine⟨_,KY,rfl,λb=> ?_,HO hp⟩;cases b<;>exact rfl
 ·cases h
noncomputable def Lw:List (FuncId×PT):=(73,kU gz NW)::(74,aM sj)::(202,bw wY)::Lv
theorem Dq:aQ F (λf=>ay f Lw):=.cons QE (kH _ _) (.cons Ya (aG _) (.cons TS (aZ _) Dp))
noncomputable def SI:dK:={bE with cm:=λf=>ay f Lw}
theorem aaF:Sx.Good F SI:=.of bz Dq aU
theorem WB (s:e_):VC.holds (dB SI 172 S [.str t s] (BY s))=((λQ0:SV=>((λQ1:SV=>((λQ2:SV=>(s.length<(9223372036854775808:Nat) /\Bk (gF s) (Fk ((1048576:Int)<dH s) (Bk (bO s) (aa Q0 Q2) (aa Q0 Q0)) (Fk ((↑s.length:Int)% (18446744073709551616:Int)<(cutFrom s% (18446744073709551616:Int)+dH s)% (18446744073709551616:Int)) (Bk (bO s) (aa Q0 Q2) (aa Q0 Q0)) (((-9223372036854775808:Int)<=dH s /\dH s<=(9223372036854775807:Int)) /\((-9223372036854775808:Int)<=cutFrom s+dH s /\cutFrom s+dH s<=(9223372036854775807:Int)) /\((0:Int)<=cutFrom s /\cutFrom s<=cutFrom s+dH s /\cutFrom s+dH s<=(↑s.length:Int)) /\(aB s (u (w 41)) (u (w 42)) (cutFrom s) (cutFrom s+dH s)).length<(1152921504606846976:Nat) /\Bk (cy s) ((True /\gz [aB s (u (w 41)) (u (w 42)) (cutFrom s) (cutFrom s+dH s)]) /\((0:Int)<=(0:Int) /\(0:Int)<=cutFrom s+dH s /\cutFrom s+dH s<=(↑s.length:Int)) /\Bk (!decide (aN 192 (flat [aB s (u (w 41)) (u (w 42)) (cutFrom s) (cutFrom s+dH s)]).length++flat [aB s (u (w 41)) (u (w 42)) (cutFrom s) (cutFrom s+dH s)]=aB s A (u (w 52)) 0 (cutFrom s+dH s))) (Bk (bO s) (aa Q0 Q2) (aa Q0 Q0)) (((0:Int)<=cutFrom s+dH s /\cutFrom s+dH s<=(↑s.length:Int) /\(↑s.length:Int)<=(↑s.length:Int)) /\Bk (bO s) (aa Q1 Q2) (aa Q1 Q0))) (((0:Int)<=(0:Int) /\(0:Int)<=cutFrom s+dH s /\cutFrom s+dH s<=(↑s.length:Int)) /\Bk (!decide (aq (aB s (u (w 41)) (u (w 42)) (cutFrom s) (cutFrom s+dH s))=aB s A (u (w 52)) 0 (cutFrom s+dH s))) (Bk (bO s) (aa Q0 Q2) (aa Q0 Q0)) (((0:Int)<=cutFrom s+dH s /\cutFrom s+dH s<=(↑s.length:Int) /\(↑s.length:Int)<=(↑s.length:Int)) /\Bk (bO s) (aa Q1 Q2) (aa Q1 Q0)))))) (Bk (bO s) (aa Q0 Q2) (aa Q0 Q0)))) (SV.aD [SV.bool t (cy s),SV.str t (af s),SV.str t (aF s),SV.int .i64 d 0]))) (SV.aD [SV.bool t (cy s),SV.str (t&&t&&t) (aB s (u (w 41)) (u (w 42)) (cutFrom s) (cutFrom s+dH s)),SV.str (t&&t&&t) (aB s (u (w 58)) A (cutFrom s+dH s) (↑s.length:Int)),SV.int .i64 d 0]))) (SV.aD [SV.bool d t,SV.str d [],SV.str d [],SV.int .i64 d 2])):=by kernel_rfl
theorem oO (h:bO s=d):gF s=d/\dH s<=1048576/\0<=dH s/\0<=cutFrom s/\cutFrom s+dH s<=s.length:=by
 obtain⟨h0,h⟩:=eA.1 h;have hl:=List.length_pos_iff.2 h0;rw[rQ];rcases h with hA | ⟨hA,hL,hB,hP⟩ | ⟨hA,hL,hP,hN⟩
 ·unfold dH cutFrom;rw[if_pos hA,if_pos hA];exact⟨⟨h0,.inl hA⟩,by omega,by omega,by omega,by omega⟩
 ·obtain⟨g1,g2,g3,g4⟩:=gH.1 hB;unfold dH cutFrom;rw[if_neg hA,if_pos hL,if_neg hA,if_pos hL];exact⟨⟨h0,.inr (.inr g1)⟩,by omega,by omega,by omega,by omega⟩
 ·have:=vn hA;unfold dH cutFrom;rw[if_neg hA,if_neg hL,if_neg hA,if_neg hL];exact⟨⟨h0,.inr (.inl hL)⟩,by omega,by omega,by omega,by omega⟩
theorem K6 (h:gF s=d):0<=cutFrom s/\0<=dH s/\cutFrom s<=9:=by
 obtain⟨h0,h⟩:=rQ.1 h;have g0:=cg s 0;by_cases hA:ai s 0<128
 ·unfold dH cutFrom;rw[if_pos hA,if_pos hA];omega
 ·have:=vn hA;have hlt:lead s<64:=by unfold lead;split<;>omega
  have:=oY s (lead s - 54);by_cases hL:55<lead s
  ·unfold dH cutFrom;rw[if_neg hA,if_pos hL,if_neg hA,if_pos hL];omega
  ·unfold dH cutFrom;rw[if_neg hA,if_neg hL,if_neg hA,if_neg hL];omega
theorem Kg (_h0:0<=cutFrom s)(h1:0<=dH s)(h2:dH s<=1048576)(_h3:cutFrom s+dH s<=s.length) :
  fC (cy s) (af s)=s.take (cutFrom s+dH s).toNat↔bO s=true:=by
 constructor
 ·intro h;have e:s=fC (cy s) (af s)++s.drop (cutFrom s+dH s).toNat:=by rw[h,bl]
  have hb:(af s).length<=1048576:=by unfold af;simp only[M];omega
  have:=(OL (l:=cy s) hb (s.drop (cutFrom s+dH s).toNat)).1;rw[← e] at this;exact this
 ·intro h;have e:=uR h;have e2:s.take (cutFrom s+dH s).toNat++aF s=s:=by unfold aF;rw[bl]
  exact List.append_cancel_right (e.trans e2.symm)
theorem GG (hs:s.length<9223372036854775808):av (dB SI 172 S [.str t s] (BY s)):=by
 refine av.gV (WB s) (by delta Bk Fk;exact rfl) ?_;cases hH:gF s with
 | false =>
   have hB:bO s=false:=by rw[K];intro h;rw[(oO h).1] at hH;cases hH
   rw[hB];refine⟨hs,?_⟩;simp only[Bool.false_eq_true,false_imp_iff,true_and,forall_const];exact λ_=>rfl
 | true =>
   obtain⟨a1,a2,a3⟩:=K6 hH;refine⟨hs,?_,λh=>by cases h⟩;intro _;refine⟨λh=> ?_,λh=> ?_⟩
   ·have hB:bO s=false:=by rw[K];intro h';have:=(oO h').2.1;simp only[decide_eq_true_eq] at h;omega
    rw[hB];exact⟨(λh=>by cases h),λ_ _=>rfl⟩
   ·simp only[decide_eq_false_iff_not] at h;refine⟨λg=> ?_,λg=> ?_⟩
    ·have hB:bO s=false:=by rw[K];intro h';have:=(oO h').2.2.2.2;simp only[decide_eq_true_eq] at g;omega
     rw[hB];exact⟨(λh=>by cases h),λ_ _=>rfl⟩
    ·simp only[decide_eq_false_iff_not] at g;have g:cutFrom s+dH s<=s.length:=by omega
     have eT:=Kg a1 a2 (by omega) g;have eI: ∀ x y,aB s (u (w x)) (u (w y)) (cutFrom s) (cutFrom s+dH s)=af s:=λx y=>by simp only[aB,af];congr 1;omega
     have eK: ∀ x,aB s A (u (w x)) 0 (cutFrom s+dH s)=s.take (cutFrom s+dH s).toNat:=λ_=>rfl;have eR: ∀ x y,aB s (u (w x)) A (cutFrom s+dH s) y=aF s:=λ_ _=>rfl;have hl:(af s).length<=s.length:=by unfold af;simp only[M,Z];omega
     have hl2:(af s).length<=1048576:=by unfold af;simp only[M,Z];omega
     rw[eI,eK,eR];have fl:flat [af s]=af s:=by simp[flat]
     rw[fl];refine⟨by omega,by omega,by omega,by omega,λhL=> ?_,λhL=> ?_⟩
     ·rw[hL] at eT ⊢;simp only[fC,cond_true] at eT;refine⟨⟨trivial,by rw[gz,fl];exact⟨by omega,(by show 1<1152921504606846976;decide)⟩⟩,by omega,λk=> ?_,λk=> ?_⟩
      ·have hB:bO s=false:=by rw[K];intro h';simp only[O,decide_eq_false_iff_not] at k;exact k (eT.2 h')
       rw[hB];exact⟨(λh=>by cases h),λ_ _=>rfl⟩
      ·have hB:bO s=true:=by simp only[ag,decide_eq_true_eq] at k;exact eT.1 k
       rw[hB];exact⟨by omega,λ_ _=>rfl,λh=>by cases h⟩
     ·rw[hL] at eT ⊢;simp only[fC,cond_false] at eT;refine⟨by omega,λk=> ?_,λk=> ?_⟩
      ·have hB:bO s=false:=by rw[K];intro h';simp only[O,decide_eq_false_iff_not] at k;exact k (eT.2 h')
       rw[hB];exact⟨(λh=>by cases h),λ_ _=>rfl⟩
      ·have hB:bO s=true:=by simp only[ag,decide_eq_true_eq] at k;exact eT.1 k
       rw[hB];exact⟨by omega,λ_ _=>rfl,λh=>by cases h⟩
theorem Q6:ax F 172 (bw lM):=by
 refine cn (n:=20) (fn:=S) Tryz.func172 (by kernel_rfl) (by kernel_rfl) ?_;intro args p a h hp;unfold lM at h;split at h
 ·rename_i s;cases h;refine⟨_,aaF,rfl,λb=> ?_,GG hp⟩;cases b<;>exact rfl
 ·cases h
noncomputable def Lx:List (FuncId×PT):=(172,bw lM)::Lw
theorem Dr:aQ F (λf=>ay f Lx):=.cons Q6 (aZ _) Dq
noncomputable def OP (s:e_):aX :=
 {α:=uG,pre:=λ_ x=>mG s x,jx:=λ_ x=>(aP s x.k).length,fresh:=1,slots:=λst x=>[(0,.str t (aP s x.k)),(4,.bx st.nx 1 d 0 x.k x.c)],
  mem:=λst x=>[(st.nx,.rows d x.k [.str (aj s)] t x.c 9)]}
noncomputable def SL (s:e_):dK:={bE with cm:=λf=>ay f Lx,bh:=λf=>if f=173 then [(2,always (OP s))] else []}
theorem aaJ (s:e_):Sx.Good F (SL s):=.of bz Dr aU
theorem Wc (s:e_):VC.holds (dB (SL s) 173 T [.str t s] (AJ s))=((∃(y:uG),mG s y /\s=aP s y.k /\y.k=(0:Nat) /\(SB.rows d y.k [aE.str (aj s)] t y.c 9).no=d /\True) /\∀(x:uG),mG s x ->Bk (!decide (aP s x.k=[])) ((aP s x.k).length<(9223372036854775808:Nat) /\Bk (bO (aP s x.k)) (((-9223372036854775808:Int)<=(↑(aP s x.k).length:Int) - (↑(aF (aP s x.k)).length:Int) /\(↑(aP s x.k).length:Int) - (↑(aF (aP s x.k)).length:Int)<=(9223372036854775807:Int)) /\((0:Int)<=(0:Int) /\(0:Int)<=(↑(aP s x.k).length:Int) - (↑(aF (aP s x.k)).length:Int) /\(↑(aP s x.k).length:Int) - (↑(aF (aP s x.k)).length:Int)<=(↑(aP s x.k).length:Int)) /\((0:Nat)+x.k<=x.k /\True /\(2:Nat)*(x.k+(1:Nat))*(16:Nat)<=(281474976710656:Nat) /\x.k+(1:Nat)<(9223372036854775808:Nat)) /\x.c=x.c*(1:Nat) /\∀(c:Nat),x.k+(1:Nat)<=c ->∃(y:uG),(mG s y /\(aP s y.k).length<(aP s x.k).length) /\aF (aP s x.k)=aP s y.k /\((0:Nat)=(0:Nat) /\x.k+(1:Nat)=y.k /\c=y.c) /\True /\ah (SB.rows d (x.k+(1:Nat)) [aE.str fun(j:Nat)=>if j<x.k then aj s j else bZ [aB (aP s x.k) A (u (w 27)) 0 ((↑(aP s x.k).length:Int) - (↑(aF (aP s x.k)).length:Int))] (j - x.k)] t (c*(1:Nat)) 9) (SB.rows d y.k [aE.str (aj s)] t y.c 9) /\True) (Bk (cS s) (∃(x:Nat),au s<=x /\False) (aa (SV.aD [SV.aK,SV.int .i64 d 2]) (SV.aD [SV.aK,SV.int .i64 d 2])))) (Bk (cS s) (∃(x_4:Nat),au s<=x_4 /\ah (SB.rows d x.k [aE.str (aj s)] t x.c 9) (SB.rows d (au s) [aE.str (aj s)] t x_4 9) /\aa (SV.aD [SV.bx 0 1 d 0 x.k x.c,SV.int .i64 d 0]) (SV.aD [SV.bx 0 1 d 0 (au s) x_4,SV.int .i64 d 0])) (aa (SV.aD [SV.bx 0 1 d 0 x.k x.c,SV.int .i64 d 0]) (SV.aD [SV.aK,SV.int .i64 d 2])))):=by kernel_rfl
theorem Fy (hs:s.length<1099511627776):av (dB (SL s) 173 T [.str t s] (AJ s)):=by
 refine av.gV (Wc s) (by delta Bk;exact rfl) ?_;refine⟨⟨⟨0,0⟩,⟨λj hj=>absurd hj (Nat.not_lt_zero _),Nat.le_refl _⟩,rfl,rfl,rfl,trivial⟩,λx hx=> ?_⟩;have hw:Walk s x.k:=hx.walk;have hl:=hw.len;obtain⟨i1,i2⟩:=hw.items;refine⟨λa=> ?_,λa=> ?_⟩
 ·have a:aP s x.k≠[]:=by simpa using a
  refine⟨by omega,λb=> ?_,λb=> ?_⟩
  ·have hlt:=wQ b;refine⟨by omega,by omega,⟨by omega,trivial,by omega,by omega⟩,by omega,λc hc=>⟨⟨x.k+1,c⟩,⟨⟨hw.snoc a b,hc⟩,?_⟩,?_,⟨rfl,rfl,rfl⟩,trivial,?_,trivial⟩⟩
   ·simp only[aP];exact hlt
   ·simp only[aP]
   ·refine Sx.ah.iJ rfl (Nat.mul_one c) λi hi=> ?_;by_cases h:i<x.k
    ·rw[if_pos h]
    ·rw[if_neg h];have e:i=x.k:=by omega
     subst e;simp only[Nat.sub_self,bZ,aB,aj,qz];rw[show((↑(aP s x.k).length:Int) - (↑(aF (aP s x.k)).length:Int)).toNat=(aP s x.k).length - (aF (aP s x.k)).length by omega];simp only[List.getD_cons_zero]
  ·have hb:=xb a b;rw[← i1] at hb;exact⟨(λh=>by rw[hb] at h;cases h),λ_ _=>rfl⟩
 ·have a:aP s x.k=[]:=by simpa using a
  rw[a] at i1 i2;have n0:au s=x.k:=by rw[i2,gZ.2];omega
  have b0:cS s=true:=by rw[i1,gZ.1]
  refine⟨λ_=>⟨x.c,by rw[n0];exact hx.cap,?_,?_⟩,λh=>by rw[b0] at h;cases h⟩
  ·rw[n0];exact ah.refl _
  ·rw[n0];exact λ_=>rfl
theorem MB:ax F 173 Fz:=by
 refine cn (n:=20) (fn:=T) Tryz.func173 (by kernel_rfl) (by kernel_rfl) ?_;intro args p a h hp;unfold rS at h;split at h
 ·rename_i s;cases h;refine⟨_,aaJ s,rfl,λb=> ?_,Fy hp⟩;cases b with
  | false=>exact rfl
  | true =>
    intro c;refine⟨rfl,rfl,λk=>by simp[SV.wf,SV.e9,Nat.blt_eq],λE E' k k' h=> ?_⟩;cases hn:au s with
    | zero=>rfl
    | succ n =>rw[hn] at h;have hk:E k=E' k':=h rfl;simp[SV.val,SV.vals,hk]
 ·cases h
noncomputable def FL:List (FuncId×PT):=(173,Fz)::Lx
theorem xy:aQ F (λf=>ay f FL):=.cons MB (aZ _) Dr
end
end Go.Proofs.YtoibaecagklkaaaGreatDoor
