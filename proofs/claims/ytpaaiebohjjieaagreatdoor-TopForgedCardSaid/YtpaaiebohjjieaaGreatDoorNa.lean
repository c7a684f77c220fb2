/-
  The fixed fact of the top's laws: its run: the contract.
-/
import Derived.Test.YtpaaiebohjjieaaGreatDoorMy
import Derived.Test.YtpaaiebohjjieaaGreatDoorMz
namespace Go.Proofs.YtpaaiebohjjieaaGreatDoor
open Go Sx
set_option maxRecDepth 20000
theorem aq9:aq alm:=.pr ⟨aoS,aoR⟩ rvT.ok
noncomputable def afG:List (FuncId×PT):=(18,kj aii)::Wz
theorem abE:aU Tryz.prog (fun f=>aA f afG):=.cons (abX (Yj MP _) aii fun _ _=>⟨rfl,aq9⟩) (jr _) MP
noncomputable def am2:VC:=alV afG 4 [] (.ret (.bool true true))
def aqU:Tr:=.q (((True/\True/\True/\True/\True/\True)/\True)/\True) ⟨⟨⟨trivial,trivial,trivial,trivial,trivial,trivial⟩,trivial⟩,trivial⟩
def apx:Tr:=(qC 1 (qC 1 (.b aqU (qC 1 (.e (.b (.q True trivial) (.a (Nat×Nat×Nat) (Q2 (.bool true true)))))))))
def alT:Tr:=(qC 0 (qC 1 (.a Loop (qC 1 (qC 1 (qC 1 (qC 1 (qC 2 (.a Loop (qC 1 (qC 1 (qC 1 (qC 0 (qC 1 (.b apx apx)))))))))))))))
end Go.Proofs.YtpaaiebohjjieaaGreatDoor
