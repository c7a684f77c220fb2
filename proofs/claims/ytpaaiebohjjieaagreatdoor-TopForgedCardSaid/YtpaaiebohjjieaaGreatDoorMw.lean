/-
  The fixed fact of the top's laws: its frames: the contracts.
-/
import Derived.Test.YtpaaiebohjjieaaGreatDoorMv
namespace Go.Proofs.YtpaaiebohjjieaaGreatDoor
open Go Sx
set_option maxRecDepth 100000
def Q2 (v:SV):Tr:=.q (∀ E:Nat->Nat,SV.val E v=SV.val E v) fun _=>rfl
theorem al1:aq aqQ:=.closed (Q2 (.bL [.str true ajV,zI])) ⟨by kernel_rfl,by kernel_rfl⟩
theorem al2:aq aqR:=.closed (.r 8 fun _ _=>Q2 (.bL [Ym,zI])) ⟨by kernel_rfl,by kernel_rfl⟩
theorem al3:aq aqS:=.closed (Q2 (.bL [.str true BI,zI])) ⟨by kernel_rfl,by kernel_rfl⟩
theorem al4:aq aqT:=.closed (.r 9 fun _ _=>.a Nat .z) ⟨by kernel_rfl,by kernel_rfl⟩
noncomputable def Wz:List (FuncId×PT):=(162,CI [Ym] Ze)::(228,CI [.str true ajV] YP)::(125,CI [UI .aO] Zf)::(55,CI [.str true BI] PG)::Eu
theorem Wb:PG.Ok:=⟨rfl,rfl,fun k=>by simp[UI,zI,JF,zS,SV.wf,SV.gM,Nat.blt_eq],fun E E' k k' h=>by simp only[UI,SV.val,SV.vals];rw[h rfl];rfl⟩
theorem MP:aU Tryz.prog (fun f=>aA f Wz):=.cons (JG uf rfl rfl al1) (vM _ _) (.cons (JG uf rfl rfl al2) (vM _ _) (.cons (JG uf rfl rfl al3) (vM _ _) (.cons (JG uf rfl Wb al4) (vM _ _) uf)))
end Go.Proofs.YtpaaiebohjjieaaGreatDoor
