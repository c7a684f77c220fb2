/-
  Canon: what is asked of entries, rows: the set-up.
-/
import Derived.Test.YtoibaecagklkaaaGreatDoorMq
namespace Go.Proofs.YtoibaecagklkaaaGreatDoor
section
open Go Sx
set_option maxRecDepth 20000
structure adH (n:Nat)(t:Nat->Bool)(i:Nat):Prop where
 up:jY n t i
 le:i<=46
end
end Go.Proofs.YtoibaecagklkaaaGreatDoor
