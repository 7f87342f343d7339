import Derived.Test.YtmegdednaimgcaaGreatDoorAb33
set_option linter.unusedVariables false
set_option linter.unusedSimpArgs false
namespace Go.Proofs.YtmegdednaimgcaaGreatDoor.Ab
open Go Go.RowKit
section
variable {rd : Option Nat} {P : Program} {x y : Operand} {i j : Env} {dst : Option Nat} {T T' ty : TypeId} {pos : String} {af : Array Edge} {gd : Option (Nat × Bool)} {R : List Res}
end
end Go.Proofs.YtmegdednaimgcaaGreatDoor.Ab
