import Derived.Test.YtmjcpkmongafnaaGreatDoorAb29
set_option linter.unusedVariables false
set_option linter.unusedSimpArgs false
namespace Go.Proofs.YtmjcpkmongafnaaGreatDoor.Ab
open Go Go.RowKit
section
variable{P:Program} {x y:Operand} {i j:Env} {dst:Option Nat} {ty:TypeId} {pos:String} {af:Array Edge} {gd:Option (Nat×Bool)} {R:List Res}
end
section
variable{P:Program} {x y:Operand} {i j:Env} {dst:Option Nat} {T ty:TypeId} {pos:String} {af:Array Edge} {gd:Option (Nat×Bool)} {R:List Res}
end
end Go.Proofs.YtmjcpkmongafnaaGreatDoor.Ab
