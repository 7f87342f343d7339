import Derived.Test.YtmjcpkmongafnaaGreatDoorAb18
import Derived.Lib.Join
import Derived.Lib.Bytealg
set_option linter.unusedVariables false
set_option linter.unusedSimpArgs false
namespace Go.Proofs.YtmjcpkmongafnaaGreatDoor.Ab
open Go Go.RowKit
end Go.Proofs.YtmjcpkmongafnaaGreatDoor.Ab
