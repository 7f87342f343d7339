import Derived.Test.YtmjcpkmongafnaaGreatDoorAb30
import Derived.Lib.ItoaNum
import Derived.Lib.LaidTab
import Derived.Deep.Draws
import Derived.Sort.Grow
set_option linter.unusedVariables false
set_option linter.unusedSimpArgs false
namespace Go.Proofs.YtmjcpkmongafnaaGreatDoor.Ab
open Go Go.RowKit
end Go.Proofs.YtmjcpkmongafnaaGreatDoor.Ab
