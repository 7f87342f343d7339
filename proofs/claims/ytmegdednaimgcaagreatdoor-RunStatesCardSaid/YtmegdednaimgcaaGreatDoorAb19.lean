import Derived.Test.YtmegdednaimgcaaGreatDoorAb18
import Derived.Lib.Join
import Derived.Lib.Bytealg
set_option linter.unusedVariables false
set_option linter.unusedSimpArgs false
namespace Go.Proofs.YtmegdednaimgcaaGreatDoor.Ab
open Go Go.RowKit
end Go.Proofs.YtmegdednaimgcaaGreatDoor.Ab
