import Derived.Test.YtmegdednaimgcaaGreatDoorAb34
set_option linter.unusedVariables false
set_option linter.unusedSimpArgs false
namespace Go.Proofs.YtmegdednaimgcaaGreatDoor.Ab
open Go Go.RowKit
end Go.Proofs.YtmegdednaimgcaaGreatDoor.Ab
