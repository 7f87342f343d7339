import Derived.Test.YtmegdednaimgcaaDoorAb18
import Derived.Lib.Join
import Derived.Lib.Bytealg
set_option linter.unusedVariables false
set_option linter.unusedSimpArgs false
namespace Go.Proofs.YtmegdednaimgcaaDoor.Ab
open Go Go.RowKit
end Go.Proofs.YtmegdednaimgcaaDoor.Ab
