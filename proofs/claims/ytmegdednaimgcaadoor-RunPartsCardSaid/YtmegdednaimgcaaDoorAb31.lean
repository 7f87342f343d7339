import Derived.Test.YtmegdednaimgcaaDoorAb30
import Derived.Lib.ItoaNum
import Derived.Lib.LaidTab
import Derived.Deep.Draws
import Derived.Sort.Grow
set_option linter.unusedVariables false
set_option linter.unusedSimpArgs false
namespace Go.Proofs.YtmegdednaimgcaaDoor.Ab
open Go Go.RowKit
end Go.Proofs.YtmegdednaimgcaaDoor.Ab
