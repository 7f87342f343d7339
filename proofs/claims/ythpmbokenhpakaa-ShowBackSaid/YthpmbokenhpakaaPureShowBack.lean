/- ShowBack. -/
import Derived.Test.YthpmbokenhpakaaPa6
set_option linter.unusedVariables false
namespace Go.Proofs.Ythpmbokenhpakaa.Pure
open Go Go.Proofs.Ythpmbokenhpakaa.Ab Go.Proofs.Ythpmbokenhpakaa.LF
theorem ShowBack (l : List Int) (hl : ∃ H cs, (kL (kI .i64)).reps H cs l) : reticentlaw05_ShowBack.f l = some true := Par.showBack
end Go.Proofs.Ythpmbokenhpakaa.Pure
