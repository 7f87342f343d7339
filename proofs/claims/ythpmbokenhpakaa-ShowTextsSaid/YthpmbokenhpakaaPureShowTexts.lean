/- ShowTexts, plainly. -/
import Derived.Test.YthpmbokenhpakaaSho6
set_option linter.unusedVariables false
namespace Go.Proofs.Ythpmbokenhpakaa.Pure
open Go Go.Proofs.Ythpmbokenhpakaa.Ab Go.Proofs.Ythpmbokenhpakaa.LB
theorem ShowTexts (l : List Int) (hl : ∃ H cs, (kL (kI .i64)).reps H cs l) : reticentlaw05_ShowTexts.f l = some true := Sho.texts
end Go.Proofs.Ythpmbokenhpakaa.Pure
