/- RuleRight. -/
import Derived.Test.YthpmbokenhpakaaPa6
set_option linter.unusedVariables false
namespace Go.Proofs.Ythpmbokenhpakaa.Pure
open Go Go.Proofs.Ythpmbokenhpakaa.Ab Go.Proofs.Ythpmbokenhpakaa.LF
theorem RuleRight (l : List Int) (b : Bool) (hl : ∃ H cs, (kL (kI .i64)).reps H cs l) : reticentlaw04_RuleRight.f l b = some true := Par.ruleRight
end Go.Proofs.Ythpmbokenhpakaa.Pure
