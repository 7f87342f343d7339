/- RuleTold. -/
import Derived.Test.YthpmbokenhpakaaPa6
set_option linter.unusedVariables false
namespace Go.Proofs.Ythpmbokenhpakaa.Pure
open Go Go.Proofs.Ythpmbokenhpakaa.Ab Go.Proofs.Ythpmbokenhpakaa.LF
theorem RuleTold (l : List api_Tok) (i : Int) (b : Bool) (hl : ∃ H cs, (kL (kR f_api_Tok)).reps H cs l) (hi : InR .i64 i) : reticentlaw04_RuleTold.f l i b = some true := Par.ruleTold
end Go.Proofs.Ythpmbokenhpakaa.Pure
