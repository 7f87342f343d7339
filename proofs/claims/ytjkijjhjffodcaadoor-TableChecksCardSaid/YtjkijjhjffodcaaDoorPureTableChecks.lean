/- TableChecks, plainly. -/
import Derived.Test.YtjkijjhjffodcaaDoorTba1
set_option linter.unusedVariables false
namespace Go.Proofs.YtjkijjhjffodcaaDoor.Pure
open Go Go.Proofs.YtjkijjhjffodcaaDoor.Ab Go.Proofs.YtjkijjhjffodcaaDoor.LT
theorem TableChecks (t : api_Table) (ht : ∃ H cs, (kR f_api_Table).reps H cs t) : reticentlaw06_TableChecks.f t = some true := Tb.checks
end Go.Proofs.YtjkijjhjffodcaaDoor.Pure
