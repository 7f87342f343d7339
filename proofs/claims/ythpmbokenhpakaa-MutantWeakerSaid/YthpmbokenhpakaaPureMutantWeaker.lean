/- MutantWeaker, plainly. -/
import Derived.Test.YthpmbokenhpakaaMut7
set_option linter.unusedVariables false
namespace Go.Proofs.Ythpmbokenhpakaa.Pure
open Go Go.Proofs.Ythpmbokenhpakaa.Ab Go.Proofs.Ythpmbokenhpakaa.LD
theorem MutantWeaker (l : List Int) (hl : ∃ H cs, (kL (kI .i64)).reps H cs l) : reticentlaw24_MutantWeaker.f l = some true := Mut.weakers
end Go.Proofs.Ythpmbokenhpakaa.Pure
