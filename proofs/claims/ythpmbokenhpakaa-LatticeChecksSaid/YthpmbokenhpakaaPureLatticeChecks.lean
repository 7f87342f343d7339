/- LatticeChecks, plainly. -/
import Derived.Test.YthpmbokenhpakaaLat15
set_option linter.unusedVariables false
namespace Go.Proofs.Ythpmbokenhpakaa.Pure
open Go Go.Proofs.Ythpmbokenhpakaa.Ab Go.Proofs.Ythpmbokenhpakaa.LA
theorem LatticeChecks (l : api_Lattice) (hl : ∃ H cs, (kR f_api_Lattice).reps H cs l) : reticentlaw01_LatticeChecks.f l = some true := Lat.checks hl
end Go.Proofs.Ythpmbokenhpakaa.Pure
