/- LatticeTells, plainly. -/
import Derived.Test.YthpmbokenhpakaaLat14
set_option linter.unusedVariables false
namespace Go.Proofs.Ythpmbokenhpakaa.Pure
open Go Go.Proofs.Ythpmbokenhpakaa.Ab Go.Proofs.Ythpmbokenhpakaa.LA
theorem LatticeTells (l : api_Lattice) (a b : Int) (hl : ∃ H cs, (kR f_api_Lattice).reps H cs l) (ha : InR .i64 a) (hb : InR .i64 b) : reticentlaw01_LatticeTells.f l a b = some true := Lat.tells hl
end Go.Proofs.Ythpmbokenhpakaa.Pure
