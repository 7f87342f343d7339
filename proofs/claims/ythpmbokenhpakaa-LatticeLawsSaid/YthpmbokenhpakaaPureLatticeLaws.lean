/- LatticeLaws, plainly. -/
import Derived.Test.YthpmbokenhpakaaLat17
set_option linter.unusedVariables false
namespace Go.Proofs.Ythpmbokenhpakaa.Pure
open Go Go.Proofs.Ythpmbokenhpakaa.Ab Go.Proofs.Ythpmbokenhpakaa.LA
theorem LatticeLaws (l : api_Lattice) (a b c : Int) (hl : ∃ H cs, (kR f_api_Lattice).reps H cs l) (ha : InR .i64 a) (hb : InR .i64 b) (hc : InR .i64 c) : reticentlaw01_LatticeLaws.f l a b c = some true := Lat.lawsT hl
end Go.Proofs.Ythpmbokenhpakaa.Pure
