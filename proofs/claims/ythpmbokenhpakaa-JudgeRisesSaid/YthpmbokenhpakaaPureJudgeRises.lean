/- JudgeRises. -/
import Derived.Test.YthpmbokenhpakaaJu9
set_option linter.unusedVariables false
namespace Go.Proofs.Ythpmbokenhpakaa.Pure
open Go Go.Proofs.Ythpmbokenhpakaa.Ab Go.Proofs.Ythpmbokenhpakaa.LE
theorem JudgeRises (l : api_Lattice) (r labels : List Int) (a3 a4 : Int) (hl : ∃ H cs, (kR f_api_Lattice).reps H cs l) (hr : ∃ H cs, (kL (kI .i64)).reps H cs r) (hb : ∃ H cs, (kL (kI .i64)).reps H cs labels) (h3 : InR .i64 a3) (h4 : InR .i64 a4) : reticentlaw07_JudgeRises.f l r labels a3 a4 = some true := Jdg.rises hl
end Go.Proofs.Ythpmbokenhpakaa.Pure
