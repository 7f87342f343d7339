/- MutantBelow, plainly. -/
import Derived.Test.YtjkijjhjffodcaaBwa1
set_option linter.unusedVariables false
namespace Go.Proofs.Ytjkijjhjffodcaa.Pure
open Go Go.Proofs.Ytjkijjhjffodcaa.Ab Go.Proofs.Ytjkijjhjffodcaa.LG
theorem MutantBelow (l : api_Lattice) (r labels : List Int) (hl : ∃ H cs, (kR f_api_Lattice).reps H cs l) (hr : ∃ H cs, (kL (kI .i64)).reps H cs r) (hb : ∃ H cs, (kL (kI .i64)).reps H cs labels) : reticentlaw24_MutantBelow.f l r labels = some true := Bw.below hl
end Go.Proofs.Ytjkijjhjffodcaa.Pure
