/- CodeReads, plainly. -/
import Derived.Test.YtjkijjhjffodcaaDoorCd2
set_option linter.unusedVariables false
namespace Go.Proofs.YtjkijjhjffodcaaDoor.Pure
open Go Go.Proofs.YtjkijjhjffodcaaDoor.Ab Go.Proofs.YtjkijjhjffodcaaDoor.CR
theorem CodeReads (l : api_Lattice) (s : Str) (hl : ∃ H cs, (kR f_api_Lattice).reps H cs l) (hs : ∃ H cs, kS.reps H cs s) : reticentlaw08_CodeReads.f l s = some true := Cr.reads hl
end Go.Proofs.YtjkijjhjffodcaaDoor.Pure
