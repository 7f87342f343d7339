/- MutantAll, plainly. -/
import Derived.Test.YtjkijjhjffodcaaDoorMaa1
set_option linter.unusedVariables false
namespace Go.Proofs.YtjkijjhjffodcaaDoor.Pure
open Go Go.Proofs.YtjkijjhjffodcaaDoor.Ab Go.Proofs.YtjkijjhjffodcaaDoor.MA
theorem MutantAll (t : api_Table) (i : Int) (ht : ∃ H cs, (kR f_api_Table).reps H cs t) (hi : InR .i64 i) : reticentlaw24_MutantAll.f t i = some true := Ma.law (by have := hi.2; unfold IntKind.max at this; simp [IntKind.signed, IntKind.bits] at this; omega)
end Go.Proofs.YtjkijjhjffodcaaDoor.Pure
