/- TableNames, plainly. -/
import Derived.Test.YtjkijjhjffodcaaDoorTn1
set_option linter.unusedVariables false
namespace Go.Proofs.YtjkijjhjffodcaaDoor.Pure
open Go Go.Proofs.YtjkijjhjffodcaaDoor.Ab Go.Proofs.YtjkijjhjffodcaaDoor.TN
theorem TableNames (op : Int) (a b : api_Table) (ho : InR .i64 op) (ha : ∃ H cs, (kR f_api_Table).reps H cs a) (hb : ∃ H cs, (kR f_api_Table).reps H cs b) : reticentlaw06_TableNames.f op a b = some true := Tn.names
end Go.Proofs.YtjkijjhjffodcaaDoor.Pure
