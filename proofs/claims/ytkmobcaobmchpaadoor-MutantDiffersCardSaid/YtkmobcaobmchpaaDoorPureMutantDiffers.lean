/- MutantDiffers, plainly. -/
import Derived.Test.YtkmobcaobmchpaaDoorMd2
set_option linter.unusedVariables false
namespace Go.Proofs.YtkmobcaobmchpaaDoor.Pure
open Go Go.Proofs.YtkmobcaobmchpaaDoor.Ab Go.Proofs.YtkmobcaobmchpaaDoor.MD
theorem MutantDiffers (t : api_Table) (ht : ∃ H cs, (kR f_api_Table).reps H cs t) : reticentlaw24_MutantDiffers.f t = some true := Md.differs
end Go.Proofs.YtkmobcaobmchpaaDoor.Pure
