/- StepStays, plainly. -/
import Derived.Test.YtmegdednaimgcaaDoorSs10
set_option linter.unusedVariables false
namespace Go.Proofs.YtmegdednaimgcaaDoor.Pure
open Go Go.Proofs.YtmegdednaimgcaaDoor.Ab Go.Proofs.YtmegdednaimgcaaDoor.TT
theorem StepStays (l : api_Lattice) (t : api_Table) (s : api_State) (hl : ∃ H cs, (kR f_api_Lattice).reps H cs l) (ht : ∃ H cs, (kR f_api_Table).reps H cs t) (hs : ∃ H cs, (kR f_api_State).reps H cs s) : reticentlaw10_StepStays.f l t s = some true := Ss.stay hl
end Go.Proofs.YtmegdednaimgcaaDoor.Pure
