/- StepOne, plainly. -/
import Derived.Test.YtmegdednaimgcaaGreatDoorSsM
set_option linter.unusedVariables false
namespace Go.Proofs.YtmegdednaimgcaaGreatDoor.Pure
open Go Go.Proofs.YtmegdednaimgcaaGreatDoor.Ab Go.Proofs.YtmegdednaimgcaaGreatDoor.TT
theorem StepOne (l : api_Lattice) (t : api_Table) (s : api_State) (hl : ∃ H cs, (kR f_api_Lattice).reps H cs l) (ht : ∃ H cs, (kR f_api_Table).reps H cs t) (hs : ∃ H cs, (kR f_api_State).reps H cs s) : reticentlaw10_StepOne.f l t s = some true := Ss.ones hl
end Go.Proofs.YtmegdednaimgcaaGreatDoor.Pure
