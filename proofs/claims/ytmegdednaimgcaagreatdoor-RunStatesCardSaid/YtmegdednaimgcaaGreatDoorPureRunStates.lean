/- RunStates, plainly. -/
import Derived.Test.YtmegdednaimgcaaGreatDoorSsM
set_option linter.unusedVariables false
namespace Go.Proofs.YtmegdednaimgcaaGreatDoor.Pure
open Go Go.Proofs.YtmegdednaimgcaaGreatDoor.Ab Go.Proofs.YtmegdednaimgcaaGreatDoor.TT
theorem RunStates (l : api_Lattice) (t : api_Table) (s : api_State) (f : Int) (hl : ∃ H cs, (kR f_api_Lattice).reps H cs l) (ht : ∃ H cs, (kR f_api_Table).reps H cs t) (hs : ∃ H cs, (kR f_api_State).reps H cs s) (hf : InR .i64 f) : reticentlaw11_RunStates.f l t s f = some true := Ss.states hl
end Go.Proofs.YtmegdednaimgcaaGreatDoor.Pure
