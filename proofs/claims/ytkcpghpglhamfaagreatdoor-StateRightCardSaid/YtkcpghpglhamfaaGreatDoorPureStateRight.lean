/- StateRight, plainly. -/
import Derived.Test.YtkcpghpglhamfaaGreatDoorSu5
set_option linter.unusedVariables false
namespace Go.Proofs.YtkcpghpglhamfaaGreatDoor.Pure
open Go Go.Proofs.YtkcpghpglhamfaaGreatDoor.Ab Go.Proofs.YtkcpghpglhamfaaGreatDoor.ST
theorem StateRight (l : api_Lattice) (a b : api_State) (hl : ∃ H cs, (kR f_api_Lattice).reps H cs l) (ha : ∃ H cs, (kR f_api_State).reps H cs a) (hb : ∃ H cs, (kR f_api_State).reps H cs b) : reticentlaw09_StateRight.f l a b = some true := Su.rights hl
end Go.Proofs.YtkcpghpglhamfaaGreatDoor.Pure
