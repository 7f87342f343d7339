/- StateBack, plainly. -/
import Derived.Test.YtkcpghpglhamfaaGreatDoorSk8
set_option linter.unusedVariables false
namespace Go.Proofs.YtkcpghpglhamfaaGreatDoor.Pure
open Go Go.Proofs.YtkcpghpglhamfaaGreatDoor.Ab Go.Proofs.YtkcpghpglhamfaaGreatDoor.SK
theorem StateBack (l : api_Lattice) (a : api_State) (s : Str) (hl : ∃ H cs, (kR f_api_Lattice).reps H cs l) (ha : ∃ H cs, (kR f_api_State).reps H cs a) (hs : ∃ H cs, kS.reps H cs s) : reticentlaw09_StateBack.f l a s = some true := Sk.back hl
end Go.Proofs.YtkcpghpglhamfaaGreatDoor.Pure
