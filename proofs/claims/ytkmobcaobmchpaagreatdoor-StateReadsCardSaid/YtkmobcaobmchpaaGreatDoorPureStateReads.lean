import Derived.Test.YtkmobcaobmchpaaGreatDoorSt4
set_option linter.unusedVariables false
namespace Go.Proofs.YtkmobcaobmchpaaGreatDoor.Pure
open Go Go.Proofs.YtkmobcaobmchpaaGreatDoor.Ab Go.Proofs.YtkmobcaobmchpaaGreatDoor.SR
theorem StateReads (l : api_Lattice) (s : Str) (hl : ∃ H cs, (kR f_api_Lattice).reps H cs l) (hs : ∃ H cs, kS.reps H cs s) : reticentlaw09_StateReads.f l s = some true := St.reads hl
end Go.Proofs.YtkmobcaobmchpaaGreatDoor.Pure
