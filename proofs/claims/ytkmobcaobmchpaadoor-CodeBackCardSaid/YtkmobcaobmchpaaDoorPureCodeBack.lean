/- CodeBack, plainly. -/
import Derived.Test.YtkmobcaobmchpaaDoorCk3
set_option linter.unusedVariables false
namespace Go.Proofs.YtkmobcaobmchpaaDoor.Pure
open Go Go.Proofs.YtkmobcaobmchpaaDoor.Ab Go.Proofs.YtkmobcaobmchpaaDoor.CK
theorem CodeBack (l : api_Lattice) (a : List api_Instr) (s : Str) (hl : ∃ H cs, (kR f_api_Lattice).reps H cs l) (ha : ∃ H cs, (kL (kR f_api_Instr)).reps H cs a) (hs : ∃ H cs, kS.reps H cs s) : reticentlaw08_CodeBack.f l a s = some true := Ck.back hl
end Go.Proofs.YtkmobcaobmchpaaDoor.Pure
