/- CodeRight, plainly. -/
import Derived.Test.YtkmobcaobmchpaaDoorCg3
set_option linter.unusedVariables false
namespace Go.Proofs.YtkmobcaobmchpaaDoor.Pure
open Go Go.Proofs.YtkmobcaobmchpaaDoor.Ab Go.Proofs.YtkmobcaobmchpaaDoor.CG
theorem CodeRight (l : api_Lattice) (a b : List api_Instr) (hl : ∃ H cs, (kR f_api_Lattice).reps H cs l) (ha : ∃ H cs, (kL (kR f_api_Instr)).reps H cs a) (hb : ∃ H cs, (kL (kR f_api_Instr)).reps H cs b) : reticentlaw08_CodeRight.f l a b = some true := Cg.rights hl
end Go.Proofs.YtkmobcaobmchpaaDoor.Pure
