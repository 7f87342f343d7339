/- RunParts, plainly. -/
import Derived.Test.YtmegdednaimgcaaDoorSsM
set_option linter.unusedVariables false
namespace Go.Proofs.YtmegdednaimgcaaDoor.Pure
open Go Go.Proofs.YtmegdednaimgcaaDoor.Ab Go.Proofs.YtmegdednaimgcaaDoor.TT
theorem RunParts (l : api_Lattice) (t : api_Table) (s : api_State) (a b : Int) (hl : ∃ H cs, (kR f_api_Lattice).reps H cs l) (ht : ∃ H cs, (kR f_api_Table).reps H cs t) (hs : ∃ H cs, (kR f_api_State).reps H cs s) (ha : InR .i64 a) (hb : InR .i64 b) : reticentlaw11_RunParts.f l t s a b = some true := Ss.parts hl ha hb
end Go.Proofs.YtmegdednaimgcaaDoor.Pure
