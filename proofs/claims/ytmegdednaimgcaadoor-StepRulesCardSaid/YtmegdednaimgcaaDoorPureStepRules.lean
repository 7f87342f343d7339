/- StepRules, plainly. -/
import Derived.Test.YtmegdednaimgcaaDoorSsM
set_option linter.unusedVariables false
namespace Go.Proofs.YtmegdednaimgcaaDoor.Pure
open Go Go.Proofs.YtmegdednaimgcaaDoor.Ab Go.Proofs.YtmegdednaimgcaaDoor.TT
theorem StepRules (l : api_Lattice) (t : api_Table) (s : api_State) (op : Int) (hl : ∃ H cs, (kR f_api_Lattice).reps H cs l) (ht : ∃ H cs, (kR f_api_Table).reps H cs t) (hs : ∃ H cs, (kR f_api_State).reps H cs s) (ho : InR .i64 op) : reticentlaw10_StepRules.f l t s op = some true := Ss.rules hl ho
end Go.Proofs.YtmegdednaimgcaaDoor.Pure
