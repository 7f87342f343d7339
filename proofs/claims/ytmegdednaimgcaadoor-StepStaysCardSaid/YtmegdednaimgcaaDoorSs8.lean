/- A step: a judgement always answers. -/
import Derived.Test.YtmegdednaimgcaaDoorSs7
set_option linter.unusedVariables false
set_option linter.unusedSimpArgs false
set_option linter.unusedSectionVars false
namespace Go.Proofs.YtmegdednaimgcaaDoor.Ss
open Go Go.Proofs.YtmegdednaimgcaaDoor.Ab Go.Proofs.YtmegdednaimgcaaDoor.TT
theorem cond_any {l : api_Lattice} {U : List Nat} (h : Nm l U) {r labels : List Int} (hr : r.length ≤ 900) (hl : labels.length ≤ 900) : ∃ b q, judge_Cond.f l r labels = some (b, q) := by
  by_cases hm : mayS l U r labels false = 0
  · obtain ⟨hc, hR, h4, ha⟩ := mayS_zero hm
    obtain ⟨t, h1, h2, h3, _⟩ := right_wf hR
    obtain ⟨E, _⟩ := je_of h hc h4 ha
    subst h3
    exact ⟨_, _, cond_is h E h1 h2 hr hl hm⟩
  · exact ⟨_, _, cond_no h hr hl hm⟩
theorem label_any {l : api_Lattice} {U : List Nat} (h : Nm l U) {r labels : List Int} (hr : r.length ≤ 900) (hl : labels.length ≤ 900) : ∃ b q, judge_Label.f l r labels = some (b, q) := by
  by_cases hm : mayS l U r labels true = 0
  · obtain ⟨hc, hR, h4, ha⟩ := mayS_zero hm
    obtain ⟨t, h1, h2, h3, _⟩ := right_wf hR
    obtain ⟨E, _⟩ := je_of h hc h4 ha
    subst h3
    exact ⟨_, _, label_is h E h1 h2 hr hl hm⟩
  · exact ⟨_, _, label_no h hr hl hm⟩
end Go.Proofs.YtmegdednaimgcaaDoor.Ss
