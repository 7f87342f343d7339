import Derived.Test.YtmegdednaimgcaaDoorAb22
set_option linter.unusedVariables false
set_option linter.unusedSimpArgs false
namespace Go.Proofs.YtmegdednaimgcaaDoor.Ab
open Go Go.RowKit
theorem run_part {P : Program} {w : World} {T : TypeId} {ag : Bool} {n off : Nat} {cs : List Value} {ls : List Value} (hi : tinf P T = some (ag, n)) (h1 : ag = false → n = 1) (hl : (cs.drop off).take n = ls) (hn : ls.length = n) :
    (part T cs.toArray off).run P w = .ok (mkv ag ls) w := by
  obtain ⟨ha, hs⟩ := tinf_agg (w := w) hi
  simp only [part, Sem.run_bind, ha, Result.andThen_ok]
  cases ag with
  | true =>
    simp only [if_true, Sem.run_bind, run_size hs, Result.andThen_ok, Sem.run_pure]
    congr 2
    apply Array.ext'
    rw [Array.toList_extract]
    simp only [mkv, List.extract_eq_take_drop]
    rw [← hl]; congr 1; omega
  | false =>
    rw [h1 rfl] at hn hl
    match ls, hn with
    | [v], _ =>
      have : cs[off]? = some v := by
        have := congrArg (fun l => l[0]?) hl
        simpa using this
      simp only [Bool.false_eq_true, if_false, List.getElem?_toArray, this, Sem.run_pure]
      rfl
section
variable {P : Program} {x y : Operand} {i j : Env} {dst : Option Nat} {T T' ty : TypeId} {pos : String} {af : Array Edge} {gd : Option (Nat × Bool)} {R : List Res}
end
end Go.Proofs.YtmegdednaimgcaaDoor.Ab
