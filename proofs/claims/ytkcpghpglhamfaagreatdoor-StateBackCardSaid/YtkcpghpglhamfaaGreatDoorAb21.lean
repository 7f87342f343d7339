import Derived.Test.YtkcpghpglhamfaaGreatDoorAb20
set_option linter.unusedVariables false
set_option linter.unusedSimpArgs false
namespace Go.Proofs.YtkcpghpglhamfaaGreatDoor.Ab
open Go Go.RowKit
def zeroV (P : Program) (t : TypeId) (z : Value) : Prop := (P.info? t).bind (·.zero) = some z
theorem run_zeroV {P : Program} {t : TypeId} {z : Value} {w : World} (h : zeroV P t z) : (zeroValue t).run P w = .ok z w := by
  obtain ⟨i, hi, hz⟩ := Option.bind_eq_some_iff.1 h
  simp [zeroValue, typeInfo, hi, hz]
section
variable {rd : Option Nat} {P : Program} {x y : Operand} {i j : Env} {dst : Option Nat} {T T' ty : TypeId} {pos : String} {af : Array Edge} {gd : Option (Nat × Bool)} {R : List Res}
end
end Go.Proofs.YtkcpghpglhamfaaGreatDoor.Ab
