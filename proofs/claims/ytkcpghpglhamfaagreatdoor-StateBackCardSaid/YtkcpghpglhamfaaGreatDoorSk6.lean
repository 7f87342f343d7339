/- States: what is written is read: numbers. -/
import Derived.Test.YtkcpghpglhamfaaGreatDoorSk5
set_option linter.unusedVariables false
set_option linter.unusedSimpArgs false
set_option linter.unusedSectionVars false
namespace Go.Proofs.YtkcpghpglhamfaaGreatDoor.Sk
open Go Go.Proofs.YtkcpghpglhamfaaGreatDoor.Ab Go.Proofs.YtkcpghpglhamfaaGreatDoor.SK
theorem readS {r : state_reader} {m : Nat} (h : m < 100) : state_reader_number.l1 (r, Lib.decDigits m) 0 0 = some (m : Int) ∧ state_reader_number.l3 (r, Lib.decDigits m) 0 0 = some (m : Int) := by
  have w0 : IntKind.i64.wrap (10 * 0) = 0 := by decide
  have s01 : IntKind.i64.wrap (0 + 1) = 1 := by decide
  have s12 : IntKind.i64.wrap (1 + 1) = 2 := by decide
  by_cases q : m < 10
  · rw [dec_one q]
    have a0 : lAt (u8s ((r, [d1 m]) : state_reader × Str).2) 0 = some ((d1 m).toNat : Int) := rfl
    have hl : ((u8s ((r, [d1 m]) : state_reader × Str).2).length : Int) = 1 := rfl
    have v := d1_v q
    have f : IntKind.i64.wrap (0 + (m : Int)) = m := by rw [wrapZ (by omega) (by omega)]; omega
    constructor
    · rw [state_reader_number.l1, hl, if_pos (by decide), a0, bsome, v, w0, f, s01, state_reader_number.l1, hl, if_neg (by decide)]
    · rw [state_reader_number.l3, hl, if_pos (by decide), a0, bsome, v, w0, f, s01, state_reader_number.l3, hl, if_neg (by decide)]
  · rw [dec_two q h]
    have a0 : lAt (u8s ((r, [d1 (m / 10), d1 (m % 10)]) : state_reader × Str).2) 0 = some ((d1 (m / 10)).toNat : Int) := rfl
    have a1 : lAt (u8s ((r, [d1 (m / 10), d1 (m % 10)]) : state_reader × Str).2) 1 = some ((d1 (m % 10)).toNat : Int) := rfl
    have hl : ((u8s ((r, [d1 (m / 10), d1 (m % 10)]) : state_reader × Str).2).length : Int) = 2 := rfl
    have v0 := d1_v (m := m / 10) (by omega)
    have v1 := d1_v (m := m % 10) (by omega)
    have f : IntKind.i64.wrap (0 + ((m / 10 : Nat) : Int)) = ((m / 10 : Nat) : Int) := by rw [wrapZ (by omega) (by omega)]; omega
    have f2 : IntKind.i64.wrap (IntKind.i64.wrap (10 * ((m / 10 : Nat) : Int)) + ((m % 10 : Nat) : Int)) = (m : Int) := by
      rw [wrapZ (x := 10 * ((m / 10 : Nat) : Int)) (by omega) (by omega), wrapZ (by omega) (by omega)]; omega
    constructor
    · rw [state_reader_number.l1, hl, if_pos (by decide), a0, bsome, v0, w0, f, s01, state_reader_number.l1, hl, if_pos (by decide), a1, bsome, v1, f2, s12, state_reader_number.l1, hl, if_neg (by decide)]
    · rw [state_reader_number.l3, hl, if_pos (by decide), a0, bsome, v0, w0, f, s01, state_reader_number.l3, hl, if_pos (by decide), a1, bsome, v1, f2, s12, state_reader_number.l3, hl, if_neg (by decide)]
end Go.Proofs.YtkcpghpglhamfaaGreatDoor.Sk
