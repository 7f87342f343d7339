/- All of two labels, one after the other. -/
import Derived.Test.YthpmbokenhpakaaLat4
set_option linter.unusedVariables false
namespace Go.Proofs.Ythpmbokenhpakaa.Lat
open Go Go.Proofs.Ythpmbokenhpakaa.Ab Go.Proofs.Ythpmbokenhpakaa.LA
open Classical
section
variable {τ : Type} {yb : τ → Int → Int → Option (Bool × (τ × Nat))} {n : Nat} {t t' : τ} {bad : Nat → Nat → Bool}
theorem pairs_l3 (hn : n ≤ 1000) (a : Nat) (h : ∀ b, b < n → yb t a b = some (if bad a b then (false, (t', 1)) else (true, (t, 0)))) :
    ∀ (d k : Nat), n = k + d → lattice_pairs_1.l3 (yOf yb) (n : Int) (a : Int) (t, 0) (k : Int) = some (if ∃ b, k ≤ b ∧ b < n ∧ bad a b = true then .inl (t', 1) else .inr (t, 0)) := by
  intro d
  induction d with
  | zero =>
    intro k e
    rw [lattice_pairs_1.l3, if_neg (by omega), if_neg (by rintro ⟨b, h1, h2, _⟩; omega)]
  | succ d ih =>
    intro k e
    rw [lattice_pairs_1.l3, if_pos (by omega)]
    rw [show yOf yb (t, 0) (a : Int) (k : Int) = yb t a k from rfl, h k (by omega)]
    by_cases hb : bad a k = true
    · rw [if_pos hb, if_pos ⟨k, Nat.le_refl _, by omega, hb⟩]; rfl
    · rw [if_neg hb]
      show lattice_pairs_1.l3 (yOf yb) (n : Int) (a : Int) (t, 0) (IntKind.i64.wrap ((k : Int) + 1)) = _
      rw [wrap64 (by omega) (by omega), show ((k : Int) + 1) = ((k + 1 : Nat) : Int) by omega, ih (k + 1) (by omega)]
      congr 1
      by_cases h1 : ∃ b, k + 1 ≤ b ∧ b < n ∧ bad a b = true
      · rw [if_pos h1]
        obtain ⟨b, q1, q2, q3⟩ := h1
        rw [if_pos ⟨b, by omega, q2, q3⟩]
      · rw [if_neg h1, if_neg]
        rintro ⟨b, q1, q2, q3⟩
        rcases Nat.lt_or_ge k b with q | q
        · exact h1 ⟨b, q, q2, q3⟩
        · exact hb (by rw [show k = b by omega]; exact q3)
theorem pairs_l2 (hn : n ≤ 1000) (h : ∀ a b, a < n → b < n → yb t a b = some (if bad a b then (false, (t', 1)) else (true, (t, 0)))) :
    ∀ (d k : Nat), n = k + d → lattice_pairs_1.l2 (yOf yb) (n : Int) (t, 0) (k : Int) = some (if ∃ a b, k ≤ a ∧ a < n ∧ b < n ∧ bad a b = true then .inl (t', 1) else .inr (t, 0)) := by
  intro d
  induction d with
  | zero =>
    intro k e
    rw [lattice_pairs_1.l2, if_neg (by omega), if_neg (by rintro ⟨a, b, h1, h2, _⟩; omega)]
  | succ d ih =>
    intro k e
    rw [lattice_pairs_1.l2, if_pos (by omega)]
    have := pairs_l3 (t' := t') hn k (fun b hb => h k b (by omega) hb) n 0 (by omega)
    rw [show ((0 : Nat) : Int) = 0 from rfl] at this
    rw [this]
    by_cases hb : ∃ b, 0 ≤ b ∧ b < n ∧ bad k b = true
    · rw [if_pos hb]
      obtain ⟨b, _, q2, q3⟩ := hb
      rw [if_pos ⟨k, b, Nat.le_refl _, by omega, q2, q3⟩]; rfl
    · rw [if_neg hb]
      show lattice_pairs_1.l2 (yOf yb) (n : Int) (t, 0) (IntKind.i64.wrap ((k : Int) + 1)) = _
      rw [wrap64 (by omega) (by omega), show ((k : Int) + 1) = ((k + 1 : Nat) : Int) by omega, ih (k + 1) (by omega)]
      congr 1
      by_cases h1 : ∃ a b, k + 1 ≤ a ∧ a < n ∧ b < n ∧ bad a b = true
      · rw [if_pos h1]
        obtain ⟨a, b, q0, q1, q2, q3⟩ := h1
        rw [if_pos ⟨a, b, by omega, q1, q2, q3⟩]
      · rw [if_neg h1, if_neg]
        rintro ⟨a, b, q0, q1, q2, q3⟩
        rcases Nat.lt_or_ge k a with q | q
        · exact h1 ⟨a, b, q, q1, q2, q3⟩
        · exact hb ⟨b, Nat.zero_le _, q2, by rw [show k = a by omega]; exact q3⟩
theorem pairs_eq (hn : n ≤ 1000) (h : ∀ a b, a < n → b < n → yb t a b = some (if bad a b then (false, (t', 1)) else (true, (t, 0)))) :
    lattice_pairs_1.f (yOf yb) (t, 0) (n : Int) = some (if ∃ a b, a < n ∧ b < n ∧ bad a b = true then (t', 1) else (t, 0)) := by
  unfold lattice_pairs_1.f
  have := pairs_l2 (t' := t') hn h n 0 (by omega)
  rw [show ((0 : Nat) : Int) = 0 from rfl] at this
  rw [this]
  by_cases h1 : ∃ a b, a < n ∧ b < n ∧ bad a b = true
  · rw [if_pos h1]
    obtain ⟨a, b, q⟩ := h1
    rw [if_pos ⟨a, b, Nat.zero_le _, q⟩]; rfl
  · rw [if_neg h1, if_neg (fun ⟨a, b, _, q⟩ => h1 ⟨a, b, q⟩)]; rfl
end
end Go.Proofs.Ythpmbokenhpakaa.Lat
