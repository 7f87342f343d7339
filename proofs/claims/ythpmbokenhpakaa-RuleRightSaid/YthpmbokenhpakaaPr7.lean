/- Labels that a rule names. -/
import Derived.Test.YthpmbokenhpakaaPr5
import Derived.Test.YthpmbokenhpakaaLat2
set_option linter.unusedVariables false
set_option linter.unusedSimpArgs false
namespace Go.Proofs.Ythpmbokenhpakaa.Par
open Go Go.Proofs.Ythpmbokenhpakaa.Ab Go.Proofs.Ythpmbokenhpakaa.LF
open Go.Proofs.Ythpmbokenhpakaa.Lat (lAt_some)
open Go.Proofs.Ythpmbokenhpakaa.Lat (bAnd_nat bOr_nat bShr_nat wrapU32)
theorem bShl_nat {x k : Nat} (hk : k ≤ 20) (hx : x ≤ 1) : bShl .u32 (x : Int) (k : Int) = ((x <<< k : Nat) : Int) := by
  unfold bShl
  show IntKind.u32.wrap ((x : Int) * (2 ^ (min ((k : Int).toNat) 32) : Nat)) = _
  rw [Int.toNat_natCast, Nat.min_eq_left (by omega), ← Int.natCast_mul, Nat.shiftLeft_eq]
  refine wrapU32 ?_
  have : 2 ^ k ≤ 2 ^ 20 := Nat.pow_le_pow_right (by omega) hk
  have : x * 2 ^ k ≤ 1 * 2 ^ 20 := Nat.mul_le_mul hx this
  omega
def names (r : List Int) (j : Nat) : Bool := r.any fun op => decide (op = 8 + (j : Int))
theorem or_bit {v x : Nat} (hv : v < 16) (hx : x < 4) : bOr .u32 (v : Int) (bShl .u32 1 (x : Int)) = ((v ||| 1 <<< x : Nat) : Int) ∧ v ||| 1 <<< x < 16 := by
  have h1 : bShl .u32 1 (x : Int) = ((1 <<< x : Nat) : Int) := bShl_nat (x := 1) (by omega) (by omega)
  have h2 : 1 <<< x < 16 := by
    have : x = 0 ∨ x = 1 ∨ x = 2 ∨ x = 3 := by omega
    rcases this with rfl | rfl | rfl | rfl <;> decide
  rw [h1, bOr_nat (by omega) (by omega)]
  exact ⟨rfl, Nat.or_lt_two_pow (n := 4) hv h2⟩
theorem uses_l0 {r : List Int} (hr : r.length ≤ 900) : ∀ (d k v : Nat), r.length = k + d → v < 16 → ∃ u : Nat, rule_Uses.l0 r (k : Int) (v : Int) = some (u : Int) ∧ u < 16 ∧ ∀ j, j < 4 → u.testBit j = (v.testBit j || names (r.drop k) j)
  | 0, k, v, e, hv => ⟨v, by rw [rule_Uses.l0, if_neg (by omega)], hv, fun j hj => by rw [List.drop_of_length_le (by omega)]; simp [names]⟩
  | d + 1, k, v, e, hv => by
    have hk : k < r.length := by omega
    rw [List.drop_eq_getElem_cons hk]
    by_cases hop : 8 ≤ r[k] ∧ r[k] ≤ 11
    · obtain ⟨x, hx, hxo⟩ : ∃ x : Nat, x < 4 ∧ r[k] = 8 + (x : Int) := ⟨(r[k] - 8).toNat, by omega, by omega⟩
      obtain ⟨o1, o2⟩ := or_bit hv hx
      obtain ⟨u, h1, h2, h3⟩ := uses_l0 hr d (k + 1) (v ||| 1 <<< x) (by omega) o2
      have hw : IntKind.i64.wrap (r[k] - 8) = (x : Int) := by rw [wrapZ (by omega) (by omega)]; omega
      refine ⟨u, ?_, h2, fun j hj => ?_⟩
      · have hb : ((if r[k] ≥ 8 then (some (decide (r[k] ≤ 11))) else (some false) : Option Bool)) = some true := by rw [if_pos hop.1, decide_eq_true hop.2]
        rw [rule_Uses.l0, if_pos (by omega), lAt_some hk, bsome, hb, bsome, if_pos rfl, hw, if_pos (by omega), bsome, o1, wS (by omega)]
        exact h1
      · rw [h3 j hj, Nat.testBit_or, Nat.testBit_shiftLeft]
        unfold names
        rw [List.any_cons, hxo]
        by_cases hjx : j = x
        · subst hjx; simp
        · have h1 : ((j ≥ x : Bool) && Nat.testBit 1 (j - x)) = false := by
            by_cases q : j ≥ x
            · have : 1 ≤ j - x := by omega
              have h0 : Nat.testBit 1 (j - x) = false := Nat.testBit_lt_two_pow (Nat.lt_of_lt_of_le (by decide) (Nat.pow_le_pow_right (n := 2) (by omega) this))
              simp [h0]
            · simp [q]
          have h2 : decide ((8 : Int) + (x : Int) = 8 + (j : Int)) = false := decide_eq_false (by omega)
          rw [h1, h2]; simp
    · obtain ⟨u, h1, h2, h3⟩ := uses_l0 hr d (k + 1) v (by omega) hv
      refine ⟨u, ?_, h2, fun j hj => ?_⟩
      · have hb : ((if r[k] ≥ 8 then (some (decide (r[k] ≤ 11))) else (some false) : Option Bool)) = some false := by
          by_cases q : r[k] ≥ 8
          · rw [if_pos q, decide_eq_false (fun q2 => hop ⟨q, q2⟩)]
          · rw [if_neg q]
        rw [rule_Uses.l0, if_pos (by omega), lAt_some hk, bsome, hb, bsome, if_neg (by decide), bsome, wS (by omega)]
        exact h1
      · rw [h3 j hj]
        unfold names
        rw [List.any_cons, decide_eq_false (by omega), Bool.false_or]
theorem uses_eq {r : List Int} (hr : r.length ≤ 900) : ∃ u : Nat, u < 16 ∧ (∀ j, j < 4 → u.testBit j = names r j) ∧ rule_Uses.f r = some (match right r with | none => (0, 1) | some _ => ((u : Int), 0)) := by
  obtain ⟨u, h1, h2, h3⟩ := uses_l0 hr r.length 0 0 (by omega) (by omega)
  refine ⟨u, h2, fun j hj => by rw [h3 j hj]; simp, ?_⟩
  unfold rule_Uses.f
  rw [made_eq hr, bsome]
  rw [show ((0 : Nat) : Int) = 0 from rfl] at h1
  cases right r with
  | none => rfl
  | some b => rw [if_neg (show ¬ ((!true) = true) by decide), h1, bsome]
end Go.Proofs.Ythpmbokenhpakaa.Par
