/- The order: what is wrong with a pair. -/
import Derived.Test.YthpmbokenhpakaaLat5
set_option linter.unusedVariables false
namespace Go.Proofs.Ythpmbokenhpakaa.Lat
open Go Go.Proofs.Ythpmbokenhpakaa.Ab Go.Proofs.Ythpmbokenhpakaa.LA
open Classical
theorem bAndNot_zero {a b : Nat} (ha : a < 4294967296) (hb : b < 4294967296) : bAndNot .u32 (a : Int) (b : Int) = 0 ↔ ∀ c, a.testBit c = true → b.testBit c = true := by
  unfold bAndNot
  show IntKind.u32.wrap (((BitVec.ofInt 32 (a : Int) &&& ~~~BitVec.ofInt 32 (b : Int)).toNat : Nat) : Int) = 0 ↔ _
  rw [wrapU32 (BitVec.isLt _)]
  have hbit : ∀ c, ((BitVec.ofInt 32 (a : Int) &&& ~~~BitVec.ofInt 32 (b : Int)).toNat).testBit c = (a.testBit c && !b.testBit c) := by
    intro c
    rw [BitVec.testBit_toNat, BitVec.getLsbD_and, BitVec.getLsbD_not, ← BitVec.testBit_toNat, ← BitVec.testBit_toNat, ofInt_nat ha, ofInt_nat hb]
    by_cases hc : c < 32
    · simp [hc]
    · have : a.testBit c = false := Nat.testBit_lt_two_pow (Nat.lt_of_lt_of_le ha (Nat.pow_le_pow_right (n := 2) (by omega) (show 32 ≤ c by omega)))
      simp [this]
  constructor
  · intro h c hc
    have h0 : (BitVec.ofInt 32 (a : Int) &&& ~~~BitVec.ofInt 32 (b : Int)).toNat = 0 := by omega
    have := hbit c
    rw [h0, hc] at this
    simpa using this
  · intro h
    have h0 : (BitVec.ofInt 32 (a : Int) &&& ~~~BitVec.ofInt 32 (b : Int)).toNat = 0 := by
      apply Nat.eq_of_testBit_eq
      intro c
      rw [hbit c]
      cases hc : a.testBit c with
      | false => simp
      | true => simp [h c hc]
    rw [h0]; rfl
def le (U : List Nat) (a b : Nat) : Bool := (U.getD a 0).testBit b
theorem le_get {U : List Nat} {a b : Nat} (ha : a < U.length) : le U a b = U[a].testBit b := by simp [le, ha]
/-- All that is above b is above a. -/
def Above (U : List Nat) (a b : Nat) : Prop := ∀ c, c < 32 → le U b c = true → le U a c = true
noncomputable def badO (U : List Nat) (a b : Nat) : Bool := (if a = b then !le U a b else le U a b && le U b a) || (le U a b && !decide (Above U a b))
theorem order_y0 {l : api_Lattice} {U : List Nat} (h : Is l U) {a b : Nat} (ha : a < U.length) (hb : b < U.length) :
    lattice_order.y0 l () (a : Int) (b : Int) = some (if badO U a b then (false, ((), 1)) else (true, ((), 0))) := by
  have hl := h.len
  have hz : (decide (bAndNot .u32 ((U[b] : Nat) : Int) ((U[a] : Nat) : Int) = 0)) = decide (Above U a b) := by
    unfold Above
    rw [decide_eq_decide, bAndNot_zero (h.u hb) (h.u ha)]
    constructor
    · intro q c _ hc; rw [le_get hb] at hc; rw [le_get ha]; exact q c hc
    · intro q c hc
      have hc32 : c < 32 := by
        rcases Nat.lt_or_ge c 32 with q | q
        · exact q
        · rw [Nat.testBit_lt_two_pow (Nat.lt_of_lt_of_le (h.u hb) (Nat.pow_le_pow_right (n := 2) (by omega) q))] at hc; cases hc
      have := q c hc32 (by rw [le_get hb]; exact hc)
      rwa [le_get ha] at this
  unfold lattice_order.y0
  rw [flows_eq h ha (by omega), flows_eq h hb (by omega), h.at_ hb, h.at_ ha, ← le_get ha, ← le_get hb]
  unfold badO
  by_cases hS : Above U a b <;> simp only [hS, decide_true, decide_false] at hz ⊢
  all_goals
    by_cases e : a = b
    · subst e
      simp only [if_true, Option.bind_eq_bind, Option.bind_some]
      cases h1 : le U a a <;> simp [hz]
    · have e' : ¬ (a : Int) = (b : Int) := by omega
      simp only [if_neg e, if_neg e', Option.bind_eq_bind, Option.bind_some]
      cases h1 : le U a b <;> cases h2 : le U b a <;> simp [hz]
end Go.Proofs.Ythpmbokenhpakaa.Lat
