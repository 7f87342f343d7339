/- The order, by the reference. -/
import Derived.Test.YthpmbokenhpakaaLat7
set_option linter.unusedVariables false
namespace Go.Proofs.Ythpmbokenhpakaa.Lat
open Go Go.Proofs.Ythpmbokenhpakaa.Ab Go.Proofs.Ythpmbokenhpakaa.LA
open Classical
def bad12 (U : List Nat) (a b c : Nat) : Bool := le U a b && le U b c && !le U a c
def bad11 (U : List Nat) (a b : Nat) : Bool := !decide (a = b) && le U a b && le U b a
theorem order_l12 {l : api_Lattice} {U : List Nat} (h : Is l U) {a b : Nat} (ha : a < U.length) (hb : b < U.length) :
    reticentref01_order.l12 l (a : Int) (b : Int) 0 = some (out (fstOf U.length fun c => if bad12 U a b c then some false else none)) := by
  have hl := h.len
  refine search (fun k => reticentref01_order.l12 l (a : Int) (b : Int) k) U.length _ ?_ ?_
  · show reticentref01_order.l12 l (a : Int) (b : Int) (U.length : Int) = _
    rw [reticentref01_order.l12, h.n, if_neg (by omega)]
  · intro c hc
    show reticentref01_order.l12 l (a : Int) (b : Int) (c : Int) = _
    rw [reticentref01_order.l12, h.n, if_pos (by omega), refFlows_eq h ha (by omega), refFlows_eq h hb (by omega), refFlows_eq h ha (by omega), ← le_get ha, ← le_get ha, ← le_get hb, step1 (by omega) hc]
    unfold bad12
    cases h1 : le U a b <;> cases h2 : le U b c <;> cases h3 : le U a c <;> simp
theorem fst_bool {ρ : Type} {n : Nat} {f : Nat → Bool} {r : ρ} : (fstOf n fun k => if f k then some r else none) = if decide (∃ k, k < n ∧ f k = true) = true then some r else none := by
  rw [fst_const (r := r) (by intro k s e; split at e <;> simp_all)]
  have e : (∃ k, k < n ∧ (if f k = true then some r else none : Option ρ) ≠ none) ↔ ∃ k, k < n ∧ f k = true := by
    constructor
    · rintro ⟨k, hk, hb⟩; exact ⟨k, hk, by split at hb <;> simp_all⟩
    · rintro ⟨k, hk, hb⟩; exact ⟨k, hk, by rw [if_pos hb]; simp⟩
  by_cases q : ∃ k, k < n ∧ f k = true
  · rw [if_pos (e.2 q), decide_eq_true q]; rfl
  · rw [if_neg (fun k => q (e.1 k)), decide_eq_false q]; rfl
noncomputable def bad2 (U : List Nat) (a b : Nat) : Bool := bad11 U a b || decide (∃ c, c < U.length ∧ bad12 U a b c = true)
noncomputable def bad1 (U : List Nat) (a : Nat) : Bool := !le U a a || decide (∃ b, b < U.length ∧ bad2 U a b = true)
theorem order_l11 {l : api_Lattice} {U : List Nat} (h : Is l U) {a : Nat} (ha : a < U.length) :
    reticentref01_order.l11 l (a : Int) 0 = some (out (fstOf U.length fun b => if bad2 U a b then some false else none)) := by
  have hl := h.len
  refine search (fun k => reticentref01_order.l11 l (a : Int) k) U.length _ ?_ ?_
  · show reticentref01_order.l11 l (a : Int) (U.length : Int) = _
    rw [reticentref01_order.l11, h.n, if_neg (by omega)]
  · intro b hb
    show reticentref01_order.l11 l (a : Int) (b : Int) = _
    rw [reticentref01_order.l11, h.n, if_pos (by omega), refFlows_eq h ha (by omega), refFlows_eq h hb (by omega), ← le_get ha, ← le_get hb, order_l12 h ha hb, step1 (by omega) hb, fst_bool]
    have e2 : ((a : Int) = (b : Int)) ↔ a = b := Int.natCast_inj
    unfold bad2 bad11
    simp only [e2]
    generalize decide (∃ c, c < U.length ∧ bad12 U a b c = true) = P
    by_cases hab : a = b <;> cases P <;> cases h1 : le U a b <;> cases h2 : le U b a <;> simp [hab, out]
theorem order_ref {l : api_Lattice} {U : List Nat} (h : Is l U) :
    reticentref01_order.f l = some (decide (¬ ∃ a, a < U.length ∧ bad1 U a = true)) := by
  have hl := h.len
  unfold reticentref01_order.f
  have key : reticentref01_order.l8 l 0 = some (out (fstOf U.length fun a => if bad1 U a then some false else none)) := by
    refine search (fun k => reticentref01_order.l8 l k) U.length _ ?_ ?_
    · show reticentref01_order.l8 l (U.length : Int) = _
      rw [reticentref01_order.l8, h.n, if_neg (by omega)]
    · intro a ha
      show reticentref01_order.l8 l (a : Int) = _
      rw [reticentref01_order.l8, h.n, if_pos (by omega), refFlows_eq h ha (by omega), ← le_get ha, order_l11 h ha, step1 (by omega) ha, fst_bool]
      unfold bad1
      generalize decide (∃ b, b < U.length ∧ bad2 U a b = true) = P
      cases P <;> cases h1 : le U a a <;> simp [out]
  rw [key, fst_bool]
  rw [decide_not]
  generalize decide (∃ a, a < U.length ∧ bad1 U a = true) = P
  cases P <;> simp [out]
/-- An order, of labels as numbers. -/
structure Ord (U : List Nat) : Prop where
  refl : ∀ a, a < U.length → le U a a = true
  anti : ∀ a b, a < U.length → b < U.length → le U a b = true → le U b a = true → a = b
  trans : ∀ a b c, a < U.length → b < U.length → c < U.length → le U a b = true → le U b c = true → le U a c = true
theorem ord_ref {U : List Nat} : (¬ ∃ a, a < U.length ∧ bad1 U a = true) ↔ Ord U := by
  have e : (∃ a, a < U.length ∧ bad1 U a = true) ↔ ∃ a, a < U.length ∧ (le U a a = false ∨ ∃ b, b < U.length ∧ (bad11 U a b = true ∨ ∃ c, c < U.length ∧ bad12 U a b c = true)) := by
    simp only [bad1, bad2, Bool.or_eq_true, decide_eq_true_iff, Bool.not_eq_true']
  rw [e]
  constructor
  · intro q
    refine ⟨fun a ha => ?_, fun a b ha hb h1 h2 => ?_, fun a b c ha hb hc h1 h2 => ?_⟩
    · cases e : le U a a with
      | true => rfl
      | false => exact absurd ⟨a, ha, .inl e⟩ q
    · apply Classical.byContradiction
      intro e
      exact q ⟨a, ha, .inr ⟨b, hb, .inl (by simp [bad11, e, h1, h2])⟩⟩
    · cases e : le U a c with
      | true => rfl
      | false => exact absurd ⟨a, ha, .inr ⟨b, hb, .inr ⟨c, hc, by simp [bad12, e, h1, h2]⟩⟩⟩ q
  · rintro q ⟨a, ha, h1 | ⟨b, hb, h1 | ⟨c, hc, h1⟩⟩⟩
    · rw [q.refl a ha] at h1; cases h1
    · simp [bad11] at h1
      exact h1.1.1 (q.anti a b ha hb h1.1.2 h1.2)
    · simp [bad12] at h1
      rw [q.trans a b c ha hb hc h1.1.1 h1.1.2] at h1; simp at h1
theorem le_far {U : List Nat} (hU : ∀ x ∈ U, x < 2 ^ U.length) {a c : Nat} (h : le U a c = true) : c < U.length := by
  rcases Nat.lt_or_ge c U.length with q | q
  · exact q
  · unfold le at h
    have hx : U.getD a 0 < 2 ^ U.length := by
      rcases Nat.lt_or_ge a U.length with q2 | q2
      · have := hU _ (List.getElem_mem q2)
        simpa [List.getD, q2] using this
      · have : U.getD a 0 = 0 := by simp [List.getD, q2]
        rw [this]; exact Nat.pow_pos (by omega)
    rw [Nat.testBit_lt_two_pow (Nat.lt_of_lt_of_le hx (Nat.pow_le_pow_right (n := 2) (by omega) q))] at h
    cases h
theorem ord_lat {U : List Nat} (hn : U.length ≤ 10) (hU : ∀ x ∈ U, x < 2 ^ U.length) : (¬ ∃ a b, a < U.length ∧ b < U.length ∧ badO U a b = true) ↔ Ord U := by
  constructor
  · intro q
    refine ⟨fun a ha => ?_, fun a b ha hb h1 h2 => ?_, fun a b c ha hb hc h1 h2 => ?_⟩
    · cases e : le U a a with
      | true => rfl
      | false => exact absurd ⟨a, a, ha, ha, by simp [badO, e]⟩ q
    · apply Classical.byContradiction
      intro e
      exact q ⟨a, b, ha, hb, by simp [badO, e, h1, h2]⟩
    · cases e : le U a c with
      | true => rfl
      | false =>
        refine absurd ⟨a, b, ha, hb, ?_⟩ q
        have : ¬ Above U a b := fun k => by rw [k c (by omega) h2] at e; cases e
        simp [badO, h1, this]
  · rintro q ⟨a, b, ha, hb, h1⟩
    unfold badO at h1
    rw [Bool.or_eq_true] at h1
    rcases h1 with h1 | h1
    · by_cases e : a = b
      · subst e; rw [if_pos rfl, q.refl a ha] at h1; cases h1
      · rw [if_neg e, Bool.and_eq_true] at h1; exact e (q.anti a b ha hb h1.1 h1.2)
    · rw [Bool.and_eq_true] at h1
      have : Above U a b := fun c _ hc => q.trans a b c ha hb (le_far hU hc) h1.1 hc
      simp [this] at h1
theorem order_same {l : api_Lattice} {U : List Nat} (h : Is l U) (hU : ∀ x ∈ U, x < 2 ^ U.length) : lattice_order.f l = some (decide (Ord U)) ∧ reticentref01_order.f l = some (decide (Ord U)) := by
  rw [order_eq h, order_ref h]
  exact ⟨by simp only [ord_lat h.len hU], by simp only [ord_ref]⟩
end Go.Proofs.Ythpmbokenhpakaa.Lat
