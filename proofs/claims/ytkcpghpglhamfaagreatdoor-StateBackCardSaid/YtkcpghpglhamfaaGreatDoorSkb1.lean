/- Plain laws, by program out of this seat's plain texts. -/
import Derived.Test.YtkcpghpglhamfaaGreatDoorGSK
set_option linter.unusedVariables false
set_option linter.unusedSimpArgs false
set_option linter.unusedSectionVars false
namespace Go.Proofs.YtkcpghpglhamfaaGreatDoor.Sk
open Go Go.Proofs.YtkcpghpglhamfaaGreatDoor.Ab Go.Proofs.YtkcpghpglhamfaaGreatDoor.SK
section
theorem wrap64 {x : Int} (h0 : 0 ≤ x) (h1 : x < 9223372036854775808) : IntKind.i64.wrap x = x := by
  have e : x % (18446744073709551616 : Int) = x := Int.emod_eq_of_lt h0 (by omega)
  show (if (true && decide (x % 18446744073709551616 ≥ 9223372036854775808)) = true then x % 18446744073709551616 - 18446744073709551616 else x % 18446744073709551616) = x
  rw [e, if_neg]
  simp
  omega
theorem lAt_some {α : Type} {xs : List α} {i : Nat} (h : i < xs.length) : lAt xs (i : Int) = some xs[i] := by
  simp [lAt, h]
end
section
theorem wrapU32 {m : Nat} (h : m < 4294967296) : IntKind.u32.wrap (m : Int) = (m : Int) := by
  have e : (m : Int) % (4294967296 : Int) = (m : Int) := Int.emod_eq_of_lt (by omega) (by omega)
  show (if (false && decide ((m : Int) % 4294967296 ≥ 2147483648)) = true then (m : Int) % 4294967296 - 4294967296 else (m : Int) % 4294967296) = m
  rw [e, if_neg]
  simp
theorem ofInt_nat {m : Nat} (h : m < 4294967296) : (BitVec.ofInt 32 (m : Int)).toNat = m := by
  rw [BitVec.ofInt_natCast, BitVec.toNat_ofNat]
  exact Nat.mod_eq_of_lt h
theorem bAnd_nat {a b : Nat} (ha : a < 4294967296) (hb : b < 4294967296) : bAnd .u32 (a : Int) (b : Int) = ((a &&& b : Nat) : Int) := by
  unfold bAnd
  show IntKind.u32.wrap (((BitVec.ofInt 32 (a : Int) &&& BitVec.ofInt 32 (b : Int)).toNat : Nat) : Int) = _
  rw [BitVec.toNat_and, ofInt_nat ha, ofInt_nat hb]
  exact wrapU32 (Nat.lt_of_le_of_lt Nat.and_le_left ha)
theorem bOr_nat {a b : Nat} (ha : a < 4294967296) (hb : b < 4294967296) : bOr .u32 (a : Int) (b : Int) = ((a ||| b : Nat) : Int) := by
  unfold bOr
  show IntKind.u32.wrap (((BitVec.ofInt 32 (a : Int) ||| BitVec.ofInt 32 (b : Int)).toNat : Nat) : Int) = _
  rw [BitVec.toNat_or, ofInt_nat ha, ofInt_nat hb]
  exact wrapU32 (Nat.or_lt_two_pow (n := 32) ha hb)
theorem bShr_nat {a k : Nat} (hk : k ≤ 32) : bShr .u32 (a : Int) (k : Int) = ((a >>> k : Nat) : Int) := by
  unfold bShr
  show (a : Int).fdiv (2 ^ (min ((k : Int).toNat) 32)) = _
  rw [Int.toNat_natCast, Nat.min_eq_left hk, Nat.shiftRight_eq_div_pow]
  rw [Int.fdiv_eq_ediv_of_nonneg _ (Int.le_of_lt (Int.pow_pos (by omega)))]
  norm_cast
end
section
open Classical
structure Is (l : api_Lattice) (U : List Nat) : Prop where
  up : l.Up = U.map (fun x : Nat => (x : Int))
  lt : ∀ x ∈ U, x < 4294967296
  len : U.length ≤ 10
theorem Is.n {l : api_Lattice} {U : List Nat} (h : Is l U) : l.Up.length = U.length := by rw [h.up]; simp
theorem Is.at_ {l : api_Lattice} {U : List Nat} (h : Is l U) {i : Nat} (hi : i < U.length) : lAt l.Up (i : Int) = some ((U[i] : Nat) : Int) := by
  rw [h.up, lAt_some (by simpa using hi)]
  simp
theorem Is.u {l : api_Lattice} {U : List Nat} (h : Is l U) {i : Nat} (hi : i < U.length) : U[i] < 4294967296 := h.lt _ (List.getElem_mem hi)
theorem shr1 (u b : Nat) : ((u >>> b) &&& 1 = 1) ↔ u.testBit b = true := by
  rw [Nat.testBit, Nat.and_comm]
  rw [Nat.one_and_eq_mod_two]
  simp
theorem flows_eq {l : api_Lattice} {U : List Nat} (h : Is l U) {a b : Nat} (ha : a < U.length) (hb : b ≤ 31) : lattice_flows.f l a b = some (U[a].testBit b) := by
  unfold lattice_flows.f
  rw [h.at_ ha]
  show (if ¬ (b : Int) < 0 then some (decide (bAnd .u32 (bShr .u32 (U[a] : Nat) b) 1 = 1)) else none) = _
  rw [if_pos (by omega), bShr_nat (by omega)]
  have hs : U[a] >>> b < 4294967296 := Nat.lt_of_le_of_lt (by rw [Nat.shiftRight_eq_div_pow]; exact Nat.div_le_self ..) (h.u ha)
  rw [show (1 : Int) = ((1 : Nat) : Int) from rfl, bAnd_nat hs (by omega)]
  congr 1
  rw [Bool.eq_iff_iff, decide_eq_true_iff, ← shr1]
  exact Int.natCast_inj
section
variable {τ : Type} {yb : τ → Int → Int → Option (Bool × (τ × Nat))} {n : Nat} {t t' : τ} {bad : Nat → Nat → Bool}
theorem pairs_l3 (hn : n ≤ 1000) (a : Nat) (h : ∀ b, b < n → yb t a b = some (if bad a b then (false, (t', 1)) else (true, (t, 0)))) :
    ∀ (d k : Nat), n = k + d → lattice_pairs_1.l3 (yOf yb) (n : Int) (a : Int) (t, 0) (k : Int) = some (if ∃ b, k ≤ b ∧ b < n ∧ bad a b = true then .inl (t', 1) else .inr (t, 0)) := by
  intro d
  induction d with
  | zero =>
    intro k e
    rw [lattice_pairs_1.l3, if_neg (by omega), if_neg (by rintro ⟨b, h1, h2, _⟩; omega)]
  | succ d ih =>
    intro k e
    rw [lattice_pairs_1.l3, if_pos (by omega)]
    rw [show yOf yb (t, 0) (a : Int) (k : Int) = yb t a k from rfl, h k (by omega)]
    by_cases hb : bad a k = true
    · rw [if_pos hb, if_pos ⟨k, Nat.le_refl _, by omega, hb⟩]; rfl
    · rw [if_neg hb]
      show lattice_pairs_1.l3 (yOf yb) (n : Int) (a : Int) (t, 0) (IntKind.i64.wrap ((k : Int) + 1)) = _
      rw [wrap64 (by omega) (by omega), show ((k : Int) + 1) = ((k + 1 : Nat) : Int) by omega, ih (k + 1) (by omega)]
      congr 1
      by_cases h1 : ∃ b, k + 1 ≤ b ∧ b < n ∧ bad a b = true
      · rw [if_pos h1]
        obtain ⟨b, q1, q2, q3⟩ := h1
        rw [if_pos ⟨b, by omega, q2, q3⟩]
      · rw [if_neg h1, if_neg]
        rintro ⟨b, q1, q2, q3⟩
        rcases Nat.lt_or_ge k b with q | q
        · exact h1 ⟨b, q, q2, q3⟩
        · exact hb (by rw [show k = b by omega]; exact q3)
theorem pairs_l2 (hn : n ≤ 1000) (h : ∀ a b, a < n → b < n → yb t a b = some (if bad a b then (false, (t', 1)) else (true, (t, 0)))) :
    ∀ (d k : Nat), n = k + d → lattice_pairs_1.l2 (yOf yb) (n : Int) (t, 0) (k : Int) = some (if ∃ a b, k ≤ a ∧ a < n ∧ b < n ∧ bad a b = true then .inl (t', 1) else .inr (t, 0)) := by
  intro d
  induction d with
  | zero =>
    intro k e
    rw [lattice_pairs_1.l2, if_neg (by omega), if_neg (by rintro ⟨a, b, h1, h2, _⟩; omega)]
  | succ d ih =>
    intro k e
    rw [lattice_pairs_1.l2, if_pos (by omega)]
    have := pairs_l3 (t' := t') hn k (fun b hb => h k b (by omega) hb) n 0 (by omega)
    rw [show ((0 : Nat) : Int) = 0 from rfl] at this
    rw [this]
    by_cases hb : ∃ b, 0 ≤ b ∧ b < n ∧ bad k b = true
    · rw [if_pos hb]
      obtain ⟨b, _, q2, q3⟩ := hb
      rw [if_pos ⟨k, b, Nat.le_refl _, by omega, q2, q3⟩]; rfl
    · rw [if_neg hb]
      show lattice_pairs_1.l2 (yOf yb) (n : Int) (t, 0) (IntKind.i64.wrap ((k : Int) + 1)) = _
      rw [wrap64 (by omega) (by omega), show ((k : Int) + 1) = ((k + 1 : Nat) : Int) by omega, ih (k + 1) (by omega)]
      congr 1
      by_cases h1 : ∃ a b, k + 1 ≤ a ∧ a < n ∧ b < n ∧ bad a b = true
      · rw [if_pos h1]
        obtain ⟨a, b, q0, q1, q2, q3⟩ := h1
        rw [if_pos ⟨a, b, by omega, q1, q2, q3⟩]
      · rw [if_neg h1, if_neg]
        rintro ⟨a, b, q0, q1, q2, q3⟩
        rcases Nat.lt_or_ge k a with q | q
        · exact h1 ⟨a, b, q, q1, q2, q3⟩
        · exact hb ⟨b, Nat.zero_le _, q2, by rw [show k = a by omega]; exact q3⟩
theorem pairs_eq (hn : n ≤ 1000) (h : ∀ a b, a < n → b < n → yb t a b = some (if bad a b then (false, (t', 1)) else (true, (t, 0)))) :
    lattice_pairs_1.f (yOf yb) (t, 0) (n : Int) = some (if ∃ a b, a < n ∧ b < n ∧ bad a b = true then (t', 1) else (t, 0)) := by
  unfold lattice_pairs_1.f
  have := pairs_l2 (t' := t') hn h n 0 (by omega)
  rw [show ((0 : Nat) : Int) = 0 from rfl] at this
  rw [this]
  by_cases h1 : ∃ a b, a < n ∧ b < n ∧ bad a b = true
  · rw [if_pos h1]
    obtain ⟨a, b, q⟩ := h1
    rw [if_pos ⟨a, b, Nat.zero_le _, q⟩]; rfl
  · rw [if_neg h1, if_neg (fun ⟨a, b, _, q⟩ => h1 ⟨a, b, q⟩)]; rfl
end
theorem bAndNot_zero {a b : Nat} (ha : a < 4294967296) (hb : b < 4294967296) : bAndNot .u32 (a : Int) (b : Int) = 0 ↔ ∀ c, a.testBit c = true → b.testBit c = true := by
  unfold bAndNot
  show IntKind.u32.wrap (((BitVec.ofInt 32 (a : Int) &&& ~~~BitVec.ofInt 32 (b : Int)).toNat : Nat) : Int) = 0 ↔ _
  rw [wrapU32 (BitVec.isLt _)]
  have hbit : ∀ c, ((BitVec.ofInt 32 (a : Int) &&& ~~~BitVec.ofInt 32 (b : Int)).toNat).testBit c = (a.testBit c && !b.testBit c) := by
    intro c
    rw [BitVec.testBit_toNat, BitVec.getLsbD_and, BitVec.getLsbD_not, ← BitVec.testBit_toNat, ← BitVec.testBit_toNat, ofInt_nat ha, ofInt_nat hb]
    by_cases hc : c < 32
    · simp [hc]
    · have : a.testBit c = false := Nat.testBit_lt_two_pow (Nat.lt_of_lt_of_le ha (Nat.pow_le_pow_right (n := 2) (by omega) (show 32 ≤ c by omega)))
      simp [this]
  constructor
  · intro h c hc
    have h0 : (BitVec.ofInt 32 (a : Int) &&& ~~~BitVec.ofInt 32 (b : Int)).toNat = 0 := by omega
    have := hbit c
    rw [h0, hc] at this
    simpa using this
  · intro h
    have h0 : (BitVec.ofInt 32 (a : Int) &&& ~~~BitVec.ofInt 32 (b : Int)).toNat = 0 := by
      apply Nat.eq_of_testBit_eq
      intro c
      rw [hbit c]
      cases hc : a.testBit c with
      | false => simp
      | true => simp [h c hc]
    rw [h0]; rfl
def le (U : List Nat) (a b : Nat) : Bool := (U.getD a 0).testBit b
theorem le_get {U : List Nat} {a b : Nat} (ha : a < U.length) : le U a b = U[a].testBit b := by simp [le, ha]
def Above (U : List Nat) (a b : Nat) : Prop := ∀ c, c < 32 → le U b c = true → le U a c = true
noncomputable def badO (U : List Nat) (a b : Nat) : Bool := (if a = b then !le U a b else le U a b && le U b a) || (le U a b && !decide (Above U a b))
theorem order_y0 {l : api_Lattice} {U : List Nat} (h : Is l U) {a b : Nat} (ha : a < U.length) (hb : b < U.length) :
    lattice_order.y0 l () (a : Int) (b : Int) = some (if badO U a b then (false, ((), 1)) else (true, ((), 0))) := by
  have hl := h.len
  have hz : (decide (bAndNot .u32 ((U[b] : Nat) : Int) ((U[a] : Nat) : Int) = 0)) = decide (Above U a b) := by
    unfold Above
    rw [decide_eq_decide, bAndNot_zero (h.u hb) (h.u ha)]
    constructor
    · intro q c _ hc; rw [le_get hb] at hc; rw [le_get ha]; exact q c hc
    · intro q c hc
      have hc32 : c < 32 := by
        rcases Nat.lt_or_ge c 32 with q | q
        · exact q
        · rw [Nat.testBit_lt_two_pow (Nat.lt_of_lt_of_le (h.u hb) (Nat.pow_le_pow_right (n := 2) (by omega) q))] at hc; cases hc
      have := q c hc32 (by rw [le_get hb]; exact hc)
      rwa [le_get ha] at this
  unfold lattice_order.y0
  rw [flows_eq h ha (by omega), flows_eq h hb (by omega), h.at_ hb, h.at_ ha, ← le_get ha, ← le_get hb]
  unfold badO
  by_cases hS : Above U a b <;> simp only [hS, decide_true, decide_false] at hz ⊢
  all_goals
    by_cases e : a = b
    · subst e
      simp only [if_true, Option.bind_eq_bind, Option.bind_some]
      cases h1 : le U a a <;> simp [hz]
    · have e' : ¬ (a : Int) = (b : Int) := by omega
      simp only [if_neg e, if_neg e', Option.bind_eq_bind, Option.bind_some]
      cases h1 : le U a b <;> cases h2 : le U b a <;> simp [hz]
def fstOf {ρ : Type} (n : Nat) (bad : Nat → Option ρ) : Option ρ := (List.range n).findSome? bad
def out {ρ : Type} : Option ρ → ρ ⊕ Unit
  | some r => .inl r
  | none => .inr ()
theorem search {ρ : Type} (L : Int → Option (ρ ⊕ Unit)) (n : Nat) (bad : Nat → Option ρ) (hend : L (n : Int) = some (.inr ()))
    (hstep : ∀ k, k < n → L (k : Int) = (match bad k with | some r => some (.inl r) | none => L ((k + 1 : Nat) : Int))) : L 0 = some (out (fstOf n bad)) := by
  have key : ∀ d k, n = k + d → L (k : Int) = some (out ((List.range' k d).findSome? bad)) := by
    intro d
    induction d with
    | zero => intro k e; rw [show k = n by omega, hend]; rfl
    | succ d ih =>
      intro k e
      rw [hstep k (by omega), List.range'_succ, List.findSome?_cons]
      cases hb : bad k with
      | some r => rfl
      | none => exact ih (k + 1) (by omega)
  have := key n 0 (by omega)
  rw [← List.range_eq_range'] at this
  exact this
theorem fst_none {ρ : Type} {n : Nat} {bad : Nat → Option ρ} : fstOf n bad = none ↔ ∀ k, k < n → bad k = none := by
  unfold fstOf
  rw [List.findSome?_eq_none_iff]
  simp
theorem fst_congr {ρ : Type} {n : Nat} {p q : Nat → Option ρ} (h : ∀ k, k < n → p k = q k) : fstOf n p = fstOf n q := by
  unfold fstOf
  have : ∀ l : List Nat, (∀ k ∈ l, k < n) → l.findSome? p = l.findSome? q := by
    intro l
    induction l with
    | nil => intro _; rfl
    | cons a l ih =>
      intro hl
      rw [List.findSome?_cons, List.findSome?_cons, h a (hl a (List.mem_cons_self ..)), ih (fun k hk => hl k (List.mem_cons_of_mem _ hk))]
  exact this _ (fun k hk => by simpa using hk)
theorem fst_const {ρ : Type} {n : Nat} {bad : Nat → Option ρ} {r : ρ} (h : ∀ k s, bad k = some s → s = r) : fstOf n bad = if ∃ k, k < n ∧ bad k ≠ none then some r else none := by
  cases hf : fstOf n bad with
  | none => rw [if_neg]; rintro ⟨k, hk, hb⟩; exact hb (fst_none.1 hf k hk)
  | some s =>
    have hs : s = r := by
      unfold fstOf at hf
      obtain ⟨k, _, hk⟩ := List.exists_of_findSome?_eq_some hf
      exact h k s hk
    rw [if_pos, hs]
    apply Classical.byContradiction
    intro hn
    have : fstOf n bad = none := fst_none.2 (fun k hk => Classical.byContradiction fun hb => hn ⟨k, hk, hb⟩)
    rw [this] at hf; cases hf
theorem step1 {k n : Nat} (h : n ≤ 1000) (hk : k < n) : IntKind.i64.wrap ((k : Int) + 1) = ((k + 1 : Nat) : Int) := by
  rw [wrap64 (by omega) (by omega)]; omega
theorem order_eq {l : api_Lattice} {U : List Nat} (h : Is l U) : lattice_order.f l = some (decide (¬ ∃ a b, a < U.length ∧ b < U.length ∧ badO U a b = true)) := by
  unfold lattice_order.f lattice_pairs.f
  have hl := h.len
  have := pairs_eq (t := ()) (t' := ()) (n := U.length) (yb := lattice_order.y0 l) (bad := badO U) (by omega) (fun a b ha hb => order_y0 h ha hb)
  rw [h.n]
  simp only [Option.bind_eq_bind, Option.bind_some]
  rw [this]
  by_cases hb : ∃ a b, a < U.length ∧ b < U.length ∧ badO U a b = true
  · rw [if_pos hb, decide_eq_false (fun k => k hb)]; rfl
  · rw [if_neg hb, decide_eq_true hb]; rfl
theorem fst_bool {ρ : Type} {n : Nat} {f : Nat → Bool} {r : ρ} : (fstOf n fun k => if f k then some r else none) = if decide (∃ k, k < n ∧ f k = true) = true then some r else none := by
  rw [fst_const (r := r) (by intro k s e; split at e <;> simp_all)]
  have e : (∃ k, k < n ∧ (if f k = true then some r else none : Option ρ) ≠ none) ↔ ∃ k, k < n ∧ f k = true := by
    constructor
    · rintro ⟨k, hk, hb⟩; exact ⟨k, hk, by split at hb <;> simp_all⟩
    · rintro ⟨k, hk, hb⟩; exact ⟨k, hk, by rw [if_pos hb]; simp⟩
  by_cases q : ∃ k, k < n ∧ f k = true
  · rw [if_pos (e.2 q), decide_eq_true q]; rfl
  · rw [if_neg (fun k => q (e.1 k)), decide_eq_false q]; rfl
structure Ord (U : List Nat) : Prop where
  refl : ∀ a, a < U.length → le U a a = true
  anti : ∀ a b, a < U.length → b < U.length → le U a b = true → le U b a = true → a = b
  trans : ∀ a b c, a < U.length → b < U.length → c < U.length → le U a b = true → le U b c = true → le U a c = true
theorem le_far {U : List Nat} (hU : ∀ x ∈ U, x < 2 ^ U.length) {a c : Nat} (h : le U a c = true) : c < U.length := by
  rcases Nat.lt_or_ge c U.length with q | q
  · exact q
  · unfold le at h
    have hx : U.getD a 0 < 2 ^ U.length := by
      rcases Nat.lt_or_ge a U.length with q2 | q2
      · have := hU _ (List.getElem_mem q2)
        simpa [List.getD, q2] using this
      · have : U.getD a 0 = 0 := by simp [List.getD, q2]
        rw [this]; exact Nat.pow_pos (by omega)
    rw [Nat.testBit_lt_two_pow (Nat.lt_of_lt_of_le hx (Nat.pow_le_pow_right (n := 2) (by omega) q))] at h
    cases h
theorem ord_lat {U : List Nat} (hn : U.length ≤ 10) (hU : ∀ x ∈ U, x < 2 ^ U.length) : (¬ ∃ a b, a < U.length ∧ b < U.length ∧ badO U a b = true) ↔ Ord U := by
  constructor
  · intro q
    refine ⟨fun a ha => ?_, fun a b ha hb h1 h2 => ?_, fun a b c ha hb hc h1 h2 => ?_⟩
    · cases e : le U a a with
      | true => rfl
      | false => exact absurd ⟨a, a, ha, ha, by simp [badO, e]⟩ q
    · apply Classical.byContradiction
      intro e
      exact q ⟨a, b, ha, hb, by simp [badO, e, h1, h2]⟩
    · cases e : le U a c with
      | true => rfl
      | false =>
        refine absurd ⟨a, b, ha, hb, ?_⟩ q
        have : ¬ Above U a b := fun k => by rw [k c (by omega) h2] at e; cases e
        simp [badO, h1, this]
  · rintro q ⟨a, b, ha, hb, h1⟩
    unfold badO at h1
    rw [Bool.or_eq_true] at h1
    rcases h1 with h1 | h1
    · by_cases e : a = b
      · subst e; rw [if_pos rfl, q.refl a ha] at h1; cases h1
      · rw [if_neg e, Bool.and_eq_true] at h1; exact e (q.anti a b ha hb h1.1 h1.2)
    · rw [Bool.and_eq_true] at h1
      have : Above U a b := fun c _ hc => q.trans a b c ha hb (le_far hU hc) h1.1 hc
      simp [this] at h1
theorem order_prog {l : api_Lattice} {U : List Nat} (h : Is l U) (hU : ∀ x ∈ U, x < 2 ^ U.length) : lattice_order.f l = some (decide (Ord U)) := by
  rw [order_eq h]
  exact (by simp only [ord_lat h.len hU])
end
section
open Classical
def far (s : Str) (k : Nat) : Bool := decide (sAt s (k : Int) < 97) || decide (sAt s (k : Int) > 122)
theorem name_l0 {s : Str} (hs : s.length ≤ 1000) : lattice_name.l0 s 0 = some (out (fstOf s.length fun k => if far s k then some false else none)) := by
  refine search (fun k => lattice_name.l0 s k) s.length _ ?_ ?_
  · show lattice_name.l0 s (s.length : Int) = _
    rw [lattice_name.l0, if_neg (by omega)]
  · intro k hk
    show lattice_name.l0 s (k : Int) = _
    rw [lattice_name.l0, if_pos (by omega), step1 hs hk]
    have hb : (0 : Int) ≤ (k : Int) ∧ (k : Int) < (s.length : Int) := ⟨by omega, by omega⟩
    simp only [if_pos hb]
    unfold far
    by_cases h1 : sAt s (k : Int) < 97 <;> by_cases h2 : sAt s (k : Int) > 122 <;> simp [h1, h2]
noncomputable def nameOk (s : Str) : Bool := !decide (∃ k, k < s.length ∧ far s k = true) && (!decide (s = []) && decide (s.length ≤ 12))
theorem name_eq {s : Str} (hs : s.length ≤ 1000) : lattice_name.f s = some (nameOk s) := by
  unfold lattice_name.f nameOk
  rw [name_l0 hs, fst_bool]
  generalize decide (∃ k, k < s.length ∧ far s k = true) = P
  by_cases h1 : s = []
  · subst h1; cases P <;> simp [out]
  · have : 0 < s.length := List.length_pos_iff.2 h1
    cases P <;> by_cases h2 : s.length ≤ 12 <;> simp [out, h1, h2, this] <;> omega
theorem contains_eq {xs : List Str} {a : Str} (hx : xs.length ≤ 1000) : slices_Contains_string_string.f xs a = some (decide (a ∈ xs)) := by
  unfold slices_Contains_string_string.f slices_Index_string_string.f
  have key : slices_Index_string_string.l0 xs a 0 = some (out (fstOf xs.length fun k => if xs[k]? = some a then some (k : Int) else none)) := by
    refine search (fun k => slices_Index_string_string.l0 xs a k) xs.length _ ?_ ?_
    · show slices_Index_string_string.l0 xs a (xs.length : Int) = _
      rw [slices_Index_string_string.l0, if_neg (by omega)]
    · intro k hk
      show slices_Index_string_string.l0 xs a (k : Int) = _
      rw [slices_Index_string_string.l0, if_pos (by omega), lAt_some hk, step1 hx hk, List.getElem?_eq_getElem hk]
      by_cases e : a = xs[k]
      · simp [← e]
      · have : ¬ xs[k] = a := fun q => e q.symm
        simp [e, this]
  rw [key]
  cases hf : fstOf xs.length (fun k => if xs[k]? = some a then some (k : Int) else none) with
  | none =>
    have hno : ¬ a ∈ xs := by
      intro hm
      obtain ⟨k, hk, e⟩ := List.getElem_of_mem hm
      have := fst_none.1 hf k hk
      rw [if_pos (by rw [List.getElem?_eq_getElem hk, e])] at this; cases this
    simp [out, hno]
  | some r =>
    unfold fstOf at hf
    obtain ⟨k, hk0, hk⟩ := List.exists_of_findSome?_eq_some hf
    have hm : a ∈ xs := by
      by_cases e : xs[k]? = some a
      · exact List.mem_of_getElem? e
      · rw [if_neg e] at hk; cases hk
    have hr : r ≥ 0 := by
      by_cases e : xs[k]? = some a
      · rw [if_pos e] at hk; cases hk; omega
      · rw [if_neg e] at hk; cases hk
    simp [out, hm, hr]
theorem high_shr {u n : Nat} (hn : n ≤ 31) : decide (bShr .u32 (u : Int) (n : Int) = 0) = !decide (2 ^ n ≤ u) := by
  rw [bShr_nat (by omega), ← decide_not, decide_eq_decide, Nat.shiftRight_eq_div_pow]
  rw [show (((u / 2 ^ n : Nat) : Int) = 0 ↔ u / 2 ^ n = 0) by omega]
  rw [Nat.div_eq_zero_iff]
  have hp : 0 < 2 ^ n := Nat.pow_pos (by omega)
  omega
structure Nm (l : api_Lattice) (U : List Nat) : Prop extends Is l U where
  nl : l.Names.length ≤ 10
  sl : ∀ s ∈ l.Names, s.length ≤ 1000
noncomputable def badM (N : List Str) (U : List Nat) (i : Nat) : Bool := !nameOk (N.getD i []) || (decide (N.getD i [] ∈ N.take i) || decide (2 ^ U.length ≤ U.getD i 0))
theorem lCut0 {α : Type} {xs : List α} {i : Nat} : lCut xs 0 (i : Int) = xs.take i := by simp [lCut]
theorem may_l0 {l : api_Lattice} {U : List Nat} (h : Nm l U) (he : l.Names.length = U.length) :
    lattice_may.l0 l 0 = some (out (fstOf U.length fun i => if badM l.Names U i then some false else none)) := by
  have hl := h.len
  refine search (fun k => lattice_may.l0 l k) U.length _ ?_ ?_
  · show lattice_may.l0 l (U.length : Int) = _
    rw [lattice_may.l0, if_neg (by omega)]
  · intro k hk
    show lattice_may.l0 l (k : Int) = _
    have hkn : k < l.Names.length := by omega
    have h15 : l.Names[k].length ≤ 1000 := Nat.le_trans (h.sl _ (List.getElem_mem hkn)) (by omega)
    rw [lattice_may.l0, if_pos (by omega), lAt_some hkn]
    simp only [Option.bind_eq_bind, Option.bind_some]
    rw [name_eq h15]
    simp only [Option.bind_eq_bind, Option.bind_some]
    have hb : (0 : Int) ≤ (k : Int) ∧ (k : Int) ≤ (l.Names.length : Int) := ⟨by omega, by omega⟩
    simp only [if_pos hb]
    rw [lCut0, contains_eq (by simp; omega)]
    simp only [Option.bind_eq_bind, Option.bind_some]
    rw [h.at_ hk, h.n]
    simp only [Option.bind_eq_bind, Option.bind_some]
    have hb' : ¬ (U.length : Int) < 0 := by omega
    simp only [if_pos hb']
    rw [high_shr (by omega), step1 (by omega) hk]
    unfold badM
    have e1 : l.Names.getD k [] = l.Names[k] := by simp [hkn]
    have e2 : U.getD k 0 = U[k] := by simp [hk]
    rw [e1, e2]
    generalize decide (l.Names[k] ∈ l.Names.take k) = P
    generalize decide (2 ^ U.length ≤ U[k]) = Q
    cases nameOk l.Names[k] <;> cases P <;> cases Q <;> simp
structure May (l : api_Lattice) (U : List Nat) : Prop where
  pos : 1 ≤ U.length
  le8 : U.length ≤ 8
  nm : l.Names.length = U.length
  ok : ¬ ∃ i, i < U.length ∧ badM l.Names U i = true
theorem may_prog {l : api_Lattice} {U : List Nat} (h : Nm l U) : lattice_may.f l = some (decide (May l U)) := by
  unfold lattice_may.f
  rw [h.n]
  by_cases h1 : (U.length : Int) < 1
  · have : ¬ May l U := fun q => by have := q.pos; omega
    simp [h1, this]
  · by_cases h2 : (U.length : Int) > 8
    · have : ¬ May l U := fun q => by have := q.le8; omega
      simp [h1, h2, this]
    · by_cases he : l.Names.length = U.length
      · have e : (l.Names.length : Int) = (U.length : Int) := by omega
        rw [may_l0 h he, fst_bool]
        have hm : decide (May l U) = !decide (∃ i, i < U.length ∧ badM l.Names U i = true) := by
          rw [← decide_not, decide_eq_decide]
          exact ⟨fun q => q.ok, fun q => ⟨by omega, by omega, he, q⟩⟩
        rw [hm]
        generalize decide (∃ i, i < U.length ∧ badM l.Names U i = true) = P
        cases P <;> simp [h1, h2, e, out]
      · have : ¬ May l U := fun q => he q.nm
        have e : ¬ (l.Names.length : Int) = (U.length : Int) := by omega
        simp [h1, h2, this, e]
theorem May.bits {l : api_Lattice} {U : List Nat} (q : May l U) : ∀ x ∈ U, x < 2 ^ U.length := by
  intro x hx
  obtain ⟨i, hi, e⟩ := List.getElem_of_mem hx
  apply Classical.byContradiction
  intro hn
  refine q.ok ⟨i, hi, ?_⟩
  have e2 : U.getD i 0 = x := by simp [hi, e]
  unfold badM
  rw [e2]
  simp [show 2 ^ U.length ≤ x by omega]
noncomputable def fi (n : Nat) (p : Nat → Bool) : Int := match fstOf n (fun k => if p k then some (k : Int) else none) with | some r => r | none => -1
theorem fi_out {n : Nat} {p : Nat → Bool} : (match (out (fstOf n (fun k => if p k then some (k : Int) else none)) : Int ⊕ Unit) with | .inl r => some r | .inr () => some (-1 : Int)) = some (fi n p) := by
  unfold fi
  cases fstOf n (fun k => if p k then some (k : Int) else none) <;> rfl
theorem fi_congr {n : Nat} {p q : Nat → Bool} (h : ∀ k, k < n → p k = q k) : fi n p = fi n q := by
  unfold fi
  rw [fst_congr (fun k hk => by rw [h k hk])]
noncomputable def lub (U : List Nat) (a b k : Nat) : Bool := decide (∀ c, c < U.length → (le U k c = true ↔ le U a c = true ∧ le U b c = true))
noncomputable def glb (U : List Nat) (a b k : Nat) : Bool := decide (∀ c, c < U.length → (le U c k = true ↔ le U c a = true ∧ le U c b = true))
noncomputable def jn (U : List Nat) (a b : Nat) : Int := fi U.length (lub U a b)
noncomputable def mt (U : List Nat) (a b : Nat) : Int := fi U.length (glb U a b)
theorem idxF_eq {xs : List Int} {p : Int → Bool} {g : Int → Option Bool} (hg : ∀ x, g x = some (p x)) (hx : xs.length ≤ 1000) :
    slices_IndexFunc_uint32_uint32.f xs g = some (fi xs.length (fun k => p (xs.getD k 0))) := by
  unfold slices_IndexFunc_uint32_uint32.f
  have key : slices_IndexFunc_uint32_uint32.l0 xs g 0 = some (out (fstOf xs.length fun k => if p (xs.getD k 0) then some (k : Int) else none)) := by
    refine search (fun k => slices_IndexFunc_uint32_uint32.l0 xs g k) xs.length _ ?_ ?_
    · show slices_IndexFunc_uint32_uint32.l0 xs g (xs.length : Int) = _
      rw [slices_IndexFunc_uint32_uint32.l0, if_neg (by omega)]
    · intro k hk
      show slices_IndexFunc_uint32_uint32.l0 xs g (k : Int) = _
      have e : xs.getD k 0 = xs[k] := by simp [hk]
      rw [slices_IndexFunc_uint32_uint32.l0, if_pos (by omega), lAt_some hk, step1 hx hk, e]
      simp only [Option.bind_eq_bind, Option.bind_some]
      rw [hg]
      cases p xs[k] <;> simp
  rw [key]
  exact fi_out
theorem bits_eq {U : List Nat} (hU : ∀ x ∈ U, x < 2 ^ U.length) {a b k : Nat} (ha : a < U.length) (hb : b < U.length) (hk : k < U.length) :
    (U[k] = U[a] &&& U[b]) ↔ (∀ c, c < U.length → (le U k c = true ↔ le U a c = true ∧ le U b c = true)) := by
  constructor
  · intro e c _
    rw [le_get hk, le_get ha, le_get hb, e, Nat.testBit_and, Bool.and_eq_true]
  · intro h
    apply Nat.eq_of_testBit_eq
    intro c
    rw [Nat.testBit_and, ← le_get hk, ← le_get ha, ← le_get hb]
    rcases Nat.lt_or_ge c U.length with q | q
    · rw [Bool.eq_iff_iff, Bool.and_eq_true]; exact h c q
    · have f : ∀ a, le U a c = false := by
        intro a
        cases e : le U a c with
        | false => rfl
        | true => have := le_far hU e; omega
      rw [f, f, f]; rfl
theorem join_eq {l : api_Lattice} {U : List Nat} (h : Is l U) (hU : ∀ x ∈ U, x < 2 ^ U.length) {a b : Nat} (ha : a < U.length) (hb : b < U.length) : lattice_join.f l (a : Int) (b : Int) = some (jn U a b) := by
  have hl := h.len
  unfold lattice_join.f
  rw [h.at_ ha, h.at_ hb]
  simp only [Option.bind_eq_bind, Option.bind_some]
  rw [bAnd_nat (h.u ha) (h.u hb), idxF_eq (g := fun z0 => lattice_join_1.f z0 ((U[a] &&& U[b] : Nat) : Int)) (p := fun x => decide (x = ((U[a] &&& U[b] : Nat) : Int))) (fun x => rfl) (by rw [h.n]; omega)]
  simp only [Option.bind_some]
  rw [h.n]
  congr 1
  refine fi_congr fun k hk => ?_
  unfold lub
  rw [decide_eq_decide, ← bits_eq hU ha hb hk]
  have : l.Up.getD k 0 = ((U[k] : Nat) : Int) := by rw [h.up]; simp [hk]
  rw [this]
  exact Int.natCast_inj
theorem bShl_nat {x k : Nat} (hk : k ≤ 20) (hx : x ≤ 1) : bShl .u32 (x : Int) (k : Int) = ((x <<< k : Nat) : Int) := by
  unfold bShl
  show IntKind.u32.wrap ((x : Int) * (2 ^ (min ((k : Int).toNat) 32) : Nat)) = _
  rw [Int.toNat_natCast, Nat.min_eq_left (by omega), ← Int.natCast_mul, Nat.shiftLeft_eq]
  refine wrapU32 ?_
  have : 2 ^ k ≤ 2 ^ 20 := Nat.pow_le_pow_right (by omega) hk
  have : x * 2 ^ k ≤ 1 * 2 ^ 20 := Nat.mul_le_mul hx this
  omega
theorem shr_and1 (u b : Nat) : (u >>> b) &&& 1 = (u.testBit b).toNat := by
  have := shr1 u b
  rcases (show (u >>> b) &&& 1 = 0 ∨ (u >>> b) &&& 1 = 1 by rw [Nat.and_comm, Nat.one_and_eq_mod_two]; omega) with q | q
  · cases e : u.testBit b with
    | false => rw [q]; rfl
    | true => rw [this.2 e] at q; cases q
  · rw [this.1 q, q]; rfl
theorem down_l0 {l : api_Lattice} {U : List Nat} (h : Is l U) {a : Nat} (ha : a ≤ 31) :
    ∀ (d k v : Nat), U.length = k + d → v < 2 ^ k → ∃ r : Nat, lattice_down.l0 l (a : Int) (k : Int) (v : Int) = some (r : Int) ∧ r < 2 ^ U.length ∧ ∀ c, r.testBit c = if c < k then v.testBit c else (decide (c < U.length) && le U c a)
  | 0, k, v, e, hv => by
    have hl := h.len
    refine ⟨v, ?_, by rw [e]; exact hv, fun c => ?_⟩
    · rw [lattice_down.l0, h.n, if_neg (by omega)]
    · by_cases hc : c < k
      · rw [if_pos hc]
      · rw [if_neg hc, Nat.testBit_lt_two_pow (Nat.lt_of_lt_of_le hv (Nat.pow_le_pow_right (n := 2) (by omega) (by omega)))]
        have : ¬ c < U.length := by omega
        simp [this]
  | d + 1, k, v, e, hv => by
    have hl := h.len
    have hk : k < U.length := by omega
    have hs : U[k] >>> a < 4294967296 := Nat.lt_of_le_of_lt (by rw [Nat.shiftRight_eq_div_pow]; exact Nat.div_le_self ..) (h.u hk)
    have hb1 : (U[k].testBit a).toNat ≤ 1 := by cases U[k].testBit a <;> decide
    have hsh : (U[k].testBit a).toNat <<< k < 2 ^ (k + 1) := by
      rw [Nat.shiftLeft_eq, Nat.pow_succ]
      have hp : 0 < 2 ^ k := Nat.pow_pos (by omega)
      cases U[k].testBit a <;> simp <;> omega
    have h10 : 2 ^ (k + 1) ≤ 2 ^ 20 := Nat.pow_le_pow_right (by omega) (by omega)
    have hv' : v < 2 ^ (k + 1) := Nat.lt_of_lt_of_le hv (Nat.pow_le_pow_right (by omega) (by omega))
    obtain ⟨r, hr1, hr2, hr3⟩ := down_l0 h ha d (k + 1) (v ||| ((U[k].testBit a).toNat <<< k)) (by omega) (Nat.or_lt_two_pow hv' hsh)
    refine ⟨r, ?_, hr2, fun c => ?_⟩
    · rw [lattice_down.l0, h.n, if_pos (by omega), h.at_ hk]
      simp only [Option.bind_eq_bind, Option.bind_some]
      rw [if_pos (by omega), if_pos (by omega), bShr_nat (by omega), show (1 : Int) = ((1 : Nat) : Int) from rfl, bAnd_nat hs (by omega), shr_and1, bShl_nat (by omega) hb1, bOr_nat (by omega) (by omega)]
      rw [show ((1 : Nat) : Int) = 1 from rfl, step1 (by omega) hk]
      exact hr1
    · rw [hr3 c, Nat.testBit_or, Nat.testBit_shiftLeft]
      rcases Nat.lt_trichotomy c k with q | q | q
      · rw [if_pos (by omega), if_pos q]
        have : decide (c ≥ k) = false := decide_eq_false (by omega)
        rw [this]; simp
      · subst q
        rw [if_pos (by omega), if_neg (by omega), Nat.testBit_lt_two_pow hv, le_get hk]
        have : decide (c < U.length) = true := decide_eq_true hk
        rw [this]
        cases U[c].testBit a <;> simp
      · rw [if_neg (by omega), if_neg (by omega)]
theorem down_eq {l : api_Lattice} {U : List Nat} (h : Is l U) {a : Nat} (ha : a ≤ 31) : ∃ r : Nat, lattice_down.f l (a : Int) = some (r : Int) ∧ r < 2 ^ U.length ∧ ∀ c, r.testBit c = (decide (c < U.length) && le U c a) := by
  obtain ⟨r, h1, h2, h3⟩ := down_l0 h ha U.length 0 0 (by omega) (by simp)
  refine ⟨r, ?_, h2, fun c => by rw [h3 c, if_neg (by omega)]⟩
  unfold lattice_down.f
  rw [show ((0 : Nat) : Int) = 0 from rfl] at h1
  rw [h1]; rfl
theorem meet_eq {l : api_Lattice} {U : List Nat} (h : Is l U) {a b : Nat} (ha : a < U.length) (hb : b < U.length) : lattice_meet.f l (a : Int) (b : Int) = some (mt U a b) := by
  have hl := h.len
  obtain ⟨ra, ea, la, ta⟩ := down_eq h (a := a) (by omega)
  obtain ⟨rb, eb, lb, tb⟩ := down_eq h (a := b) (by omega)
  have h10 : 2 ^ U.length ≤ 2 ^ 10 := Nat.pow_le_pow_right (by omega) hl
  unfold lattice_meet.f
  rw [ea, eb]
  simp only [Option.bind_eq_bind, Option.bind_some]
  have key : lattice_meet.l0 l (ra : Int) (rb : Int) 0 = some (out (fstOf U.length fun k => if glb U a b k then some (k : Int) else none)) := by
    refine search (fun k => lattice_meet.l0 l (ra : Int) (rb : Int) k) U.length _ ?_ ?_
    · show lattice_meet.l0 l (ra : Int) (rb : Int) (U.length : Int) = _
      rw [lattice_meet.l0, h.n, if_neg (by omega)]
    · intro k hk
      show lattice_meet.l0 l (ra : Int) (rb : Int) (k : Int) = _
      obtain ⟨rk, ek, lk, tk⟩ := down_eq h (a := k) (by omega)
      rw [lattice_meet.l0, h.n, if_pos (by omega), ek, bAnd_nat (by omega) (by omega), step1 (by omega) hk]
      simp only [Option.bind_eq_bind, Option.bind_some]
      have hg : ((rk : Int) = ((ra &&& rb : Nat) : Int)) ↔ glb U a b k = true := by
        rw [Int.natCast_inj]
        unfold glb
        rw [decide_eq_true_iff]
        constructor
        · intro e c hc
          have := congrArg (fun x => x.testBit c) e
          simp only [Nat.testBit_and, tk, ta, tb, decide_eq_true hc, Bool.true_and] at this
          rw [this, Bool.and_eq_true]
        · intro q
          apply Nat.eq_of_testBit_eq
          intro c
          rw [Nat.testBit_and, tk, ta, tb]
          rcases Nat.lt_or_ge c U.length with hc | hc
          · rw [decide_eq_true hc, Bool.true_and, Bool.true_and, Bool.true_and, Bool.eq_iff_iff, Bool.and_eq_true]; exact q c hc
          · rw [decide_eq_false (by omega)]; rfl
      cases e : glb U a b k with
      | true => rw [if_pos (hg.2 e)]; rfl
      | false => rw [if_neg (fun q => by rw [hg.1 q] at e; cases e)]; rfl
  rw [key]
  exact fi_out
noncomputable def bad3 (U : List Nat) (a b : Nat) : Bool := decide (jn U a b < 0) || decide (mt U a b < 0)
noncomputable def chk (l : api_Lattice) (U : List Nat) : Int := if ¬ May l U then 1 else if ¬ Ord U then 2 else if ∃ a b, a < U.length ∧ b < U.length ∧ bad3 U a b = true then 3 else 0
theorem check_eq {l : api_Lattice} {U : List Nat} (h : Nm l U) : lattice_Check.f l = some (chk l U) := by
  have hl := h.len
  unfold lattice_Check.f chk
  rw [may_prog h]
  by_cases hm : May l U
  · rw [order_prog h.toIs hm.bits]
    by_cases hO : Ord U
    · unfold lattice_pairs.f
      have := pairs_eq (t := (0 : Int)) (t' := 3) (n := U.length) (yb := lattice_Check.y0 l) (bad := bad3 U) (by omega) (fun a b ha hb => by
        unfold lattice_Check.y0 bad3
        rw [join_eq h.toIs hm.bits ha hb, meet_eq h.toIs ha hb]
        by_cases h1 : jn U a b < 0 <;> by_cases h2 : mt U a b < 0 <;> simp [h1, h2])
      rw [h.n]
      simp only [Option.bind_eq_bind, Option.bind_some]
      rw [this]
      by_cases hb : ∃ a b, a < U.length ∧ b < U.length ∧ bad3 U a b = true
      · simp only [if_pos hb, hm, hO]; simp
      · simp only [if_neg hb, hm, hO]; simp
    · simp [hm, hO]
  · simp [hm]
end
section
open Classical
theorem inRow {α : Type} {d : Kd α} {H : FH} {cs : List Value} {xs : List α} (h : (kL d).reps H cs xs) : ∀ x ∈ xs, ∃ c, d.reps H c x := by
  obtain ⟨A, c, _, _, _, _, hs⟩ := h
  intro x hx
  rcases hs with e | ⟨b, off, cells, t, fr, _, _, hr⟩
  · rw [e] at hx; cases hx
  · obtain ⟨k, hk, e⟩ := List.getElem_of_mem hx
    exact ⟨_, hr.2 k x (by rw [List.getElem?_eq_getElem hk, e])⟩
theorem inLen {α : Type} {d : Kd α} {H : FH} {cs : List Value} {xs : List α} (h : (kL d).reps H cs xs) : xs.length ≤ big := by
  obtain ⟨A, c, _, _, _, hb, hs⟩ := h
  exact hb
theorem lat_in {l : api_Lattice} (h : ∃ H cs, (kR f_api_Lattice).reps H cs l) : (∀ x ∈ l.Up, 0 ≤ x ∧ x < 4294967296) ∧ l.Up.length ≤ big ∧ l.Names.length ≤ big := by
  obtain ⟨H, cs, c1, c2, e, h1, c3, c4, e2, h2, _⟩ := h
  have h1' : (kL kS).reps H c1 l.Names := h1
  have h2' : (kL (kI .u32)).reps H c3 l.Up := h2
  refine ⟨fun x hx => ?_, inLen h2', inLen h1'⟩
  obtain ⟨c, hc⟩ := inRow h2' x hx
  have : InR .u32 x := hc.2
  unfold InR IntKind.min IntKind.max at this
  simp [IntKind.signed, IntKind.bits] at this
  omega
theorem few_l0 {l : api_Lattice} (hm : (if 10 < (l.Names.length : Int) then (10 : Int) else (l.Names.length : Int)) = ((min 10 l.Names.length : Nat) : Int)) :
    ∀ (d k : Nat) (acc : List Str), min 10 l.Names.length = k + d → acc.length = k → (∀ s ∈ acc, s.length ≤ 15) → ∃ r, reticentlaw09_few.l0 l acc (k : Int) = some r ∧ r.length = min 10 l.Names.length ∧ ∀ s ∈ r, s.length ≤ 15
  | 0, k, acc, e, ha, hs => by
    refine ⟨acc, ?_, by omega, hs⟩
    have hlen : ((lCut l.Names 0 ((min 10 l.Names.length : Nat) : Int)).length) = min 10 l.Names.length := by rw [lCut0, List.length_take]; omega
    rw [reticentlaw09_few.l0, hm, hlen, if_neg (by omega)]
  | d + 1, k, acc, e, ha, hs => by
    have hlen : ((lCut l.Names 0 ((min 10 l.Names.length : Nat) : Int)).length) = min 10 l.Names.length := by rw [lCut0, List.length_take]; omega
    have hk : k < (lCut l.Names 0 ((min 10 l.Names.length : Nat) : Int)).length := by omega
    rw [reticentlaw09_few.l0, hm, if_pos (by omega), lAt_some hk]
    simp only [Option.bind_eq_bind, Option.bind_some]
    generalize (lCut l.Names 0 ((min 10 l.Names.length : Nat) : Int))[k] = s
    have hm2 : (if 15 < (s.length : Int) then (15 : Int) else (s.length : Int)) = ((min 15 s.length : Nat) : Int) := by split <;> omega
    rw [hm2, if_pos ⟨by omega, by omega⟩, if_pos (by unfold big; simp; omega), wrap64 (by omega) (by omega)]
    have := few_l0 hm d (k + 1) (acc ++ [sCut s 0 ((min 15 s.length : Nat) : Int)]) (by omega) (by simp [ha]) (by
      intro t ht
      rw [List.mem_append] at ht
      rcases ht with ht | ht
      · exact hs t ht
      · simp at ht; subst ht
        simp [sCut]; omega)
    rw [show ((k : Int) + 1) = ((k + 1 : Nat) : Int) by omega]
    exact this
theorem few_eq {l : api_Lattice} (h : ∃ H cs, (kR f_api_Lattice).reps H cs l) : ∃ l' U, reticentlaw09_few.f l = some l' ∧ Nm l' U := by
  obtain ⟨h1, h2, h3⟩ := lat_in h
  have hu : (if 10 < (l.Up.length : Int) then (10 : Int) else (l.Up.length : Int)) = ((min 10 l.Up.length : Nat) : Int) := by split <;> omega
  have hm : (if 10 < (l.Names.length : Int) then (10 : Int) else (l.Names.length : Int)) = ((min 10 l.Names.length : Nat) : Int) := by split <;> omega
  obtain ⟨r, hr, hl, hs⟩ := few_l0 hm (min 10 l.Names.length) 0 [] (by omega) rfl (fun s hs => by cases hs)
  refine ⟨⟨r, lCut l.Up 0 ((min 10 l.Up.length : Nat) : Int)⟩, (l.Up.take 10).map Int.toNat, ?_, ⟨⟨?_, ?_, ?_⟩, ?_, fun s h => Nat.le_trans (hs s h) (by omega)⟩⟩
  · unfold reticentlaw09_few.f
    rw [show ((0 : Nat) : Int) = 0 from rfl] at hr
    rw [hu, hm, if_pos ⟨by omega, by omega⟩, if_pos ⟨by omega, by omega⟩, hr]
    rfl
  · show lCut l.Up 0 ((min 10 l.Up.length : Nat) : Int) = _
    rw [lCut0, List.map_map]
    have : l.Up.take (min 10 l.Up.length) = l.Up.take 10 := by
      rcases Nat.le_total 10 l.Up.length with q | q
      · rw [Nat.min_eq_left q]
      · rw [Nat.min_eq_right q, List.take_of_length_le (Nat.le_refl _), List.take_of_length_le q]
    rw [this]
    have e2 : (l.Up.take 10).map ((fun x : Nat => (x : Int)) ∘ Int.toNat) = (l.Up.take 10).map id := List.map_congr_left (fun x hx => by
      have := h1 x (List.mem_of_mem_take hx)
      simp; omega)
    rw [e2, List.map_id]
  · intro x hx
    rw [List.mem_map] at hx
    obtain ⟨y, hy, e⟩ := hx
    have := h1 y (List.mem_of_mem_take hy)
    omega
  · simp; omega
  · show r.length ≤ 10
    omega
end
section
theorem wrapZ {x : Int} (h0 : -9223372036854775808 ≤ x) (h1 : x < 9223372036854775808) : IntKind.i64.wrap x = x := by
  show (if (true && decide (x % 18446744073709551616 ≥ 9223372036854775808)) = true then x % 18446744073709551616 - 18446744073709551616 else x % 18446744073709551616) = x
  simp only [Bool.true_and, decide_eq_true_eq]
  split <;> omega
theorem wS {n : Nat} (h : n ≤ 100000) : IntKind.i64.wrap ((n : Int) + 1) = ((n + 1 : Nat) : Int) := by rw [wrapZ (by omega) (by omega)]; rfl
end
section
def code (b : Bool) : Int := if b then 2 else 1
end
section
inductive Tr where
  | lf (op : Int)
  | nd (op : Int) (x y : Tr)
def Tr.op : Tr → Int
  | .lf op => op
  | .nd op _ _ => op
def LfOp (op : Int) : Prop := op = 1 ∨ op = 2 ∨ op = 6 ∨ op = 7 ∨ op = 8 ∨ op = 9 ∨ op = 10 ∨ op = 11
def NdOp (op : Int) : Prop := op = 3 ∨ op = 4 ∨ op = 5 ∨ op = 12 ∨ op = 13
def Tr.ok : Tr → Prop
  | .lf op => LfOp op
  | .nd op x y => NdOp op ∧ x.ok ∧ y.ok
def lab (op : Int) : Bool := decide (op = 12 ∨ op = 13)
end
section
theorem bsome {α β : Type} (a : α) (f : α → Option β) : (some a >>= f) = f a := rfl
def cnt (p : Int → Bool) (s : Str) : Nat := (s.takeWhile fun b => p (b.toNat : Int)).length
theorem cnt_le (p : Int → Bool) (s : Str) : cnt p s ≤ s.length := by
  unfold cnt
  induction s with
  | nil => simp
  | cons a r ih =>
    rw [List.takeWhile_cons]
    split <;> simp
    exact ih
theorem sAt_get {s : Str} {k : Nat} (h : k < s.length) : sAt s (k : Int) = (s[k].toNat : Int) := by
  unfold sAt
  simp [h]
theorem while_l0 {p : Int → Bool} {g : Int → Option Bool} (hg : ∀ x, g x = some (p x)) {s : Str} (hs : s.length ≤ 3000) : ∀ (d k : Nat), s.length = k + d → lex_while.l0 s g (k : Int) = some ((k + cnt p (s.drop k) : Nat) : Int)
  | 0, k, e => by
    rw [lex_while.l0, if_neg (by omega), bsome, List.drop_of_length_le (by omega)]
    simp [cnt]
  | d + 1, k, e => by
    have hk : k < s.length := by omega
    have ih := while_l0 hg hs d (k + 1) (by omega)
    rw [lex_while.l0, if_pos (by omega), if_pos ⟨by omega, by omega⟩, hg, bsome, bsome, wS (by omega), sAt_get hk, List.drop_eq_getElem_cons hk]
    unfold cnt
    rw [List.takeWhile_cons]
    cases hp : p (s[k].toNat : Int) with
    | true =>
      rw [if_pos rfl, ih, if_pos rfl]
      unfold cnt
      congr 2
      simp
      omega
    | false => simp
theorem while_eq {p : Int → Bool} {g : Int → Option Bool} (hg : ∀ x, g x = some (p x)) {s : Str} (hs : s.length ≤ 3000) : lex_while.f s g = some (cnt p s : Int) := by
  unfold lex_while.f
  have := while_l0 hg hs s.length 0 (by omega)
  rw [show ((0 : Nat) : Int) = 0 from rfl, List.drop_zero, Nat.zero_add] at this
  rw [this, bsome]
def letP (c : Int) : Bool := decide (c ≥ 97) && decide (c ≤ 122)
def digP (c : Int) : Bool := decide (c ≥ 48) && decide (c ≤ 57)
def remP (c : Int) : Bool := !decide (c = 10)
theorem letter_eq (c : Int) : lex_letter.f c = some (letP c) := by
  unfold lex_letter.f letP
  by_cases h : c ≥ 97 <;> simp [h]
theorem digit_eq (c : Int) : lex_digit.f c = some (digP c) := by
  unfold lex_digit.f digP
  by_cases h : c ≥ 48 <;> simp [h]
theorem prefix_eq (s t : Str) : strings_HasPrefix.f s t = some (decide (s.take t.length = t)) := by
  unfold strings_HasPrefix.f stringslite_HasPrefix.f
  by_cases h : (s.length : Int) ≥ (t.length : Int)
  · rw [if_pos h, if_pos ⟨by omega, by omega⟩, bsome, bsome]
    simp [sCut]
  · rw [if_neg h, bsome, bsome, decide_eq_false]
    intro q
    have := congrArg List.length q
    simp at this
    omega
def marks : Str := [40, 41, 91, 93, 59, 58, 44, 60, 62, 64, 45, 61]
def tokX (x : Int) (c : UInt8) (r : Str) : Int × Nat :=
  if x = 32 ∨ x = 9 ∨ x = 10 then (0, 1) else if x = 35 then (0, cnt remP (c :: r)) else if letP x then (1, cnt letP (c :: r)) else if digP x then (2, cnt digP (c :: r))
  else if (c :: r).take 2 = [60, 61] then (3, 2) else if Lib.indexByte marks c ≥ 0 then (3, 1) else (0, 0)
def tokS : Str → Int × Nat
  | [] => (0, 0)
  | c :: r => tokX (c.toNat : Int) c r
theorem token_eq {c : UInt8} {r : Str} (hs : (c :: r).length ≤ 3000) : lex_token.f (c :: r) = some ((tokS (c :: r)).1, ((tokS (c :: r)).2 : Int)) := by
  unfold lex_token.f tokS
  have h0 : sAt (c :: r) 0 = (c.toNat : Int) := by simp [sAt]
  rw [if_pos ⟨by decide, by simp⟩, h0]
  have hc : ((c.toNat : Int).toNat).toUInt8 = c := by simp
  have hw1 := while_eq (g := lex_token_1.f) (p := remP) (fun x => rfl) hs
  have hw2 := while_eq (g := lex_letter.f) (p := letP) letter_eq hs
  have hw3 := while_eq (g := lex_digit.f) (p := digP) digit_eq hs
  rw [hw1, hw2, hw3, letter_eq, digit_eq, prefix_eq]
  unfold lib_IndexByte
  rw [hc]
  simp only [bsome, List.length_cons, List.length_nil]
  generalize (c.toNat : Int) = x
  unfold tokX
  by_cases h1 : x = 32
  · simp [h1]
  · by_cases h2 : x = 9
    · simp [h2]
    · by_cases h3 : x = 10
      · simp [h3]
      · by_cases h4 : x = 35
        · simp [h4]
        · cases h5 : letP x with
          | true => simp [h1, h2, h3, h4]
          | false =>
            cases h6 : digP x with
            | true => simp [h1, h2, h3, h4]
            | false =>
              by_cases h7 : (c :: r).take 2 = [60, 61]
              · have h7' : (c :: r).take (0 + 1 + 1) = [60, 61] := h7
                simp only [h1, h2, h3, h4, h7, h7', if_false, if_true, or_self, decide_false, decide_true, Bool.false_eq_true]
                rfl
              · have h7' : ¬ (c :: r).take (0 + 1 + 1) = [60, 61] := h7
                by_cases h8 : Lib.indexByte marks c ≥ 0
                · have h8' : Lib.indexByte [40, 41, 91, 93, 59, 58, 44, 60, 62, 64, 45, 61] c ≥ 0 := h8
                  simp only [h1, h2, h3, h4, h7, h7', h8, h8', if_false, if_true, or_self, decide_false, Bool.false_eq_true]
                  rfl
                · have h8' : ¬ Lib.indexByte [40, 41, 91, 93, 59, 58, 44, 60, 62, 64, 45, 61] c ≥ 0 := h8
                  simp only [h1, h2, h3, h4, h7, h7', h8, h8', if_false, or_self, decide_false, Bool.false_eq_true]
                  rfl
theorem tok_le : ∀ {s : Str}, s ≠ [] → (tokS s).2 ≤ s.length
  | [], h => absurd rfl h
  | c :: r, _ => by
    show (tokX (c.toNat : Int) c r).2 ≤ _
    unfold tokX
    split
    · simp
    · split
      · exact cnt_le ..
      · split
        · exact cnt_le ..
        · split
          · exact cnt_le ..
          · split
            · rename_i h
              have := congrArg List.length h
              simp at this ⊢
              omega
            · split
              · simp
              · simp
theorem lex_step {s : Str} (hs : s.length ≤ 2500) {L : List api_Tok} (hL : L.length ≤ 2500) {k : Nat} (hk : k < s.length) :
    lex_Lex.l0 s L (k : Int) = (if (tokS (s.drop k)).2 = 0 then some (.inl ([], (k : Int), 4)) else if (tokS (s.drop k)).1 = 0 then lex_Lex.l0 s L ((k + (tokS (s.drop k)).2 : Nat) : Int)
      else lex_Lex.l0 s (L ++ [⟨(tokS (s.drop k)).1, (s.drop k).take (tokS (s.drop k)).2, (k : Int)⟩]) ((k + (tokS (s.drop k)).2 : Nat) : Int)) := by
  have hne : s.drop k ≠ [] := by
    intro h
    have := congrArg List.length h
    simp at this; omega
  have hle := tok_le hne
  have hd : (s.drop k).length = s.length - k := List.length_drop ..
  have hcut : sCut s (k : Int) (s.length : Int) = s.drop k := by
    unfold sCut
    rw [List.take_of_length_le (by simp)]; simp
  have htok : lex_token.f (s.drop k) = some ((tokS (s.drop k)).1, ((tokS (s.drop k)).2 : Int)) := by
    match h : s.drop k with
    | [] => exact absurd h hne
    | c :: r => exact token_eq (by rw [← h]; omega)
  rw [lex_Lex.l0, if_pos (by omega), if_pos ⟨by omega, by omega⟩, hcut, htok, bsome]
  generalize hT : tokS (s.drop k) = T at *
  obtain ⟨kd, n⟩ := T
  simp only at hle ⊢
  have hw : IntKind.i64.wrap ((k : Int) + (n : Int)) = ((k + n : Nat) : Int) := by rw [wrapZ (by omega) (by omega)]; omega
  rw [hw]
  by_cases h0 : n = 0
  · subst h0
    rfl
  · have h0' : ¬ ((n : Int) = 0) := by omega
    rw [if_neg h0', if_neg h0]
    by_cases h1 : kd = 0
    · rw [if_pos h1, if_pos h1, bsome]
    · have hB : 1000000 ≤ big := by decide
      have hc2 : sCut s (k : Int) ((k + n : Nat) : Int) = (s.drop k).take n := by
        unfold sCut
        have : ((k + n : Nat) : Int).toNat - (k : Int).toNat = n := by omega
        rw [this]; simp
      rw [if_neg h1, if_neg h1, if_pos ⟨by omega, by omega, by omega⟩, if_pos (by simp; omega), bsome, hc2]
end
section
theorem join_snoc {sep x : Str} : ∀ {xs : List Str}, xs ≠ [] → Lib.join (xs ++ [x]) sep = Lib.join xs sep ++ sep ++ x
  | [], h => absurd rfl h
  | a :: r, _ => by
    show Lib.join (a :: (r ++ [x])) sep = _
    rw [Lib.join_cons, Lib.join_cons]
    simp [Lib.joinTail]
theorem join_ne {sep : Str} : ∀ {xs : List Str}, xs ≠ [] → (∀ x ∈ xs, x ≠ []) → Lib.join xs sep ≠ []
  | [], h, _ => absurd rfl h
  | a :: r, _, h => by
    rw [Lib.join_cons]
    have := h a (by simp)
    simp [this]
theorem joinTail_len {sep : Str} {n : Nat} : ∀ {r : List Str}, (∀ x ∈ r, x.length ≤ n) → (Lib.joinTail sep r).length ≤ r.length * (n + sep.length)
  | [], _ => by simp [Lib.joinTail]
  | a :: r, h => by
    have ih := joinTail_len (sep := sep) (r := r) (fun x hx => h x (by simp [hx]))
    have ha := h a (by simp)
    have : Lib.joinTail sep (a :: r) = (sep ++ a) ++ Lib.joinTail sep r := by simp [Lib.joinTail]
    rw [this]
    simp only [List.length_append, List.length_cons, Nat.succ_mul]
    omega
theorem join_len {sep : Str} {n : Nat} {xs : List Str} (h : ∀ x ∈ xs, x.length ≤ n) : (Lib.join xs sep).length ≤ xs.length * (n + sep.length) := by
  match xs, h with
  | [], _ => simp [Lib.join, List.intercalate]
  | a :: r, h =>
    rw [Lib.join_cons]
    have ih := joinTail_len (sep := sep) (r := r) (fun x hx => h x (by simp [hx]))
    have ha := h a (by simp)
    simp only [List.length_append, List.length_cons, Nat.succ_mul]
    omega
end
section
theorem ff : ¬ (false = true) := by decide
theorem tt : true = true := rfl
end
section
theorem wrap_in (x : Int) : -9223372036854775808 ≤ IntKind.i64.wrap x ∧ IntKind.i64.wrap x < 9223372036854775808 := by
  show -9223372036854775808 ≤ (if (true && decide (x % 18446744073709551616 ≥ 9223372036854775808)) = true then x % 18446744073709551616 - 18446744073709551616 else x % 18446744073709551616) ∧ (if (true && decide (x % 18446744073709551616 ≥ 9223372036854775808)) = true then x % 18446744073709551616 - 18446744073709551616 else x % 18446744073709551616) < 9223372036854775808
  have h1 := Int.emod_nonneg x (show (18446744073709551616 : Int) ≠ 0 by decide)
  have h2 := Int.emod_lt_of_pos x (show (0 : Int) < 18446744073709551616 by decide)
  split
  · rename_i h
    simp at h
    omega
  · rename_i h
    simp at h
    omega
structure Tk (T : List api_Tok) : Prop where
  len : T.length ≤ 1000
  pos : 0 < T.length
  next : ∀ (i : Nat) (h : i < T.length), T[i].Kind ≠ 0 → i + 1 < T.length
section
variable {T : List api_Tok} (hT : Tk T) {l : api_Lattice}
include hT
theorem tok_p {i : Nat} (hi : i < T.length) {e : Int} : code_reader_tok.f ⟨l, T, (i : Int), e⟩ = some (⟨l, T, (i : Int), e⟩, T[i]) := by
  unfold code_reader_tok.f
  rw [lAt_some hi]; rfl
theorem fail_p {i : Int} {e : Int} : code_reader_fail.f ⟨l, T, i, 0⟩ e = some ⟨l, T, i, e⟩ := rfl
def mkS (T : List api_Tok) (s : Str) (i : Nat) (e : Int) : Nat × Int := if e = 0 then (if (T.getD i ⟨0, [], 0⟩).Kind = 3 ∧ (T.getD i ⟨0, [], 0⟩).Text = s then (i + 1, 0) else (i, 4)) else (i, e)
theorem get_at {i : Nat} (hi : i < T.length) : T.getD i ⟨0, [], 0⟩ = T[i] := by simp [hi]
theorem mark_p {i : Nat} (hi : i < T.length) {e : Int} {s : Str} : code_reader_mark.f ⟨l, T, (i : Int), e⟩ s = some ⟨l, T, ((mkS T s i e).1 : Int), (mkS T s i e).2⟩ := by
  have hl := hT.len
  unfold code_reader_mark.f
  rw [tok_p hT hi, bsome]
  unfold mkS
  rw [get_at hT hi]
  by_cases he : e = 0
  · subst he
    by_cases h1 : T[i].Kind = 3
    · by_cases h2 : T[i].Text = s
      · simp [h1, h2, bsome, wS (show i ≤ 100000 by omega)]
      · simp [h1, h2, fail_p hT]
    · simp [h1, fail_p hT]
  · simp [he]
theorem mkS_lt {i : Nat} (hi : i < T.length) {e : Int} {s : Str} : (mkS T s i e).1 < T.length := by
  unfold mkS
  rw [get_at hT hi]
  split
  · split
    · rename_i h; exact hT.next i hi (by omega)
    · exact hi
  · exact hi
end
theorem and15 : ((List.range 256).all fun n => bAnd .u8 (n : Int) 15 == (n : Int).tmod 16) = true := by decide +kernel
theorem byte15 (c : UInt8) : bAnd .u8 (c.toNat : Int) 15 = (c.toNat : Int).tmod 16 := eq_of_beq (List.all_eq_true.1 and15 c.toNat (List.mem_range.2 c.toNat_lt))
def plc (N : List Str) (t : Str) : Int := match (List.range N.length).findSome? (fun k => if N.getD k [] = t then some (k : Int) else none) with | some k => k | none => -1
theorem find_p {N : List Str} (hN : N.length ≤ 1000) (t : Str) : slices_Index_string_string.f N t = some (plc N t) := by
  unfold slices_Index_string_string.f
  have := search (fun k => slices_Index_string_string.l0 N t k) N.length (fun k => if N.getD k [] = t then some (k : Int) else none) (by show slices_Index_string_string.l0 N t _ = _; rw [slices_Index_string_string.l0, if_neg (by omega)]) (fun k hk => by
    show slices_Index_string_string.l0 N t _ = _
    rw [slices_Index_string_string.l0, if_pos (by omega), lAt_some hk, bsome, wS (by omega)]
    have e : N.getD k [] = N[k] := by simp [hk]
    rw [e]
    by_cases q : t = N[k]
    · rw [if_pos q, if_pos q.symm]
    · rw [if_neg q, if_neg (fun w => q w.symm)])
  rw [show slices_Index_string_string.l0 N t 0 = _ from this, bsome]
  unfold plc fstOf
  cases (List.range N.length).findSome? (fun k => if N.getD k [] = t then some (k : Int) else none) <;> rfl
def numB (op : Int) : Bool := decide (op = 1 ∨ op = 8 ∨ op = 9 ∨ op = 10)
theorem number_p (op : Int) : code_number.f op = some (numB op) := by
  unfold code_number.f numB
  rw [show code_spans.f = some [(1, some fun z0 => code_spans_1_1.f z0 (-20) 20), (8, some fun z0 => code_spans_1_1.f z0 0 12), (9, some fun z0 => code_spans_1_1.f z0 0 3), (10, some fun z0 => code_spans_1_1.f z0 0 1)] from rfl, bsome]
  unfold mGet mFind mFind mFind mFind mFind
  by_cases h1 : op = 1
  · simp [h1]
  · by_cases h2 : op = 8
    · simp [h2]
    · by_cases h3 : op = 9
      · simp [h3]
      · by_cases h4 : op = 10
        · simp [h4]
        · simp [h1, h2, h3, h4]
theorem span_eq (x a b : Int) : code_spans_1_1.f x a b = some (decide (a ≤ x ∧ x ≤ b)) := by
  unfold code_spans_1_1.f
  by_cases h : x ≥ a
  · rw [if_pos h]; simp; omega
  · rw [if_neg h, decide_eq_false (by omega)]; rfl
def insB (n : Int) (x : api_Instr) : Bool :=
  if x.Op = 1 then decide (-20 ≤ x.N ∧ x.N ≤ 20 ∧ 0 ≤ x.L ∧ x.L < n) else decide (0 ≤ x.Op ∧ x.Op ≤ 12 ∧ x.L = 0 ∧ (if x.Op = 8 then 0 ≤ x.N ∧ x.N ≤ 12 else if x.Op = 9 then 0 ≤ x.N ∧ x.N ≤ 3 else if x.Op = 10 then 0 ≤ x.N ∧ x.N ≤ 1 else x.N = 0))
theorem two {a b : Prop} [Decidable a] [Decidable b] : ((if a then (some (decide b)) else (some false) : Option Bool)) = some (decide (a ∧ b)) := by by_cases h : a <;> simp [h]
theorem right_p (n : Int) (x : api_Instr) : code_right.f n x = some (insB n x) := by
  unfold code_right.f
  have hs : code_spans.f = some [(1, some fun z0 => code_spans_1_1.f z0 (-20) 20), (8, some fun z0 => code_spans_1_1.f z0 0 12), (9, some fun z0 => code_spans_1_1.f z0 0 3), (10, some fun z0 => code_spans_1_1.f z0 0 1)] := rfl
  by_cases h2 : x.Op < 0
  · rw [if_pos h2, bsome, if_pos rfl]; unfold insB; rw [if_neg (by omega), decide_eq_false (by omega)]
  · by_cases h3 : x.Op ≥ 13
    · rw [if_neg h2, decide_eq_true h3, bsome, if_pos rfl]; unfold insB; rw [if_neg (by omega), decide_eq_false (by omega)]
    · rw [if_neg h2, decide_eq_false h3, bsome, if_neg (by decide), hs, bsome]
      unfold insB mGet mFind mFind mFind mFind mFind
      by_cases q1 : x.Op = 1
      · simp only [q1, if_true, two, bsome, span_eq]
        by_cases z : -20 ≤ x.N ∧ x.N ≤ 20
        · simp [z]
        · simp [z]; intros; omega
      · by_cases q8 : x.Op = 8
        · simp only [q8, if_true, bsome, span_eq]
          by_cases z : 0 ≤ x.N ∧ x.N ≤ 12
          · simp [z]
          · have zz : 0 ≤ x.N → 12 < x.N := by omega
            simp [z]
            rw [if_pos zz]; rfl
        · by_cases q9 : x.Op = 9
          · simp only [q9, if_true, bsome, span_eq]
            by_cases z : 0 ≤ x.N ∧ x.N ≤ 3
            · simp [z]
            · have zz : 0 ≤ x.N → 3 < x.N := by omega
              simp [z]
              rw [if_pos zz]; rfl
          · by_cases q10 : x.Op = 10
            · simp only [q10, if_true, bsome, span_eq]
              by_cases z : 0 ≤ x.N ∧ x.N ≤ 1
              · simp [z]
              · have zz : 0 ≤ x.N → 1 < x.N := by omega
                simp [z]
                rw [if_pos zz]; rfl
            · have z1 : 0 ≤ x.Op := by omega
              have z2 : x.Op ≤ 12 := by omega
              simp only [q1, q8, q9, q10, if_false, bsome]
              by_cases z : x.N = 0
              · simp [z, z1, z2]
              · simp [z]
end
section
def wdN (k : Nat) : Str := gl0.getD k []
theorem word_p {k : Nat} (hk : k < 13) : table_Name.f (k : Int) = some (wdN k, 0) := by
  match k, hk with
  | 0, _ => rfl
  | 1, _ => rfl
  | 2, _ => rfl
  | 3, _ => rfl
  | 4, _ => rfl
  | 5, _ => rfl
  | 6, _ => rfl
  | 7, _ => rfl
  | 8, _ => rfl
  | 9, _ => rfl
  | 10, _ => rfl
  | 11, _ => rfl
  | 12, _ => rfl
  | n + 13, h => omega
def opT (t : Str) : Int := match fstOf 13 (fun k => if wdN k = t then some (k : Int) else none) with | some k => k | none => -1
theorem op_p (t : api_Tok) : code_instruction.f t = some (if t.Kind = 1 then opT t.Text else -1) := by
  unfold code_instruction.f
  by_cases h1 : t.Kind = 1
  · have := search (fun k => code_instruction.l0 t k) 13 (fun k => if wdN k = t.Text then some (k : Int) else none) (by show code_instruction.l0 t _ = _; rw [code_instruction.l0, if_neg (by decide)]) (fun k hk => by
      show code_instruction.l0 t _ = _
      rw [code_instruction.l0, if_pos (by omega), word_p hk, bsome, if_pos h1, bsome, wS (by omega)]
      by_cases q : wdN k = t.Text
      · rw [if_pos q, decide_eq_true q, if_pos tt]
      · rw [if_neg q, decide_eq_false q, if_neg ff])
    rw [show code_instruction.l0 t 0 = _ from this, bsome, if_pos h1]
    unfold opT
    cases fstOf 13 (fun k => if wdN k = t.Text then some (k : Int) else none) <;> rfl
  · have : code_instruction.l0 t 0 = _ := search (fun k => code_instruction.l0 t k) 13 (fun k => none) (by show code_instruction.l0 t _ = _; rw [code_instruction.l0, if_neg (by decide)]) (fun k hk => by
      show code_instruction.l0 t _ = _
      rw [code_instruction.l0, if_pos (by omega), word_p hk, bsome, if_neg h1, bsome, if_neg ff, wS (by omega)])
    rw [this, bsome, if_neg h1]
    have : (fstOf 13 fun _ => (none : Option Int)) = none := fst_none.2 (fun _ _ => rfl)
    rw [this]; rfl
def tailF (o : ((List api_Instr) × Int × Int) ⊕ ((List Str) × (List Int) × (List api_Tok) × Int × Int × (List api_Instr))) : Option ((List api_Instr) × Int × Int) :=
  match o with | .inl r => some r | .inr (x33, x34, x35, x36, x37, x38) => some (([] : List api_Instr), x36, x37)
theorem same_self {x : List api_Instr} (hx : x.length ≤ 1000) : reticentref08_Same.f x x = some true := by
  unfold reticentref08_Same.f
  have : ∀ (d k : Nat), x.length = k + d → reticentref08_Same.l0 x x (k : Int) = some (.inr ()) := by
    intro d
    induction d with
    | zero => intro k h; rw [reticentref08_Same.l0, if_neg (by omega)]
    | succ d ih => intro k h; rw [reticentref08_Same.l0, if_pos (by omega), lAt_some (by omega), bsome, bsome, if_pos rfl, wS (by omega)]; exact ih (k + 1) (by omega)
  rw [if_pos rfl, show reticentref08_Same.l0 x x 0 = _ from this x.length 0 (by omega)]; rfl
theorem tk_of {L : List api_Tok} {a : Int} (h : (L ++ [(⟨0, [], a⟩ : api_Tok)]).length ≤ 1000) : Tk (L ++ [⟨0, [], a⟩]) := by
  refine ⟨h, by simp, fun i hi hk => ?_⟩
  rcases Nat.lt_or_ge i L.length with q | q
  · simp; omega
  · exfalso
    simp at hi
    obtain rfl : i = L.length := by omega
    simp at hk
theorem cutok {n m : Nat} : (0 : Int) ≤ (if (n : Int) < (m : Int) then (n : Int) else (m : Int)) ∧ (if (n : Int) < (m : Int) then (n : Int) else (m : Int)) ≤ (m : Int) := by split <;> omega
end
section
inductive LexTo : Str → List (Int × Str) → Prop
  | nil : LexTo [] []
  | skip {s : Str} {n : Nat} {T : List (Int × Str)} (h : tokS s = (0, n)) (hn : n ≠ 0) (k : LexTo (s.drop n) T) : LexTo s T
  | tok {s : Str} {kd : Int} {n : Nat} {T : List (Int × Str)} (h : tokS s = (kd, n)) (hn : n ≠ 0) (hk : kd ≠ 0) (k : LexTo (s.drop n) T) : LexTo s ((kd, s.take n) :: T)
def kt (t : api_Tok) : Int × Str := (t.Kind, t.Text)
theorem tok_ne {s : Str} {kd : Int} {n : Nat} (h : tokS s = (kd, n)) (hn : n ≠ 0) : s ≠ [] := by
  rintro rfl
  have : tokS [] = (0, 0) := rfl
  rw [this] at h; cases h; exact hn rfl
theorem lex_to {F : Str} (hF : F.length ≤ 2500) : ∀ {s : Str} {T : List (Int × Str)}, LexTo s T → ∀ (k : Nat) (L : List api_Tok), F.drop k = s → k ≤ F.length → L.length ≤ k →
    ∃ ts, lex_Lex.l0 F L (k : Int) = some (.inr (L ++ ts)) ∧ ts.map kt = T := by
  intro s T h
  induction h with
  | nil =>
    intro k L e hk hL
    have hlen := congrArg List.length e
    simp at hlen
    exact ⟨[], by rw [lex_Lex.l0, if_neg (by omega)]; simp, rfl⟩
  | @skip s n T h hn k ih =>
    intro q L e hk hL
    have hne := tok_ne h hn
    have hlen := congrArg List.length e
    simp at hlen
    have hpos : 0 < s.length := List.length_pos_iff.2 hne
    have hle := tok_le hne
    rw [h] at hle
    have hle : n ≤ s.length := hle
    rw [lex_step hF (by omega) (show q < F.length by omega), e, h]
    rw [if_neg hn, if_pos rfl]
    exact ih (q + n) L (by rw [← List.drop_drop, e]) (by omega) (by omega)
  | @tok s kd n T h hn hkd k ih =>
    intro q L e hk hL
    have hne := tok_ne h hn
    have hlen := congrArg List.length e
    simp at hlen
    have hpos : 0 < s.length := List.length_pos_iff.2 hne
    have hle := tok_le hne
    rw [h] at hle
    have hle : n ≤ s.length := hle
    rw [lex_step hF (by omega) (show q < F.length by omega), e, h]
    rw [if_neg hn, if_neg hkd]
    obtain ⟨ts, e1, e2⟩ := ih (q + n) (L ++ [⟨kd, s.take n, (q : Int)⟩]) (by rw [← List.drop_drop, e]) (by omega) (by simp; omega)
    exact ⟨⟨kd, s.take n, (q : Int)⟩ :: ts, by rw [e1]; simp, by rw [List.map_cons, e2]; rfl⟩
theorem lex_eq {F : Str} {T : List (Int × Str)} (h : LexTo F T) (hF : F.length ≤ 2000) (hT : T.length < 200) :
    ∃ ts, lex_Lex.f F = some (ts ++ [⟨0, [], (F.length : Int)⟩], 0, 0) ∧ ts.map kt = T := by
  obtain ⟨ts, e1, e2⟩ := lex_to (by omega) h 0 [] rfl (by omega) (by simp)
  refine ⟨ts, ?_, e2⟩
  have hlen : ts.length = T.length := by rw [← e2]; simp
  have hB : 1000000 ≤ big := by decide
  unfold lex_Lex.f
  rw [if_neg (by omega)]
  have e1' : lex_Lex.l0 F [] 0 = some (.inr ts) := e1
  rw [e1', bsome]
  show (if _ then _ else _) = _
  rw [if_pos (by simp; omega), if_neg (by simp; omega)]
def Sep (s : Str) : Prop := ∀ c r, s = c :: r → letP (c.toNat : Int) = false
theorem sep_nil : Sep [] := fun c r h => by cases h
theorem sep_cons {c : UInt8} {s : Str} (h : letP (c.toNat : Int) = false) : Sep (c :: s) := fun c' r e => by cases e; exact h
theorem cnt_word {p : Int → Bool} {w s : Str} (hw : ∀ c ∈ w, p (c.toNat : Int) = true) (hs : ∀ c r, s = c :: r → p (c.toNat : Int) = false) : cnt p (w ++ s) = w.length := by
  unfold cnt
  induction w with
  | nil =>
    match s, hs with
    | [], _ => rfl
    | c :: r, hs =>
      have := hs c r rfl
      rw [List.nil_append, List.takeWhile_cons, this]; rfl
  | cons a w ih =>
    rw [List.cons_append, List.takeWhile_cons, hw a (List.mem_cons_self ..)]
    simp [ih (fun c hc => hw c (List.mem_cons_of_mem _ hc))]
theorem tok_word {w s : Str} (hne : w ≠ []) (hw : ∀ c ∈ w, letP (c.toNat : Int) = true) (hs : Sep s) : tokS (w ++ s) = (1, w.length) := by
  match w, hne, hw with
  | c :: w, _, hw =>
    have hc := hw c (List.mem_cons_self ..)
    show tokX (c.toNat : Int) c (w ++ s) = _
    unfold tokX
    have hc' := hc
    unfold letP at hc'
    rw [Bool.and_eq_true, decide_eq_true_iff, decide_eq_true_iff] at hc'
    rw [if_neg (by omega), if_neg (by omega), if_pos hc]
    have := cnt_word (p := letP) hw hs
    rw [List.cons_append] at this
    rw [this]
theorem lt_word {w s : Str} {T : List (Int × Str)} (hne : w ≠ []) (hw : ∀ c ∈ w, letP (c.toNat : Int) = true) (hs : Sep s) (k : LexTo s T) : LexTo (w ++ s) ((1, w) :: T) := by
  have h := LexTo.tok (s := w ++ s) (T := T) (tok_word hne hw hs) (fun q => hne (List.length_eq_zero_iff.1 q)) (by decide) (by rw [List.drop_left]; exact k)
  rwa [List.take_left] at h
theorem lt_sp {s : Str} {T : List (Int × Str)} (k : LexTo s T) : LexTo (32 :: s) T := .skip (n := 1) rfl (by decide) k
def kd (op : Int) : Int := if op = 5 then 3 else 1
end
section
theorem lex_any_l0 {s : Str} (hs : s.length ≤ 2000) : ∀ (d k : Nat) (L : List api_Tok), s.length - k ≤ d → k ≤ s.length → L.length ≤ k → (∀ t ∈ L, t.Text.length ≤ 3000) →
    (∃ q, lex_Lex.l0 s L (k : Int) = some (.inl ([], q, 4))) ∨ ∃ L', lex_Lex.l0 s L (k : Int) = some (.inr L') ∧ L'.length ≤ s.length ∧ ∀ t ∈ L', t.Text.length ≤ 3000
  | 0, k, L, hd, hk, hL, ht => by
    refine .inr ⟨L, by rw [lex_Lex.l0, if_neg (by omega)], by omega, ht⟩
  | d + 1, k, L, hd, hk, hL, ht => by
    rcases Nat.lt_or_ge k s.length with hlt | hge
    · rw [lex_step (by omega) (by omega) hlt]
      have hne : s.drop k ≠ [] := by
        intro h
        have := congrArg List.length h
        simp at this; omega
      have hle := tok_le hne
      rw [List.length_drop] at hle
      generalize hT : tokS (s.drop k) = T at *
      obtain ⟨kd, n⟩ := T
      simp only at hle ⊢
      by_cases h0 : n = 0
      · rw [if_pos h0]; exact .inl ⟨_, rfl⟩
      · rw [if_neg h0]
        by_cases h1 : kd = 0
        · rw [if_pos h1]
          exact lex_any_l0 hs d (k + n) L (by omega) (by omega) (by omega) ht
        · rw [if_neg h1]
          refine lex_any_l0 hs d (k + n) _ (by omega) (by omega) (by simp; omega) (fun t hm => ?_)
          rcases List.mem_append.1 hm with q | q
          · exact ht t q
          · simp at q; subst q
            simp; omega
    · exact .inr ⟨L, by rw [lex_Lex.l0, if_neg (by omega)], by omega, ht⟩
end
section
def rightB (n : Int) (code : List api_Instr) : Bool := decide (code.length ≤ 12) && code.all (insB n)
theorem pright_l0 {l : api_Lattice} {c : List api_Instr} (hl : c.length ≤ 1000) : ∀ (d k : Nat), c.length = k + d → ∃ r : Int ⊕ Unit, slices_IndexFunc_api_Instr_api_Instr.l0 c (fun z0 => code_Right_1.f z0 l) (k : Int) = some r ∧ (match r with | .inl j => 0 ≤ j ∧ (c.drop k).all (insB (l.Up.length : Int)) = false | .inr () => (c.drop k).all (insB (l.Up.length : Int)) = true)
  | 0, k, e => by rw [slices_IndexFunc_api_Instr_api_Instr.l0, if_neg (by omega), List.drop_of_length_le (by omega)]; exact ⟨_, rfl, rfl⟩
  | d + 1, k, e => by
    have hk : k < c.length := by omega
    obtain ⟨r, h1, h2⟩ := pright_l0 (l := l) hl d (k + 1) (by omega)
    rw [slices_IndexFunc_api_Instr_api_Instr.l0, if_pos (by omega), lAt_some hk, bsome]
    show ∃ r, (code_Right_1.f c[k] l >>= _) = _ ∧ _
    have hr : code_Right_1.f c[k] l = some (!insB (l.Up.length : Int) c[k]) := by unfold code_Right_1.f; rw [right_p]; rfl
    rw [hr, bsome, wS (by omega), h1, List.drop_eq_getElem_cons hk, List.all_cons]
    cases q : insB (l.Up.length : Int) c[k] with
    | true => rw [if_neg (by decide), Bool.true_and]; exact ⟨r, rfl, h2⟩
    | false => rw [if_pos (by decide), Bool.false_and]; exact ⟨.inl (k : Int), rfl, by omega, rfl⟩
theorem pright_eq {l : api_Lattice} {U : List Nat} (h : Nm l U) {c : List api_Instr} (hl : c.length ≤ 1000) : code_Right.f l c = some (decide (chk l U = 0) && rightB (l.Up.length : Int) c) := by
  unfold code_Right.f rightB slices_ContainsFunc_api_Instr_api_Instr.f slices_IndexFunc_api_Instr_api_Instr.f
  rw [check_eq h, bsome]
  by_cases hc : chk l U = 0
  · rw [if_pos hc, decide_eq_true hc, Bool.true_and]
    by_cases h12 : (c.length : Int) ≤ 12
    · obtain ⟨r, h1, h2⟩ := pright_l0 (l := l) hl c.length 0 (by omega)
      rw [show ((0 : Nat) : Int) = 0 from rfl] at h1
      rw [if_pos h12, h1, bsome, decide_eq_true (show c.length ≤ 12 by omega), Bool.true_and]
      rw [List.drop_zero] at h2
      cases r with
      | inl j => rw [h2.2]; show (((some (decide (j ≥ 0)) >>= _) : Option Bool) >>= _) = _; rw [decide_eq_true h2.1]; rfl
      | inr u => cases u; rw [show c.all (insB (l.Up.length : Int)) = true from h2]; rfl
    · rw [if_neg h12, decide_eq_false (show ¬ c.length ≤ 12 by omega)]; rfl
  · rw [if_neg hc, decide_eq_false hc]; rfl
end
section
theorem itoaS {n : Int} (h0 : 0 ≤ n) (h1 : n < 100) : lib_ItoaA n = some (Lib.decDigits n.toNat) ∧ (Lib.decDigits n.toNat).length ≤ 2 := by
  refine ⟨by unfold lib_ItoaA; rw [if_pos ⟨h0, h1⟩], ?_⟩
  have : n.toNat < 100 := by omega
  generalize n.toNat = m at this
  unfold Lib.decDigits
  split
  · simp
  · unfold Lib.decDigits
    rw [dif_pos (by omega)]; simp
def sg (n : Int) : Str := if n < 0 then [45, 32] ++ Lib.decDigits (0 - n).toNat else Lib.decDigits n.toNat
theorem sg_len {n : Int} (h0 : -20 ≤ n) (h1 : n ≤ 20) : (sg n).length ≤ 4 := by
  unfold sg
  split
  · have := (itoaS (n := 0 - n) (by omega) (by omega)).2
    rw [List.length_append]
    show 2 + _ ≤ 4
    omega
  · have := (itoaS (n := n) (by omega) (by omega)).2
    omega
theorem sg_p {n : Int} (h0 : -20 ≤ n) (h1 : n ≤ 20) : code_signed.f n = some (sg n) := by
  unfold code_signed.f sg
  by_cases h : n < 0
  · obtain ⟨e1, e2⟩ := itoaS (n := 0 - n) (by omega) (by omega)
    rw [if_pos h, if_pos h, wrapZ (by omega) (by omega), e1, bsome, if_pos (by first | omega | (simp only [List.length_append, List.length_cons, List.length_nil]; omega))]
  · obtain ⟨e1, e2⟩ := itoaS (n := n) (by omega) (by omega)
    rw [if_neg h, if_neg h, e1]; rfl
def txi (l : api_Lattice) (x : api_Instr) : Str := (wdN x.Op.toNat ++ (if numB x.Op = true then [32] ++ sg x.N else [])) ++ (if x.Op = 1 then [32, 64, 32] ++ l.Names.getD x.L.toNat [] else []) ++ [32, 59]
theorem wdi_len {k : Nat} (hk : k < 13) : (wdN k).length ≤ 6 := by
  match k, hk with
  | 0, _ => decide
  | 1, _ => decide
  | 2, _ => decide
  | 3, _ => decide
  | 4, _ => decide
  | 5, _ => decide
  | 6, _ => decide
  | 7, _ => decide
  | 8, _ => decide
  | 9, _ => decide
  | 10, _ => decide
  | 11, _ => decide
  | 12, _ => decide
  | n + 13, h => omega
structure Iok (l : api_Lattice) (x : api_Instr) : Prop where
  o0 : 0 ≤ x.Op
  o1 : x.Op < 13
  n0 : -20 ≤ x.N
  n1 : x.N ≤ 20
  lb : x.Op = 1 → 0 ≤ x.L ∧ x.L.toNat < l.Names.length
theorem iok_of {l : api_Lattice} (hn : l.Names.length = l.Up.length) {x : api_Instr} (h : insB (l.Up.length : Int) x = true) : Iok l x := by
  unfold insB at h
  by_cases q : x.Op = 1
  · rw [if_pos q] at h
    have h := of_decide_eq_true h
    exact ⟨by omega, by omega, h.1, h.2.1, fun _ => ⟨h.2.2.1, by omega⟩⟩
  · rw [if_neg q] at h
    obtain ⟨a, b, c, d⟩ := of_decide_eq_true h
    refine ⟨a, by omega, ?_, ?_, fun w => absurd w q⟩ <;>
      (split at d
       · omega
       · split at d
         · omega
         · split at d
           · omega
           · omega)
section
variable {l : api_Lattice} (hN : ∀ s ∈ l.Names, s.length ≤ 1000)
include hN
theorem nm_len {k : Nat} : (l.Names.getD k []).length ≤ 1000 := by
  rw [List.getD_eq_getElem?_getD]
  cases h : l.Names[k]? with
  | none => simp
  | some s => exact hN s (List.mem_of_getElem? h)
theorem txi_len {x : api_Instr} (h : Iok l x) : (txi l x).length ≤ 1100 := by
  have a := wdi_len (k := x.Op.toNat) (by have := h.o0; have := h.o1; omega)
  have b := sg_len h.n0 h.n1
  have c := nm_len hN (k := x.L.toNat)
  unfold txi
  split <;> split <;> simp only [List.length_append, List.length_cons, List.length_nil] <;> omega
theorem name_at {x : api_Instr} (h : Iok l x) (ho : x.Op = 1) : lAt l.Names x.L = some (l.Names.getD x.L.toNat []) := by
  obtain ⟨h0, h1⟩ := h.lb ho
  obtain ⟨k, hk⟩ : ∃ k : Nat, x.L = (k : Int) := ⟨x.L.toNat, by omega⟩
  rw [hk] at h1 ⊢
  rw [Int.toNat_natCast] at h1 ⊢
  rw [lAt_some h1]; simp [h1]
theorem word_atp {x : api_Instr} (h : Iok l x) : table_Name.f x.Op = some (wdN x.Op.toNat, 0) := by
  obtain ⟨k, hk⟩ : ∃ k : Nat, x.Op = (k : Int) := ⟨x.Op.toNat, by have := h.o0; omega⟩
  rw [hk, Int.toNat_natCast]
  exact word_p (by have := h.o1; omega)
theorem text_l0 {c : List api_Instr} (hc : ∀ x ∈ c, Iok l x) (hl : c.length ≤ 100) : ∀ (d k : Nat) (acc : List Str), c.length = k + d → acc.length = k → code_Text.l0 l c acc (k : Int) = some (acc ++ (c.drop k).map (txi l))
  | 0, k, acc, e, ha => by rw [code_Text.l0, if_neg (by omega), List.drop_of_length_le (by omega)]; simp
  | d + 1, k, acc, e, ha => by
    have hk : k < c.length := by omega
    have hx := hc _ (List.getElem_mem hk)
    have hB : 1000000 ≤ big := by decide
    have a := wdi_len (k := c[k].Op.toNat) (by have := hx.o0; have := hx.o1; omega)
    have b := sg_len hx.n0 hx.n1
    have cc := nm_len hN (k := c[k].L.toNat)
    have ih := text_l0 hc hl d (k + 1) (acc ++ [txi l c[k]]) (by omega) (by simp; omega)
    rw [code_Text.l0, if_pos (by omega), lAt_some hk, bsome, word_atp hN hx, bsome, number_p, bsome, wS (by omega)]
    have fin : (some (acc ++ [txi l c[k]]) >>= fun x128 => code_Text.l0 l c x128 ((k + 1 : Nat) : Int)) = some (acc ++ (c.drop k).map (txi l)) := by
      rw [bsome, ih, List.drop_eq_getElem_cons hk, List.map_cons, List.append_assoc]; rfl
    rw [← fin]
    congr 1
    by_cases hn : numB c[k].Op = true
    · rw [if_pos hn, sg_p hx.n0 hx.n1, bsome, if_pos (by first | omega | (simp only [List.length_append, List.length_cons, List.length_nil]; omega)), if_pos (by first | omega | (simp only [List.length_append, List.length_cons, List.length_nil]; omega))]
      by_cases ho : c[k].Op = 1
      · rw [if_pos ho, name_at hN hx ho, bsome, if_pos (by first | omega | (simp only [List.length_append, List.length_cons, List.length_nil]; omega)), if_pos (by first | omega | (simp only [List.length_append, List.length_cons, List.length_nil]; omega)), if_pos (by first | omega | (simp only [List.length_append, List.length_cons, List.length_nil]; omega)), if_pos (by first | omega | (simp only [List.length_append, List.length_cons, List.length_nil]; omega))]
        unfold txi; rw [if_pos hn, if_pos ho]
      · rw [if_neg ho, if_pos (by first | omega | (simp only [List.length_append, List.length_cons, List.length_nil]; omega)), if_pos (by first | omega | (simp only [List.length_append, List.length_cons, List.length_nil]; omega))]
        unfold txi; rw [if_pos hn, if_neg ho, List.append_nil]
    · have ho : ¬ c[k].Op = 1 := fun q => hn (by rw [q]; rfl)
      rw [if_neg hn, if_neg ho, if_pos (by first | omega | (simp only [List.length_append, List.length_cons, List.length_nil]; omega)), if_pos (by first | omega | (simp only [List.length_append, List.length_cons, List.length_nil]; omega))]
      unfold txi; rw [if_neg hn, if_neg ho, List.append_nil, List.append_nil]
end
end
section
theorem oks {l : api_Lattice} {U : List Nat} (h : Nm l U) (hc : chk l U = 0) {c : List api_Instr} (hr : rightB (l.Up.length : Int) c = true) : c.length ≤ 12 ∧ (∀ x ∈ c, Iok l x) ∧ (∀ s ∈ l.Names, s.length ≤ 1000) := by
  unfold rightB at hr
  rw [Bool.and_eq_true] at hr
  have hm : May l U := by
    unfold chk at hc
    by_cases q : May l U
    · exact q
    · rw [if_pos q] at hc; cases hc
  have hn : l.Names.length = l.Up.length := by rw [hm.nm, h.n]
  exact ⟨of_decide_eq_true hr.1, fun x hx => iok_of hn (List.all_eq_true.1 hr.2 x hx), h.sl⟩
noncomputable def txt (l : api_Lattice) (c : List api_Instr) : Str := Lib.join (c.map (txi l)) [32]
theorem txt_len {l : api_Lattice} (hN : ∀ s ∈ l.Names, s.length ≤ 1000) {c : List api_Instr} (hc : ∀ x ∈ c, Iok l x) (hl : c.length ≤ 12) : (txt l c).length ≤ 13212 := by
  have h1 := join_len (sep := [32]) (n := 1100) (xs := c.map (txi l)) (fun s hs => by
    obtain ⟨x, hxm, rfl⟩ := List.mem_map.1 hs
    exact txi_len hN (hc x hxm))
  have h2 : (c.map (txi l)).length ≤ 12 := by rw [List.length_map]; exact hl
  exact Nat.le_trans h1 (Nat.mul_le_mul_right _ h2)
theorem text_p {l : api_Lattice} {U : List Nat} (h : Nm l U) {c : List api_Instr} (hl : c.length ≤ 100) : code_Text.f l c = some (if chk l U = 0 then (if rightB (l.Up.length : Int) c = true then (txt l c, 0) else ([], 1)) else ([], chk l U)) := by
  unfold code_Text.f
  rw [check_eq h, bsome]
  by_cases hc : chk l U = 0
  · rw [if_pos hc, if_pos hc, pright_eq h (by omega), bsome, decide_eq_true hc, Bool.true_and]
    cases hr : rightB (l.Up.length : Int) c with
    | false => rfl
    | true =>
      obtain ⟨h12, hok, hN⟩ := oks h hc hr
      have e := text_l0 hN hok hl c.length 0 [] (by omega) rfl
      rw [show ((0 : Nat) : Int) = 0 from rfl, List.drop_zero, List.nil_append] at e
      have ht := txt_len hN hok h12
      have ej : lib_Join (c.map (txi l)) [32] = some (txt l c) := by
        unfold lib_Join
        rw [if_pos (show (Lib.join (c.map (txi l)) [32]).length ≤ 140737488355328 by unfold txt at ht; omega)]; rfl
      rw [if_neg (by decide), e, bsome, ej, bsome, if_pos rfl]
  · rw [if_neg hc, if_neg hc]
theorem lcut_le {α : Type} {a : List α} {n : Nat} : (lCut a 0 (if (n : Int) < (a.length : Int) then (n : Int) else (a.length : Int))).length ≤ n := by
  unfold lCut
  split
  · simp; omega
  · simp; omega
end
section
theorem digits_p {y : code_reader × api_Tok} (hs : y.2.Text.length ≤ 4) : ∀ (d k : Nat) (a : Int), y.2.Text.length = k + d → (∃ v, code_reader_number.l0 y (k : Int) a = some v) ∧ ∃ v, code_reader_number.l1 y (k : Int) a = some v
  | 0, k, a, e => by
    have hn : ¬ (k : Int) < (y.2.Text.length : Int) := by omega
    exact ⟨⟨a, by rw [code_reader_number.l0, if_neg hn]⟩, ⟨a, by rw [code_reader_number.l1, if_neg hn]⟩⟩
  | d + 1, k, a, e => by
    have hp : (k : Int) < (y.2.Text.length : Int) := by omega
    have hq : (0 : Int) ≤ (k : Int) ∧ (k : Int) < (y.2.Text.length : Int) := by omega
    obtain ⟨⟨v, h1⟩, w, h2⟩ := digits_p hs d (k + 1) (IntKind.i64.wrap ((IntKind.i64.wrap (10 * a)) + (IntKind.i64.wrap (bAnd .u8 (sAt y.2.Text (k : Int)) 15)))) (by omega)
    exact ⟨⟨v, by rw [code_reader_number.l0, if_pos hp, if_pos hq, wS (by omega), h1]⟩, ⟨w, by rw [code_reader_number.l1, if_pos hp, if_pos hq, wS (by omega), h2]⟩⟩
theorem dash (t : api_Tok) : ((if t.Kind = 3 then (some (decide (t.Text = ([45] : Str)))) else (some false) : Option Bool)) = some (decide (t.Kind = 3 ∧ t.Text = [45])) := by
  by_cases h1 : t.Kind = 3 <;> simp [h1]
theorem numk (t : api_Tok) : ((if t.Kind = 2 then (some (decide ((t.Text.length : Int) > 4))) else (some true) : Option Bool)) = some (decide (¬ (t.Kind = 2 ∧ t.Text.length ≤ 4))) := by
  by_cases h1 : t.Kind = 2
  · by_cases h2 : t.Text.length ≤ 4
    · rw [if_pos h1, decide_eq_false (show ¬ (t.Text.length : Int) > 4 by omega), decide_eq_false (by simp [h1, h2])]
    · rw [if_pos h1, decide_eq_true (show (t.Text.length : Int) > 4 by omega), decide_eq_true (by simp [h2])]
  · rw [if_neg h1, decide_eq_true (by simp [h1])]
section
variable {T : List api_Tok} (hT : Tk T) {l : api_Lattice}
include hT
theorem num_neg {i : Nat} (hi : i < T.length) (hm : T[i].Kind = 3 ∧ T[i].Text = [45]) (hi2 : i + 1 < T.length) :
    code_reader_number.f ⟨l, T, (i : Int), 0⟩ = (if T[i + 1].Kind = 2 ∧ T[i + 1].Text.length ≤ 4 then (code_reader_number.l0 ((⟨l, T, ((i + 1 : Nat) : Int), 0⟩ : code_reader), T[i + 1]) 0 0 >>= fun x => some ((⟨l, T, ((i + 1 + 1 : Nat) : Int), 0⟩ : code_reader), IntKind.i64.wrap ((-1) * x))) else some ((⟨l, T, ((i + 1 : Nat) : Int), 4⟩ : code_reader), 0)) := by
  have hl := hT.len
  unfold code_reader_number.f
  rw [tok_p hT hi, bsome]
  show (((if T[i].Kind = 3 then (some (decide (T[i].Text = ([45] : Str)))) else (some false) : Option Bool)) >>= _) = _
  rw [dash, bsome, decide_eq_true hm, if_pos tt, wS (by omega)]
  show (code_reader_tok.f ⟨l, T, ((i + 1 : Nat) : Int), 0⟩ >>= _) = _
  rw [tok_p hT hi2, bsome]
  show (((if T[i + 1].Kind = 2 then (some (decide ((T[i + 1].Text.length : Int) > 4))) else (some true) : Option Bool)) >>= _) = _
  rw [numk, bsome]
  by_cases hn : T[i + 1].Kind = 2 ∧ T[i + 1].Text.length ≤ 4
  · rw [decide_eq_false (by simp [hn.1, hn.2]), if_neg ff, if_pos hn, wS (by omega)]
  · rw [decide_eq_true hn, if_pos tt, if_neg hn]
    show (code_reader_fail.f ⟨l, T, ((i + 1 : Nat) : Int), 0⟩ 4 >>= _) = _
    rw [fail_p hT, bsome]
theorem num_pos {i : Nat} (hi : i < T.length) (hm : ¬ (T[i].Kind = 3 ∧ T[i].Text = [45])) :
    code_reader_number.f ⟨l, T, (i : Int), 0⟩ = (if T[i].Kind = 2 ∧ T[i].Text.length ≤ 4 then (code_reader_number.l1 ((⟨l, T, (i : Int), 0⟩ : code_reader), T[i]) 0 0 >>= fun x => some ((⟨l, T, ((i + 1 : Nat) : Int), 0⟩ : code_reader), IntKind.i64.wrap (1 * x))) else some ((⟨l, T, (i : Int), 4⟩ : code_reader), 0)) := by
  have hl := hT.len
  unfold code_reader_number.f
  rw [tok_p hT hi, bsome]
  show (((if T[i].Kind = 3 then (some (decide (T[i].Text = ([45] : Str)))) else (some false) : Option Bool)) >>= _) = _
  rw [dash, bsome, decide_eq_false hm, if_neg ff]
  show (code_reader_tok.f ⟨l, T, (i : Int), 0⟩ >>= _) = _
  rw [tok_p hT hi, bsome]
  show (((if T[i].Kind = 2 then (some (decide ((T[i].Text.length : Int) > 4))) else (some true) : Option Bool)) >>= _) = _
  rw [numk, bsome]
  by_cases hn : T[i].Kind = 2 ∧ T[i].Text.length ≤ 4
  · rw [decide_eq_false (by simp [hn.1, hn.2]), if_neg ff, if_pos hn, wS (by omega)]
  · rw [decide_eq_true hn, if_pos tt, if_neg hn]
    show (code_reader_fail.f ⟨l, T, (i : Int), 0⟩ 4 >>= _) = _
    rw [fail_p hT, bsome]
theorem num_any {i : Nat} (hi : i < T.length) : ∃ (j : Nat) (e v : Int), code_reader_number.f ⟨l, T, (i : Int), 0⟩ = some (⟨l, T, (j : Int), e⟩, v) ∧ j < T.length := by
  by_cases hm : T[i].Kind = 3 ∧ T[i].Text = [45]
  · have hi2 := hT.next i hi (by omega)
    rw [num_neg hT hi hm hi2]
    by_cases hn : T[i + 1].Kind = 2 ∧ T[i + 1].Text.length ≤ 4
    · obtain ⟨⟨v, h⟩, _⟩ := digits_p (y := ((⟨l, T, ((i + 1 : Nat) : Int), 0⟩ : code_reader), T[i + 1])) hn.2 _ 0 0 (by simp; rfl)
      rw [show ((0 : Nat) : Int) = 0 from rfl] at h
      rw [if_pos hn, h, bsome]
      exact ⟨_, _, _, rfl, hT.next _ hi2 (by omega)⟩
    · rw [if_neg hn]; exact ⟨_, _, _, rfl, hi2⟩
  · rw [num_pos hT hi hm]
    by_cases hn : T[i].Kind = 2 ∧ T[i].Text.length ≤ 4
    · obtain ⟨_, ⟨v, h⟩⟩ := digits_p (y := ((⟨l, T, (i : Int), 0⟩ : code_reader), T[i])) hn.2 _ 0 0 (by simp; rfl)
      rw [show ((0 : Nat) : Int) = 0 from rfl] at h
      rw [if_pos hn, h, bsome]
      exact ⟨_, _, _, rfl, hT.next _ hi (by omega)⟩
    · rw [if_neg hn]; exact ⟨_, _, _, rfl, hi⟩
variable (hN : l.Names.length ≤ 1000) (hC : lattice_Check.f l = some 0)
include hN hC
theorem find_o (t : Str) : order_Find.f l t = some (if plc l.Names t < 0 then (0, 9) else (plc l.Names t, 0)) := by
  unfold order_Find.f
  rw [hC, bsome, if_pos rfl, find_p hN, bsome]
  split <;> rfl
theorem lab_at {i : Nat} (hi : i < T.length) {j : Nat} {e : Int} (hm : mkS T [64] i 0 = (j, e)) (hj : j < T.length) :
    code_reader_label.f ⟨l, T, (i : Int), 0⟩ = (if e = 0 then (if T[j].Kind = 1 then (if plc l.Names T[j].Text < 0 then some (⟨l, T, (j : Int), 6⟩, 0) else some (⟨l, T, ((j + 1 : Nat) : Int), 0⟩, plc l.Names T[j].Text)) else some (⟨l, T, (j : Int), 4⟩, 0)) else some (⟨l, T, (j : Int), e⟩, 0)) := by
  have hl := hT.len
  unfold code_reader_label.f
  rw [mark_p hT hi, bsome, hm]
  show (code_reader_tok.f ⟨l, T, (j : Int), e⟩ >>= _) = _
  rw [tok_p hT hj, bsome]
  show (if e = 0 then _ else _) = _
  by_cases he : e = 0
  · subst he
    rw [if_pos rfl, if_pos rfl]
    show (if T[j].Kind = 1 then _ else _) = _
    by_cases hk : T[j].Kind = 1
    · rw [if_pos hk, if_pos hk]
      show (order_Find.f l T[j].Text >>= _) = _
      rw [find_o hT hN hC, bsome]
      by_cases hp : plc l.Names T[j].Text < 0
      · rw [if_pos hp, if_pos hp]; rfl
      · rw [if_neg hp, if_neg hp]
        show some ((⟨l, T, IntKind.i64.wrap ((j : Int) + 1), 0⟩ : code_reader), plc l.Names T[j].Text) = _
        rw [wS (by omega)]
    · rw [if_neg hk, if_neg hk]; rfl
  · rw [if_neg he, if_neg he]
theorem lab_any {i : Nat} (hi : i < T.length) : ∃ (j : Nat) (e v : Int), code_reader_label.f ⟨l, T, (i : Int), 0⟩ = some (⟨l, T, (j : Int), e⟩, v) ∧ j < T.length := by
  have hj := mkS_lt hT (e := 0) (s := [64]) hi
  rw [lab_at hT hN hC hi (j := (mkS T [64] i 0).1) (e := (mkS T [64] i 0).2) rfl hj]
  split
  · split
    · split
      · exact ⟨_, _, _, rfl, hj⟩
      · rename_i hk _
        exact ⟨_, _, _, rfl, hT.next _ hj (by omega)⟩
    · exact ⟨_, _, _, rfl, hj⟩
  · exact ⟨_, _, _, rfl, hj⟩
omit hN hC in
theorem fin_p {i j : Nat} {e : Int} {x : api_Instr} :
    ((if e = 0 then (code_right.f (l.Up.length : Int) x >>= fun y14 => some (!y14)) else (some false) : Option Bool) >>= fun x12 => if x12 = true then (code_reader_fail.f (⟨l, T, (i : Int), e⟩ : code_reader) 1 >>= fun y16 => some (y16, x)) else (some ((⟨l, T, (j : Int), e⟩ : code_reader), x))) = (if e = 0 ∧ insB (l.Up.length : Int) x = false then some (⟨l, T, (i : Int), 1⟩, x) else some (⟨l, T, (j : Int), e⟩, x)) := by
  by_cases he : e = 0
  · subst he
    rw [if_pos rfl, right_p, bsome, bsome]
    cases insB (l.Up.length : Int) x with
    | true => rfl
    | false => rfl
  · rw [if_neg he, bsome, if_neg ff, if_neg (fun q => he q.1)]
omit hN hC in
theorem fin_any {i j : Nat} (hi : i < T.length) (hj : j < T.length) {e : Int} {x : api_Instr} : ∃ (j' : Nat) (e' : Int), (if e = 0 ∧ insB (l.Up.length : Int) x = false then some ((⟨l, T, (i : Int), 1⟩ : code_reader), x) else some (⟨l, T, (j : Int), e⟩, x)) = some (⟨l, T, (j' : Int), e'⟩, x) ∧ j' < T.length ∧ (e' = 0 → insB (l.Up.length : Int) x = true) := by
  split
  · exact ⟨i, 1, rfl, hi, fun h => by cases h⟩
  · rename_i q
    refine ⟨j, e, rfl, hj, fun h => ?_⟩
    cases hx : insB (l.Up.length : Int) x with
    | true => rfl
    | false => exact absurd ⟨h, hx⟩ q
theorem one_any {i : Nat} (hi : i + 1 < T.length) {op : Int} : ∃ (j : Nat) (e : Int) (x : api_Instr), code_reader_one.f ⟨l, T, (i : Int), 0⟩ op = some (⟨l, T, (j : Int), e⟩, x) ∧ j < T.length ∧ (e = 0 → insB (l.Up.length : Int) x = true) := by
  have hl := hT.len
  have hi0 : i < T.length := by omega
  unfold code_reader_one.f
  rw [number_p, bsome]
  by_cases hn : numB op = true
  · rw [if_pos hn]
    show ∃ (j : Nat) (e : Int) (x : api_Instr), (code_reader_number.f ⟨l, T, IntKind.i64.wrap ((i : Int) + 1), 0⟩ >>= _) = _ ∧ _
    rw [wS (by omega)]
    obtain ⟨j1, e1, v1, h1, hj1⟩ := num_any hT (l := l) hi
    rw [h1, bsome]
    have mk2 : ∀ (j2 : Nat) (e2 : Int) (x : api_Instr), j2 < T.length → ∃ (j : Nat) (e : Int) (x' : api_Instr), ((code_reader_mark.f ⟨l, T, (j2 : Int), e2⟩ ([59] : Str) >>= fun y9 => ((if y9.bad_ = 0 then (code_right.f (y9.l_.Up.length : Int) x >>= fun y14 => some (!y14)) else (some false) : Option Bool) >>= fun x12 => if x12 = true then (code_reader_fail.f (⟨y9.l_, y9.toks_, (i : Int), y9.bad_⟩ : code_reader) 1 >>= fun y16 => some (y16, x)) else (some (y9, x)))) : Option (code_reader × api_Instr)) = some (⟨l, T, (j : Int), e⟩, x') ∧ j < T.length ∧ (e = 0 → insB (l.Up.length : Int) x' = true) := by
      intro j2 e2 x hj2
      rw [mark_p hT hj2, bsome]
      obtain ⟨j', e', q1, q2, q3⟩ := fin_any hT (l := l) hi0 (mkS_lt hT (e := e2) (s := [59]) hj2) (e := (mkS T [59] j2 e2).2) (x := x)
      exact ⟨j', e', x, (fin_p hT (i := i) (j := (mkS T [59] j2 e2).1) (e := (mkS T [59] j2 e2).2)).trans q1, q2, q3⟩
    by_cases ho : op = 1
    · rw [if_pos ho]
      by_cases he : e1 = 0
      · subst he
        rw [show (decide (((⟨l, T, (j1 : Int), 0⟩ : code_reader), v1).1.bad_ = 0)) = true from rfl, bsome, if_pos tt]
        obtain ⟨j2, e2, v2, h3, hj2⟩ := lab_any hT hN hC hj1
        show ∃ (j : Nat) (e : Int) (x : api_Instr), (code_reader_label.f ⟨l, T, (j1 : Int), 0⟩ >>= _) = _ ∧ _
        rw [h3, bsome]
        exact mk2 j2 e2 _ hj2
      · rw [show (decide (((⟨l, T, (j1 : Int), e1⟩ : code_reader), v1).1.bad_ = 0)) = false from decide_eq_false he, bsome, if_neg ff]
        exact mk2 j1 e1 _ hj1
    · rw [if_neg ho, bsome, if_neg ff]
      exact mk2 j1 e1 _ hj1
  · have ho : ¬ op = 1 := fun h => hn (by subst h; rfl)
    rw [if_neg hn, if_neg ho, bsome, if_neg ff, wS (by omega)]
    show ∃ (j : Nat) (e : Int) (x : api_Instr), (code_reader_mark.f ⟨l, T, ((i + 1 : Nat) : Int), 0⟩ ([59] : Str) >>= _) = _ ∧ _
    rw [mark_p hT hi, bsome]
    obtain ⟨j', e', q1, q2, q3⟩ := fin_any hT (l := l) hi0 (mkS_lt hT (e := 0) (s := [59]) hi) (e := (mkS T [59] (i + 1) 0).2) (x := ⟨op, 0, 0⟩)
    exact ⟨j', e', _, (fin_p hT (i := i) (j := (mkS T [59] (i + 1) 0).1) (e := (mkS T [59] (i + 1) 0).2)).trans q1, q2, q3⟩
theorem from_any : ∀ (d : Nat) (acc : List api_Instr) (i : Nat), acc.length + d = 12 → i < T.length → acc.all (insB (l.Up.length : Int)) = true →
    ∃ (out : List api_Instr) (j : Nat) (e : Int), (code_From.l0 l.Names l.Up T (i : Int) 0 acc >>= tailF) = some (out, (j : Int), e) ∧ j < T.length ∧ (e ≠ 0 → out = []) ∧ (e = 0 → out.length ≤ 12 ∧ out.all (insB (l.Up.length : Int)) = true) := by
  intro d
  induction d with
  | zero =>
    intro acc i hd hi ha
    rw [code_From.l0, if_pos rfl, tok_p hT hi, bsome, op_p, bsome]
    by_cases h2 : (if T[i].Kind = 1 then opT T[i].Text else -1) < 0
    · rw [if_pos h2]; exact ⟨acc, i, 0, rfl, hi, fun h => absurd rfl h, fun _ => ⟨by omega, ha⟩⟩
    · rw [if_neg h2, if_pos (by omega)]; exact ⟨[], i, 8, rfl, hi, fun _ => rfl, fun h => by cases h⟩
  | succ d ih =>
    intro acc i hd hi ha
    have hB : 1000000 ≤ big := by decide
    rw [code_From.l0, if_pos rfl, tok_p hT hi, bsome, op_p, bsome]
    by_cases h2 : (if T[i].Kind = 1 then opT T[i].Text else -1) < 0
    · rw [if_pos h2]; exact ⟨acc, i, 0, rfl, hi, fun h => absurd rfl h, fun _ => ⟨by omega, ha⟩⟩
    · have hk : T[i].Kind = 1 := by
        by_cases q : T[i].Kind = 1
        · exact q
        · rw [if_neg q] at h2; exact absurd (by decide) h2
      rw [if_neg h2, if_neg (by omega)]
      obtain ⟨j, e, x, q1, q2, q3⟩ := one_any hT hN hC (hT.next i hi (by omega)) (op := (if T[i].Kind = 1 then opT T[i].Text else -1))
      have q1' : code_reader_one.f (((⟨⟨l.Names, l.Up⟩, T, (i : Int), 0⟩ : code_reader), T[i]) : code_reader × api_Tok).1 (if (((⟨⟨l.Names, l.Up⟩, T, (i : Int), 0⟩ : code_reader), T[i]) : code_reader × api_Tok).2.Kind = 1 then opT (((⟨⟨l.Names, l.Up⟩, T, (i : Int), 0⟩ : code_reader), T[i]) : code_reader × api_Tok).2.Text else -1) = some (⟨l, T, (j : Int), e⟩, x) := q1
      rw [q1', bsome, if_pos (by simp; omega)]
      by_cases he : e = 0
      · subst he
        exact ih (acc ++ [x]) j (by simp; omega) q2 (by rw [List.all_append, ha]; simp [q3 rfl])
      · show ∃ (out : List api_Instr) (j' : Nat) (e' : Int), (code_From.l0 l.Names l.Up T (j : Int) e (acc ++ [x]) >>= tailF) = _ ∧ _
        rw [code_From.l0, if_neg he]
        exact ⟨[], j, e, rfl, q2, fun _ => rfl, fun h => absurd h he⟩
end
end
section
def d1 (m : Nat) : UInt8 := UInt8.ofNat (48 + m)
theorem dec_one {m : Nat} (h : m < 10) : Lib.decDigits m = [d1 m] := by
  unfold Lib.decDigits; rw [dif_pos h]; rfl
theorem dec_two {m : Nat} (h : ¬ m < 10) (h2 : m < 100) : Lib.decDigits m = [d1 (m / 10), d1 (m % 10)] := by
  unfold Lib.decDigits; rw [dif_neg h, dec_one (by omega)]; rfl
theorem d1_val : ∀ m : Fin 10, IntKind.i64.wrap (bAnd .u8 ((d1 m.val).toNat : Int) 15) = (m.val : Int) ∧ digP ((d1 m.val).toNat : Int) = true := by decide
theorem d1_v {m : Nat} (h : m < 10) : IntKind.i64.wrap (bAnd .u8 ((d1 m).toNat : Int) 15) = (m : Int) := (d1_val ⟨m, h⟩).1
theorem d1_d {m : Nat} (h : m < 10) : digP ((d1 m).toNat : Int) = true := (d1_val ⟨m, h⟩).2
theorem dec_dig {m : Nat} (h : m < 100) : Lib.decDigits m ≠ [] ∧ (Lib.decDigits m).length ≤ 4 ∧ ∀ c ∈ Lib.decDigits m, digP (c.toNat : Int) = true := by
  by_cases q : m < 10
  · rw [dec_one q]; exact ⟨by simp, by simp, fun c hc => by simp at hc; subst hc; exact d1_d q⟩
  · rw [dec_two q h]
    refine ⟨by simp, by simp, fun c hc => ?_⟩
    simp at hc
    rcases hc with rfl | rfl
    · exact d1_d (by omega)
    · exact d1_d (by omega)
theorem read0 {y : code_reader × api_Tok} {m : Nat} (h : m < 100) (ht : y.2.Text = Lib.decDigits m) : code_reader_number.l0 y 0 0 = some (m : Int) ∧ code_reader_number.l1 y 0 0 = some (m : Int) := by
  have w0 : IntKind.i64.wrap (10 * 0) = 0 := by decide
  have s01 : IntKind.i64.wrap (0 + 1) = 1 := by decide
  have s12 : IntKind.i64.wrap (1 + 1) = 2 := by decide
  by_cases q : m < 10
  · rw [dec_one q] at ht
    have a0 : sAt y.2.Text 0 = ((d1 m).toNat : Int) := by rw [ht]; rfl
    have hl : (y.2.Text.length : Int) = 1 := by rw [ht]; rfl
    have v := d1_v q
    have f : IntKind.i64.wrap (0 + (m : Int)) = m := by rw [wrapZ (by omega) (by omega)]; omega
    constructor
    · rw [code_reader_number.l0, hl, if_pos (by decide), if_pos (by decide), a0, v, w0, f, s01, code_reader_number.l0, hl, if_neg (by decide)]
    · rw [code_reader_number.l1, hl, if_pos (by decide), if_pos (by decide), a0, v, w0, f, s01, code_reader_number.l1, hl, if_neg (by decide)]
  · rw [dec_two q h] at ht
    have a0 : sAt y.2.Text 0 = ((d1 (m / 10)).toNat : Int) := by rw [ht]; rfl
    have a1 : sAt y.2.Text 1 = ((d1 (m % 10)).toNat : Int) := by rw [ht]; rfl
    have hl : (y.2.Text.length : Int) = 2 := by rw [ht]; rfl
    have v0 := d1_v (m := m / 10) (by omega)
    have v1 := d1_v (m := m % 10) (by omega)
    have f : IntKind.i64.wrap (0 + ((m / 10 : Nat) : Int)) = ((m / 10 : Nat) : Int) := by rw [wrapZ (by omega) (by omega)]; omega
    have f2 : IntKind.i64.wrap (IntKind.i64.wrap (10 * ((m / 10 : Nat) : Int)) + ((m % 10 : Nat) : Int)) = (m : Int) := by
      rw [wrapZ (x := 10 * ((m / 10 : Nat) : Int)) (by omega) (by omega), wrapZ (by omega) (by omega)]; omega
    constructor
    · rw [code_reader_number.l0, hl, if_pos (by decide), if_pos (by decide), a0, v0, w0, f, s01, code_reader_number.l0, hl, if_pos (by decide), if_pos (by decide), a1, v1, f2, s12, code_reader_number.l0, hl, if_neg (by decide)]
    · rw [code_reader_number.l1, hl, if_pos (by decide), if_pos (by decide), a0, v0, w0, f, s01, code_reader_number.l1, hl, if_pos (by decide), if_pos (by decide), a1, v1, f2, s12, code_reader_number.l1, hl, if_neg (by decide)]
def sgT (n : Int) : List (Int × Str) := if n < 0 then [(3, [45]), (2, Lib.decDigits (0 - n).toNat)] else [(2, Lib.decDigits n.toNat)]
def nmS (l : api_Lattice) (x : api_Instr) : Str := l.Names.getD x.L.toNat []
def txT (l : api_Lattice) (x : api_Instr) : List (Int × Str) := (1, wdN x.Op.toNat) :: ((if numB x.Op = true then sgT x.N else []) ++ ((if x.Op = 1 then [(3, [64]), (1, nmS l x)] else []) ++ [(3, [59])]))
structure Lok (l : api_Lattice) : Prop where
  word : ∀ s ∈ l.Names, s ≠ [] ∧ ∀ c ∈ s, letP (c.toNat : Int) = true
  len : ∀ s ∈ l.Names, s.length ≤ 12
  uniq : ∀ (i j : Nat), i < l.Names.length → j < i → l.Names.getD j [] ≠ l.Names.getD i []
  n8 : l.Names.length ≤ 8
theorem nameOk_spec {s : Str} (h : nameOk s = true) : s ≠ [] ∧ s.length ≤ 12 ∧ ∀ c ∈ s, letP (c.toNat : Int) = true := by
  unfold nameOk at h
  rw [Bool.and_eq_true, Bool.and_eq_true] at h
  obtain ⟨h1, h2, h3⟩ := h
  refine ⟨by simpa using h2, of_decide_eq_true h3, fun c hc => ?_⟩
  have h1' : ¬ ∃ k, k < s.length ∧ far s k = true := by simpa using h1
  obtain ⟨k, hk, e⟩ := List.mem_iff_getElem.1 hc
  have hf : ¬ far s k = true := fun q => h1' ⟨k, hk, q⟩
  unfold far at hf
  rw [sAt_get hk, e] at hf
  unfold letP
  simp at hf ⊢
  omega
theorem lok_of {l : api_Lattice} {U : List Nat} (h : Nm l U) (hc : chk l U = 0) : Lok l := by
  have hm : May l U := by
    unfold chk at hc
    by_cases q : May l U
    · exact q
    · rw [if_pos q] at hc; cases hc
  have hb : ∀ i, i < U.length → badM l.Names U i = false := fun i hi => by
    cases q : badM l.Names U i with
    | false => rfl
    | true => exact absurd ⟨i, hi, q⟩ hm.ok
  have hn := hm.nm
  have key : ∀ i, i < l.Names.length → nameOk (l.Names.getD i []) = true ∧ ¬ l.Names.getD i [] ∈ l.Names.take i := by
    intro i hi
    have := hb i (by omega)
    unfold badM at this
    rw [Bool.or_eq_false_iff, Bool.or_eq_false_iff] at this
    exact ⟨by simpa using this.1, by simpa using this.2.1⟩
  have hw : ∀ s ∈ l.Names, nameOk s = true := fun s hs => by
    obtain ⟨i, hi, e⟩ := List.mem_iff_getElem.1 hs
    have := (key i hi).1
    rwa [show l.Names.getD i [] = s by simp [hi, e]] at this
  refine ⟨fun s hs => ⟨(nameOk_spec (hw s hs)).1, (nameOk_spec (hw s hs)).2.2⟩, fun s hs => (nameOk_spec (hw s hs)).2.1, fun i j hi hj e => ?_, by have := hm.le8; omega⟩
  refine (key i hi).2 ?_
  rw [← e]
  have hj' : j < l.Names.length := by omega
  rw [show l.Names.getD j [] = l.Names[j] by simp [hj']]
  exact List.mem_iff_getElem.2 ⟨j, by rw [List.length_take]; omega, by rw [List.getElem_take]⟩
theorem plc_at {l : api_Lattice} (h : Lok l) {i : Nat} (hi : i < l.Names.length) : plc l.Names (l.Names.getD i []) = (i : Int) := by
  unfold plc
  have : (List.range l.Names.length).findSome? (fun k => if l.Names.getD k [] = l.Names.getD i [] then some (k : Int) else none) = some (i : Int) := by
    rw [List.findSome?_eq_some_iff]
    refine ⟨List.range i, i, (List.range l.Names.length).drop (i + 1), ?_, by rw [if_pos rfl], fun k hk => ?_⟩
    · have h1 : List.range l.Names.length = (List.range l.Names.length).take i ++ (List.range l.Names.length).drop i := (List.take_append_drop ..).symm
      rw [List.drop_eq_getElem_cons (by simpa using hi), List.getElem_range, List.take_range, Nat.min_eq_left (by omega)] at h1
      exact h1
    · rw [if_neg (h.uniq i k hi (List.mem_range.1 hk))]
  rw [this]
theorem tok_num {w s : Str} (hne : w ≠ []) (hw : ∀ c ∈ w, digP (c.toNat : Int) = true) (hs : ∀ c r, s = c :: r → digP (c.toNat : Int) = false) : tokS (w ++ s) = (2, w.length) := by
  match w, hne, hw with
  | c :: w, _, hw =>
    have hc := hw c (List.mem_cons_self ..)
    show tokX (c.toNat : Int) c (w ++ s) = _
    unfold tokX
    have hc' := hc
    unfold digP at hc'
    rw [Bool.and_eq_true, decide_eq_true_iff, decide_eq_true_iff] at hc'
    have hl : letP (c.toNat : Int) = false := by unfold letP; rw [decide_eq_false (by omega), Bool.false_and]
    rw [if_neg (by omega), if_neg (by omega), if_neg (by rw [hl]; decide), if_pos hc]
    have := cnt_word (p := digP) hw hs
    rw [List.cons_append] at this
    rw [this]
theorem lt_num {w s : Str} {T : List (Int × Str)} (hne : w ≠ []) (hw : ∀ c ∈ w, digP (c.toNat : Int) = true) (hs : ∀ c r, s = c :: r → digP (c.toNat : Int) = false) (k : LexTo s T) : LexTo (w ++ s) ((2, w) :: T) := by
  have h := LexTo.tok (s := w ++ s) (T := T) (tok_num hne hw hs) (fun q => hne (List.length_eq_zero_iff.1 q)) (by decide) (by rw [List.drop_left]; exact k)
  rwa [List.take_left] at h
theorem lt_mk {c : UInt8} {s : Str} {T : List (Int × Str)} (hc : c = 45 ∨ c = 59 ∨ c = 64) (k : LexTo s T) : LexTo (c :: s) ((3, [c]) :: T) := by
  have h : tokS (c :: s) = (3, 1) := by
    rcases hc with rfl | rfl | rfl
    · show tokX 45 45 s = _
      unfold tokX
      rw [if_neg (by decide), if_neg (by decide), if_neg (by decide), if_neg (by decide), if_neg (fun q => by cases s <;> simp at q), if_pos (by decide)]
    · show tokX 59 59 s = _
      unfold tokX
      rw [if_neg (by decide), if_neg (by decide), if_neg (by decide), if_neg (by decide), if_neg (fun q => by cases s <;> simp at q), if_pos (by decide)]
    · show tokX 64 64 s = _
      unfold tokX
      rw [if_neg (by decide), if_neg (by decide), if_neg (by decide), if_neg (by decide), if_neg (fun q => by cases s <;> simp at q), if_pos (by decide)]
  exact LexTo.tok (n := 1) h (by decide) (by decide) k
theorem wd_word : ∀ k : Fin 13, wdN k.val ≠ [] ∧ ∀ c ∈ wdN k.val, letP (c.toNat : Int) = true := by decide
theorem sg_lex {n : Int} (h0 : -20 ≤ n) (h1 : n ≤ 20) {s : Str} {T : List (Int × Str)} (hs : ∀ c r, s = c :: r → digP (c.toNat : Int) = false) (k : LexTo s T) : LexTo (sg n ++ s) (sgT n ++ T) := by
  unfold sg sgT
  by_cases q : n < 0
  · obtain ⟨a, _, b⟩ := dec_dig (m := (0 - n).toNat) (by omega)
    rw [if_pos q, if_pos q]
    exact lt_mk (.inl rfl) (lt_sp (lt_num a b hs k))
  · obtain ⟨a, _, b⟩ := dec_dig (m := n.toNat) (by omega)
    rw [if_neg q, if_neg q]
    exact lt_num a b hs k
theorem txi_lex {l : api_Lattice} (hL : Lok l) {x : api_Instr} (h : Iok l x) {s : Str} {T : List (Int × Str)} (k : LexTo s T) : LexTo (txi l x ++ s) (txT l x ++ T) := by
  have hw := wd_word ⟨x.Op.toNat, by have := h.o0; have := h.o1; omega⟩
  have hd : ∀ (c : UInt8) (r : Str), digP (c.toNat : Int) = false → ∀ c' r', c :: r = c' :: r' → digP (c'.toNat : Int) = false := fun c r q c' r' e => by cases e; exact q
  have fin : LexTo ([32, 59] ++ s) ((3, [59]) :: T) := lt_sp (lt_mk (.inr (.inl rfl)) k)
  have lab : x.Op = 1 → LexTo ([32, 64, 32] ++ nmS l x ++ ([32, 59] ++ s)) ((3, [64]) :: (1, nmS l x) :: (3, [59]) :: T) := fun ho => by
    obtain ⟨_, hi⟩ := h.lb ho
    have hm : nmS l x ∈ l.Names := by unfold nmS; rw [show l.Names.getD x.L.toNat [] = l.Names[x.L.toNat] by simp [hi]]; exact List.getElem_mem hi
    have hn := hL.word _ hm
    rw [List.append_assoc]
    exact lt_sp (lt_mk (.inr (.inr rfl)) (lt_sp (lt_word hn.1 hn.2 (sep_cons (by decide)) fin)))
  unfold txi txT
  by_cases hn : numB x.Op = true
  · rw [if_pos hn, if_pos hn]
    by_cases ho : x.Op = 1
    · rw [if_pos ho, if_pos ho]
      have := lt_word hw.1 hw.2 (sep_cons (by decide)) (lt_sp (sg_lex h.n0 h.n1 (hd 32 _ (by decide)) (lab ho)))
      simp only [List.append_assoc, List.cons_append, List.nil_append] at this ⊢
      exact this
    · rw [if_neg ho, if_neg ho]
      have := lt_word hw.1 hw.2 (sep_cons (by decide)) (lt_sp (sg_lex h.n0 h.n1 (hd 32 _ (by decide)) fin))
      simp only [List.append_assoc, List.cons_append, List.nil_append, List.append_nil] at this ⊢
      exact this
  · have ho : ¬ x.Op = 1 := fun q => hn (by rw [q]; rfl)
    rw [if_neg hn, if_neg hn, if_neg ho, if_neg ho]
    have := lt_word hw.1 hw.2 (sep_cons (by decide)) fin
    simp only [List.append_assoc, List.cons_append, List.nil_append, List.append_nil] at this ⊢
    exact this
theorem tail_lex {l : api_Lattice} (hL : Lok l) : ∀ {c : List api_Instr}, (∀ x ∈ c, Iok l x) → LexTo (Lib.joinTail [32] (c.map (txi l))) (c.flatMap (txT l))
  | [], _ => .nil
  | x :: c, h => by
    have := lt_sp (txi_lex hL (h x (List.mem_cons_self ..)) (tail_lex hL fun y hy => h y (List.mem_cons_of_mem _ hy)))
    rw [List.flatMap_cons]
    simpa [Lib.joinTail] using this
theorem text_lex {l : api_Lattice} (hL : Lok l) : ∀ {c : List api_Instr}, (∀ x ∈ c, Iok l x) → LexTo (txt l c) (c.flatMap (txT l))
  | [], _ => .nil
  | x :: c, h => by
    unfold txt
    rw [List.map_cons, Lib.join_cons, List.flatMap_cons]
    exact txi_lex hL (h x (List.mem_cons_self ..)) (tail_lex hL fun y hy => h y (List.mem_cons_of_mem _ hy))
end
section
theorem at_ {T : List api_Tok} {i : Nat} {k : Int} {t : Str} {R : List (Int × Str)} (h : (T.drop i).map kt = (k, t) :: R) : ∃ hi : i < T.length, T[i].Kind = k ∧ T[i].Text = t ∧ (T.drop (i + 1)).map kt = R := by
  have hi : i < T.length := by
    rcases Nat.lt_or_ge i T.length with q | q
    · exact q
    · rw [List.drop_of_length_le q] at h; cases h
  rw [List.drop_eq_getElem_cons hi, List.map_cons] at h
  have h1 := (List.cons.inj h).1
  unfold kt at h1
  exact ⟨hi, (Prod.mk.inj h1).1, (Prod.mk.inj h1).2, (List.cons.inj h).2⟩
theorem ins_facts {n : Int} {x : api_Instr} (h : insB n x = true) : (x.Op ≠ 1 → x.L = 0) ∧ (numB x.Op = false → x.N = 0) := by
  unfold insB at h
  by_cases q : x.Op = 1
  · exact ⟨fun w => absurd q w, fun w => by rw [q] at w; cases w⟩
  · rw [if_neg q] at h
    obtain ⟨a, b, c, d⟩ := of_decide_eq_true h
    refine ⟨fun _ => c, fun w => ?_⟩
    unfold numB at w
    have w := of_decide_eq_false w
    rw [if_neg (by omega), if_neg (by omega), if_neg (by omega)] at d
    exact d
theorem op_all : ∀ k : Fin 13, opT (wdN k.val) = (k.val : Int) := by decide
theorem op_word {x : api_Instr} (h0 : 0 ≤ x.Op) (h1 : x.Op < 13) : opT (wdN x.Op.toNat) = x.Op := by
  have := op_all ⟨x.Op.toNat, by omega⟩
  rw [this]
  show ((x.Op.toNat : Nat) : Int) = _
  omega
section
variable {T : List api_Tok} (hT : Tk T) {l : api_Lattice}
include hT
theorem mk_at {i : Nat} {s : Str} {R : List (Int × Str)} (h : (T.drop i).map kt = (3, s) :: R) : mkS T s i 0 = (i + 1, 0) := by
  obtain ⟨hi, a, b, _⟩ := at_ h
  unfold mkS
  rw [get_at hT hi, if_pos rfl, if_pos ⟨a, b⟩]
theorem num_w {i : Nat} {n : Int} (h0 : -20 ≤ n) (h1 : n ≤ 20) {R : List (Int × Str)} (h : (T.drop i).map kt = sgT n ++ R) : ∃ j : Nat, code_reader_number.f ⟨l, T, (i : Int), 0⟩ = some (⟨l, T, (j : Int), 0⟩, n) ∧ (T.drop j).map kt = R := by
  unfold sgT at h
  by_cases q : n < 0
  · rw [if_pos q] at h
    obtain ⟨hi, a, b, h2⟩ := at_ h
    obtain ⟨hi2, a2, b2, h3⟩ := at_ h2
    have hd := dec_dig (m := (0 - n).toNat) (by omega)
    obtain ⟨r1, _⟩ := read0 (y := ((⟨l, T, ((i + 1 : Nat) : Int), 0⟩ : code_reader), T[i + 1])) (m := (0 - n).toNat) (by omega) b2
    refine ⟨i + 1 + 1, ?_, h3⟩
    rw [num_neg hT hi ⟨a, b⟩ hi2, if_pos ⟨a2, by rw [b2]; exact hd.2.1⟩, r1, bsome, wrapZ (by omega) (by omega)]
    congr 2; omega
  · rw [if_neg q] at h
    obtain ⟨hi, a, b, h3⟩ := at_ h
    have hd := dec_dig (m := n.toNat) (by omega)
    obtain ⟨_, r1⟩ := read0 (y := ((⟨l, T, (i : Int), 0⟩ : code_reader), T[i])) (m := n.toNat) (by omega) b
    refine ⟨i + 1, ?_, h3⟩
    rw [num_pos hT hi (fun w => by omega), if_pos ⟨a, by rw [b]; exact hd.2.1⟩, r1, bsome, wrapZ (by omega) (by omega)]
    congr 2; omega
variable (hL : Lok l) (hC : lattice_Check.f l = some 0)
include hL hC
theorem mark_fin {i j : Nat} {x : api_Instr} {R : List (Int × Str)} (h : (T.drop j).map kt = (3, [59]) :: R) (hx : insB (l.Up.length : Int) x = true) : ((code_reader_mark.f ⟨l, T, (j : Int), 0⟩ ([59] : Str) >>= fun y9 => ((if y9.bad_ = 0 then (code_right.f (y9.l_.Up.length : Int) x >>= fun y14 => some (!y14)) else (some false) : Option Bool) >>= fun x12 => if x12 = true then (code_reader_fail.f (⟨y9.l_, y9.toks_, (i : Int), y9.bad_⟩ : code_reader) 1 >>= fun y16 => some (y16, x)) else (some (y9, x)))) : Option (code_reader × api_Instr)) = some (⟨l, T, ((j + 1 : Nat) : Int), 0⟩, x) := by
  obtain ⟨hj, _, _, _⟩ := at_ h
  rw [mark_p hT hj, bsome, mk_at hT h]
  refine (fin_p hT (i := i) (j := j + 1) (e := 0)).trans ?_
  rw [if_neg (fun q => by rw [hx] at q; cases q.2)]
theorem one_w {i : Nat} {x : api_Instr} (hx : Iok l x) (hi : insB (l.Up.length : Int) x = true) {R : List (Int × Str)} (h : (T.drop i).map kt = txT l x ++ R) : ∃ j : Nat, code_reader_one.f ⟨l, T, (i : Int), 0⟩ x.Op = some (⟨l, T, (j : Int), 0⟩, x) ∧ (T.drop j).map kt = R := by
  have hl := hT.len
  have hN : l.Names.length ≤ 1000 := by have := hL.n8; omega
  obtain ⟨f1, f2⟩ := ins_facts hi
  unfold txT at h
  obtain ⟨h0, a0, b0, h1⟩ := at_ h
  unfold code_reader_one.f
  rw [number_p, bsome]
  by_cases hn : numB x.Op = true
  · rw [if_pos hn] at h1 ⊢
    show ∃ j : Nat, (code_reader_number.f ⟨l, T, IntKind.i64.wrap ((i : Int) + 1), 0⟩ >>= _) = _ ∧ _
    rw [wS (by omega)]
    replace h1 : (T.drop (i + 1)).map kt = (sgT x.N ++ ((if x.Op = 1 then [(3, [64]), (1, nmS l x)] else []) ++ [(3, [59])])) ++ R := h1
    rw [List.append_assoc] at h1
    obtain ⟨j1, e1, h2⟩ := num_w hT (l := l) hx.n0 hx.n1 h1
    rw [e1, bsome]
    by_cases ho : x.Op = 1
    · rw [if_pos ho] at h2
      rw [if_pos ho, show (decide (((⟨l, T, (j1 : Int), 0⟩ : code_reader), x.N).1.bad_ = 0)) = true from rfl, bsome, if_pos tt]
      have h2' : (T.drop j1).map kt = (3, [64]) :: (1, nmS l x) :: (3, [59]) :: R := by rw [h2]; rfl
      obtain ⟨g0, _, _, h3⟩ := at_ h2'
      obtain ⟨g1, a1, b1, h4⟩ := at_ h3
      obtain ⟨l0, l1⟩ := hx.lb ho
      have hp : plc l.Names T[j1 + 1].Text = x.L := by
        rw [b1]; unfold nmS; rw [plc_at hL l1]; omega
      have hlab := lab_at hT hN hC g0 (mk_at hT h2') g1
      rw [if_pos rfl, if_pos a1, hp, if_neg (by omega)] at hlab
      refine ⟨j1 + 1 + 1 + 1, ?_, (at_ h4).2.2.2⟩
      show (code_reader_label.f ⟨l, T, (j1 : Int), 0⟩ >>= _) = _
      rw [hlab, bsome]
      exact mark_fin hT hL hC h4 hi
    · rw [if_neg ho] at h2
      rw [if_neg ho, bsome, if_neg ff]
      have hxl := f1 ho
      have hx2 : (⟨x.Op, x.N, 0⟩ : api_Instr) = x := by rw [← hxl]
      have h2' : (T.drop j1).map kt = (3, [59]) :: R := by rw [h2]; rfl
      refine ⟨j1 + 1, ?_, (at_ h2').2.2.2⟩
      have := mark_fin hT hL hC (i := i) (x := ⟨x.Op, x.N, 0⟩) h2' (by rw [hx2]; exact hi)
      rw [hx2] at this
      refine Eq.trans ?_ this
      rw [← hx2]
  · have ho : ¬ x.Op = 1 := fun q => hn (by rw [q]; rfl)
    rw [if_neg hn] at h1 ⊢
    rw [if_neg ho] at h1 ⊢
    have hxl := f1 ho
    have hxn := f2 (by simpa using hn)
    have hx2 : (⟨x.Op, 0, 0⟩ : api_Instr) = x := by
      obtain ⟨o, n, l⟩ := x
      simp only at hxl hxn
      rw [hxl, hxn]
    rw [bsome, if_neg ff, wS (by omega)]
    have h1' : (T.drop (i + 1)).map kt = (3, [59]) :: R := by rw [h1]; rfl
    refine ⟨i + 1 + 1, ?_, (at_ h1').2.2.2⟩
    have := mark_fin hT hL hC (i := i) (x := ⟨x.Op, 0, 0⟩) h1' (by rw [hx2]; exact hi)
    rw [hx2] at this
    refine Eq.trans ?_ this
    rw [← hx2]
theorem from_w : ∀ (c : List api_Instr), (∀ x ∈ c, Iok l x ∧ insB (l.Up.length : Int) x = true) → ∀ (acc : List api_Instr) (i : Nat), acc.length + c.length ≤ 12 → (T.drop i).map kt = c.flatMap (txT l) ++ [(0, [])] →
    ∃ (j : Nat) (hj : j < T.length), (code_From.l0 l.Names l.Up T (i : Int) 0 acc >>= tailF) = some (acc ++ c, (j : Int), 0) ∧ T[j].Kind = 0
  | [], _, acc, i, hd, h => by
    obtain ⟨hi, a, _, _⟩ := at_ h
    rw [code_From.l0, if_pos rfl, tok_p hT hi, bsome, op_p, bsome]
    show ∃ (j : Nat) (hj : j < T.length), ((if (if T[i].Kind = 1 then opT T[i].Text else -1) < 0 then _ else _) >>= tailF) = _ ∧ _
    rw [if_neg (show ¬ T[i].Kind = 1 by omega), if_pos (by decide), List.append_nil]
    exact ⟨i, hi, rfl, a⟩
  | x :: c, hc, acc, i, hd, h => by
    have hB : 1000000 ≤ big := by decide
    obtain ⟨hx, hins⟩ := hc x (List.mem_cons_self ..)
    rw [List.flatMap_cons, List.append_assoc] at h
    obtain ⟨j, e1, h2⟩ := one_w hT hL hC hx hins h
    have h' := h
    unfold txT at h'
    obtain ⟨hi, a, b, _⟩ := at_ h'
    have hop : opT T[i].Text = x.Op := by rw [b, op_word hx.o0 hx.o1]
    rw [code_From.l0, if_pos rfl, tok_p hT hi, bsome, op_p, bsome]
    show ∃ (j : Nat) (hj : j < T.length), ((if (if T[i].Kind = 1 then opT T[i].Text else -1) < 0 then _ else (if (acc.length : Int) = 12 then _ else (code_reader_one.f ⟨l, T, (i : Int), 0⟩ (if T[i].Kind = 1 then opT T[i].Text else -1) >>= _))) >>= tailF) = _ ∧ _
    have h0 := hx.o0
    simp only [List.length_cons] at hd
    rw [if_pos a, hop, if_neg (by omega), if_neg (by omega), e1, bsome, if_pos (by simp; omega)]
    have := from_w c (fun y hy => hc y (List.mem_cons_of_mem _ hy)) (acc ++ [x]) j (by simp; omega) h2
    rw [List.append_assoc] at this
    exact this
end
theorem lex_end {s : Str} : ∃ r j e, lex_Lex.f s = some (r, j, e) ∧ (e = 0 → ∃ L, r = L ++ [⟨0, [], (s.length : Int)⟩] ∧ r.length ≤ 200) := by
  unfold lex_Lex.f
  by_cases h : (s.length : Int) > 2000
  · rw [if_pos h]; exact ⟨_, _, _, rfl, fun h => by cases h⟩
  · rw [if_neg h]
    have hB : 1000000 ≤ big := by decide
    rcases lex_any_l0 (s := s) (by omega) s.length 0 [] (by omega) (by omega) (by simp) (fun t h => by cases h) with ⟨q, e1⟩ | ⟨L, e1, hl, _⟩
    · rw [show ((0 : Nat) : Int) = 0 from rfl] at e1
      rw [e1, bsome]; exact ⟨_, _, _, rfl, fun h => by cases h⟩
    · rw [show ((0 : Nat) : Int) = 0 from rfl] at e1
      rw [e1, bsome]
      dsimp only
      have hb : (L.length + ([(⟨0, [], (s.length : Int)⟩ : api_Tok)] : List api_Tok).length) * 32 ≤ big := by simp; omega
      rw [if_pos hb]
      by_cases q : ((L ++ [(⟨0, [], (s.length : Int)⟩ : api_Tok)]).length : Int) > 200
      · rw [if_pos q]; exact ⟨_, _, _, rfl, fun h => by cases h⟩
      · rw [if_neg q]; exact ⟨_, _, _, rfl, fun _ => ⟨L, rfl, by omega⟩⟩
theorem last0 {L : List api_Tok} {a : Int} (h : (L ++ [(⟨0, [], a⟩ : api_Tok)]).length ≤ 1000) : IntKind.i64.wrap (((L ++ [(⟨0, [], a⟩ : api_Tok)]).length : Int) - 1) = ((L.length : Nat) : Int) ∧ lAt (L ++ [(⟨0, [], a⟩ : api_Tok)]) ((L.length : Nat) : Int) = some ⟨0, [], a⟩ := by
  have h' : L.length + 1 ≤ 1000 := by simpa using h
  constructor
  · rw [wrapZ (by simp only [List.length_append, List.length_cons, List.length_nil]; omega) (by simp only [List.length_append, List.length_cons, List.length_nil]; omega)]; simp
  · rw [lAt_some (by simp)]; simp
theorem from_f {l : api_Lattice} (hC : lattice_Check.f l = some 0) {L : List api_Tok} {a : Int} (h : (L ++ [(⟨0, [], a⟩ : api_Tok)]).length ≤ 1000) : code_From.f l (L ++ [⟨0, [], a⟩]) 0 = (code_From.l0 l.Names l.Up (L ++ [⟨0, [], a⟩]) 0 0 [] >>= tailF) := by
  obtain ⟨w, e⟩ := last0 h
  unfold code_From.f
  rw [hC, bsome, if_pos rfl, if_neg (show ¬ (0 : Int) < 0 by decide), if_neg (show ¬ (0 : Int) ≥ ((L ++ [(⟨0, [], a⟩ : api_Tok)]).length : Int) by simp only [List.length_append, List.length_cons, List.length_nil]; omega), w, e, bsome]
  rfl
theorem txi_short {l : api_Lattice} (hL : Lok l) {x : api_Instr} (h : Iok l x) : (txi l x).length ≤ 28 ∧ (txT l x).length ≤ 6 := by
  have a := wdi_len (k := x.Op.toNat) (by have := h.o0; have := h.o1; omega)
  have b := sg_len h.n0 h.n1
  have sT : (sgT x.N).length ≤ 2 := by unfold sgT; split <;> simp
  constructor
  · unfold txi
    by_cases ho : x.Op = 1
    · obtain ⟨_, hi⟩ := h.lb ho
      have hm : l.Names.getD x.L.toNat [] ∈ l.Names := by rw [show l.Names.getD x.L.toNat [] = l.Names[x.L.toNat] by simp [hi]]; exact List.getElem_mem hi
      have c := hL.len _ hm
      rw [if_pos ho]
      split <;> simp only [List.length_append, List.length_cons, List.length_nil] <;> omega
    · rw [if_neg ho]
      split <;> simp only [List.length_append, List.length_cons, List.length_nil] <;> omega
  · unfold txT
    split <;> split <;> simp only [List.length_append, List.length_cons, List.length_nil] <;> omega
theorem flat_lenT {l : api_Lattice} (hL : Lok l) : ∀ {c : List api_Instr}, (∀ x ∈ c, Iok l x) → (c.flatMap (txT l)).length ≤ 6 * c.length
  | [], _ => by simp
  | x :: c, h => by
    have a := (txi_short hL (h x (List.mem_cons_self ..))).2
    have b := flat_lenT hL (c := c) fun y hy => h y (List.mem_cons_of_mem _ hy)
    rw [List.flatMap_cons, List.length_append, List.length_cons]; omega
end
section
def sB (T : List api_Tok) (i : Nat) (e k : Int) (s : Str) : Bool := decide (e = 0 ∧ (T.getD i ⟨0, [], 0⟩).Kind = k ∧ (T.getD i ⟨0, [], 0⟩).Text = s)
def sM (T : List api_Tok) (k : Int) (s : Str) (i : Nat) (e : Int) : Nat × Int := if sB T i e k s = true then (i + 1, e) else if e = 0 then (i, 4) else (i, e)
theorem sB_bad {T : List api_Tok} {i : Nat} {e k : Int} {s : Str} (h : e ≠ 0) : sB T i e k s = false := by
  unfold sB; exact decide_eq_false (fun q => h q.1)
theorem sM_bad {T : List api_Tok} {i : Nat} {e k : Int} {s : Str} (h : e ≠ 0) : sM T k s i e = (i, e) := by
  unfold sM; rw [sB_bad h, if_neg ff, if_neg h]
section
variable {T : List api_Tok} (hT : Tk T) {l : api_Lattice}
include hT
theorem is_p {i : Nat} (hi : i < T.length) {e k : Int} {s : Str} : state_reader_is.f ⟨l, T, (i : Int), e⟩ k s = some (⟨l, T, (i : Int), e⟩, sB T i e k s) := by
  unfold state_reader_is.f sB
  rw [lAt_some hi, bsome, get_at hT hi]
  have key : ((if e = 0 then (if T[i].Kind = k then (some (decide (T[i].Text = s))) else (some false)) else (some false) : Option Bool)) = some (decide (e = 0 ∧ T[i].Kind = k ∧ T[i].Text = s)) := by
    by_cases h1 : e = 0 <;> by_cases h2 : T[i].Kind = k <;> simp [h1, h2]
  show (((if e = 0 then (if T[i].Kind = k then (some (decide (T[i].Text = s))) else (some false)) else (some false) : Option Bool)) >>= _) = _
  rw [key]; rfl
theorem fail_s {i e w : Int} : state_reader_fail.f ⟨l, T, i, e⟩ w = some ⟨l, T, i, if e = 0 then w else e⟩ := by
  unfold state_reader_fail.f
  by_cases h : e = 0
  · rw [if_pos h, if_pos h]
  · rw [if_neg h, if_neg h]
theorem must_p {i : Nat} (hi : i < T.length) {e k : Int} {s : Str} : state_reader_must.f ⟨l, T, (i : Int), e⟩ k s = some ⟨l, T, ((sM T k s i e).1 : Int), (sM T k s i e).2⟩ := by
  have hl := hT.len
  unfold state_reader_must.f sM
  rw [is_p hT hi, bsome]
  cases h : sB T i e k s with
  | true =>
    rw [if_pos rfl, if_pos rfl]
    show some (⟨l, T, IntKind.i64.wrap ((i : Int) + 1), e⟩ : state_reader) = _
    rw [wS (by omega)]
  | false =>
    rw [if_neg ff, if_neg ff]
    show (state_reader_fail.f ⟨l, T, (i : Int), e⟩ 4 >>= _) = _
    rw [fail_s hT, bsome]
    by_cases he : e = 0
    · rw [if_pos he, if_pos he]
    · rw [if_neg he, if_neg he]
theorem sB_next {i : Nat} (hi : i < T.length) {e k : Int} {s : Str} (hk : k ≠ 0) (h : sB T i e k s = true) : i + 1 < T.length ∧ e = 0 := by
  unfold sB at h
  obtain ⟨h1, h2, _⟩ := of_decide_eq_true h
  rw [get_at hT hi] at h2
  exact ⟨hT.next i hi (by omega), h1⟩
theorem sM_lt {i : Nat} (hi : i < T.length) {e k : Int} {s : Str} (hk : k ≠ 0) : (sM T k s i e).1 < T.length := by
  unfold sM
  by_cases h : sB T i e k s = true
  · rw [if_pos h]; exact (sB_next hT hi hk h).1
  · rw [if_neg h]; split <;> exact hi
theorem of_p {i : Nat} (hi : i < T.length) {e k : Int} : state_reader_of.f ⟨l, T, (i : Int), e⟩ k = some (if e = 0 ∧ T[i].Kind = k then (⟨l, T, ((i + 1 : Nat) : Int), e⟩, T[i].Text) else (⟨l, T, (i : Int), if e = 0 then 4 else e⟩, [])) := by
  have hl := hT.len
  unfold state_reader_of.f
  rw [lAt_some hi, bsome]
  have key : ((if e = 0 then (some (!decide (T[i].Kind = k))) else (some true) : Option Bool)) = some (!decide (e = 0 ∧ T[i].Kind = k)) := by
    by_cases h1 : e = 0 <;> simp [h1]
  show (((if e = 0 then (some (!decide (T[i].Kind = k))) else (some true) : Option Bool)) >>= _) = _
  rw [key, bsome]
  by_cases h : e = 0 ∧ T[i].Kind = k
  · rw [if_pos h, decide_eq_true h, if_neg (by decide)]
    show some ((⟨l, T, IntKind.i64.wrap ((i : Int) + 1), e⟩ : state_reader), T[i].Text) = _
    rw [wS (by omega)]
  · rw [if_neg h, decide_eq_false h, if_pos (by decide), fail_s hT, bsome]
theorem of_ok {i : Nat} (hi : i < T.length) {k : Int} (h : T[i].Kind = k) : state_reader_of.f ⟨l, T, (i : Int), 0⟩ k = some (⟨l, T, ((i + 1 : Nat) : Int), 0⟩, T[i].Text) := by rw [of_p hT hi, if_pos ⟨rfl, h⟩]
theorem of_no {i : Nat} (hi : i < T.length) {k : Int} (h : ¬ T[i].Kind = k) : state_reader_of.f ⟨l, T, (i : Int), 0⟩ k = some (⟨l, T, (i : Int), 4⟩, []) := by rw [of_p hT hi, if_neg (fun q => h q.2), if_pos rfl]
theorem of_bad {i : Nat} (hi : i < T.length) {e k : Int} (h : ¬ e = 0) : state_reader_of.f ⟨l, T, (i : Int), e⟩ k = some (⟨l, T, (i : Int), e⟩, []) := by rw [of_p hT hi, if_neg (fun q => h q.1), if_neg h]
end
theorem lAt_u8s {s : Str} {k : Nat} (h : k < s.length) : lAt (u8s s) (k : Int) = some (sAt s (k : Int)) := by
  rw [lAt_some (show k < (u8s s).length by simpa [u8s] using h), sAt_get h]
  simp [u8s]
theorem k2 (t : api_Tok) : ((if t.Kind = 2 then (some (decide ((t.Text.length : Int) > 4))) else (some true) : Option Bool)) = some (decide (¬ (t.Kind = 2 ∧ t.Text.length ≤ 4))) := by
  by_cases h1 : t.Kind = 2
  · by_cases h2 : t.Text.length ≤ 4
    · rw [if_pos h1, decide_eq_false (show ¬ (t.Text.length : Int) > 4 by omega), decide_eq_false (by simp [h1, h2])]
    · rw [if_pos h1, decide_eq_true (show (t.Text.length : Int) > 4 by omega), decide_eq_true (by simp [h2])]
  · rw [if_neg h1, decide_eq_true (by simp [h1])]
theorem nilOk : ([] : Str).length ≤ big := by decide
end
section
def labB (n : Int) (a : Int) : Bool := decide (a ≥ 0 ∧ a < n)
def valB (v : Int) : Bool := decide (v ≥ -20 ∧ v ≤ 20)
def plaB (v : Int) : Bool := decide (v ≥ 0 ∧ v ≤ 12)
def okA (n : Int) (a : api_Atom) : Bool := valB a.V && labB n a.L
def okS (n : Int) (x : api_Slot) : Bool := labB n x.L && (if x.Ret = true then plaB x.V else valB x.V)
def rightS (n : Int) (s : api_State) : Bool := rightB n s.Code && plaB s.Pc.V && labB n s.Pc.L && (decide (s.Mem.length ≤ 6) && decide (s.Stack.length ≤ 12) && decide (s.Out.length ≤ 8)) && s.Mem.all (okA n) && s.Stack.all (okS n) && s.Out.all (okA n)
theorem if_two {a b : Prop} [Decidable a] [Decidable b] : ((if a then (some (decide b)) else (some false) : Option Bool)) = some (decide (a ∧ b)) := by by_cases h : a <;> simp [h]
theorem value_p (v : Int) : state_value.f v = some (valB v) := by
  unfold state_value.f valB
  rw [if_two]; rfl
theorem place_p (v : Int) : state_place.f v = some (plaB v) := by
  unfold state_place.f plaB
  rw [if_two]; rfl
theorem label_p (l : api_Lattice) (a : Int) : state_Right_1.f a l = some (labB (l.Up.length : Int) a) := by
  unfold state_Right_1.f labB
  rw [if_two]; rfl
theorem odd_p (l : api_Lattice) (a : api_Atom) : state_Right_2.f a (some (fun z0 => state_Right_1.f z0 l)) = some (!okA (l.Up.length : Int) a) := by
  unfold state_Right_2.f okA
  rw [value_p, bsome]
  cases valB a.V with
  | false => rfl
  | true =>
    rw [if_neg (by decide), bsome]
    show ((state_Right_1.f a.L l >>= _) >>= _) = _
    rw [label_p, bsome, bsome]; rfl
theorem strange_p (l : api_Lattice) (x : api_Slot) : state_Right_3.f x (some (fun z0 => state_Right_1.f z0 l)) = some (!okS (l.Up.length : Int) x) := by
  unfold state_Right_3.f okS
  rw [bsome]
  show ((state_Right_1.f x.L l >>= _) >>= _) = _
  rw [label_p, bsome, value_p, place_p, bsome, bsome]
  cases labB (l.Up.length : Int) x.L <;> cases x.Ret <;> cases valB x.V <;> cases plaB x.V <;> rfl
theorem idxA {xs : List api_Atom} {p : api_Atom → Option Bool} {q : api_Atom → Bool} (hp : ∀ x, p x = some (!q x)) (hl : xs.length ≤ 1000) : ∀ (d k : Nat), xs.length = k + d → ∃ r : Int ⊕ Unit, slices_IndexFunc_api_Atom_api_Atom.l0 xs p (k : Int) = some r ∧ (match r with | .inl j => 0 ≤ j ∧ (xs.drop k).all q = false | .inr () => (xs.drop k).all q = true)
  | 0, k, e => by rw [slices_IndexFunc_api_Atom_api_Atom.l0, if_neg (by omega), List.drop_of_length_le (by omega)]; exact ⟨_, rfl, rfl⟩
  | d + 1, k, e => by
    have hk : k < xs.length := by omega
    obtain ⟨r, h1, h2⟩ := idxA hp hl d (k + 1) (by omega)
    rw [slices_IndexFunc_api_Atom_api_Atom.l0, if_pos (by omega), lAt_some hk, bsome, hp, bsome, wS (by omega), h1, List.drop_eq_getElem_cons hk, List.all_cons]
    cases q xs[k] with
    | true => rw [if_neg (by decide), Bool.true_and]; exact ⟨r, rfl, h2⟩
    | false => rw [if_pos (by decide), Bool.false_and]; exact ⟨.inl (k : Int), rfl, by omega, rfl⟩
theorem conA {xs : List api_Atom} {p : api_Atom → Option Bool} {q : api_Atom → Bool} (hp : ∀ x, p x = some (!q x)) (hl : xs.length ≤ 1000) : slices_ContainsFunc_api_Atom_api_Atom.f xs p = some (!xs.all q) := by
  unfold slices_ContainsFunc_api_Atom_api_Atom.f slices_IndexFunc_api_Atom_api_Atom.f
  obtain ⟨r, h1, h2⟩ := idxA hp hl xs.length 0 (by omega)
  rw [show ((0 : Nat) : Int) = 0 from rfl] at h1
  rw [h1, bsome]
  rw [List.drop_zero] at h2
  rcases r with j | u
  · obtain ⟨h3, h4⟩ := h2
    show some (decide (j ≥ 0)) = _
    rw [h4, decide_eq_true h3]; rfl
  · have h2 : xs.all q = true := h2
    rw [h2]; rfl
theorem idxS {xs : List api_Slot} {p : api_Slot → Option Bool} {q : api_Slot → Bool} (hp : ∀ x, p x = some (!q x)) (hl : xs.length ≤ 1000) : ∀ (d k : Nat), xs.length = k + d → ∃ r : Int ⊕ Unit, slices_IndexFunc_api_Slot_api_Slot.l0 xs p (k : Int) = some r ∧ (match r with | .inl j => 0 ≤ j ∧ (xs.drop k).all q = false | .inr () => (xs.drop k).all q = true)
  | 0, k, e => by rw [slices_IndexFunc_api_Slot_api_Slot.l0, if_neg (by omega), List.drop_of_length_le (by omega)]; exact ⟨_, rfl, rfl⟩
  | d + 1, k, e => by
    have hk : k < xs.length := by omega
    obtain ⟨r, h1, h2⟩ := idxS hp hl d (k + 1) (by omega)
    rw [slices_IndexFunc_api_Slot_api_Slot.l0, if_pos (by omega), lAt_some hk, bsome, hp, bsome, wS (by omega), h1, List.drop_eq_getElem_cons hk, List.all_cons]
    cases q xs[k] with
    | true => rw [if_neg (by decide), Bool.true_and]; exact ⟨r, rfl, h2⟩
    | false => rw [if_pos (by decide), Bool.false_and]; exact ⟨.inl (k : Int), rfl, by omega, rfl⟩
theorem conS {xs : List api_Slot} {p : api_Slot → Option Bool} {q : api_Slot → Bool} (hp : ∀ x, p x = some (!q x)) (hl : xs.length ≤ 1000) : slices_ContainsFunc_api_Slot_api_Slot.f xs p = some (!xs.all q) := by
  unfold slices_ContainsFunc_api_Slot_api_Slot.f slices_IndexFunc_api_Slot_api_Slot.f
  obtain ⟨r, h1, h2⟩ := idxS hp hl xs.length 0 (by omega)
  rw [show ((0 : Nat) : Int) = 0 from rfl] at h1
  rw [h1, bsome]
  rw [List.drop_zero] at h2
  rcases r with j | u
  · obtain ⟨h3, h4⟩ := h2
    show some (decide (j ≥ 0)) = _
    rw [h4, decide_eq_true h3]; rfl
  · have h2 : xs.all q = true := h2
    rw [h2]; rfl
structure Sz (s : api_State) : Prop where
  code : s.Code.length ≤ 1000
  mem : s.Mem.length ≤ 1000
  stack : s.Stack.length ≤ 1000
  out : s.Out.length ≤ 1000
theorem le_int {a b : Nat} : (decide ((a : Int) ≤ (b : Int))) = decide (a ≤ b) := decide_eq_decide.2 (by omega)
theorem right_s {l : api_Lattice} {U : List Nat} (h : Nm l U) (hc : chk l U = 0) {s : api_State} (z : Sz s) : state_Right.f l s = some (rightS (l.Up.length : Int) s) := by
  unfold state_Right.f rightS
  rw [pright_eq h z.code, decide_eq_true hc, Bool.true_and, place_p, conA (odd_p l) z.mem, conA (odd_p l) z.out, conS (strange_p l) z.stack]
  have hz : ((if (s.Mem.length : Int) ≤ 6 then (if (s.Stack.length : Int) ≤ 12 then (some (decide ((s.Out.length : Int) ≤ 8))) else (some false)) else (some false) : Option Bool)) = some (decide (s.Mem.length ≤ 6) && decide (s.Stack.length ≤ 12) && decide (s.Out.length ≤ 8)) := by
    by_cases h1 : s.Mem.length ≤ 6
    · rw [if_pos (by omega), decide_eq_true h1]
      by_cases h2 : s.Stack.length ≤ 12
      · rw [if_pos (by omega), decide_eq_true h2]
        show some (decide ((s.Out.length : Int) ≤ ((8 : Nat) : Int))) = _
        rw [le_int]; rfl
      · rw [if_neg (by omega), decide_eq_false h2]; rfl
    · rw [if_neg (by omega), decide_eq_false h1]; rfl
  rw [hz, bsome, bsome]
  generalize (decide (s.Mem.length ≤ 6) && decide (s.Stack.length ≤ 12) && decide (s.Out.length ≤ 8)) = Z
  generalize s.Mem.all (okA (l.Up.length : Int)) = M
  generalize s.Stack.all (okS (l.Up.length : Int)) = S
  generalize s.Out.all (okA (l.Up.length : Int)) = O
  generalize rightB (l.Up.length : Int) s.Code = C
  generalize plaB s.Pc.V = P
  cases C with
  | false => rfl
  | true =>
    rw [if_pos rfl, bsome]
    cases P with
    | false => rfl
    | true =>
      rw [if_pos rfl, bsome]
      show ((state_Right_1.f s.Pc.L l >>= _) >>= _) = _
      rw [label_p, bsome]
      cases labB (l.Up.length : Int) s.Pc.L <;> cases Z <;> cases M <;> cases S <;> cases O <;> rfl
end
section
theorem same_atoms {x : List api_Atom} (hx : x.length ≤ 1000) : reticentref09_AtomsSame.f x x = some true := by
  unfold reticentref09_AtomsSame.f
  have : ∀ (d k : Nat), x.length = k + d → reticentref09_AtomsSame.l0 x x (k : Int) = some (.inr ()) := by
    intro d
    induction d with
    | zero => intro k h; rw [reticentref09_AtomsSame.l0, if_neg (by omega)]
    | succ d ih => intro k h; rw [reticentref09_AtomsSame.l0, if_pos (by omega), lAt_some (by omega), bsome, bsome, if_pos rfl, wS (by omega)]; exact ih (k + 1) (by omega)
  rw [if_pos rfl, show reticentref09_AtomsSame.l0 x x 0 = _ from this x.length 0 (by omega)]; rfl
theorem same_state {x : api_State} (z : Sz x) : reticentref09_Same.f x x = some true := by
  unfold reticentref09_Same.f
  have : ∀ (d k : Nat), x.Stack.length = k + d → reticentref09_Same.l0 x x (k : Int) = some (.inr ()) := by
    have hx := z.stack
    intro d
    induction d with
    | zero => intro k h; rw [reticentref09_Same.l0, if_neg (by omega)]
    | succ d ih => intro k h; rw [reticentref09_Same.l0, if_pos (by omega), lAt_some (by omega), bsome, bsome, if_pos rfl, wS (by omega)]; exact ih (k + 1) (by omega)
  rw [if_pos rfl, same_self z.code, bsome, if_neg (by decide), same_atoms z.mem, bsome, if_neg (by decide), same_atoms z.out, bsome, if_neg (by decide), decide_eq_true rfl, bsome, if_neg (by decide), show reticentref09_Same.l0 x x 0 = _ from this x.Stack.length 0 (by omega)]; rfl
end
section
def sameB (x y : api_State) : Bool := decide (x.Pc = y.Pc) && decide (x.Code = y.Code) && decide (x.Mem = y.Mem) && decide (x.Stack = y.Stack) && decide (x.Out = y.Out)
def wr (l : api_Lattice) (v a : Int) : Str := (sg v ++ [32, 64, 32]) ++ l.Names.getD a.toNat []
structure Aok (l : api_Lattice) (v a : Int) : Prop where
  v0 : -20 ≤ v
  v1 : v ≤ 20
  a0 : 0 ≤ a
  a1 : a < (l.Names.length : Int)
section
variable {l : api_Lattice} (hN : ∀ s ∈ l.Names, s.length ≤ 1000)
include hN
theorem wr_len {v a : Int} (h : Aok l v a) : (wr l v a).length ≤ 1007 := by
  have b := sg_len h.v0 h.v1
  have c := nm_len hN (k := a.toNat)
  unfold wr
  simp only [List.length_append, List.length_cons, List.length_nil]; omega
theorem nameA {v a : Int} (h : Aok l v a) : lAt l.Names a = some (l.Names.getD a.toNat []) := by
  have h0 := h.a0
  have h1 := h.a1
  obtain ⟨k, rfl⟩ : ∃ k : Nat, a = (k : Int) := ⟨a.toNat, by omega⟩
  rw [Int.toNat_natCast, lAt_some (by omega)]
  simp [show k < l.Names.length by omega]
theorem written_p {v a : Int} (h : Aok l v a) : state_written.f l v a = some (wr l v a) := by
  have c := nm_len hN (k := a.toNat)
  have hv0 := h.v0
  have hv1 := h.v1
  unfold state_written.f wr sg
  rw [nameA hN h]
  by_cases hv : v < 0
  · have hi : ∃ t, lib_ItoaA v = some t := by
      have hd := decDigits_len v.natAbs (by omega)
      refine ⟨Lib.itoa v, ?_⟩
      unfold lib_ItoaA
      rw [if_neg (by omega), if_pos (by omega), if_pos (show (Lib.itoa v).length ≤ 100 by unfold Lib.itoa; rw [if_pos hv, List.length_cons]; omega)]
    obtain ⟨t, ht⟩ := hi
    obtain ⟨e1, e2⟩ := itoaS (n := 0 - v) (by omega) (by omega)
    rw [ht, bsome, if_pos hv, if_pos hv, wrapZ (by omega) (by omega), e1, bsome, if_pos (by simp only [List.length_cons, List.length_nil]; omega), if_pos (by simp only [List.length_append, List.length_cons, List.length_nil]; omega), bsome, if_pos (by simp only [List.length_append, List.length_cons, List.length_nil]; omega)]
  · obtain ⟨e1, e2⟩ := itoaS (n := v) (by omega) (by omega)
    rw [e1, bsome, if_neg hv, if_neg hv, if_pos (by simp only [List.length_cons, List.length_nil]; omega), bsome, if_pos (by simp only [List.length_append, List.length_cons, List.length_nil]; omega)]
end
end
section
noncomputable def cum (base : Str) (ts : List Str) : Str := if ts = [] then base else (base ++ [32]) ++ Lib.join ts [32, 44, 32]
theorem cum_len {base : Str} {ts : List Str} {n : Nat} (h : ∀ t ∈ ts, t.length ≤ n) : (cum base ts).length ≤ base.length + 1 + ts.length * (n + 3) := by
  unfold cum
  split
  · omega
  · have := join_len (sep := [32, 44, 32]) h
    simp only [List.length_append, List.length_cons, List.length_nil]
    have h3 : ([32, 44, 32] : Str).length = 3 := rfl
    rw [h3] at this
    omega
def tA (l : api_Lattice) (x : List api_Atom) : List Str := x.map fun a => wr l a.V a.L
def tS1 (l : api_Lattice) (x : api_Slot) : Str := if x.Ret = true then [114, 101, 116, 32] ++ wr l x.V x.L else wr l x.V x.L
def tS (l : api_Lattice) (x : List api_Slot) : List Str := x.map (tS1 l)
section
variable {l : api_Lattice} (hN : ∀ s ∈ l.Names, s.length ≤ 1000)
include hN
theorem tA_len {x : List api_Atom} (hx : ∀ a ∈ x, Aok l a.V a.L) : ∀ t ∈ tA l x, t.length ≤ 1011 := by
  intro t ht
  obtain ⟨a, ha, rfl⟩ := List.mem_map.1 ht
  have := wr_len hN (hx a ha)
  show (wr l a.V a.L).length ≤ 1011
  omega
theorem tS_len {x : List api_Slot} (hx : ∀ a ∈ x, Aok l a.V a.L) : ∀ t ∈ tS l x, t.length ≤ 1011 := by
  intro t ht
  obtain ⟨a, ha, rfl⟩ := List.mem_map.1 ht
  have := wr_len hN (hx a ha)
  unfold tS1
  split
  · simp only [List.length_append, List.length_cons, List.length_nil]; omega
  · omega
theorem line_p {word : Str} {ts : List Str} (hw : word.length ≤ 100) (hl : ts.length ≤ 100) (ht : ∀ t ∈ ts, t.length ≤ 1011) : state_line.f word ts = some (cum word ts ++ [32, 59, 10]) := by
  unfold state_line.f cum
  by_cases h : ts = []
  · subst h
    rw [if_pos (by simp), if_pos (by simp only [List.length_cons, List.length_nil]; omega), if_pos rfl]
  · have hp : 0 < ts.length := List.length_pos_iff.2 h
    have hj := join_len (sep := [32, 44, 32]) ht
    have hj2 : (Lib.join ts [32, 44, 32]).length ≤ 100 * 1014 := Nat.le_trans hj (Nat.mul_le_mul hl (by simp))
    have ej : lib_Join ts [32, 44, 32] = some (Lib.join ts [32, 44, 32]) := by
      unfold lib_Join
      rw [if_pos (by omega)]
    rw [if_neg (by omega), if_neg h, if_pos (by simp only [List.length_cons, List.length_nil]; omega), ej, bsome, if_pos (by simp only [List.length_append, List.length_cons, List.length_nil]; omega), if_pos (by simp only [List.length_append, List.length_cons, List.length_nil]; omega)]
theorem atoms_p {x : List api_Atom} (hx : ∀ a ∈ x, Aok l a.V a.L) (hl : x.length ≤ 100) : state_Text_1.f x l = some (tA l x) := by
  unfold state_Text_1.f
  have : ∀ (d k : Nat), x.length = k + d → state_Text_1.l0 x l (tA l (x.take k)) (k : Int) = some (tA l x) := by
    intro d
    induction d with
    | zero => intro k h; rw [state_Text_1.l0, if_neg (by omega), List.take_of_length_le (by omega)]
    | succ d ih =>
      intro k h
      have hk : k < x.length := by omega
      have hg : ((tA l (x.take k)).length + ([wr l x[k].V x[k].L] : List Str).length) * 16 ≤ big := by
        unfold tA; simp only [List.length_map, List.length_take, List.length_cons, List.length_nil]; unfold big; omega
      rw [state_Text_1.l0, if_pos (by omega), lAt_some hk, bsome, written_p hN (hx _ (List.getElem_mem hk)), bsome, if_pos hg, wS (by omega)]
      have := ih (k + 1) (by omega)
      rw [List.take_succ_eq_append_getElem hk] at this
      unfold tA at this ⊢
      rw [List.map_append] at this
      exact this
  rw [show ([] : List Str) = tA l (x.take 0) by simp [tA], show (0 : Int) = ((0 : Nat) : Int) from rfl, this x.length 0 (by omega), bsome]
theorem stack_p {s : api_State} (hx : ∀ a ∈ s.Stack, Aok l a.V a.L) (hl : s.Stack.length ≤ 100) : state_Text.l0 l s [] 0 = some (tS l s.Stack) ∧ state_Text.l1 l s [] 0 = some (tS l s.Stack) := by
  have : ∀ (d k : Nat), s.Stack.length = k + d → state_Text.l0 l s (tS l (s.Stack.take k)) (k : Int) = some (tS l s.Stack) ∧ state_Text.l1 l s (tS l (s.Stack.take k)) (k : Int) = some (tS l s.Stack) := by
    intro d
    induction d with
    | zero => intro k h; rw [state_Text.l0, if_neg (by omega), state_Text.l1, if_neg (by omega), List.take_of_length_le (by omega)]; exact ⟨rfl, rfl⟩
    | succ d ih =>
      intro k h
      have hk : k < s.Stack.length := by omega
      have hw := wr_len hN (hx _ (List.getElem_mem hk))
      have hg : ∀ t : Str, ((tS l (s.Stack.take k)).length + ([t] : List Str).length) * 16 ≤ big := by
        intro t
        unfold tS; simp only [List.length_map, List.length_take, List.length_cons, List.length_nil]; unfold big; omega
      obtain ⟨i1, i2⟩ := ih (k + 1) (by omega)
      have ht : tS l (s.Stack.take (k + 1)) = tS l (s.Stack.take k) ++ [tS1 l s.Stack[k]] := by
        unfold tS; rw [List.take_succ_eq_append_getElem hk, List.map_append]; rfl
      rw [ht] at i1 i2
      rw [state_Text.l0, if_pos (by omega), state_Text.l1, if_pos (by omega), lAt_some hk, bsome, written_p hN (hx _ (List.getElem_mem hk)), bsome]
      unfold tS1 at i1 i2
      cases hr : s.Stack[k].Ret with
      | true =>
        rw [hr] at i1 i2
        rw [if_pos tt] at i1 i2
        rw [if_pos tt, if_pos (by simp only [List.length_cons, List.length_nil]; omega), if_pos (hg _), bsome, bsome, wS (by omega)]
        exact ⟨i1, i2⟩
      | false =>
        rw [hr] at i1 i2
        rw [if_neg ff] at i1 i2
        rw [if_neg ff, if_pos (hg _), bsome, bsome, wS (by omega)]
        exact ⟨i1, i2⟩
  have h0 := this s.Stack.length 0 (by omega)
  rw [show ((0 : Nat) : Int) = 0 from rfl, List.take_zero] at h0
  exact h0
end
end
section
noncomputable def pre (l : api_Lattice) (s : api_State) : Str := (([112, 99, 32] : Str) ++ wr l s.Pc.V s.Pc.L) ++ ([32, 59, 10, 99, 111, 100, 101] : Str)
noncomputable def lnA (l : api_Lattice) (word : Str) (x : List api_Atom) : Str := cum word (tA l x) ++ ([32, 59, 10] : Str)
noncomputable def lnS (l : api_Lattice) (x : List api_Slot) : Str := cum ([115, 116, 97, 99, 107] : Str) (tS l x) ++ ([32, 59, 10] : Str)
noncomputable def prg (l : api_Lattice) (s : api_State) : Str := if s.Code = [] then [] else ([32] : Str) ++ txt l s.Code
noncomputable def stT (l : api_Lattice) (s : api_State) : Str := ((((pre l s ++ prg l s) ++ ([10] : Str)) ++ lnA l [109, 101, 109] s.Mem) ++ lnS l s.Stack) ++ lnA l [111, 117, 116] s.Out
structure Fine (l : api_Lattice) (s : api_State) : Prop where
  nm : ∀ s ∈ l.Names, s.length ≤ 1000
  code : rightB (l.Up.length : Int) s.Code = true
  cl : s.Code.length ≤ 12
  pc : Aok l s.Pc.V s.Pc.L
  mem : ∀ a ∈ s.Mem, Aok l a.V a.L
  ml : s.Mem.length ≤ 6
  stack : ∀ a ∈ s.Stack, Aok l a.V a.L
  sl : s.Stack.length ≤ 12
  out : ∀ a ∈ s.Out, Aok l a.V a.L
  ol : s.Out.length ≤ 8
  tl : (txt l s.Code).length ≤ 13212
  tn : txt l s.Code = [] ↔ s.Code = []
theorem aok_of {l : api_Lattice} (hn : l.Names.length = l.Up.length) {v a : Int} (hv : -20 ≤ v ∧ v ≤ 20) (ha : labB (l.Up.length : Int) a = true) : Aok l v a := by
  unfold labB at ha
  have := of_decide_eq_true ha
  exact ⟨hv.1, hv.2, this.1, by omega⟩
theorem fine {l : api_Lattice} {U : List Nat} (h : Nm l U) (hc : chk l U = 0) {s : api_State} (hr : rightS (l.Up.length : Int) s = true) : Fine l s := by
  unfold rightS at hr
  simp only [Bool.and_eq_true] at hr
  obtain ⟨⟨⟨⟨⟨⟨h1, h2⟩, h3⟩, ⟨h4, h5⟩, h6⟩, h7⟩, h8⟩, h9⟩ := hr
  obtain ⟨c1, c2, c3⟩ := oks h hc h1
  have hm : May l U := by
    unfold chk at hc
    by_cases q : May l U
    · exact q
    · rw [if_pos q] at hc; cases hc
  have hn : l.Names.length = l.Up.length := by rw [hm.nm, h.n]
  have hp : ∀ v, plaB v = true → -20 ≤ v ∧ v ≤ 20 := by
    intro v hv
    unfold plaB at hv
    have := of_decide_eq_true hv
    omega
  have hv : ∀ v, valB v = true → -20 ≤ v ∧ v ≤ 20 := by
    intro v hv
    unfold valB at hv
    have := of_decide_eq_true hv
    omega
  have hA : ∀ x : List api_Atom, x.all (okA (l.Up.length : Int)) = true → ∀ a ∈ x, Aok l a.V a.L := by
    intro x hx a ha
    have := List.all_eq_true.1 hx a ha
    unfold okA at this
    rw [Bool.and_eq_true] at this
    exact aok_of hn (hv _ this.1) this.2
  refine ⟨c3, h1, c1, aok_of hn (hp _ h2) h3, hA _ h7, of_decide_eq_true h4, ?_, of_decide_eq_true h5, hA _ h9, of_decide_eq_true h6, txt_len c3 c2 c1, ?_, ?_⟩
  · intro a ha
    have := List.all_eq_true.1 h8 a ha
    unfold okS at this
    rw [Bool.and_eq_true] at this
    refine aok_of hn ?_ this.1
    have t := this.2
    split at t
    · exact hp _ t
    · exact hv _ t
  · intro q
    by_cases k : s.Code = []
    · exact k
    · exfalso
      unfold txt at q
      refine join_ne (xs := s.Code.map (txi l)) (by simpa using k) ?_ q
      intro t ht
      obtain ⟨x, _, rfl⟩ := List.mem_map.1 ht
      unfold txi
      simp
  · intro q
    unfold txt
    rw [q]; rfl
theorem cumA_len {l : api_Lattice} (hN : ∀ s ∈ l.Names, s.length ≤ 1000) {word : Str} (hw : word.length ≤ 100) {x : List api_Atom} (hx : ∀ a ∈ x, Aok l a.V a.L) (hl : x.length ≤ 100) : (lnA l word x).length ≤ 200000 := by
  have h1 := cum_len (base := word) (tA_len hN hx)
  have h2 : (tA l x).length ≤ 100 := by unfold tA; rw [List.length_map]; omega
  have h3 := Nat.mul_le_mul_right 1014 h2
  unfold lnA
  rw [List.length_append, show ([32, 59, 10] : Str).length = 3 from rfl]
  omega
theorem cumS_len {l : api_Lattice} (hN : ∀ s ∈ l.Names, s.length ≤ 1000) {x : List api_Slot} (hx : ∀ a ∈ x, Aok l a.V a.L) (hl : x.length ≤ 100) : (lnS l x).length ≤ 200000 := by
  have h1 := cum_len (base := ([115, 116, 97, 99, 107] : Str)) (tS_len hN hx)
  have h2 : (tS l x).length ≤ 100 := by unfold tS; rw [List.length_map]; omega
  have h3 := Nat.mul_le_mul_right 1014 h2
  unfold lnS
  rw [List.length_append, show ([32, 59, 10] : Str).length = 3 from rfl]
  rw [show ([115, 116, 97, 99, 107] : Str).length = 5 from rfl] at h1
  omega
theorem text_s {l : api_Lattice} {U : List Nat} (h : Nm l U) (hc : chk l U = 0) {s : api_State} (z : Sz s) : state_Text.f l s = some (if rightS (l.Up.length : Int) s = true then (stT l s, 0) else ([], 1)) := by
  unfold state_Text.f
  rw [check_eq h, bsome, if_pos hc, right_s h hc z, bsome]
  cases hr : rightS (l.Up.length : Int) s with
  | false => rfl
  | true =>
    have F := fine h hc hr
    rw [if_neg (by decide), if_pos rfl, text_p h (by have := F.cl; omega), bsome, if_pos hc, if_pos F.code]
    obtain ⟨s0, s1⟩ := stack_p F.nm F.stack (by have := F.sl; omega)
    have hw := wr_len F.nm F.pc
    have hM := cumA_len F.nm (word := [109, 101, 109]) (by decide) F.mem (by have := F.ml; omega)
    have hO := cumA_len F.nm (word := [111, 117, 116]) (by decide) F.out (by have := F.ol; omega)
    have hS := cumS_len F.nm F.stack (by have := F.sl; omega)
    have l1 : state_line.f ([109, 101, 109] : Str) (tA l s.Mem) = some (lnA l [109, 101, 109] s.Mem) := line_p F.nm (by decide) (by unfold tA; rw [List.length_map]; have := F.ml; omega) (tA_len F.nm F.mem)
    have l2 : state_line.f ([115, 116, 97, 99, 107] : Str) (tS l s.Stack) = some (lnS l s.Stack) := line_p F.nm (by decide) (by unfold tS; rw [List.length_map]; have := F.sl; omega) (tS_len F.nm F.stack)
    have l3 : state_line.f ([111, 117, 116] : Str) (tA l s.Out) = some (lnA l [111, 117, 116] s.Out) := line_p F.nm (by decide) (by unfold tA; rw [List.length_map]; have := F.ol; omega) (tA_len F.nm F.out)
    have a1 := atoms_p F.nm F.mem (by have := F.ml; omega)
    have a2 := atoms_p F.nm F.out (by have := F.ol; omega)
    have hy1 : (txt l s.Code, (0 : Int)).1 = txt l s.Code := rfl
    have hyl : (txt l s.Code, (0 : Int)).1.length ≤ 13212 := F.tl
    generalize (txt l s.Code, (0 : Int)) = y at hy1 hyl ⊢
    have hst : stT l s = ((((((([112, 99, 32] : Str) ++ wr l s.Pc.V s.Pc.L) ++ ([32, 59, 10, 99, 111, 100, 101] : Str)) ++ prg l s) ++ ([10] : Str)) ++ lnA l [109, 101, 109] s.Mem) ++ lnS l s.Stack) ++ lnA l [111, 117, 116] s.Out := rfl
    rw [hst]
    generalize lnA l [109, 101, 109] s.Mem = M at *
    generalize lnS l s.Stack = S at *
    generalize lnA l [111, 117, 116] s.Out = O at *
    by_cases hk : s.Code = []
    · have hp : prg l s = y.1 := by unfold prg; rw [if_pos hk, hy1, F.tn.2 hk]
      rw [hp]
      rw [if_pos (show y.1 = ([] : Str) by rw [hy1]; exact F.tn.2 hk), s0, bsome, written_p F.nm F.pc, bsome]
      generalize wr l s.Pc.V s.Pc.L = W at *
      rw [if_pos (by simp only [List.length_append, List.length_cons, List.length_nil]; omega), if_pos (by simp only [List.length_append, List.length_cons, List.length_nil]; omega), if_pos (by simp only [List.length_append, List.length_cons, List.length_nil]; omega), if_pos (by simp only [List.length_append, List.length_cons, List.length_nil]; omega)]
      show (state_Text_1.f s.Mem l >>= _) = _
      rw [a1, bsome, l1, bsome, if_pos (by simp only [List.length_append, List.length_cons, List.length_nil]; omega), l2, bsome, if_pos (by simp only [List.length_append, List.length_cons, List.length_nil]; omega)]
      show (state_Text_1.f s.Out l >>= _) = _
      rw [a2, bsome, l3, bsome, if_pos (by simp only [List.length_append, List.length_cons, List.length_nil]; omega)]
    · have hp : prg l s = ([32] : Str) ++ y.1 := by unfold prg; rw [if_neg hk, hy1]
      rw [hp]
      rw [if_neg (show ¬ y.1 = ([] : Str) by rw [hy1]; exact fun q => hk (F.tn.1 q)), if_pos (by simp only [List.length_cons, List.length_nil]; omega), s1, bsome, written_p F.nm F.pc, bsome]
      generalize wr l s.Pc.V s.Pc.L = W at *
      rw [if_pos (by simp only [List.length_append, List.length_cons, List.length_nil]; omega), if_pos (by simp only [List.length_append, List.length_cons, List.length_nil]; omega), if_pos (by simp only [List.length_append, List.length_cons, List.length_nil]; omega), if_pos (by simp only [List.length_append, List.length_cons, List.length_nil]; omega)]
      show (state_Text_1.f s.Mem l >>= _) = _
      rw [a1, bsome, l1, bsome, if_pos (by simp only [List.length_append, List.length_cons, List.length_nil]; omega), l2, bsome, if_pos (by simp only [List.length_append, List.length_cons, List.length_nil]; omega)]
      show (state_Text_1.f s.Out l >>= _) = _
      rw [a2, bsome, l3, bsome, if_pos (by simp only [List.length_append, List.length_cons, List.length_nil]; omega)]
end
section
theorem cut_eq (s : api_State) : ∃ s', reticentlaw09_cut.f s = some s' ∧ Sz s' := by
  unfold reticentlaw09_cut.f
  rw [show (15 : Int) = ((15 : Nat) : Int) from rfl, if_pos cutok, if_pos cutok, if_pos cutok, if_pos cutok]
  refine ⟨_, rfl, ⟨?_, ?_, ?_, ?_⟩⟩
  · exact Nat.le_trans lcut_le (by decide)
  · exact Nat.le_trans lcut_le (by decide)
  · exact Nat.le_trans lcut_le (by decide)
  · exact Nat.le_trans lcut_le (by decide)
end
end Go.Proofs.YtkcpghpglhamfaaGreatDoor.Sk
