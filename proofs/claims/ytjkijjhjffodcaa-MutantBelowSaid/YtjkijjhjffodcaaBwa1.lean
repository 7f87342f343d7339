/- Plain laws, by program out of this seat's plain texts. -/
import Derived.Test.YtjkijjhjffodcaaDLG
set_option linter.unusedVariables false
set_option linter.unusedSimpArgs false
set_option linter.unusedSectionVars false
namespace Go.Proofs.Ytjkijjhjffodcaa.Bw
open Go Go.Proofs.Ytjkijjhjffodcaa.Ab Go.Proofs.Ytjkijjhjffodcaa.LG
section
theorem wrap64 {x : Int} (h0 : 0 ≤ x) (h1 : x < 9223372036854775808) : IntKind.i64.wrap x = x := by
  have e : x % (18446744073709551616 : Int) = x := Int.emod_eq_of_lt h0 (by omega)
  show (if (true && decide (x % 18446744073709551616 ≥ 9223372036854775808)) = true then x % 18446744073709551616 - 18446744073709551616 else x % 18446744073709551616) = x
  rw [e, if_neg]
  simp
  omega
theorem lAt_some {α : Type} {xs : List α} {i : Nat} (h : i < xs.length) : lAt xs (i : Int) = some xs[i] := by
  simp [lAt, h]
end
section
theorem wrapU32 {m : Nat} (h : m < 4294967296) : IntKind.u32.wrap (m : Int) = (m : Int) := by
  have e : (m : Int) % (4294967296 : Int) = (m : Int) := Int.emod_eq_of_lt (by omega) (by omega)
  show (if (false && decide ((m : Int) % 4294967296 ≥ 2147483648)) = true then (m : Int) % 4294967296 - 4294967296 else (m : Int) % 4294967296) = m
  rw [e, if_neg]
  simp
theorem ofInt_nat {m : Nat} (h : m < 4294967296) : (BitVec.ofInt 32 (m : Int)).toNat = m := by
  rw [BitVec.ofInt_natCast, BitVec.toNat_ofNat]
  exact Nat.mod_eq_of_lt h
theorem bAnd_nat {a b : Nat} (ha : a < 4294967296) (hb : b < 4294967296) : bAnd .u32 (a : Int) (b : Int) = ((a &&& b : Nat) : Int) := by
  unfold bAnd
  show IntKind.u32.wrap (((BitVec.ofInt 32 (a : Int) &&& BitVec.ofInt 32 (b : Int)).toNat : Nat) : Int) = _
  rw [BitVec.toNat_and, ofInt_nat ha, ofInt_nat hb]
  exact wrapU32 (Nat.lt_of_le_of_lt Nat.and_le_left ha)
theorem bOr_nat {a b : Nat} (ha : a < 4294967296) (hb : b < 4294967296) : bOr .u32 (a : Int) (b : Int) = ((a ||| b : Nat) : Int) := by
  unfold bOr
  show IntKind.u32.wrap (((BitVec.ofInt 32 (a : Int) ||| BitVec.ofInt 32 (b : Int)).toNat : Nat) : Int) = _
  rw [BitVec.toNat_or, ofInt_nat ha, ofInt_nat hb]
  exact wrapU32 (Nat.or_lt_two_pow (n := 32) ha hb)
theorem bShr_nat {a k : Nat} (hk : k ≤ 32) : bShr .u32 (a : Int) (k : Int) = ((a >>> k : Nat) : Int) := by
  unfold bShr
  show (a : Int).fdiv (2 ^ (min ((k : Int).toNat) 32)) = _
  rw [Int.toNat_natCast, Nat.min_eq_left hk, Nat.shiftRight_eq_div_pow]
  rw [Int.fdiv_eq_ediv_of_nonneg _ (Int.le_of_lt (Int.pow_pos (by omega)))]
  norm_cast
end
section
open Classical
structure Is (l : api_Lattice) (U : List Nat) : Prop where
  up : l.Up = U.map (fun x : Nat => (x : Int))
  lt : ∀ x ∈ U, x < 4294967296
  len : U.length ≤ 10
theorem Is.n {l : api_Lattice} {U : List Nat} (h : Is l U) : l.Up.length = U.length := by rw [h.up]; simp
theorem Is.at_ {l : api_Lattice} {U : List Nat} (h : Is l U) {i : Nat} (hi : i < U.length) : lAt l.Up (i : Int) = some ((U[i] : Nat) : Int) := by
  rw [h.up, lAt_some (by simpa using hi)]
  simp
theorem Is.u {l : api_Lattice} {U : List Nat} (h : Is l U) {i : Nat} (hi : i < U.length) : U[i] < 4294967296 := h.lt _ (List.getElem_mem hi)
theorem shr1 (u b : Nat) : ((u >>> b) &&& 1 = 1) ↔ u.testBit b = true := by
  rw [Nat.testBit, Nat.and_comm]
  rw [Nat.one_and_eq_mod_two]
  simp
theorem flows_eq {l : api_Lattice} {U : List Nat} (h : Is l U) {a b : Nat} (ha : a < U.length) (hb : b ≤ 31) : lattice_flows.f l a b = some (U[a].testBit b) := by
  unfold lattice_flows.f
  rw [h.at_ ha]
  show (if ¬ (b : Int) < 0 then some (decide (bAnd .u32 (bShr .u32 (U[a] : Nat) b) 1 = 1)) else none) = _
  rw [if_pos (by omega), bShr_nat (by omega)]
  have hs : U[a] >>> b < 4294967296 := Nat.lt_of_le_of_lt (by rw [Nat.shiftRight_eq_div_pow]; exact Nat.div_le_self ..) (h.u ha)
  rw [show (1 : Int) = ((1 : Nat) : Int) from rfl, bAnd_nat hs (by omega)]
  congr 1
  rw [Bool.eq_iff_iff, decide_eq_true_iff, ← shr1]
  exact Int.natCast_inj
section
variable {τ : Type} {yb : τ → Int → Int → Option (Bool × (τ × Nat))} {n : Nat} {t t' : τ} {bad : Nat → Nat → Bool}
theorem pairs_l3 (hn : n ≤ 1000) (a : Nat) (h : ∀ b, b < n → yb t a b = some (if bad a b then (false, (t', 1)) else (true, (t, 0)))) :
    ∀ (d k : Nat), n = k + d → lattice_pairs_1.l3 (yOf yb) (n : Int) (a : Int) (t, 0) (k : Int) = some (if ∃ b, k ≤ b ∧ b < n ∧ bad a b = true then .inl (t', 1) else .inr (t, 0)) := by
  intro d
  induction d with
  | zero =>
    intro k e
    rw [lattice_pairs_1.l3, if_neg (by omega), if_neg (by rintro ⟨b, h1, h2, _⟩; omega)]
  | succ d ih =>
    intro k e
    rw [lattice_pairs_1.l3, if_pos (by omega)]
    rw [show yOf yb (t, 0) (a : Int) (k : Int) = yb t a k from rfl, h k (by omega)]
    by_cases hb : bad a k = true
    · rw [if_pos hb, if_pos ⟨k, Nat.le_refl _, by omega, hb⟩]; rfl
    · rw [if_neg hb]
      show lattice_pairs_1.l3 (yOf yb) (n : Int) (a : Int) (t, 0) (IntKind.i64.wrap ((k : Int) + 1)) = _
      rw [wrap64 (by omega) (by omega), show ((k : Int) + 1) = ((k + 1 : Nat) : Int) by omega, ih (k + 1) (by omega)]
      congr 1
      by_cases h1 : ∃ b, k + 1 ≤ b ∧ b < n ∧ bad a b = true
      · rw [if_pos h1]
        obtain ⟨b, q1, q2, q3⟩ := h1
        rw [if_pos ⟨b, by omega, q2, q3⟩]
      · rw [if_neg h1, if_neg]
        rintro ⟨b, q1, q2, q3⟩
        rcases Nat.lt_or_ge k b with q | q
        · exact h1 ⟨b, q, q2, q3⟩
        · exact hb (by rw [show k = b by omega]; exact q3)
theorem pairs_l2 (hn : n ≤ 1000) (h : ∀ a b, a < n → b < n → yb t a b = some (if bad a b then (false, (t', 1)) else (true, (t, 0)))) :
    ∀ (d k : Nat), n = k + d → lattice_pairs_1.l2 (yOf yb) (n : Int) (t, 0) (k : Int) = some (if ∃ a b, k ≤ a ∧ a < n ∧ b < n ∧ bad a b = true then .inl (t', 1) else .inr (t, 0)) := by
  intro d
  induction d with
  | zero =>
    intro k e
    rw [lattice_pairs_1.l2, if_neg (by omega), if_neg (by rintro ⟨a, b, h1, h2, _⟩; omega)]
  | succ d ih =>
    intro k e
    rw [lattice_pairs_1.l2, if_pos (by omega)]
    have := pairs_l3 (t' := t') hn k (fun b hb => h k b (by omega) hb) n 0 (by omega)
    rw [show ((0 : Nat) : Int) = 0 from rfl] at this
    rw [this]
    by_cases hb : ∃ b, 0 ≤ b ∧ b < n ∧ bad k b = true
    · rw [if_pos hb]
      obtain ⟨b, _, q2, q3⟩ := hb
      rw [if_pos ⟨k, b, Nat.le_refl _, by omega, q2, q3⟩]; rfl
    · rw [if_neg hb]
      show lattice_pairs_1.l2 (yOf yb) (n : Int) (t, 0) (IntKind.i64.wrap ((k : Int) + 1)) = _
      rw [wrap64 (by omega) (by omega), show ((k : Int) + 1) = ((k + 1 : Nat) : Int) by omega, ih (k + 1) (by omega)]
      congr 1
      by_cases h1 : ∃ a b, k + 1 ≤ a ∧ a < n ∧ b < n ∧ bad a b = true
      · rw [if_pos h1]
        obtain ⟨a, b, q0, q1, q2, q3⟩ := h1
        rw [if_pos ⟨a, b, by omega, q1, q2, q3⟩]
      · rw [if_neg h1, if_neg]
        rintro ⟨a, b, q0, q1, q2, q3⟩
        rcases Nat.lt_or_ge k a with q | q
        · exact h1 ⟨a, b, q, q1, q2, q3⟩
        · exact hb ⟨b, Nat.zero_le _, q2, by rw [show k = a by omega]; exact q3⟩
theorem pairs_eq (hn : n ≤ 1000) (h : ∀ a b, a < n → b < n → yb t a b = some (if bad a b then (false, (t', 1)) else (true, (t, 0)))) :
    lattice_pairs_1.f (yOf yb) (t, 0) (n : Int) = some (if ∃ a b, a < n ∧ b < n ∧ bad a b = true then (t', 1) else (t, 0)) := by
  unfold lattice_pairs_1.f
  have := pairs_l2 (t' := t') hn h n 0 (by omega)
  rw [show ((0 : Nat) : Int) = 0 from rfl] at this
  rw [this]
  by_cases h1 : ∃ a b, a < n ∧ b < n ∧ bad a b = true
  · rw [if_pos h1]
    obtain ⟨a, b, q⟩ := h1
    rw [if_pos ⟨a, b, Nat.zero_le _, q⟩]; rfl
  · rw [if_neg h1, if_neg (fun ⟨a, b, _, q⟩ => h1 ⟨a, b, q⟩)]; rfl
end
theorem bAndNot_zero {a b : Nat} (ha : a < 4294967296) (hb : b < 4294967296) : bAndNot .u32 (a : Int) (b : Int) = 0 ↔ ∀ c, a.testBit c = true → b.testBit c = true := by
  unfold bAndNot
  show IntKind.u32.wrap (((BitVec.ofInt 32 (a : Int) &&& ~~~BitVec.ofInt 32 (b : Int)).toNat : Nat) : Int) = 0 ↔ _
  rw [wrapU32 (BitVec.isLt _)]
  have hbit : ∀ c, ((BitVec.ofInt 32 (a : Int) &&& ~~~BitVec.ofInt 32 (b : Int)).toNat).testBit c = (a.testBit c && !b.testBit c) := by
    intro c
    rw [BitVec.testBit_toNat, BitVec.getLsbD_and, BitVec.getLsbD_not, ← BitVec.testBit_toNat, ← BitVec.testBit_toNat, ofInt_nat ha, ofInt_nat hb]
    by_cases hc : c < 32
    · simp [hc]
    · have : a.testBit c = false := Nat.testBit_lt_two_pow (Nat.lt_of_lt_of_le ha (Nat.pow_le_pow_right (n := 2) (by omega) (show 32 ≤ c by omega)))
      simp [this]
  constructor
  · intro h c hc
    have h0 : (BitVec.ofInt 32 (a : Int) &&& ~~~BitVec.ofInt 32 (b : Int)).toNat = 0 := by omega
    have := hbit c
    rw [h0, hc] at this
    simpa using this
  · intro h
    have h0 : (BitVec.ofInt 32 (a : Int) &&& ~~~BitVec.ofInt 32 (b : Int)).toNat = 0 := by
      apply Nat.eq_of_testBit_eq
      intro c
      rw [hbit c]
      cases hc : a.testBit c with
      | false => simp
      | true => simp [h c hc]
    rw [h0]; rfl
def le (U : List Nat) (a b : Nat) : Bool := (U.getD a 0).testBit b
theorem le_get {U : List Nat} {a b : Nat} (ha : a < U.length) : le U a b = U[a].testBit b := by simp [le, ha]
def Above (U : List Nat) (a b : Nat) : Prop := ∀ c, c < 32 → le U b c = true → le U a c = true
noncomputable def badO (U : List Nat) (a b : Nat) : Bool := (if a = b then !le U a b else le U a b && le U b a) || (le U a b && !decide (Above U a b))
theorem order_y0 {l : api_Lattice} {U : List Nat} (h : Is l U) {a b : Nat} (ha : a < U.length) (hb : b < U.length) :
    lattice_order.y0 l () (a : Int) (b : Int) = some (if badO U a b then (false, ((), 1)) else (true, ((), 0))) := by
  have hl := h.len
  have hz : (decide (bAndNot .u32 ((U[b] : Nat) : Int) ((U[a] : Nat) : Int) = 0)) = decide (Above U a b) := by
    unfold Above
    rw [decide_eq_decide, bAndNot_zero (h.u hb) (h.u ha)]
    constructor
    · intro q c _ hc; rw [le_get hb] at hc; rw [le_get ha]; exact q c hc
    · intro q c hc
      have hc32 : c < 32 := by
        rcases Nat.lt_or_ge c 32 with q | q
        · exact q
        · rw [Nat.testBit_lt_two_pow (Nat.lt_of_lt_of_le (h.u hb) (Nat.pow_le_pow_right (n := 2) (by omega) q))] at hc; cases hc
      have := q c hc32 (by rw [le_get hb]; exact hc)
      rwa [le_get ha] at this
  unfold lattice_order.y0
  rw [flows_eq h ha (by omega), flows_eq h hb (by omega), h.at_ hb, h.at_ ha, ← le_get ha, ← le_get hb]
  unfold badO
  by_cases hS : Above U a b <;> simp only [hS, decide_true, decide_false] at hz ⊢
  all_goals
    by_cases e : a = b
    · subst e
      simp only [if_true, Option.bind_eq_bind, Option.bind_some]
      cases h1 : le U a a <;> simp [hz]
    · have e' : ¬ (a : Int) = (b : Int) := by omega
      simp only [if_neg e, if_neg e', Option.bind_eq_bind, Option.bind_some]
      cases h1 : le U a b <;> cases h2 : le U b a <;> simp [hz]
def fstOf {ρ : Type} (n : Nat) (bad : Nat → Option ρ) : Option ρ := (List.range n).findSome? bad
def out {ρ : Type} : Option ρ → ρ ⊕ Unit
  | some r => .inl r
  | none => .inr ()
theorem search {ρ : Type} (L : Int → Option (ρ ⊕ Unit)) (n : Nat) (bad : Nat → Option ρ) (hend : L (n : Int) = some (.inr ()))
    (hstep : ∀ k, k < n → L (k : Int) = (match bad k with | some r => some (.inl r) | none => L ((k + 1 : Nat) : Int))) : L 0 = some (out (fstOf n bad)) := by
  have key : ∀ d k, n = k + d → L (k : Int) = some (out ((List.range' k d).findSome? bad)) := by
    intro d
    induction d with
    | zero => intro k e; rw [show k = n by omega, hend]; rfl
    | succ d ih =>
      intro k e
      rw [hstep k (by omega), List.range'_succ, List.findSome?_cons]
      cases hb : bad k with
      | some r => rfl
      | none => exact ih (k + 1) (by omega)
  have := key n 0 (by omega)
  rw [← List.range_eq_range'] at this
  exact this
theorem fst_none {ρ : Type} {n : Nat} {bad : Nat → Option ρ} : fstOf n bad = none ↔ ∀ k, k < n → bad k = none := by
  unfold fstOf
  rw [List.findSome?_eq_none_iff]
  simp
theorem fst_congr {ρ : Type} {n : Nat} {p q : Nat → Option ρ} (h : ∀ k, k < n → p k = q k) : fstOf n p = fstOf n q := by
  unfold fstOf
  have : ∀ l : List Nat, (∀ k ∈ l, k < n) → l.findSome? p = l.findSome? q := by
    intro l
    induction l with
    | nil => intro _; rfl
    | cons a l ih =>
      intro hl
      rw [List.findSome?_cons, List.findSome?_cons, h a (hl a (List.mem_cons_self ..)), ih (fun k hk => hl k (List.mem_cons_of_mem _ hk))]
  exact this _ (fun k hk => by simpa using hk)
theorem fst_const {ρ : Type} {n : Nat} {bad : Nat → Option ρ} {r : ρ} (h : ∀ k s, bad k = some s → s = r) : fstOf n bad = if ∃ k, k < n ∧ bad k ≠ none then some r else none := by
  cases hf : fstOf n bad with
  | none => rw [if_neg]; rintro ⟨k, hk, hb⟩; exact hb (fst_none.1 hf k hk)
  | some s =>
    have hs : s = r := by
      unfold fstOf at hf
      obtain ⟨k, _, hk⟩ := List.exists_of_findSome?_eq_some hf
      exact h k s hk
    rw [if_pos, hs]
    apply Classical.byContradiction
    intro hn
    have : fstOf n bad = none := fst_none.2 (fun k hk => Classical.byContradiction fun hb => hn ⟨k, hk, hb⟩)
    rw [this] at hf; cases hf
theorem step1 {k n : Nat} (h : n ≤ 1000) (hk : k < n) : IntKind.i64.wrap ((k : Int) + 1) = ((k + 1 : Nat) : Int) := by
  rw [wrap64 (by omega) (by omega)]; omega
theorem order_eq {l : api_Lattice} {U : List Nat} (h : Is l U) : lattice_order.f l = some (decide (¬ ∃ a b, a < U.length ∧ b < U.length ∧ badO U a b = true)) := by
  unfold lattice_order.f lattice_pairs.f
  have hl := h.len
  have := pairs_eq (t := ()) (t' := ()) (n := U.length) (yb := lattice_order.y0 l) (bad := badO U) (by omega) (fun a b ha hb => order_y0 h ha hb)
  rw [h.n]
  simp only [Option.bind_eq_bind, Option.bind_some]
  rw [this]
  by_cases hb : ∃ a b, a < U.length ∧ b < U.length ∧ badO U a b = true
  · rw [if_pos hb, decide_eq_false (fun k => k hb)]; rfl
  · rw [if_neg hb, decide_eq_true hb]; rfl
theorem fst_bool {ρ : Type} {n : Nat} {f : Nat → Bool} {r : ρ} : (fstOf n fun k => if f k then some r else none) = if decide (∃ k, k < n ∧ f k = true) = true then some r else none := by
  rw [fst_const (r := r) (by intro k s e; split at e <;> simp_all)]
  have e : (∃ k, k < n ∧ (if f k = true then some r else none : Option ρ) ≠ none) ↔ ∃ k, k < n ∧ f k = true := by
    constructor
    · rintro ⟨k, hk, hb⟩; exact ⟨k, hk, by split at hb <;> simp_all⟩
    · rintro ⟨k, hk, hb⟩; exact ⟨k, hk, by rw [if_pos hb]; simp⟩
  by_cases q : ∃ k, k < n ∧ f k = true
  · rw [if_pos (e.2 q), decide_eq_true q]; rfl
  · rw [if_neg (fun k => q (e.1 k)), decide_eq_false q]; rfl
structure Ord (U : List Nat) : Prop where
  refl : ∀ a, a < U.length → le U a a = true
  anti : ∀ a b, a < U.length → b < U.length → le U a b = true → le U b a = true → a = b
  trans : ∀ a b c, a < U.length → b < U.length → c < U.length → le U a b = true → le U b c = true → le U a c = true
theorem le_far {U : List Nat} (hU : ∀ x ∈ U, x < 2 ^ U.length) {a c : Nat} (h : le U a c = true) : c < U.length := by
  rcases Nat.lt_or_ge c U.length with q | q
  · exact q
  · unfold le at h
    have hx : U.getD a 0 < 2 ^ U.length := by
      rcases Nat.lt_or_ge a U.length with q2 | q2
      · have := hU _ (List.getElem_mem q2)
        simpa [List.getD, q2] using this
      · have : U.getD a 0 = 0 := by simp [List.getD, q2]
        rw [this]; exact Nat.pow_pos (by omega)
    rw [Nat.testBit_lt_two_pow (Nat.lt_of_lt_of_le hx (Nat.pow_le_pow_right (n := 2) (by omega) q))] at h
    cases h
theorem ord_lat {U : List Nat} (hn : U.length ≤ 10) (hU : ∀ x ∈ U, x < 2 ^ U.length) : (¬ ∃ a b, a < U.length ∧ b < U.length ∧ badO U a b = true) ↔ Ord U := by
  constructor
  · intro q
    refine ⟨fun a ha => ?_, fun a b ha hb h1 h2 => ?_, fun a b c ha hb hc h1 h2 => ?_⟩
    · cases e : le U a a with
      | true => rfl
      | false => exact absurd ⟨a, a, ha, ha, by simp [badO, e]⟩ q
    · apply Classical.byContradiction
      intro e
      exact q ⟨a, b, ha, hb, by simp [badO, e, h1, h2]⟩
    · cases e : le U a c with
      | true => rfl
      | false =>
        refine absurd ⟨a, b, ha, hb, ?_⟩ q
        have : ¬ Above U a b := fun k => by rw [k c (by omega) h2] at e; cases e
        simp [badO, h1, this]
  · rintro q ⟨a, b, ha, hb, h1⟩
    unfold badO at h1
    rw [Bool.or_eq_true] at h1
    rcases h1 with h1 | h1
    · by_cases e : a = b
      · subst e; rw [if_pos rfl, q.refl a ha] at h1; cases h1
      · rw [if_neg e, Bool.and_eq_true] at h1; exact e (q.anti a b ha hb h1.1 h1.2)
    · rw [Bool.and_eq_true] at h1
      have : Above U a b := fun c _ hc => q.trans a b c ha hb (le_far hU hc) h1.1 hc
      simp [this] at h1
theorem order_prog {l : api_Lattice} {U : List Nat} (h : Is l U) (hU : ∀ x ∈ U, x < 2 ^ U.length) : lattice_order.f l = some (decide (Ord U)) := by
  rw [order_eq h]
  exact (by simp only [ord_lat h.len hU])
end
section
open Classical
def far (s : Str) (k : Nat) : Bool := decide (sAt s (k : Int) < 97) || decide (sAt s (k : Int) > 122)
theorem name_l0 {s : Str} (hs : s.length ≤ 1000) : lattice_name.l0 s 0 = some (out (fstOf s.length fun k => if far s k then some false else none)) := by
  refine search (fun k => lattice_name.l0 s k) s.length _ ?_ ?_
  · show lattice_name.l0 s (s.length : Int) = _
    rw [lattice_name.l0, if_neg (by omega)]
  · intro k hk
    show lattice_name.l0 s (k : Int) = _
    rw [lattice_name.l0, if_pos (by omega), step1 hs hk]
    have hb : (0 : Int) ≤ (k : Int) ∧ (k : Int) < (s.length : Int) := ⟨by omega, by omega⟩
    simp only [if_pos hb]
    unfold far
    by_cases h1 : sAt s (k : Int) < 97 <;> by_cases h2 : sAt s (k : Int) > 122 <;> simp [h1, h2]
noncomputable def nameOk (s : Str) : Bool := !decide (∃ k, k < s.length ∧ far s k = true) && (!decide (s = []) && decide (s.length ≤ 12))
theorem name_eq {s : Str} (hs : s.length ≤ 1000) : lattice_name.f s = some (nameOk s) := by
  unfold lattice_name.f nameOk
  rw [name_l0 hs, fst_bool]
  generalize decide (∃ k, k < s.length ∧ far s k = true) = P
  by_cases h1 : s = []
  · subst h1; cases P <;> simp [out]
  · have : 0 < s.length := List.length_pos_iff.2 h1
    cases P <;> by_cases h2 : s.length ≤ 12 <;> simp [out, h1, h2, this] <;> omega
theorem contains_eq {xs : List Str} {a : Str} (hx : xs.length ≤ 1000) : slices_Contains_string_string.f xs a = some (decide (a ∈ xs)) := by
  unfold slices_Contains_string_string.f slices_Index_string_string.f
  have key : slices_Index_string_string.l0 xs a 0 = some (out (fstOf xs.length fun k => if xs[k]? = some a then some (k : Int) else none)) := by
    refine search (fun k => slices_Index_string_string.l0 xs a k) xs.length _ ?_ ?_
    · show slices_Index_string_string.l0 xs a (xs.length : Int) = _
      rw [slices_Index_string_string.l0, if_neg (by omega)]
    · intro k hk
      show slices_Index_string_string.l0 xs a (k : Int) = _
      rw [slices_Index_string_string.l0, if_pos (by omega), lAt_some hk, step1 hx hk, List.getElem?_eq_getElem hk]
      by_cases e : a = xs[k]
      · simp [← e]
      · have : ¬ xs[k] = a := fun q => e q.symm
        simp [e, this]
  rw [key]
  cases hf : fstOf xs.length (fun k => if xs[k]? = some a then some (k : Int) else none) with
  | none =>
    have hno : ¬ a ∈ xs := by
      intro hm
      obtain ⟨k, hk, e⟩ := List.getElem_of_mem hm
      have := fst_none.1 hf k hk
      rw [if_pos (by rw [List.getElem?_eq_getElem hk, e])] at this; cases this
    simp [out, hno]
  | some r =>
    unfold fstOf at hf
    obtain ⟨k, hk0, hk⟩ := List.exists_of_findSome?_eq_some hf
    have hm : a ∈ xs := by
      by_cases e : xs[k]? = some a
      · exact List.mem_of_getElem? e
      · rw [if_neg e] at hk; cases hk
    have hr : r ≥ 0 := by
      by_cases e : xs[k]? = some a
      · rw [if_pos e] at hk; cases hk; omega
      · rw [if_neg e] at hk; cases hk
    simp [out, hm, hr]
theorem high_shr {u n : Nat} (hn : n ≤ 31) : decide (bShr .u32 (u : Int) (n : Int) = 0) = !decide (2 ^ n ≤ u) := by
  rw [bShr_nat (by omega), ← decide_not, decide_eq_decide, Nat.shiftRight_eq_div_pow]
  rw [show (((u / 2 ^ n : Nat) : Int) = 0 ↔ u / 2 ^ n = 0) by omega]
  rw [Nat.div_eq_zero_iff]
  have hp : 0 < 2 ^ n := Nat.pow_pos (by omega)
  omega
structure Nm (l : api_Lattice) (U : List Nat) : Prop extends Is l U where
  nl : l.Names.length ≤ 10
  sl : ∀ s ∈ l.Names, s.length ≤ 1000
noncomputable def badM (N : List Str) (U : List Nat) (i : Nat) : Bool := !nameOk (N.getD i []) || (decide (N.getD i [] ∈ N.take i) || decide (2 ^ U.length ≤ U.getD i 0))
theorem lCut0 {α : Type} {xs : List α} {i : Nat} : lCut xs 0 (i : Int) = xs.take i := by simp [lCut]
theorem may_l0 {l : api_Lattice} {U : List Nat} (h : Nm l U) (he : l.Names.length = U.length) :
    lattice_may.l0 l 0 = some (out (fstOf U.length fun i => if badM l.Names U i then some false else none)) := by
  have hl := h.len
  refine search (fun k => lattice_may.l0 l k) U.length _ ?_ ?_
  · show lattice_may.l0 l (U.length : Int) = _
    rw [lattice_may.l0, if_neg (by omega)]
  · intro k hk
    show lattice_may.l0 l (k : Int) = _
    have hkn : k < l.Names.length := by omega
    have h15 : l.Names[k].length ≤ 1000 := Nat.le_trans (h.sl _ (List.getElem_mem hkn)) (by omega)
    rw [lattice_may.l0, if_pos (by omega), lAt_some hkn]
    simp only [Option.bind_eq_bind, Option.bind_some]
    rw [name_eq h15]
    simp only [Option.bind_eq_bind, Option.bind_some]
    have hb : (0 : Int) ≤ (k : Int) ∧ (k : Int) ≤ (l.Names.length : Int) := ⟨by omega, by omega⟩
    simp only [if_pos hb]
    rw [lCut0, contains_eq (by simp; omega)]
    simp only [Option.bind_eq_bind, Option.bind_some]
    rw [h.at_ hk, h.n]
    simp only [Option.bind_eq_bind, Option.bind_some]
    have hb' : ¬ (U.length : Int) < 0 := by omega
    simp only [if_pos hb']
    rw [high_shr (by omega), step1 (by omega) hk]
    unfold badM
    have e1 : l.Names.getD k [] = l.Names[k] := by simp [hkn]
    have e2 : U.getD k 0 = U[k] := by simp [hk]
    rw [e1, e2]
    generalize decide (l.Names[k] ∈ l.Names.take k) = P
    generalize decide (2 ^ U.length ≤ U[k]) = Q
    cases nameOk l.Names[k] <;> cases P <;> cases Q <;> simp
structure May (l : api_Lattice) (U : List Nat) : Prop where
  pos : 1 ≤ U.length
  le8 : U.length ≤ 8
  nm : l.Names.length = U.length
  ok : ¬ ∃ i, i < U.length ∧ badM l.Names U i = true
theorem may_prog {l : api_Lattice} {U : List Nat} (h : Nm l U) : lattice_may.f l = some (decide (May l U)) := by
  unfold lattice_may.f
  rw [h.n]
  by_cases h1 : (U.length : Int) < 1
  · have : ¬ May l U := fun q => by have := q.pos; omega
    simp [h1, this]
  · by_cases h2 : (U.length : Int) > 8
    · have : ¬ May l U := fun q => by have := q.le8; omega
      simp [h1, h2, this]
    · by_cases he : l.Names.length = U.length
      · have e : (l.Names.length : Int) = (U.length : Int) := by omega
        rw [may_l0 h he, fst_bool]
        have hm : decide (May l U) = !decide (∃ i, i < U.length ∧ badM l.Names U i = true) := by
          rw [← decide_not, decide_eq_decide]
          exact ⟨fun q => q.ok, fun q => ⟨by omega, by omega, he, q⟩⟩
        rw [hm]
        generalize decide (∃ i, i < U.length ∧ badM l.Names U i = true) = P
        cases P <;> simp [h1, h2, e, out]
      · have : ¬ May l U := fun q => he q.nm
        have e : ¬ (l.Names.length : Int) = (U.length : Int) := by omega
        simp [h1, h2, this, e]
theorem May.bits {l : api_Lattice} {U : List Nat} (q : May l U) : ∀ x ∈ U, x < 2 ^ U.length := by
  intro x hx
  obtain ⟨i, hi, e⟩ := List.getElem_of_mem hx
  apply Classical.byContradiction
  intro hn
  refine q.ok ⟨i, hi, ?_⟩
  have e2 : U.getD i 0 = x := by simp [hi, e]
  unfold badM
  rw [e2]
  simp [show 2 ^ U.length ≤ x by omega]
noncomputable def fi (n : Nat) (p : Nat → Bool) : Int := match fstOf n (fun k => if p k then some (k : Int) else none) with | some r => r | none => -1
theorem fi_out {n : Nat} {p : Nat → Bool} : (match (out (fstOf n (fun k => if p k then some (k : Int) else none)) : Int ⊕ Unit) with | .inl r => some r | .inr () => some (-1 : Int)) = some (fi n p) := by
  unfold fi
  cases fstOf n (fun k => if p k then some (k : Int) else none) <;> rfl
theorem fi_congr {n : Nat} {p q : Nat → Bool} (h : ∀ k, k < n → p k = q k) : fi n p = fi n q := by
  unfold fi
  rw [fst_congr (fun k hk => by rw [h k hk])]
theorem fi_neg {n : Nat} {p : Nat → Bool} : fi n p < 0 ↔ ∀ k, k < n → p k = false := by
  unfold fi
  cases hf : fstOf n (fun k => if p k then some (k : Int) else none) with
  | none =>
    refine ⟨fun _ k hk => ?_, fun _ => by simp⟩
    have := fst_none.1 hf k hk
    cases hp : p k with
    | false => rfl
    | true => rw [hp] at this; simp at this
  | some r =>
    unfold fstOf at hf
    obtain ⟨k, hk0, hk⟩ := List.exists_of_findSome?_eq_some hf
    cases hp : p k with
    | false => rw [hp] at hk; simp at hk
    | true =>
      rw [hp] at hk
      simp at hk
      refine ⟨fun q => by simp at q; omega, fun q => ?_⟩
      rw [q k (by simpa using hk0)] at hp; cases hp
theorem fi_pos {n : Nat} {p : Nat → Bool} (h : 0 ≤ fi n p) : ∃ k, k < n ∧ p k = true ∧ fi n p = (k : Int) := by
  unfold fi at h ⊢
  cases hf : fstOf n (fun k => if p k then some (k : Int) else none) with
  | none => rw [hf] at h; simp at h
  | some r =>
    unfold fstOf at hf
    obtain ⟨k, hk0, hk⟩ := List.exists_of_findSome?_eq_some hf
    cases hp : p k with
    | false => rw [hp] at hk; simp at hk
    | true => rw [hp] at hk; simp at hk; exact ⟨k, by simpa using hk0, hp, by simp [← hk]⟩
theorem fi_one {n k : Nat} {p : Nat → Bool} (hk : k < n) (hp : p k = true) (h1 : ∀ j, j < n → p j = true → j = k) : fi n p = (k : Int) := by
  have : 0 ≤ fi n p := by
    rcases (by omega : fi n p < 0 ∨ 0 ≤ fi n p) with q | q
    · rw [fi_neg.1 q k hk] at hp; cases hp
    · exact q
  obtain ⟨j, hj, hpj, e⟩ := fi_pos this
  rw [e, h1 j hj hpj]
noncomputable def lub (U : List Nat) (a b k : Nat) : Bool := decide (∀ c, c < U.length → (le U k c = true ↔ le U a c = true ∧ le U b c = true))
noncomputable def glb (U : List Nat) (a b k : Nat) : Bool := decide (∀ c, c < U.length → (le U c k = true ↔ le U c a = true ∧ le U c b = true))
noncomputable def jn (U : List Nat) (a b : Nat) : Int := fi U.length (lub U a b)
noncomputable def mt (U : List Nat) (a b : Nat) : Int := fi U.length (glb U a b)
theorem idxF_eq {xs : List Int} {p : Int → Bool} {g : Int → Option Bool} (hg : ∀ x, g x = some (p x)) (hx : xs.length ≤ 1000) :
    slices_IndexFunc_uint32_uint32.f xs g = some (fi xs.length (fun k => p (xs.getD k 0))) := by
  unfold slices_IndexFunc_uint32_uint32.f
  have key : slices_IndexFunc_uint32_uint32.l0 xs g 0 = some (out (fstOf xs.length fun k => if p (xs.getD k 0) then some (k : Int) else none)) := by
    refine search (fun k => slices_IndexFunc_uint32_uint32.l0 xs g k) xs.length _ ?_ ?_
    · show slices_IndexFunc_uint32_uint32.l0 xs g (xs.length : Int) = _
      rw [slices_IndexFunc_uint32_uint32.l0, if_neg (by omega)]
    · intro k hk
      show slices_IndexFunc_uint32_uint32.l0 xs g (k : Int) = _
      have e : xs.getD k 0 = xs[k] := by simp [hk]
      rw [slices_IndexFunc_uint32_uint32.l0, if_pos (by omega), lAt_some hk, step1 hx hk, e]
      simp only [Option.bind_eq_bind, Option.bind_some]
      rw [hg]
      cases p xs[k] <;> simp
  rw [key]
  exact fi_out
theorem bits_eq {U : List Nat} (hU : ∀ x ∈ U, x < 2 ^ U.length) {a b k : Nat} (ha : a < U.length) (hb : b < U.length) (hk : k < U.length) :
    (U[k] = U[a] &&& U[b]) ↔ (∀ c, c < U.length → (le U k c = true ↔ le U a c = true ∧ le U b c = true)) := by
  constructor
  · intro e c _
    rw [le_get hk, le_get ha, le_get hb, e, Nat.testBit_and, Bool.and_eq_true]
  · intro h
    apply Nat.eq_of_testBit_eq
    intro c
    rw [Nat.testBit_and, ← le_get hk, ← le_get ha, ← le_get hb]
    rcases Nat.lt_or_ge c U.length with q | q
    · rw [Bool.eq_iff_iff, Bool.and_eq_true]; exact h c q
    · have f : ∀ a, le U a c = false := by
        intro a
        cases e : le U a c with
        | false => rfl
        | true => have := le_far hU e; omega
      rw [f, f, f]; rfl
theorem join_eq {l : api_Lattice} {U : List Nat} (h : Is l U) (hU : ∀ x ∈ U, x < 2 ^ U.length) {a b : Nat} (ha : a < U.length) (hb : b < U.length) : lattice_join.f l (a : Int) (b : Int) = some (jn U a b) := by
  have hl := h.len
  unfold lattice_join.f
  rw [h.at_ ha, h.at_ hb]
  simp only [Option.bind_eq_bind, Option.bind_some]
  rw [bAnd_nat (h.u ha) (h.u hb), idxF_eq (g := fun z0 => lattice_join_1.f z0 ((U[a] &&& U[b] : Nat) : Int)) (p := fun x => decide (x = ((U[a] &&& U[b] : Nat) : Int))) (fun x => rfl) (by rw [h.n]; omega)]
  simp only [Option.bind_some]
  rw [h.n]
  congr 1
  refine fi_congr fun k hk => ?_
  unfold lub
  rw [decide_eq_decide, ← bits_eq hU ha hb hk]
  have : l.Up.getD k 0 = ((U[k] : Nat) : Int) := by rw [h.up]; simp [hk]
  rw [this]
  exact Int.natCast_inj
theorem bShl_nat {x k : Nat} (hk : k ≤ 20) (hx : x ≤ 1) : bShl .u32 (x : Int) (k : Int) = ((x <<< k : Nat) : Int) := by
  unfold bShl
  show IntKind.u32.wrap ((x : Int) * (2 ^ (min ((k : Int).toNat) 32) : Nat)) = _
  rw [Int.toNat_natCast, Nat.min_eq_left (by omega), ← Int.natCast_mul, Nat.shiftLeft_eq]
  refine wrapU32 ?_
  have : 2 ^ k ≤ 2 ^ 20 := Nat.pow_le_pow_right (by omega) hk
  have : x * 2 ^ k ≤ 1 * 2 ^ 20 := Nat.mul_le_mul hx this
  omega
theorem shr_and1 (u b : Nat) : (u >>> b) &&& 1 = (u.testBit b).toNat := by
  have := shr1 u b
  rcases (show (u >>> b) &&& 1 = 0 ∨ (u >>> b) &&& 1 = 1 by rw [Nat.and_comm, Nat.one_and_eq_mod_two]; omega) with q | q
  · cases e : u.testBit b with
    | false => rw [q]; rfl
    | true => rw [this.2 e] at q; cases q
  · rw [this.1 q, q]; rfl
theorem down_l0 {l : api_Lattice} {U : List Nat} (h : Is l U) {a : Nat} (ha : a ≤ 31) :
    ∀ (d k v : Nat), U.length = k + d → v < 2 ^ k → ∃ r : Nat, lattice_down.l0 l (a : Int) (k : Int) (v : Int) = some (r : Int) ∧ r < 2 ^ U.length ∧ ∀ c, r.testBit c = if c < k then v.testBit c else (decide (c < U.length) && le U c a)
  | 0, k, v, e, hv => by
    have hl := h.len
    refine ⟨v, ?_, by rw [e]; exact hv, fun c => ?_⟩
    · rw [lattice_down.l0, h.n, if_neg (by omega)]
    · by_cases hc : c < k
      · rw [if_pos hc]
      · rw [if_neg hc, Nat.testBit_lt_two_pow (Nat.lt_of_lt_of_le hv (Nat.pow_le_pow_right (n := 2) (by omega) (by omega)))]
        have : ¬ c < U.length := by omega
        simp [this]
  | d + 1, k, v, e, hv => by
    have hl := h.len
    have hk : k < U.length := by omega
    have hs : U[k] >>> a < 4294967296 := Nat.lt_of_le_of_lt (by rw [Nat.shiftRight_eq_div_pow]; exact Nat.div_le_self ..) (h.u hk)
    have hb1 : (U[k].testBit a).toNat ≤ 1 := by cases U[k].testBit a <;> decide
    have hsh : (U[k].testBit a).toNat <<< k < 2 ^ (k + 1) := by
      rw [Nat.shiftLeft_eq, Nat.pow_succ]
      have hp : 0 < 2 ^ k := Nat.pow_pos (by omega)
      cases U[k].testBit a <;> simp <;> omega
    have h10 : 2 ^ (k + 1) ≤ 2 ^ 20 := Nat.pow_le_pow_right (by omega) (by omega)
    have hv' : v < 2 ^ (k + 1) := Nat.lt_of_lt_of_le hv (Nat.pow_le_pow_right (by omega) (by omega))
    obtain ⟨r, hr1, hr2, hr3⟩ := down_l0 h ha d (k + 1) (v ||| ((U[k].testBit a).toNat <<< k)) (by omega) (Nat.or_lt_two_pow hv' hsh)
    refine ⟨r, ?_, hr2, fun c => ?_⟩
    · rw [lattice_down.l0, h.n, if_pos (by omega), h.at_ hk]
      simp only [Option.bind_eq_bind, Option.bind_some]
      rw [if_pos (by omega), if_pos (by omega), bShr_nat (by omega), show (1 : Int) = ((1 : Nat) : Int) from rfl, bAnd_nat hs (by omega), shr_and1, bShl_nat (by omega) hb1, bOr_nat (by omega) (by omega)]
      rw [show ((1 : Nat) : Int) = 1 from rfl, step1 (by omega) hk]
      exact hr1
    · rw [hr3 c, Nat.testBit_or, Nat.testBit_shiftLeft]
      rcases Nat.lt_trichotomy c k with q | q | q
      · rw [if_pos (by omega), if_pos q]
        have : decide (c ≥ k) = false := decide_eq_false (by omega)
        rw [this]; simp
      · subst q
        rw [if_pos (by omega), if_neg (by omega), Nat.testBit_lt_two_pow hv, le_get hk]
        have : decide (c < U.length) = true := decide_eq_true hk
        rw [this]
        cases U[c].testBit a <;> simp
      · rw [if_neg (by omega), if_neg (by omega)]
theorem down_eq {l : api_Lattice} {U : List Nat} (h : Is l U) {a : Nat} (ha : a ≤ 31) : ∃ r : Nat, lattice_down.f l (a : Int) = some (r : Int) ∧ r < 2 ^ U.length ∧ ∀ c, r.testBit c = (decide (c < U.length) && le U c a) := by
  obtain ⟨r, h1, h2, h3⟩ := down_l0 h ha U.length 0 0 (by omega) (by simp)
  refine ⟨r, ?_, h2, fun c => by rw [h3 c, if_neg (by omega)]⟩
  unfold lattice_down.f
  rw [show ((0 : Nat) : Int) = 0 from rfl] at h1
  rw [h1]; rfl
theorem meet_eq {l : api_Lattice} {U : List Nat} (h : Is l U) {a b : Nat} (ha : a < U.length) (hb : b < U.length) : lattice_meet.f l (a : Int) (b : Int) = some (mt U a b) := by
  have hl := h.len
  obtain ⟨ra, ea, la, ta⟩ := down_eq h (a := a) (by omega)
  obtain ⟨rb, eb, lb, tb⟩ := down_eq h (a := b) (by omega)
  have h10 : 2 ^ U.length ≤ 2 ^ 10 := Nat.pow_le_pow_right (by omega) hl
  unfold lattice_meet.f
  rw [ea, eb]
  simp only [Option.bind_eq_bind, Option.bind_some]
  have key : lattice_meet.l0 l (ra : Int) (rb : Int) 0 = some (out (fstOf U.length fun k => if glb U a b k then some (k : Int) else none)) := by
    refine search (fun k => lattice_meet.l0 l (ra : Int) (rb : Int) k) U.length _ ?_ ?_
    · show lattice_meet.l0 l (ra : Int) (rb : Int) (U.length : Int) = _
      rw [lattice_meet.l0, h.n, if_neg (by omega)]
    · intro k hk
      show lattice_meet.l0 l (ra : Int) (rb : Int) (k : Int) = _
      obtain ⟨rk, ek, lk, tk⟩ := down_eq h (a := k) (by omega)
      rw [lattice_meet.l0, h.n, if_pos (by omega), ek, bAnd_nat (by omega) (by omega), step1 (by omega) hk]
      simp only [Option.bind_eq_bind, Option.bind_some]
      have hg : ((rk : Int) = ((ra &&& rb : Nat) : Int)) ↔ glb U a b k = true := by
        rw [Int.natCast_inj]
        unfold glb
        rw [decide_eq_true_iff]
        constructor
        · intro e c hc
          have := congrArg (fun x => x.testBit c) e
          simp only [Nat.testBit_and, tk, ta, tb, decide_eq_true hc, Bool.true_and] at this
          rw [this, Bool.and_eq_true]
        · intro q
          apply Nat.eq_of_testBit_eq
          intro c
          rw [Nat.testBit_and, tk, ta, tb]
          rcases Nat.lt_or_ge c U.length with hc | hc
          · rw [decide_eq_true hc, Bool.true_and, Bool.true_and, Bool.true_and, Bool.eq_iff_iff, Bool.and_eq_true]; exact q c hc
          · rw [decide_eq_false (by omega)]; rfl
      cases e : glb U a b k with
      | true => rw [if_pos (hg.2 e)]; rfl
      | false => rw [if_neg (fun q => by rw [hg.1 q] at e; cases e)]; rfl
  rw [key]
  exact fi_out
noncomputable def bad3 (U : List Nat) (a b : Nat) : Bool := decide (jn U a b < 0) || decide (mt U a b < 0)
noncomputable def chk (l : api_Lattice) (U : List Nat) : Int := if ¬ May l U then 1 else if ¬ Ord U then 2 else if ∃ a b, a < U.length ∧ b < U.length ∧ bad3 U a b = true then 3 else 0
theorem check_eq {l : api_Lattice} {U : List Nat} (h : Nm l U) : lattice_Check.f l = some (chk l U) := by
  have hl := h.len
  unfold lattice_Check.f chk
  rw [may_prog h]
  by_cases hm : May l U
  · rw [order_prog h.toIs hm.bits]
    by_cases hO : Ord U
    · unfold lattice_pairs.f
      have := pairs_eq (t := (0 : Int)) (t' := 3) (n := U.length) (yb := lattice_Check.y0 l) (bad := bad3 U) (by omega) (fun a b ha hb => by
        unfold lattice_Check.y0 bad3
        rw [join_eq h.toIs hm.bits ha hb, meet_eq h.toIs ha hb]
        by_cases h1 : jn U a b < 0 <;> by_cases h2 : mt U a b < 0 <;> simp [h1, h2])
      rw [h.n]
      simp only [Option.bind_eq_bind, Option.bind_some]
      rw [this]
      by_cases hb : ∃ a b, a < U.length ∧ b < U.length ∧ bad3 U a b = true
      · simp only [if_pos hb, hm, hO]; simp
      · simp only [if_neg hb, hm, hO]; simp
    · simp [hm, hO]
  · simp [hm]
theorem chk_zero {l : api_Lattice} {U : List Nat} (h : chk l U = 0) : May l U ∧ Ord U ∧ ∀ a b, a < U.length → b < U.length → 0 ≤ jn U a b ∧ 0 ≤ mt U a b := by
  unfold chk at h
  by_cases hm : May l U
  · by_cases hO : Ord U
    · by_cases hb : ∃ a b, a < U.length ∧ b < U.length ∧ bad3 U a b = true
      · rw [if_neg (fun k => k hm), if_neg (fun k => k hO), if_pos hb] at h; cases h
      · refine ⟨hm, hO, fun a b ha hb' => ?_⟩
        have : ¬ bad3 U a b = true := fun q => hb ⟨a, b, ha, hb', q⟩
        simp [bad3] at this
        exact this
    · rw [if_neg (fun k => k hm), if_pos hO] at h; cases h
  · rw [if_pos hm] at h; cases h
theorem idxFI_eq {xs : List Int} {p : Int → Bool} {g : Int → Option Bool} (hg : ∀ x, g x = some (p x)) (hx : xs.length ≤ 1000) :
    slices_IndexFunc_int_int.f xs g = some (fi xs.length (fun k => p (xs.getD k 0))) := by
  unfold slices_IndexFunc_int_int.f
  have key : slices_IndexFunc_int_int.l0 xs g 0 = some (out (fstOf xs.length fun k => if p (xs.getD k 0) then some (k : Int) else none)) := by
    refine search (fun k => slices_IndexFunc_int_int.l0 xs g k) xs.length _ ?_ ?_
    · show slices_IndexFunc_int_int.l0 xs g (xs.length : Int) = _
      rw [slices_IndexFunc_int_int.l0, if_neg (by omega)]
    · intro k hk
      show slices_IndexFunc_int_int.l0 xs g (k : Int) = _
      have e : xs.getD k 0 = xs[k] := by simp [hk]
      rw [slices_IndexFunc_int_int.l0, if_pos (by omega), lAt_some hk, step1 hx hk, e]
      simp only [Option.bind_eq_bind, Option.bind_some]
      rw [hg]
      cases p xs[k] <;> simp
  rw [key]
  exact fi_out
def inn (n : Nat) (a : Int) : Bool := decide (0 ≤ a) && decide (a < (n : Int))
theorem containsF_eq {xs : List Int} {p : Int → Bool} {g : Int → Option Bool} (hg : ∀ x, g x = some (p x)) (hx : xs.length ≤ 1000) :
    slices_ContainsFunc_int_int.f xs g = some (xs.any p) := by
  unfold slices_ContainsFunc_int_int.f
  rw [idxFI_eq hg hx]
  show some (decide (fi xs.length (fun k => p (xs.getD k 0)) ≥ 0)) = _
  congr 1
  rw [Bool.eq_iff_iff, decide_eq_true_iff, List.any_eq_true]
  constructor
  · intro q
    obtain ⟨k, hk, hp, _⟩ := fi_pos q
    refine ⟨xs[k], List.getElem_mem hk, ?_⟩
    simpa [hk] using hp
  · rintro ⟨x, hx, hp⟩
    obtain ⟨k, hk, e⟩ := List.getElem_of_mem hx
    rcases (by omega : fi xs.length (fun k => p (xs.getD k 0)) < 0 ∨ fi xs.length (fun k => p (xs.getD k 0)) ≥ 0) with q | q
    · have := fi_neg.1 q k hk
      simp [hk, e, hp] at this
    · exact q
theorem there_eq {l : api_Lattice} {U : List Nat} (h : Nm l U) {xs : List Int} (hx : xs.length ≤ 1000) :
    lattice_there.f l xs = some (if chk l U = 0 then (if xs.all (inn U.length) = true then 0 else 9) else chk l U) := by
  unfold lattice_there.f
  rw [check_eq h, containsF_eq (g := fun z0 => lattice_there_1.f z0 l) (p := fun a => !inn U.length a) (fun x => by
    unfold lattice_there_1.f inn
    rw [h.n]
    by_cases h1 : x < 0
    · have h1' : ¬ 0 ≤ x := by omega
      simp [h1, h1']
    · have h1' : 0 ≤ x := by omega
      by_cases h2 : x < (U.length : Int)
      · have h2' : ¬ x ≥ (U.length : Int) := by omega
        simp [h1, h1', h2, h2']
      · have h2' : x ≥ (U.length : Int) := by omega
        simp [h1, h1', h2, h2']) hx]
  have : xs.any (fun a => !inn U.length a) = !xs.all (inn U.length) := by rw [List.not_all_eq_any_not]
  rw [this]
  by_cases h0 : chk l U = 0 <;> cases xs.all (inn U.length) <;> simp [h0]
theorem inn_nat {n : Nat} {a : Int} (h : inn n a = true) : ∃ k : Nat, a = (k : Int) ∧ k < n := by
  unfold inn at h
  simp at h
  exact ⟨a.toNat, by omega, by omega⟩
end
section
open Classical
theorem inRow {α : Type} {d : Kd α} {H : FH} {cs : List Value} {xs : List α} (h : (kL d).reps H cs xs) : ∀ x ∈ xs, ∃ c, d.reps H c x := by
  obtain ⟨A, c, _, _, _, _, hs⟩ := h
  intro x hx
  rcases hs with e | ⟨b, off, cells, t, fr, _, _, hr⟩
  · rw [e] at hx; cases hx
  · obtain ⟨k, hk, e⟩ := List.getElem_of_mem hx
    exact ⟨_, hr.2 k x (by rw [List.getElem?_eq_getElem hk, e])⟩
theorem inLen {α : Type} {d : Kd α} {H : FH} {cs : List Value} {xs : List α} (h : (kL d).reps H cs xs) : xs.length ≤ big := by
  obtain ⟨A, c, _, _, _, hb, hs⟩ := h
  exact hb
theorem lat_in {l : api_Lattice} (h : ∃ H cs, (kR f_api_Lattice).reps H cs l) : (∀ x ∈ l.Up, 0 ≤ x ∧ x < 4294967296) ∧ l.Up.length ≤ big ∧ l.Names.length ≤ big := by
  obtain ⟨H, cs, c1, c2, e, h1, c3, c4, e2, h2, _⟩ := h
  have h1' : (kL kS).reps H c1 l.Names := h1
  have h2' : (kL (kI .u32)).reps H c3 l.Up := h2
  refine ⟨fun x hx => ?_, inLen h2', inLen h1'⟩
  obtain ⟨c, hc⟩ := inRow h2' x hx
  have : InR .u32 x := hc.2
  unfold InR IntKind.min IntKind.max at this
  simp [IntKind.signed, IntKind.bits] at this
  omega
section
variable {l : api_Lattice} {U : List Nat}
theorem all2 {n : Nat} {a b : Int} : ([a, b] : List Int).all (inn n) = (inn n a && inn n b) := by simp
theorem inn_of {n k : Nat} (h : k < n) : inn n (k : Int) = true := by unfold inn; simp; omega
theorem yes2 (h : Nm l U) (hc : chk l U = 0) {a b : Nat} (ha : a < U.length) (hb : b < U.length) :
    lattice_Flows.f l (a : Int) (b : Int) = some (le U a b, 0) ∧ lattice_Join.f l (a : Int) (b : Int) = some (jn U a b, 0) ∧ lattice_Meet.f l (a : Int) (b : Int) = some (mt U a b, 0) := by
  obtain ⟨hm, hO, _⟩ := chk_zero hc
  have hl := h.len
  refine ⟨?_, ?_, ?_⟩
  · unfold lattice_Flows.f
    rw [there_eq h (by simp), all2, inn_of ha, inn_of hb, hc, flows_eq h.toIs ha (by omega), le_get ha]; rfl
  · unfold lattice_Join.f
    rw [there_eq h (by simp), all2, inn_of ha, inn_of hb, hc, join_eq h.toIs hm.bits ha hb]; rfl
  · unfold lattice_Meet.f
    rw [there_eq h (by simp), all2, inn_of ha, inn_of hb, hc, meet_eq h.toIs ha hb]; rfl
end
theorem idxU_eq {xs : List Int} {a : Int} (hx : xs.length ≤ 1000) :
    slices_Index_uint32_uint32.f xs a = some (fi xs.length (fun k => decide (a = xs.getD k 0))) := by
  unfold slices_Index_uint32_uint32.f
  have key : slices_Index_uint32_uint32.l0 xs a 0 = some (out (fstOf xs.length fun k => if decide (a = xs.getD k 0) then some (k : Int) else none)) := by
    refine search (fun k => slices_Index_uint32_uint32.l0 xs a k) xs.length _ ?_ ?_
    · show slices_Index_uint32_uint32.l0 xs a (xs.length : Int) = _
      rw [slices_Index_uint32_uint32.l0, if_neg (by omega)]
    · intro k hk
      show slices_Index_uint32_uint32.l0 xs a (k : Int) = _
      have e : xs.getD k 0 = xs[k] := by simp [hk]
      rw [slices_Index_uint32_uint32.l0, if_pos (by omega), lAt_some hk, step1 hx hk, e]
      by_cases q : a = xs[k] <;> simp [q]
  rw [key]
  exact fi_out
theorem count8 : ∀ x : Nat, x < 256 → bits_OnesCount32.f (x : Int) = some (sAt ks0 (x : Int)) := by decide +kernel
theorem count1 : ∀ x : Nat, x < 256 → ∀ k : Nat, k < 8 → x.testBit k = true → ((sAt ks0 (x : Int) = 1) ↔ x = 2 ^ k) := by decide +kernel
theorem all1s : ∀ n : Nat, n < 9 → IntKind.u32.wrap ((bShl .u32 1 (n : Int)) - 1) = ((2 ^ n - 1 : Nat) : Int) := by decide +kernel
section
variable {l : api_Lattice} {U : List Nat}
theorem getU (h : Is l U) {k : Nat} (hk : k < U.length) : l.Up.getD k 0 = ((U[k] : Nat) : Int) := by rw [h.up]; simp [hk]
theorem Up_len (h : Is l U) : l.Up.length ≤ 1000 := by rw [h.n]; have := h.len; omega
theorem bot_unique (hO : Ord U) {j k : Nat} (hj : j < U.length) (hk : k < U.length) (h1 : ∀ c, c < U.length → le U j c = true) (h2 : ∀ c, c < U.length → le U k c = true) : j = k :=
  hO.anti j k hj hk (h1 k hk) (h2 j hj)
theorem mt_is (hO : Ord U) {a b : Nat} (ha : a < U.length) (hb : b < U.length) (h : 0 ≤ mt U a b) : ∃ k : Nat, mt U a b = (k : Int) ∧ k < U.length ∧ le U k a = true ∧ le U k b = true := by
  obtain ⟨k, hk, hp, e⟩ := fi_pos h
  unfold glb at hp
  have hp := of_decide_eq_true hp
  have := (hp k hk).1 (hO.refl k hk)
  exact ⟨k, e, hk, this.1, this.2⟩
theorem jn_is (hO : Ord U) {a b : Nat} (ha : a < U.length) (hb : b < U.length) (h : 0 ≤ jn U a b) : ∃ k : Nat, jn U a b = (k : Int) ∧ k < U.length ∧ le U a k = true ∧ le U b k = true := by
  obtain ⟨k, hk, hp, e⟩ := fi_pos h
  unfold lub at hp
  have hp := of_decide_eq_true hp
  have := (hp k hk).1 (hO.refl k hk)
  exact ⟨k, e, hk, this.1, this.2⟩
theorem bot_lo (hc : chk l U = 0) : ∀ (d k r : Nat), U.length = k + d → r < U.length → (∀ c, c < k → le U r c = true) → ∃ r' : Nat, r' < U.length ∧ ∀ c, c < U.length → le U r' c = true
  | 0, k, r, e, hr, hb => ⟨r, hr, fun c hc => hb c (by omega)⟩
  | d + 1, k, r, e, hr, hb => by
    obtain ⟨hm, hO, hj⟩ := chk_zero hc
    have hk : k < U.length := by omega
    obtain ⟨m, em, hm', m1, m2⟩ := mt_is hO hr hk (hj r k hr hk).2
    refine bot_lo hc d (k + 1) m (by omega) hm' (fun c hc => ?_)
    rcases (by omega : c < k ∨ c = k) with q | rfl
    · exact hO.trans m r c hm' hr (by omega) m1 (hb c q)
    · exact m2
theorem top_hi (hc : chk l U = 0) : ∀ (d k r : Nat), U.length = k + d → r < U.length → (∀ c, c < k → le U c r = true) → ∃ r' : Nat, r' < U.length ∧ ∀ c, c < U.length → le U c r' = true
  | 0, k, r, e, hr, hb => ⟨r, hr, fun c hc => hb c (by omega)⟩
  | d + 1, k, r, e, hr, hb => by
    obtain ⟨hm, hO, hj⟩ := chk_zero hc
    have hk : k < U.length := by omega
    obtain ⟨m, em, hm', m1, m2⟩ := jn_is hO hr hk (hj r k hr hk).1
    refine top_hi hc d (k + 1) m (by omega) hm' (fun c hc => ?_)
    rcases (by omega : c < k ∨ c = k) with q | rfl
    · exact hO.trans c r m (by omega) hr hm' (hb c q) m1
    · exact m2
theorem bot_prog (h : Nm l U) (hc : chk l U = 0) : ∃ y : Nat, (y < U.length ∧ ∀ c, c < U.length → le U y c = true) ∧ lattice_Bottom.f l = some ((y : Int), 0) := by
  obtain ⟨hm, hO, _⟩ := chk_zero hc
  have hl := h.len
  have hp := hm.pos
  have h8 := hm.le8
  obtain ⟨r, hr, hb⟩ := bot_lo hc U.length 0 0 (by omega) (by omega) (fun c hc => by omega)
  refine ⟨r, ⟨hr, hb⟩, ?_⟩
  · unfold lattice_Bottom.f
    rw [there_eq h (by simp), hc, h.n]
    have e0 : ((if (0 : Int) = 0 then if (([] : List Int).all (inn U.length)) = true then (0 : Int) else 9 else 0)) = 0 := by simp
    rw [e0]
    have eb : ∀ f : Int → Option (Int × Int), (some (0 : Int) >>= f) = f 0 := fun _ => rfl
    rw [eb]
    rw [if_pos rfl, if_pos (by omega), all1s U.length (by omega), idxU_eq (Up_len h.toIs)]
    have : fi l.Up.length (fun k => decide (((2 ^ U.length - 1 : Nat) : Int) = l.Up.getD k 0)) = (r : Int) := by
      rw [h.n]
      have key : ∀ k, k < U.length → (decide (((2 ^ U.length - 1 : Nat) : Int) = l.Up.getD k 0) = true ↔ ∀ c, c < U.length → le U k c = true) := by
        intro k hk
        rw [decide_eq_true_iff, getU h.toIs hk, Int.natCast_inj]
        constructor
        · intro e c hcl
          rw [le_get hk, ← e, Nat.testBit_two_pow_sub_one]; exact decide_eq_true hcl
        · intro q
          apply Nat.eq_of_testBit_eq
          intro c
          rw [Nat.testBit_two_pow_sub_one, ← le_get hk]
          rcases Nat.lt_or_ge c U.length with hcl | hcl
          · rw [q c hcl, decide_eq_true hcl]
          · rw [decide_eq_false (by omega)]
            cases e : le U k c with
            | false => rfl
            | true => have := le_far hm.bits e; omega
      exact fi_one hr ((key r hr).2 hb) (fun j hj q => bot_unique hO hj hr ((key j hj).1 q) hb)
    rw [this]; rfl
theorem top_one (hO : Ord U) (h8 : U.length ≤ 8) (hU : ∀ x ∈ U, x < 2 ^ U.length) {k r : Nat} (hk : k < U.length) (hr : r < U.length) (hb : ∀ c, c < U.length → le U c r = true) : (lattice_Top_1.f ((U[k] : Nat) : Int)) = some (decide (k = r)) := by
  have hx : U[k] < 256 := Nat.lt_of_lt_of_le (hU _ (List.getElem_mem hk)) (Nat.pow_le_pow_right (n := 2) (by omega) h8)
  unfold lattice_Top_1.f
  rw [count8 _ hx]
  show some (decide (sAt ks0 ((U[k] : Nat) : Int) = 1)) = _
  congr 1
  have hkk : U[k].testBit k = true := by rw [← le_get hk]; exact hO.refl k hk
  rw [decide_eq_decide, count1 _ hx k (by omega) hkk]
  constructor
  · intro e
    have := hb k hk
    rw [le_get hk, e, Nat.testBit_two_pow] at this
    exact of_decide_eq_true this
  · intro e
    subst e
    apply Nat.eq_of_testBit_eq
    intro c
    rw [Nat.testBit_two_pow, ← le_get hk, Bool.eq_iff_iff, decide_eq_true_iff]
    constructor
    · intro q
      have hcl := le_far hU q
      exact hO.anti k c hk hcl q (hb c hcl)
    · intro e; rw [← e]; exact hO.refl k hk
theorem top_prog (h : Nm l U) (hc : chk l U = 0) : ∃ y : Nat, (y < U.length ∧ ∀ c, c < U.length → le U c y = true) ∧ lattice_Top.f l = some ((y : Int), 0) := by
  obtain ⟨hm, hO, _⟩ := chk_zero hc
  have hl := h.len
  have hp := hm.pos
  have h8 := hm.le8
  obtain ⟨r, hr, hb⟩ := top_hi hc U.length 0 0 (by omega) (by omega) (fun c hc => by omega)
  refine ⟨r, ⟨hr, hb⟩, ?_⟩
  · unfold lattice_Top.f
    rw [there_eq h (by simp), hc]
    have e0 : ((if (0 : Int) = 0 then if (([] : List Int).all (inn U.length)) = true then (0 : Int) else 9 else 0)) = 0 := by simp
    rw [e0]
    have eb : ∀ f : Int → Option (Int × Int), (some (0 : Int) >>= f) = f 0 := fun _ => rfl
    rw [eb]
    rw [if_pos rfl]
    obtain ⟨p, hp2⟩ : ∃ p : Nat → Bool, ∀ k, p k = true ↔ k = r := ⟨fun k => Nat.beq k r, fun k => ⟨fun e => Nat.eq_of_beq_eq_true e, fun e => by rw [e]; exact Nat.beq_refl r⟩⟩
    have key : slices_IndexFunc_uint32_uint32.l0 l.Up lattice_Top_1.f 0 = some (out (fstOf U.length fun k => if p k then some (k : Int) else none)) := by
      refine search (fun k => slices_IndexFunc_uint32_uint32.l0 l.Up lattice_Top_1.f k) U.length _ ?_ ?_
      · show slices_IndexFunc_uint32_uint32.l0 l.Up lattice_Top_1.f (U.length : Int) = _
        rw [slices_IndexFunc_uint32_uint32.l0, h.n, if_neg (by omega)]
      · intro k hk
        show slices_IndexFunc_uint32_uint32.l0 l.Up lattice_Top_1.f (k : Int) = _
        rw [slices_IndexFunc_uint32_uint32.l0, h.n, if_pos (by omega), h.at_ hk, step1 (by omega) hk]
        simp only [Option.bind_eq_bind, Option.bind_some]
        rw [top_one hO h8 hm.bits hk hr hb]
        by_cases e : k = r
        · rw [(hp2 k).2 e, decide_eq_true e]; rfl
        · have : p k = false := by
            cases q : p k with
            | false => rfl
            | true => exact absurd ((hp2 k).1 q) e
          rw [this, decide_eq_false e]; rfl
    unfold slices_IndexFunc_uint32_uint32.f
    rw [key]
    have hfi : fi U.length p = (r : Int) := fi_one hr ((hp2 r).2 rfl) (fun j hj q => (hp2 j).1 q)
    unfold fi at hfi
    cases hv : fstOf U.length (fun k => if p k then some (k : Int) else none) with
    | none => rw [hv] at hfi; simp at hfi
    | some v => rw [hv] at hfi; simp at hfi; subst hfi; rfl
end
section
variable {l : api_Lattice} {U : List Nat}
theorem J_is (hc : chk l U = 0) : ∃ J : Nat → Nat → Nat, ∀ a b, a < U.length → b < U.length → jn U a b = (J a b : Int) ∧ J a b < U.length ∧ ∀ c, c < U.length → (le U (J a b) c = true ↔ le U a c = true ∧ le U b c = true) := by
  obtain ⟨hm, hO, hj⟩ := chk_zero hc
  refine ⟨fun a b => (jn U a b).toNat, fun a b ha hb => ?_⟩
  obtain ⟨k, hk, hp, e⟩ := fi_pos (hj a b ha hb).1
  have e' : jn U a b = (k : Int) := e
  have : (jn U a b).toNat = k := by omega
  simp only [this]
  unfold lub at hp
  exact ⟨e', hk, of_decide_eq_true hp⟩
theorem M_is (hc : chk l U = 0) : ∃ M : Nat → Nat → Nat, ∀ a b, a < U.length → b < U.length → mt U a b = (M a b : Int) ∧ M a b < U.length ∧ ∀ c, c < U.length → (le U c (M a b) = true ↔ le U c a = true ∧ le U c b = true) := by
  obtain ⟨hm, hO, hj⟩ := chk_zero hc
  refine ⟨fun a b => (mt U a b).toNat, fun a b ha hb => ?_⟩
  obtain ⟨k, hk, hp, e⟩ := fi_pos (hj a b ha hb).2
  have e' : mt U a b = (k : Int) := e
  have : (mt U a b).toNat = k := by omega
  simp only [this]
  unfold glb at hp
  exact ⟨e', hk, of_decide_eq_true hp⟩
end
end
section
theorem wrapZ {x : Int} (h0 : -9223372036854775808 ≤ x) (h1 : x < 9223372036854775808) : IntKind.i64.wrap x = x := by
  show (if (true && decide (x % 18446744073709551616 ≥ 9223372036854775808)) = true then x % 18446744073709551616 - 18446744073709551616 else x % 18446744073709551616) = x
  simp only [Bool.true_and, decide_eq_true_eq]
  split <;> omega
theorem w1 {n : Nat} (h : n ≤ 100000) : IntKind.i64.wrap ((n : Int) - 1) = (n : Int) - 1 := wrapZ (by omega) (by omega)
theorem w2 {n : Nat} (h : n ≤ 100000) : IntKind.i64.wrap ((n : Int) - 2) = (n : Int) - 2 := wrapZ (by omega) (by omega)
theorem wS {n : Nat} (h : n ≤ 100000) : IntKind.i64.wrap ((n : Int) + 1) = ((n + 1 : Nat) : Int) := by rw [wrapZ (by omega) (by omega)]; rfl
theorem lAt_last {α : Type} {l : List α} {x : α} : lAt (l ++ [x]) (((l ++ [x]).length : Int) - 1) = some x := by
  have : (((l ++ [x]).length : Int) - 1) = ((l.length : Nat) : Int) := by simp
  rw [this, lAt_some (by simp)]; simp
theorem lAt_last2 {α : Type} {l : List α} {x y : α} : lAt (l ++ [y] ++ [x]) (((l ++ [y] ++ [x]).length : Int) - 2) = some y := by
  have : (((l ++ [y] ++ [x]).length : Int) - 2) = ((l.length : Nat) : Int) := by simp
  rw [this, lAt_some (by simp)]; simp
def pop (a b : Bool) : List Bool → Option (List Bool)
  | x :: y :: r => if x = a ∧ y = a then some (b :: r) else none
  | _ => none
def st (op : Int) (S : List Bool) : Option (List Bool) :=
  if op = 1 ∨ op = 2 then some (false :: S) else if op = 6 ∨ op = 7 ∨ op = 8 ∨ op = 9 ∨ op = 10 ∨ op = 11 then some (true :: S)
  else if op = 3 ∨ op = 4 then pop false false S else if op = 5 then pop true false S else if op = 12 ∨ op = 13 then pop true true S else none
def run : List Int → List Bool → Option (List Bool)
  | [], S => some S
  | op :: r, S => (st op S).bind (run r)
theorem take_eq {a : Bool} : ∀ {S : List Bool}, S.length ≤ 1000 → rule_made_1.f a S.reverse = some (match S with | x :: y :: r => if x = a ∧ y = a then (r.reverse, true) else (S.reverse, false) | _ => (S.reverse, false))
  | [], h => by unfold rule_made_1.f; simp [show IntKind.i64.wrap (-1) < 1 by decide]
  | [x], h => by unfold rule_made_1.f; simp [show IntKind.i64.wrap 0 < 1 by decide]
  | x :: y :: r, h => by
    have hl : (x :: y :: r).reverse = r.reverse ++ [y] ++ [x] := by simp
    have hlen : (r.reverse ++ [y] ++ [x]).length = r.length + 2 := by simp
    have hr : r.length + 2 ≤ 1000 := h
    rw [hl]
    unfold rule_made_1.f
    have e1 := lAt_last (l := r.reverse ++ [y]) (x := x)
    have e2 := lAt_last2 (l := r.reverse) (x := x) (y := y)
    rw [w1 (by omega)]
    have e3 : IntKind.i64.wrap ((((r.reverse ++ [y] ++ [x]).length : Nat) : Int) - 1 - 1) = (((r.reverse ++ [y] ++ [x]).length : Nat) : Int) - 2 := by rw [wrapZ (by omega) (by omega)]; omega
    rw [e3, e1, e2, if_neg (by rw [hlen]; omega)]
    have e4 : (r.reverse ++ [y] ++ [x]).take ((((r.reverse ++ [y] ++ [x]).length : Nat) : Int) - 2).toNat = r.reverse := by
      rw [hlen, show ((((r.length + 2 : Nat) : Int) - 2).toNat) = r.reverse.length by simp, List.append_assoc, List.take_left]
    rw [e4]
    have hb : (0 : Int) ≤ (((r.reverse ++ [y] ++ [x]).length : Nat) : Int) - 2 ∧ (((r.reverse ++ [y] ++ [x]).length : Nat) : Int) - 2 ≤ (((r.reverse ++ [y] ++ [x]).length : Nat) : Int) := by rw [hlen]; omega
    simp only [if_pos hb, Option.bind_eq_bind, Option.bind_some]
    by_cases h1 : x = a <;> by_cases h2 : y = a <;> simp [h1, h2]
theorem cases13 (op : Int) : op = 1 ∨ op = 2 ∨ op = 3 ∨ op = 4 ∨ op = 5 ∨ op = 6 ∨ op = 7 ∨ op = 8 ∨ op = 9 ∨ op = 10 ∨ op = 11 ∨ op = 12 ∨ op = 13 ∨ ¬ (1 ≤ op ∧ op ≤ 13) := by omega
theorem made_step {l : List Int} {S : List Bool} {k : Nat} (hk : k < l.length) (hl : l.length ≤ 900) (hS : S.length ≤ k) :
    rule_made.l0 l S.reverse (k : Int) = (match st l[k] S with | some S' => rule_made.l0 l S'.reverse ((k + 1 : Nat) : Int) | none => some (.inl (false, false))) := by
  rw [rule_made.l0, if_pos (by omega), lAt_some hk, wS (by omega)]
  generalize l[k] = op
  have hB : 2000 ≤ big := by decide
  have hb1 : S.length + 1 ≤ big := by omega
  simp only [Option.bind_eq_bind, Option.bind_some]
  rcases cases13 op with rfl | rfl | rfl | rfl | rfl | rfl | rfl | rfl | rfl | rfl | rfl | rfl | rfl | h
  case inr.inr.inr.inr.inr.inr.inr.inr.inr.inr.inr.inr.inr =>
    have e : ∀ n : Int, 1 ≤ n → n ≤ 13 → ¬ op = n := fun n h1 h2 e => h (by omega)
    simp [st, e 1, e 2, e 3, e 4, e 5, e 6, e 7, e 8, e 9, e 10, e 11, e 12, e 13]
  all_goals first
    | (simp [st, hb1]; done)
    | (rw [take_eq (a := false) (S := S) (by omega), take_eq (a := true) (S := S) (by omega)]
       match S, hS with
       | [], _ => simp [st, pop, show 1 ≤ big by omega]
       | [x], _ => simp [st, pop, show 1 + 1 ≤ big by omega]
       | x :: y :: r, hS =>
         simp only [List.length_cons] at hS hb1
         have h1 : r.length + 1 ≤ big := by omega
         have h2 : r.length + 1 + 1 + 1 ≤ big := by omega
         cases x <;> cases y <;> simp [st, pop, h1, h2])
theorem st_len {op : Int} {S S' : List Bool} (h : st op S = some S') : S'.length ≤ S.length + 1 := by
  have hp : ∀ {a b : Bool}, pop a b S = some S' → S'.length ≤ S.length + 1 := by
    intro a b h
    match S, h with
    | [], h => simp [pop] at h
    | [x], h => simp [pop] at h
    | x :: y :: r, h =>
      by_cases q : x = a ∧ y = a
      · simp [pop, q] at h; subst h; simp
      · simp [pop, q] at h
  unfold st at h
  split at h
  · cases h; simp
  · split at h
    · cases h; simp
    · split at h
      · exact hp h
      · split at h
        · exact hp h
        · split at h
          · exact hp h
          · cases h
theorem made_l0 {l : List Int} (hl : l.length ≤ 900) : ∀ (d k : Nat) (S : List Bool), l.length = k + d → S.length ≤ k →
    rule_made.l0 l S.reverse (k : Int) = some (match run (l.drop k) S with | some S' => .inr S'.reverse | none => .inl (false, false))
  | 0, k, S, e, hS => by
    rw [rule_made.l0, if_neg (by omega), List.drop_of_length_le (by omega)]; rfl
  | d + 1, k, S, e, hS => by
    have hk : k < l.length := by omega
    rw [made_step hk hl hS, List.drop_eq_getElem_cons hk]
    unfold run
    cases h : st l[k] S with
    | none => rfl
    | some S' => exact made_l0 hl d (k + 1) S' (by omega) (by have := st_len h; omega)
def right (l : List Int) : Option Bool := match run l [] with
  | some [b] => if l.length > 40 then none else some b
  | _ => none
theorem made_eq {l : List Int} (hl : l.length ≤ 900) : rule_made.f l = some (match right l with | some b => (b, true) | none => (false, false)) := by
  unfold rule_made.f right
  have := made_l0 hl l.length 0 [] (by omega) (by simp)
  rw [show ((0 : Nat) : Int) = 0 from rfl, List.reverse_nil] at this
  rw [this, List.drop_zero]
  match run l [] with
  | none => rfl
  | some [] => rfl
  | some [b] =>
    by_cases h : l.length > 40
    · have h' : (l.length : Int) > 40 := by omega
      simp [h, h']
    · have h' : ¬ (l.length : Int) > 40 := by omega
      simp [h, h', lAt]
  | some (x :: y :: r) =>
    have : ¬ (((x :: y :: r).reverse.length : Nat) : Int) = 1 := by simp; omega
    simp only [Option.bind_eq_bind, Option.bind_some, if_neg this]
    rfl
theorem Right_eq {l : List Int} {b : Bool} (hl : l.length ≤ 900) : rule_Right.f l b = some (decide (right l = some b)) := by
  unfold rule_Right.f
  rw [made_eq hl]
  cases right l with
  | none => simp
  | some c => cases b <;> cases c <;> simp
inductive Tr where
  | lf (op : Int)
  | nd (op : Int) (x y : Tr)
def Tr.flat : Tr → List Int
  | .lf op => [op]
  | .nd op x y => x.flat ++ y.flat ++ [op]
def Tr.op : Tr → Int
  | .lf op => op
  | .nd op _ _ => op
def Tr.size : Tr → Nat
  | .lf _ => 1
  | .nd _ x y => x.size + y.size + 1
theorem flat_len : ∀ t : Tr, t.flat.length = t.size
  | .lf _ => rfl
  | .nd _ x y => by simp [Tr.flat, Tr.size, flat_len x, flat_len y]; omega
def LfOp (op : Int) : Prop := op = 1 ∨ op = 2 ∨ op = 6 ∨ op = 7 ∨ op = 8 ∨ op = 9 ∨ op = 10 ∨ op = 11
def NdOp (op : Int) : Prop := op = 3 ∨ op = 4 ∨ op = 5 ∨ op = 12 ∨ op = 13
def Tr.ok : Tr → Prop
  | .lf op => LfOp op
  | .nd op x y => NdOp op ∧ x.ok ∧ y.ok
theorem st_tree {op : Int} {S S' : List Bool} (h : st op S = some S') (T : List Tr) (hT : T.length = S.length) :
    (LfOp op ∧ S'.length = S.length + 1) ∨ (NdOp op ∧ ∃ x y r, S = x :: y :: r ∧ S'.length = r.length + 1) := by
  have hp : ∀ {a b : Bool}, pop a b S = some S' → ∃ x y r, S = x :: y :: r ∧ S'.length = r.length + 1 := by
    intro a b h
    match S, h with
    | [], h => simp [pop] at h
    | [x], h => simp [pop] at h
    | x :: y :: r, h =>
      by_cases q : x = a ∧ y = a
      · simp [pop, q] at h; subst h; exact ⟨x, y, r, rfl, by simp⟩
      · simp [pop, q] at h
  unfold st at h
  split at h
  · rename_i q; cases h; exact .inl ⟨by unfold LfOp; rcases q with q | q <;> simp [q], by simp⟩
  · split at h
    · rename_i q; cases h; exact .inl ⟨.inr (.inr q), by simp⟩
    · split at h
      · rename_i q; exact .inr ⟨by unfold NdOp; rcases q with q | q <;> simp [q], hp h⟩
      · split at h
        · rename_i q; exact .inr ⟨by unfold NdOp; simp [q], hp h⟩
        · split at h
          · rename_i q; exact .inr ⟨by unfold NdOp; rcases q with q | q <;> simp [q], hp h⟩
          · cases h
def flats (T : List Tr) : List Int := (T.reverse.map Tr.flat).flatten
theorem flats_cons {t : Tr} {T : List Tr} : flats (t :: T) = flats T ++ t.flat := by simp [flats]
theorem run_tree : ∀ {l : List Int} {S S' : List Bool} {T : List Tr}, run l S = some S' → T.length = S.length → (∀ t ∈ T, t.ok) →
    ∃ T' : List Tr, T'.length = S'.length ∧ (∀ t ∈ T', t.ok) ∧ flats T' = flats T ++ l
  | [], S, S', T, h, hT, ho => by cases h; exact ⟨T, hT, ho, by simp⟩
  | op :: l, S, S', T, h, hT, ho => by
    unfold run at h
    cases hs : st op S with
    | none => rw [hs] at h; cases h
    | some S1 =>
      rw [hs] at h
      rcases st_tree hs T hT with ⟨h1, h2⟩ | ⟨h1, x, y, r, e, h2⟩
      · obtain ⟨T', q1, q2, q3⟩ := run_tree (T := .lf op :: T) h (by simp [hT, h2]) (fun t ht => by
          rcases List.mem_cons.1 ht with rfl | ht
          · exact h1
          · exact ho t ht)
        exact ⟨T', q1, q2, by rw [q3, flats_cons]; simp [Tr.flat]⟩
      · subst e
        match T, hT, ho with
        | b :: a :: R, hT, ho =>
          obtain ⟨T', q1, q2, q3⟩ := run_tree (T := .nd op a b :: R) h (by simp at hT; simp [hT, h2]) (fun t ht => by
            rcases List.mem_cons.1 ht with rfl | ht
            · exact ⟨h1, ho a (by simp), ho b (by simp)⟩
            · exact ho t (by simp [ht]))
          exact ⟨T', q1, q2, by rw [q3, flats_cons, flats_cons, flats_cons]; simp [Tr.flat]⟩
        | [], hT, _ => simp at hT
        | [_], hT, _ => simp at hT
theorem right_tree {l : List Int} {b : Bool} (h : right l = some b) : ∃ t : Tr, t.ok ∧ t.flat = l ∧ l.length ≤ 40 := by
  unfold right at h
  cases hr : run l [] with
  | none => rw [hr] at h; cases h
  | some S =>
    rw [hr] at h
    match S, h with
    | [], h => cases h
    | x :: y :: r, h => cases h
    | [c], h =>
      simp only at h
      by_cases hl : l.length > 40
      · rw [if_pos hl] at h; cases h
      · obtain ⟨T', q1, q2, q3⟩ := run_tree (T := []) hr rfl (fun t ht => by cases ht)
        match T', q1 with
        | [t], _ => exact ⟨t, q2 t (by simp), by rw [flats_cons] at q3; simpa [flats] using q3, by omega⟩
end
section
theorem bsome {α β : Type} (a : α) (f : α → Option β) : (some a >>= f) = f a := rfl
def Tr.sort : Tr → Bool
  | .lf op => decide (op ≥ 6)
  | .nd op _ _ => decide (op ≥ 12)
def Tr.wf : Tr → Prop
  | .lf op => LfOp op
  | .nd op x y => NdOp op ∧ x.wf ∧ y.wf ∧ x.sort = decide (op ≥ 5) ∧ y.sort = decide (op ≥ 5)
theorem st_sort {op : Int} {S S' : List Bool} (h : st op S = some S') :
    (LfOp op ∧ S' = decide (op ≥ 6) :: S) ∨ (NdOp op ∧ ∃ r, S = decide (op ≥ 5) :: decide (op ≥ 5) :: r ∧ S' = decide (op ≥ 12) :: r) := by
  have hp : ∀ {a b : Bool}, pop a b S = some S' → ∃ r, S = a :: a :: r ∧ S' = b :: r := by
    intro a b h
    match S, h with
    | [], h => simp [pop] at h
    | [x], h => simp [pop] at h
    | x :: y :: r, h =>
      by_cases q : x = a ∧ y = a
      · simp [pop, q] at h; subst h; exact ⟨r, by rw [q.1, q.2], rfl⟩
      · simp [pop, q] at h
  unfold st at h
  split at h
  · rename_i q; cases h
    rcases q with rfl | rfl <;> exact .inl ⟨by unfold LfOp; simp, rfl⟩
  · split at h
    · rename_i q; cases h
      rcases q with rfl | rfl | rfl | rfl | rfl | rfl <;> exact .inl ⟨by unfold LfOp; simp, rfl⟩
    · split at h
      · rename_i q
        rcases q with rfl | rfl <;> exact .inr ⟨by unfold NdOp; simp, hp h⟩
      · split at h
        · rename_i q; subst q; exact .inr ⟨by unfold NdOp; simp, hp h⟩
        · split at h
          · rename_i q
            rcases q with rfl | rfl <;> exact .inr ⟨by unfold NdOp; simp, hp h⟩
          · cases h
theorem run_sort : ∀ {l : List Int} {S S' : List Bool} {T : List Tr}, run l S = some S' → T.map Tr.sort = S → (∀ t ∈ T, t.wf) →
    ∃ T' : List Tr, T'.map Tr.sort = S' ∧ (∀ t ∈ T', t.wf) ∧ flats T' = flats T ++ l
  | [], S, S', T, h, hT, ho => by cases h; exact ⟨T, hT, ho, by simp⟩
  | op :: l, S, S', T, h, hT, ho => by
    unfold run at h
    cases hs : st op S with
    | none => rw [hs] at h; cases h
    | some S1 =>
      rw [hs] at h
      rcases st_sort hs with ⟨h1, h2⟩ | ⟨h1, r, e, h2⟩
      · obtain ⟨T', q1, q2, q3⟩ := run_sort (T := .lf op :: T) h (by rw [h2, ← hT]; rfl) (fun t ht => by
          rcases List.mem_cons.1 ht with rfl | ht
          · exact h1
          · exact ho t ht)
        exact ⟨T', q1, q2, by rw [q3, flats_cons]; simp [Tr.flat]⟩
      · subst hT
        match T, e, ho with
        | b :: a :: R, e, ho =>
          simp only [List.map_cons, List.cons.injEq] at e
          obtain ⟨T', q1, q2, q3⟩ := run_sort (T := .nd op a b :: R) h (by rw [h2, ← e.2.2]; rfl) (fun t ht => by
            rcases List.mem_cons.1 ht with rfl | ht
            · exact ⟨h1, ho a (by simp), ho b (by simp), e.2.1, e.1⟩
            · exact ho t (by simp [ht]))
          exact ⟨T', q1, q2, by rw [q3, flats_cons, flats_cons, flats_cons]; simp [Tr.flat]⟩
        | [], e, _ => simp at e
        | [_], e, _ => simp at e
theorem right_wf {l : List Int} {b : Bool} (h : right l = some b) : ∃ t : Tr, t.wf ∧ t.sort = b ∧ t.flat = l ∧ l.length ≤ 40 := by
  unfold right at h
  cases hr : run l [] with
  | none => rw [hr] at h; cases h
  | some S =>
    rw [hr] at h
    match S, h with
    | [], h => cases h
    | x :: y :: r, h => cases h
    | [c], h =>
      simp only at h
      by_cases hl : l.length > 40
      · rw [if_pos hl] at h; cases h
      · rw [if_neg hl] at h
        cases h
        obtain ⟨T', q1, q2, q3⟩ := run_sort (T := []) hr rfl (fun t ht => by cases ht)
        match T', q1 with
        | [t], q1 => exact ⟨t, q2 t (by simp), by simpa using q1, by rw [flats_cons] at q3; simpa [flats] using q3, by omega⟩
structure Je (l : api_Lattice) (labels : List Int) where
  n : Nat
  le : Nat → Nat → Bool
  J : Nat → Nat → Nat
  M : Nat → Nat → Nat
  bot : Nat
  top : Nat
  labs : Nat → Nat
  hbot : bot < n ∧ lattice_Bottom.f l = some ((bot : Int), 0)
  htop : top < n ∧ lattice_Top.f l = some ((top : Int), 0)
  hflows : ∀ a b, a < n → b < n → lattice_Flows.f l (a : Int) (b : Int) = some (le a b, 0)
  hjoin : ∀ a b, a < n → b < n → J a b < n ∧ lattice_Join.f l (a : Int) (b : Int) = some ((J a b : Int), 0)
  hmeet : ∀ a b, a < n → b < n → M a b < n ∧ lattice_Meet.f l (a : Int) (b : Int) = some ((M a b : Int), 0)
  hlen : labels.length = 4
  hlab : ∀ i : Nat, i < 4 → lAt labels (i : Int) = some (labs i : Int) ∧ labs i < n
section
variable {l : api_Lattice} {labels : List Int} (E : Je l labels)
def ev : Tr → Bool × Nat
  | .lf op => (decide (op = 1), if op = 6 then E.bot else if op = 7 then E.top else E.labs (op - 8).toNat)
  | .nd op x y => (if op = 3 then (ev x).1 && (ev y).1 else if op = 4 then (ev x).1 || (ev y).1 else E.le (ev x).2 (ev y).2, if op = 12 then E.J (ev x).2 (ev y).2 else E.M (ev x).2 (ev y).2)
theorem ev_lt : ∀ {t : Tr}, t.wf → t.sort = true → (ev E t).2 < E.n
  | .lf op, h, hs => by
    rcases h with rfl | rfl | rfl | rfl | rfl | rfl | rfl | rfl
    · simp [Tr.sort] at hs
    · simp [Tr.sort] at hs
    · exact E.hbot.1
    · exact E.htop.1
    · exact (E.hlab 0 (by omega)).2
    · exact (E.hlab 1 (by omega)).2
    · exact (E.hlab 2 (by omega)).2
    · exact (E.hlab 3 (by omega)).2
  | .nd op x y, ⟨h, hx, hy, sx, sy⟩, hs => by
    rcases h with rfl | rfl | rfl | rfl | rfl
    · simp [Tr.sort] at hs
    · simp [Tr.sort] at hs
    · simp [Tr.sort] at hs
    · exact (E.hjoin _ _ (ev_lt hx sx) (ev_lt hy sy)).1
    · exact (E.hmeet _ _ (ev_lt hx sx) (ev_lt hy sy)).1
def val (t : Tr) : If57 := if t.sort then .c54 ((ev E t).2 : Int) else .c63 (ev E t).1
theorem put_eq {P : List If57} {x : If57} {lb : List Int} (h : P.length ≤ 1000) : judge_judge_put.f (⟨l, lb, P⟩ : judge_judge) x = some ⟨l, lb, P ++ [x]⟩ := by
  unfold judge_judge_put.f
  have hB : 200000 ≤ big := by decide
  have : (P.length + ([x] : List If57).length) * 16 ≤ big := by simp; omega
  exact if_pos this
theorem two_eq' {P : List If57} {x y : If57} {lb : List Int} (h : P.length ≤ 1000) : judge_judge_two.f (⟨l, lb, P ++ [x] ++ [y]⟩ : judge_judge) = some (⟨l, lb, P⟩, x, y) := by
  unfold judge_judge_two.f
  have hlen : (P ++ [x] ++ [y]).length = P.length + 2 := by simp
  show (lAt (P ++ [x] ++ [y]) (IntKind.i64.wrap (((P ++ [x] ++ [y]).length : Int) - 2)) >>= _) = _
  rw [w2 (by omega), lAt_last2, bsome]
  have e1 : IntKind.i64.wrap ((((P ++ [x] ++ [y]).length : Nat) : Int) - 2 + 1) = (((P ++ [x] ++ [y]).length : Nat) : Int) - 1 := by rw [wrapZ (by omega) (by omega)]; omega
  show (lAt (P ++ [x] ++ [y]) (IntKind.i64.wrap ((((P ++ [x] ++ [y]).length : Nat) : Int) - 2 + 1)) >>= _) = _
  rw [e1, lAt_last (l := P ++ [x]) (x := y), bsome, if_pos (show (0 : Int) ≤ (((P ++ [x] ++ [y]).length : Nat) : Int) - 2 ∧ (((P ++ [x] ++ [y]).length : Nat) : Int) - 2 ≤ (((P ++ [x] ++ [y]).length : Nat) : Int) from ⟨by omega, by omega⟩)]
  have e2 : (P ++ [x] ++ [y]).take ((((P ++ [x] ++ [y]).length : Nat) : Int) - 2).toNat = P := by
    rw [hlen, show ((((P.length + 2 : Nat) : Int) - 2).toNat) = P.length by omega, List.append_assoc, List.take_left]
  rw [e2]
theorem both_eq {op : Int} {x y : Tr} {P : List If57} (hx : x.wf) (hy : y.wf) (ho : NdOp op) (sx : x.sort = decide (op ≥ 5)) (sy : y.sort = decide (op ≥ 5)) :
    judge_judge_both.f (⟨l, labels, P⟩ : judge_judge) op (val E x) (val E y) = some (⟨l, labels, P⟩, val E (.nd op x y)) := by
  unfold judge_judge_both.f
  by_cases h5 : op ≥ 5
  · rw [decide_eq_true h5] at sx sy
    have lx := ev_lt E hx sx
    have ly := ev_lt E hy sy
    have e1 : val E x = .c54 ((ev E x).2 : Int) := by unfold val; rw [sx]; rfl
    have e2 : val E y = .c54 ((ev E y).2 : Int) := by unfold val; rw [sy]; rfl
    rw [e1, e2]
    show (if false = true then _ else (if true = true then _ else _)) = _
    rw [if_neg (by decide), if_pos rfl]
    rcases ho with rfl | rfl | rfl | rfl | rfl
    · omega
    · omega
    · rw [if_pos rfl]
      show (lattice_Flows.f l ((ev E x).2 : Int) ((ev E y).2 : Int) >>= _) = _
      rw [E.hflows _ _ lx ly, bsome]; rfl
    · rw [if_neg (by decide), if_pos rfl]
      show (lattice_Join.f l ((ev E x).2 : Int) ((ev E y).2 : Int) >>= _) = _
      rw [(E.hjoin _ _ lx ly).2, bsome]; rfl
    · rw [if_neg (by decide), if_neg (by decide)]
      show (lattice_Meet.f l ((ev E x).2 : Int) ((ev E y).2 : Int) >>= _) = _
      rw [(E.hmeet _ _ lx ly).2, bsome]; rfl
  · rw [decide_eq_false h5] at sx sy
    have e1 : val E x = .c63 (ev E x).1 := by unfold val; rw [sx]; rfl
    have e2 : val E y = .c63 (ev E y).1 := by unfold val; rw [sy]; rfl
    rw [e1, e2]
    show (if true = true then _ else _) = _
    rw [if_pos rfl]
    show (if op = 3 then ((if (ev E x).1 = true then some (If57.c63 (ev E y).1) else some (If57.c63 false)) >>= _) else ((if (ev E x).1 = true then some (If57.c63 true) else some (If57.c63 (ev E y).1)) >>= _)) = _
    have hv : val E (.nd op x y) = .c63 (ev E (.nd op x y)).1 := by
      unfold val
      have : (Tr.nd op x y).sort = false := decide_eq_false (by omega)
      rw [this]; rfl
    rw [hv]
    have he : ∀ op', (ev E (.nd op' x y)).1 = (if op' = 3 then (ev E x).1 && (ev E y).1 else if op' = 4 then (ev E x).1 || (ev E y).1 else E.le (ev E x).2 (ev E y).2) := fun _ => rfl
    rw [he]
    rcases ho with rfl | rfl | rfl | rfl | rfl
    · rw [if_pos rfl, if_pos rfl]
      cases (ev E x).1 <;> cases (ev E y).1 <;> rfl
    · rw [if_neg (show ¬ ((4 : Int) = 3) by decide), if_neg (show ¬ ((4 : Int) = 3) by decide), if_pos rfl]
      cases (ev E x).1 <;> cases (ev E y).1 <;> rfl
    · omega
    · omega
    · omega
end
end
section
theorem split_nd {l r : List Int} {s : Nat} {op : Int} {x y : Tr} (e : l.drop s = (Tr.nd op x y).flat ++ r) :
    l.drop s = x.flat ++ (y.flat ++ ([op] ++ r)) ∧ l.drop (s + x.size) = y.flat ++ ([op] ++ r) ∧ ∃ h : s + x.size + y.size < l.length, l[s + x.size + y.size] = op := by
  have e1 : l.drop s = x.flat ++ (y.flat ++ ([op] ++ r)) := by rw [e]; simp [Tr.flat]
  have e2 : l.drop (s + x.size) = y.flat ++ ([op] ++ r) := by rw [← List.drop_drop, e1, ← flat_len x, List.drop_left]
  have e3 : l.drop (s + x.size + y.size) = [op] ++ r := by rw [← List.drop_drop, e2, ← flat_len y, List.drop_left]
  have hk : s + x.size + y.size < l.length := by
    rcases Nat.lt_or_ge (s + x.size + y.size) l.length with q | q
    · exact q
    · rw [List.drop_of_length_le q] at e3; simp at e3
  rw [List.drop_eq_getElem_cons hk] at e3
  simp only [List.cons_append, List.nil_append, List.cons.injEq] at e3
  exact ⟨e1, e2, hk, e3.1⟩
theorem leaf_at {l r : List Int} {s : Nat} {op : Int} (e : l.drop s = (Tr.lf op).flat ++ r) : ∃ h : s < l.length, l[s] = op := by
  have hs : s < l.length := by
    rcases Nat.lt_or_ge s l.length with q | q
    · exact q
    · rw [List.drop_of_length_le q] at e; simp [Tr.flat] at e
  rw [List.drop_eq_getElem_cons hs] at e
  simp only [Tr.flat, List.cons_append, List.nil_append, List.cons.injEq] at e
  exact ⟨hs, e.1⟩
theorem size_pos : ∀ t : Tr, 1 ≤ t.size
  | .lf _ => by simp [Tr.size]
  | .nd _ _ _ => by simp [Tr.size]
section
variable {l : api_Lattice} {labels : List Int} (E : Je l labels)
theorem comes_lf {rule : List Int} {op : Int} {k : Nat} {P : List If57} (hk : k < rule.length) (hop : rule[k] = op) (ho : LfOp op) (hl : rule.length ≤ 900) (hP : P.length ≤ 900) :
    judge_judge_comes.l0 rule l labels P (k : Int) = judge_judge_comes.l0 rule l labels (P ++ [val E (.lf op)]) ((k + 1 : Nat) : Int) := by
  have hput : ∀ x, judge_judge_put.f (⟨l, labels, P⟩ : judge_judge) x = some ⟨l, labels, P ++ [x]⟩ := fun x => put_eq (by omega)
  have l0 := (E.hlab 0 (by omega)).1
  have l1 := (E.hlab 1 (by omega)).1
  have l2 := (E.hlab 2 (by omega)).1
  have l3 := (E.hlab 3 (by omega)).1
  have z0 : IntKind.i64.wrap ((8 : Int) - 8) = ((0 : Nat) : Int) := by decide
  have z1 : IntKind.i64.wrap ((9 : Int) - 8) = ((1 : Nat) : Int) := by decide
  have z2 : IntKind.i64.wrap ((10 : Int) - 8) = ((2 : Nat) : Int) := by decide
  have z3 : IntKind.i64.wrap ((11 : Int) - 8) = ((3 : Nat) : Int) := by decide
  rw [judge_judge_comes.l0, if_pos (by omega), lAt_some hk, hop, wS (by omega), bsome]
  rcases ho with rfl | rfl | rfl | rfl | rfl | rfl | rfl | rfl
  · rw [if_pos rfl, hput]; rfl
  · rw [if_neg (show ¬ ((2 : Int) = 1) by decide), if_pos rfl, hput]; rfl
  · rw [if_neg (show ¬ ((6 : Int) = 1) by decide), if_neg (show ¬ ((6 : Int) = 2) by decide), if_pos rfl, E.hbot.2, bsome, hput]; rfl
  · rw [if_neg (show ¬ ((7 : Int) = 1) by decide), if_neg (show ¬ ((7 : Int) = 2) by decide), if_neg (show ¬ ((7 : Int) = 6) by decide), if_pos rfl, E.htop.2, bsome, hput]; rfl
  · rw [if_neg (show ¬ ((8 : Int) = 1) by decide), if_neg (show ¬ ((8 : Int) = 2) by decide), if_neg (show ¬ ((8 : Int) = 6) by decide), if_neg (show ¬ ((8 : Int) = 7) by decide), if_pos rfl, z0, l0, bsome, hput]; rfl
  · rw [if_neg (show ¬ ((9 : Int) = 1) by decide), if_neg (show ¬ ((9 : Int) = 2) by decide), if_neg (show ¬ ((9 : Int) = 6) by decide), if_neg (show ¬ ((9 : Int) = 7) by decide), if_neg (show ¬ ((9 : Int) = 8) by decide), if_pos rfl, z1, l1, bsome, hput]; rfl
  · rw [if_neg (show ¬ ((10 : Int) = 1) by decide), if_neg (show ¬ ((10 : Int) = 2) by decide), if_neg (show ¬ ((10 : Int) = 6) by decide), if_neg (show ¬ ((10 : Int) = 7) by decide), if_neg (show ¬ ((10 : Int) = 8) by decide), if_neg (show ¬ ((10 : Int) = 9) by decide), if_pos rfl, z2, l2, bsome, hput]; rfl
  · rw [if_neg (show ¬ ((11 : Int) = 1) by decide), if_neg (show ¬ ((11 : Int) = 2) by decide), if_neg (show ¬ ((11 : Int) = 6) by decide), if_neg (show ¬ ((11 : Int) = 7) by decide), if_neg (show ¬ ((11 : Int) = 8) by decide), if_neg (show ¬ ((11 : Int) = 9) by decide), if_neg (show ¬ ((11 : Int) = 10) by decide), if_pos rfl, z3, l3, bsome, hput]; rfl
theorem comes_nd {rule : List Int} {op : Int} {x y : Tr} {k : Nat} {P : List If57} (hk : k < rule.length) (hop : rule[k] = op) (h : (Tr.nd op x y).wf) (hl : rule.length ≤ 900) (hP : P.length ≤ 900) :
    judge_judge_comes.l0 rule l labels (P ++ [val E x] ++ [val E y]) (k : Int) = judge_judge_comes.l0 rule l labels (P ++ [val E (.nd op x y)]) ((k + 1 : Nat) : Int) := by
  obtain ⟨ho, hx, hy, sx, sy⟩ := h
  have hput : ∀ x, judge_judge_put.f (⟨l, labels, P⟩ : judge_judge) x = some ⟨l, labels, P ++ [x]⟩ := fun x => put_eq (by omega)
  have h2 : judge_judge_two.f (⟨l, labels, P ++ [val E x] ++ [val E y]⟩ : judge_judge) = some (⟨l, labels, P⟩, val E x, val E y) := two_eq' (by omega)
  have h3 : judge_judge_both.f (⟨l, labels, P⟩ : judge_judge) op (val E x) (val E y) = some (⟨l, labels, P⟩, val E (.nd op x y)) := both_eq E hx hy ho sx sy
  have n : ∀ q : Int, q = 1 ∨ q = 2 ∨ q = 6 ∨ q = 7 ∨ q = 8 ∨ q = 9 ∨ q = 10 ∨ q = 11 → ¬ op = q := by
    intro q hq
    rcases ho with rfl | rfl | rfl | rfl | rfl <;> omega
  rw [judge_judge_comes.l0, if_pos (by omega), lAt_some hk, hop, wS (by omega), bsome]
  rw [if_neg (n 1 (by simp)), if_neg (n 2 (by simp)), if_neg (n 6 (by simp)), if_neg (n 7 (by simp)), if_neg (n 8 (by simp)), if_neg (n 9 (by simp)), if_neg (n 10 (by simp)), if_neg (n 11 (by simp)), h2, bsome]
  show ((((judge_judge_both.f (⟨l, labels, P⟩ : judge_judge) op (val E x) (val E y) >>= _) >>= _) >>= _) = _)
  rw [h3, bsome]
  show ((((judge_judge_put.f (⟨l, labels, P⟩ : judge_judge) (val E (.nd op x y)) >>= _) >>= _) >>= _) = _)
  rw [hput]; rfl
theorem comes_l0 {rule : List Int} (hl : rule.length ≤ 900) : ∀ (t : Tr), t.wf → ∀ (P : List If57) (k : Nat) (r : List Int), rule.drop k = t.flat ++ r → P.length ≤ k →
    judge_judge_comes.l0 rule l labels P (k : Int) = judge_judge_comes.l0 rule l labels (P ++ [val E t]) ((k + t.size : Nat) : Int)
  | .lf op, ho, P, k, r, e, hP => by
    obtain ⟨hk, hop⟩ := leaf_at e
    exact comes_lf E hk hop ho hl (by omega)
  | .nd op x y, ho, P, k, r, e, hP => by
    obtain ⟨e1, e2, hk, hop⟩ := split_nd e
    have px := size_pos x
    rw [comes_l0 hl x ho.2.1 P k _ e1 hP, comes_l0 hl y ho.2.2.1 (P ++ [val E x]) (k + x.size) _ e2 (by simp; omega), comes_nd E hk hop ho hl (by omega)]
    have e4 : k + x.size + y.size + 1 = k + (Tr.nd op x y).size := by show _ = k + (x.size + y.size + 1); omega
    rw [e4]
theorem comes_eq {t : Tr} (ho : t.wf) (hl : t.flat.length ≤ 900) : judge_judge_comes.f (⟨l, labels, []⟩ : judge_judge) t.flat = some (⟨l, labels, [val E t]⟩, val E t) := by
  unfold judge_judge_comes.f
  have h := comes_l0 E hl t ho [] 0 [] (by simp) (by simp)
  rw [show ((0 : Nat) : Int) = 0 from rfl] at h
  show (judge_judge_comes.l0 t.flat l labels [] 0 >>= _) = _
  rw [h, show 0 + t.size = t.flat.length by rw [flat_len]; omega, judge_judge_comes.l0, if_neg (by omega), bsome]
  rfl
end
end
section
open Classical
theorem je_of {l : api_Lattice} {U : List Nat} (h : Nm l U) (hc : chk l U = 0) {labels : List Int} (h4 : labels.length = 4) (ha : labels.all (inn U.length) = true) :
    ∃ E : Je l labels, E.n = U.length ∧ E.le = le U ∧ (∀ a b, a < U.length → b < U.length → jn U a b = (E.J a b : Int)) ∧ (∀ a b, a < U.length → b < U.length → mt U a b = (E.M a b : Int)) ∧
      (∀ c, c < U.length → le U E.bot c = true) ∧ (∀ c, c < U.length → le U c E.top = true) ∧
      (∀ a b, a < U.length → b < U.length → ∀ c, c < U.length → (le U (E.J a b) c = true ↔ le U a c = true ∧ le U b c = true)) ∧
      (∀ a b, a < U.length → b < U.length → ∀ c, c < U.length → (le U c (E.M a b) = true ↔ le U c a = true ∧ le U c b = true)) := by
  obtain ⟨hm, hO, _⟩ := chk_zero hc
  obtain ⟨J, hJ⟩ := J_is hc
  obtain ⟨M, hM⟩ := M_is hc
  obtain ⟨b, ⟨b1, b3⟩, b2⟩ := bot_prog h hc
  obtain ⟨t, ⟨t1, t3⟩, t2⟩ := top_prog h hc
  have hl : ∀ i : Nat, i < 4 → ∃ k : Nat, lAt labels (i : Int) = some (k : Int) ∧ k < U.length := by
    intro i hi
    have hi' : i < labels.length := by omega
    obtain ⟨k, e, hk⟩ := inn_nat (List.all_eq_true.1 ha _ (List.getElem_mem hi'))
    exact ⟨k, by rw [lAt_some hi', e], hk⟩
  refine ⟨⟨U.length, le U, J, M, b, t, fun i => if hi : i < 4 then (hl i hi).choose else 0, ⟨b1, b2⟩, ⟨t1, t2⟩, fun x y hx hy => (yes2 h hc hx hy).1, fun x y hx hy => ?_, fun x y hx hy => ?_, h4, fun i hi => ?_⟩, rfl, rfl, fun x y hx hy => (hJ x y hx hy).1, fun x y hx hy => (hM x y hx hy).1, b3, t3, fun x y hx hy => (hJ x y hx hy).2.2, fun x y hx hy => (hM x y hx hy).2.2⟩
  · obtain ⟨e1, e2, e3⟩ := yes2 h hc hx hy
    rw [(hJ x y hx hy).1] at e2
    exact ⟨(hJ x y hx hy).2.1, e2⟩
  · obtain ⟨e1, e2, e3⟩ := yes2 h hc hx hy
    rw [(hM x y hx hy).1] at e3
    exact ⟨(hM x y hx hy).2.1, e3⟩
  · have := (hl i hi).choose_spec
    simp only [hi, dif_pos]
    exact this
def okL (n : Nat) (labels : List Int) : Bool := decide (labels.length = 4) && labels.all (inn n)
noncomputable def mayS (l : api_Lattice) (U : List Nat) (r : List Int) (labels : List Int) (b : Bool) : Int :=
  if chk l U = 0 then (if right r = some b then (if okL U.length labels = true then 0 else 9) else 1) else chk l U
theorem odd_eq {l : api_Lattice} {U : List Nat} (h : Nm l U) (x : Int) : judge_may_1.f x l = some (!inn U.length x) := by
  unfold judge_may_1.f inn
  rw [h.n]
  by_cases h1 : x < 0
  · have h1' : ¬ 0 ≤ x := by omega
    simp [h1, h1']
  · have h1' : 0 ≤ x := by omega
    by_cases h2 : x < (U.length : Int)
    · have h2' : ¬ x ≥ (U.length : Int) := by omega
      simp [h1, h1', h2, h2']
    · have h2' : x ≥ (U.length : Int) := by omega
      simp [h1, h1', h2, h2']
theorem may_eq {l : api_Lattice} {U : List Nat} (h : Nm l U) {r labels : List Int} {b : Bool} (hr : r.length ≤ 900) (hl : labels.length ≤ 900) : judge_may.f l r labels b = some (mayS l U r labels b) := by
  unfold judge_may.f mayS
  rw [check_eq h, bsome, Right_eq hr]
  by_cases hc : chk l U = 0
  · rw [if_pos hc, if_pos hc, bsome]
    by_cases hq : right r = some b
    · rw [decide_eq_true hq, if_neg (by decide), if_pos hq]
      rw [containsF_eq (g := fun z0 => judge_may_1.f z0 l) (p := fun a => !inn U.length a) (odd_eq h) (by omega)]
      have : labels.any (fun a => !inn U.length a) = !labels.all (inn U.length) := by rw [List.not_all_eq_any_not]
      rw [this]
      unfold okL
      by_cases h4 : labels.length = 4
      · have h4' : (labels.length : Int) = 4 := by omega
        rw [if_pos h4', bsome, bsome, decide_eq_true h4]
        cases labels.all (inn U.length) <;> rfl
      · have h4' : ¬ (labels.length : Int) = 4 := by omega
        rw [if_neg h4', bsome, decide_eq_false h4]; rfl
    · rw [decide_eq_false hq, if_pos (show (!false) = true from rfl), if_neg hq]
  · rw [if_neg hc, if_neg hc]
theorem mayS_zero {l : api_Lattice} {U : List Nat} {r labels : List Int} {b : Bool} (h : mayS l U r labels b = 0) : chk l U = 0 ∧ right r = some b ∧ labels.length = 4 ∧ labels.all (inn U.length) = true := by
  unfold mayS at h
  by_cases hc : chk l U = 0
  · rw [if_pos hc] at h
    by_cases hq : right r = some b
    · rw [if_pos hq] at h
      by_cases ho : okL U.length labels = true
      · unfold okL at ho
        rw [Bool.and_eq_true, decide_eq_true_iff] at ho
        exact ⟨hc, hq, ho.1, ho.2⟩
      · rw [if_neg ho] at h; cases h
    · rw [if_neg hq] at h; cases h
  · rw [if_neg hc] at h; exact absurd h hc
theorem cond_no {l : api_Lattice} {U : List Nat} (h : Nm l U) {r labels : List Int} (hr : r.length ≤ 900) (hl : labels.length ≤ 900) (hm : mayS l U r labels false ≠ 0) : judge_Cond.f l r labels = some (false, mayS l U r labels false) := by
  unfold judge_Cond.f
  rw [may_eq h hr hl, bsome, if_neg hm]
theorem label_no {l : api_Lattice} {U : List Nat} (h : Nm l U) {r labels : List Int} (hr : r.length ≤ 900) (hl : labels.length ≤ 900) (hm : mayS l U r labels true ≠ 0) : judge_Label.f l r labels = some (0, mayS l U r labels true) := by
  unfold judge_Label.f
  rw [may_eq h hr hl, bsome, if_neg hm]
end
section
open Classical
theorem cond_is {l : api_Lattice} {U : List Nat} (h : Nm l U) {labels : List Int} (E : Je l labels) {t : Tr} (ho : t.wf) (hs : t.sort = false) (hr : t.flat.length ≤ 900) (hl : labels.length ≤ 900) (hm : mayS l U t.flat labels false = 0) :
    judge_Cond.f l t.flat labels = some ((ev E t).1, 0) := by
  have h1 := comes_eq E ho hr
  have hv : val E t = .c63 (ev E t).1 := by unfold val; rw [hs]; rfl
  unfold judge_Cond.f
  rw [may_eq h hr hl, hm, bsome, if_pos rfl]
  show (judge_judge_comes.f (⟨l, labels, []⟩ : judge_judge) t.flat >>= _) = _
  rw [h1, bsome, hv]; rfl
theorem label_is {l : api_Lattice} {U : List Nat} (h : Nm l U) {labels : List Int} (E : Je l labels) {t : Tr} (ho : t.wf) (hs : t.sort = true) (hr : t.flat.length ≤ 900) (hl : labels.length ≤ 900) (hm : mayS l U t.flat labels true = 0) :
    judge_Label.f l t.flat labels = some (((ev E t).2 : Int), 0) := by
  have h1 := comes_eq E ho hr
  have hv : val E t = .c54 ((ev E t).2 : Int) := by unfold val; rw [hs]; rfl
  unfold judge_Label.f
  rw [may_eq h hr hl, hm, bsome, if_pos rfl]
  show (judge_judge_comes.f (⟨l, labels, []⟩ : judge_judge) t.flat >>= _) = _
  rw [h1, bsome, hv]; rfl
end
section
theorem start_l0 {l : List Int} (hl : l.length ≤ 900) : ∀ (t : Tr), t.ok → ∀ (s : Nat) (r : List Int) (need : Nat), l.drop s = t.flat ++ r → 1 ≤ need → need + t.size ≤ 2000 →
    mutant_start.l0 l (need : Int) (((s + t.size : Nat) : Int) - 1) = if need = 1 then some (s : Int) else mutant_start.l0 l ((need - 1 : Nat) : Int) ((s : Int) - 1)
  | .lf op, ho, s, r, need, e, h1, h2 => by
    obtain ⟨hs, hop⟩ := leaf_at e
    have hi : (((s + (Tr.lf op).size : Nat) : Int) - 1) = ((s : Nat) : Int) := by show ((s + 1 : Nat) : Int) - 1 = _; omega
    have hw : IntKind.i64.wrap ((need : Int) - 1) = ((need - 1 : Nat) : Int) := by rw [wrapZ (by omega) (by omega)]; omega
    have hw2 : IntKind.i64.wrap ((s : Int) - 1) = (s : Int) - 1 := wrapZ (by omega) (by omega)
    rw [mutant_start.l0, hi, lAt_some hs, hop, bsome, hw, hw2]
    have hz : (((need - 1 : Nat) : Int) = 0) ↔ need = 1 := by omega
    have hz2 : (need - 1 = 0) ↔ need = 1 := by omega
    rcases ho with rfl | rfl | rfl | rfl | rfl | rfl | rfl | rfl <;> (by_cases q : need = 1 <;> simp [hz, hz2, q])
  | .nd op x y, ho, s, r, need, e, h1, h2 => by
    obtain ⟨e1, e2, hk, hop⟩ := split_nd e
    have hsz : need + (x.size + y.size + 1) ≤ 2000 := h2
    have hi : (((s + (Tr.nd op x y).size : Nat) : Int) - 1) = ((s + x.size + y.size : Nat) : Int) := by show ((s + (x.size + y.size + 1) : Nat) : Int) - 1 = _; omega
    have hw : IntKind.i64.wrap ((IntKind.i64.wrap ((need : Int) - 1)) + 2) = ((need + 1 : Nat) : Int) := by rw [wrapZ (x := (need : Int) - 1) (by omega) (by omega), wrapZ (by omega) (by omega)]; omega
    have hw2 : IntKind.i64.wrap (((s + x.size + y.size : Nat) : Int) - 1) = ((s + x.size + y.size : Nat) : Int) - 1 := wrapZ (by omega) (by omega)
    have hY := start_l0 hl y ho.2.2 (s + x.size) _ (need + 1) e2 (by omega) (by omega)
    have hX := start_l0 hl x ho.2.1 s _ need e1 h1 (by omega)
    rw [if_neg (by omega)] at hY
    have hn : need + 1 - 1 = need := by omega
    rw [hn] at hY
    rw [mutant_start.l0, hi, lAt_some hk, hop, bsome, hw, hw2]
    have hz : ¬ (((need + 1 : Nat) : Int) = 0) := by omega
    rw [← hX, ← hY]
    rcases ho.1 with rfl | rfl | rfl | rfl | rfl <;> simp only [bsome, if_true, if_false, hz] <;> rfl
theorem start_eq {l : List Int} (hl : l.length ≤ 900) {t : Tr} (ho : t.ok) {s : Nat} {r : List Int} (e : l.drop s = t.flat ++ r) (ht : t.size ≤ 900) : mutant_start.f l (((s + t.size : Nat) : Int) - 1) = some (s : Int) := by
  unfold mutant_start.f
  have := start_l0 hl t ho s r 1 e (Nat.le_refl _) (by omega)
  rw [if_pos rfl, show ((1 : Nat) : Int) = 1 from rfl] at this
  rw [this, bsome]
theorem part_at {l : List Int} : ∀ (t : Tr), t.ok → ∀ (s : Nat) (r : List Int), l.drop s = t.flat ++ r → ∀ (i : Nat) (hi : i < l.length), s ≤ i → i < s + t.size → NdOp l[i] →
    ∃ (x y : Tr) (s' : Nat) (r' : List Int), x.ok ∧ y.ok ∧ l.drop s' = (Tr.nd l[i] x y).flat ++ r' ∧ s' + x.size + y.size = i
  | .lf op, ho, s, r, e, i, hi, h1, h2, hn => by
    obtain ⟨hs, hop⟩ := leaf_at e
    have : i = s := by have : i < s + 1 := h2; omega
    subst this
    rw [hop] at hn
    exfalso
    rcases ho with rfl | rfl | rfl | rfl | rfl | rfl | rfl | rfl <;> rcases hn with h | h | h | h | h <;> omega
  | .nd op x y, ho, s, r, e, i, hi, h1, h2, hn => by
    obtain ⟨e1, e2, hk, hop⟩ := split_nd e
    have h2' : i < s + (x.size + y.size + 1) := h2
    rcases Nat.lt_or_ge i (s + x.size) with q | q
    · exact part_at x ho.2.1 s _ e1 i hi h1 q hn
    · rcases Nat.lt_or_ge i (s + x.size + y.size) with q2 | q2
      · exact part_at y ho.2.2 (s + x.size) _ e2 i hi q q2 hn
      · have : i = s + x.size + y.size := by omega
        subst this
        exact ⟨x, y, s, r, ho.2.1, ho.2.2, by rw [hop]; exact e, rfl⟩
end
section
theorem flat_len_le {xss : List (List Int)} (h : ∀ x ∈ xss, x.length ≤ 1000) : xss.flatten.length ≤ xss.length * 1000 := by
  induction xss with
  | nil => simp
  | cons a r ih =>
    have ha := h a (by simp)
    have := ih (fun x hx => h x (by simp [hx]))
    simp only [List.flatten_cons, List.length_append, List.length_cons, Nat.succ_mul]
    omega
theorem concat_l0 {xss : List (List Int)} (hn : xss.length ≤ 100) (h : ∀ x ∈ xss, x.length ≤ 1000) : ∀ (d k : Nat) (v : Nat), xss.length = k + d → v ≤ k * 1000 → slices_Concat_int_int.l0 xss (k : Int) (v : Int) = some ((v + (xss.drop k).flatten.length : Nat) : Int)
  | 0, k, v, e, hv => by
    rw [slices_Concat_int_int.l0, if_neg (by omega), List.drop_of_length_le (by omega)]; simp
  | d + 1, k, v, e, hv => by
    have hk : k < xss.length := by omega
    have hx := h xss[k] (List.getElem_mem hk)
    have ih := concat_l0 hn h d (k + 1) (v + xss[k].length) (by omega) (by rw [Nat.succ_mul]; omega)
    have hw : IntKind.i64.wrap ((v : Int) + (xss[k].length : Int)) = ((v + xss[k].length : Nat) : Int) := by rw [wrapZ (by omega) (by omega)]; omega
    rw [slices_Concat_int_int.l0, if_pos (by omega), lAt_some hk, bsome, hw, if_neg (by omega), bsome, wS (by omega), ih, List.drop_eq_getElem_cons hk]
    simp only [List.flatten_cons, List.length_append]
    rw [Nat.add_assoc]
theorem concat_l1 {xss : List (List Int)} (hn : xss.length ≤ 100) (h : ∀ x ∈ xss, x.length ≤ 1000) : ∀ (d k : Nat) (v : List Int), xss.length = k + d → v.length ≤ k * 1000 → slices_Concat_int_int.l1 xss v (k : Int) = some (v ++ (xss.drop k).flatten)
  | 0, k, v, e, hv => by
    rw [slices_Concat_int_int.l1, if_neg (by omega), List.drop_of_length_le (by omega)]; simp
  | d + 1, k, v, e, hv => by
    have hk : k < xss.length := by omega
    have hx := h xss[k] (List.getElem_mem hk)
    have hB : 10000000 ≤ big := by decide
    have ih := concat_l1 hn h d (k + 1) (v ++ xss[k]) (by omega) (by rw [Nat.succ_mul]; simp; omega)
    rw [slices_Concat_int_int.l1, if_pos (by omega), lAt_some hk, bsome, if_pos (by omega), wS (by omega), ih, List.drop_eq_getElem_cons hk]
    simp only [List.flatten_cons, List.append_assoc]
theorem grow_eq {n : Nat} (h : n ≤ 100000) : slices_Grow_int_int_nil.f (n : Int) = some [] := by
  unfold slices_Grow_int_int_nil.f
  have h1 : IntKind.i64.wrap (0 - (([] : List Int).length : Int)) = 0 := by decide
  have h2 : IntKind.i64.wrap ((n : Int) - 0) = (n : Int) := by rw [wrapZ (by omega) (by omega)]; omega
  have hB : 10000000 ≤ big := by decide
  rw [if_neg (by omega), h1, h2]
  by_cases h0 : (n : Int) > 0
  · rw [if_pos h0, if_pos ⟨h0, by simp; omega⟩, if_pos ⟨by simp, by simp⟩]; rfl
  · rw [if_neg h0]
theorem concat_eq {xss : List (List Int)} (hn : xss.length ≤ 100) (h : ∀ x ∈ xss, x.length ≤ 1000) : slices_Concat_int_int.f xss = some xss.flatten := by
  unfold slices_Concat_int_int.f
  have h1 := concat_l0 hn h xss.length 0 0 (by omega) (by omega)
  have h2 := concat_l1 hn h xss.length 0 [] (by omega) (by simp)
  have h3 := flat_len_le h
  have h4 : xss.length * 1000 ≤ 100 * 1000 := Nat.mul_le_mul_right _ hn
  rw [show ((0 : Nat) : Int) = 0 from rfl, List.drop_zero, Nat.zero_add] at h1
  rw [show ((0 : Nat) : Int) = 0 from rfl, List.drop_zero, List.nil_append] at h2
  rw [h1, bsome, grow_eq (by omega), bsome, h2, bsome]
theorem less_p {l : List Int} (hl : l.length ≤ 900) {x y : Tr} (hx : x.ok) (hy : y.ok) {s i : Nat} {r : List Int} {op : Int} (e : l.drop s = (Tr.nd op x y).flat ++ r) (hi : s + x.size + y.size = i) :
    mutant_less.f l (i : Int) = some [l.take (s + x.size) ++ l.drop (i + 1), l.take s ++ (l.take i).drop (s + x.size) ++ l.drop (i + 1)] := by
  obtain ⟨e1, e2, hk, hop⟩ := split_nd e
  have hil : i < l.length := by omega
  have w1' : IntKind.i64.wrap ((i : Int) - 1) = ((s + x.size + y.size : Nat) : Int) - 1 := by rw [wrapZ (by omega) (by omega)]; omega
  have w2' : IntKind.i64.wrap (((s + x.size : Nat) : Int) - 1) = ((s + x.size : Nat) : Int) - 1 := wrapZ (by omega) (by omega)
  have w3' : IntKind.i64.wrap ((i : Int) + 1) = ((i + 1 : Nat) : Int) := wS (by omega)
  have sy := start_eq hl hy e2 (by omega)
  have sx := start_eq hl hx e1 (by omega)
  have c1 : ∀ n : Nat, lCut l 0 (n : Int) = l.take n := fun n => by simp [lCut]
  have c2 : ∀ n : Nat, lCut l (n : Int) (l.length : Int) = l.drop n := fun n => by
    unfold lCut
    rw [List.take_of_length_le (by simp)]; simp
  have c3 : lCut l ((s + x.size : Nat) : Int) (i : Int) = (l.take i).drop (s + x.size) := by
    unfold lCut
    rw [List.drop_take, Int.toNat_natCast, Int.toNat_natCast]
  unfold mutant_less.f
  rw [w1', sy, bsome, w2', sx, bsome, w3', if_pos ⟨by omega, by omega⟩, if_pos ⟨by omega, by omega⟩, c1, c2]
  rw [concat_eq (by simp) (by intro z hz; simp at hz; rcases hz with rfl | rfl <;> simp <;> omega), bsome]
  rw [if_pos ⟨by omega, by omega⟩, if_pos ⟨by omega, by omega, by omega⟩, if_pos ⟨by omega, by omega⟩, c1, c3]
  rw [concat_eq (by simp) (by intro z hz; simp at hz; rcases hz with rfl | rfl | rfl <;> simp <;> omega), bsome]
  simp
end
section
theorem same_l0 {a b : List Int} (h : a.length = b.length) (hl : a.length ≤ 1000) : ∀ (d k : Nat), a.length = k + d →
    reticentref04_Same.l0 a b (k : Int) = some (if a.drop k = b.drop k then .inr () else .inl false)
  | 0, k, e => by
    rw [reticentref04_Same.l0, if_neg (by omega), List.drop_of_length_le (by omega), List.drop_of_length_le (by omega), if_pos rfl]
  | d + 1, k, e => by
    have hk : k < a.length := by omega
    have hk' : k < b.length := by omega
    rw [reticentref04_Same.l0, if_pos (by omega), lAt_some hk, lAt_some hk', bsome, bsome, wS (by omega), same_l0 h hl d (k + 1) (by omega), List.drop_eq_getElem_cons hk, List.drop_eq_getElem_cons hk']
    by_cases q : a[k] = b[k]
    · rw [if_pos q, q]
      simp only [List.cons.injEq, true_and]
    · rw [if_neg q, if_neg (fun h => q (List.cons.inj h).1)]
theorem same_eq {a b : List Int} (hl : a.length ≤ 1000) : reticentref04_Same.f a b = some (decide (a = b)) := by
  unfold reticentref04_Same.f
  by_cases h : a.length = b.length
  · have := same_l0 h hl a.length 0 (by omega)
    rw [show ((0 : Nat) : Int) = 0 from rfl, List.drop_zero, List.drop_zero] at this
    rw [if_pos (by omega), this]
    by_cases q : a = b
    · rw [if_pos q, decide_eq_true q]; rfl
    · rw [if_neg q, decide_eq_false q]; rfl
  · rw [if_neg (by omega), decide_eq_false (fun q => h (by rw [q]))]
theorem equal_l0 {a b : List Int} (h : a.length = b.length) (hl : a.length ≤ 1000) : ∀ (d k : Nat), a.length = k + d →
    slices_Equal_int_int.l0 a b (k : Int) = some (if a.drop k = b.drop k then .inr () else .inl false)
  | 0, k, e => by
    rw [slices_Equal_int_int.l0, if_neg (by omega), List.drop_of_length_le (by omega), List.drop_of_length_le (by omega), if_pos rfl]
  | d + 1, k, e => by
    have hk : k < a.length := by omega
    have hk' : k < b.length := by omega
    have ih := equal_l0 h hl d (k + 1) (by omega)
    rw [slices_Equal_int_int.l0, if_pos (by omega), lAt_some hk, lAt_some hk', bsome, bsome, wS (by omega), ih, List.drop_eq_getElem_cons hk, List.drop_eq_getElem_cons hk']
    by_cases q : a[k] = b[k]
    · rw [if_pos q, q]
      simp only [List.cons.injEq, true_and]
    · rw [if_neg q, if_neg (fun h => q (List.cons.inj h).1)]
theorem equal_eq {a b : List Int} (hl : a.length ≤ 1000) : slices_Equal_int_int.f a b = some (decide (a = b)) := by
  unfold slices_Equal_int_int.f
  by_cases h : a.length = b.length
  · have := equal_l0 h hl a.length 0 (by omega)
    rw [show ((0 : Nat) : Int) = 0 from rfl, List.drop_zero, List.drop_zero] at this
    have h' : (a.length : Int) = (b.length : Int) := by omega
    rw [if_pos h', this]
    by_cases q : a = b
    · rw [if_pos q, decide_eq_true q]; rfl
    · rw [if_neg q, decide_eq_false q]; rfl
  · rw [if_neg (by omega), decide_eq_false (fun q => h (by rw [q]))]
noncomputable def lsO (l : List Int) (k : Nat) : List (List Int) := (mutant_less.f l (k : Int)).getD []
noncomputable def wks (l : List Int) (j : Int) : Nat → Nat → List (List Int)
  | 0, _ => []
  | d + 1, k => (if l.getD k 0 = j then lsO l k else []) ++ wks l j d (k + 1)
theorem loopW {l : List Int} {j : Int} {L : List (List Int) → Int → Option (List (List Int))} (hend : ∀ acc, L acc (l.length : Int) = some acc)
    (hstep : ∀ acc (k : Nat) (hk : k < l.length), acc.length ≤ 2 * k + 1 → L acc (k : Int) = L (acc ++ (if l[k] = j then lsO l k else [])) ((k + 1 : Nat) : Int)) (hls : ∀ k (hk : k < l.length), l[k] = j → (lsO l k).length = 2) :
    ∀ (d k : Nat) (acc : List (List Int)), l.length = k + d → acc.length ≤ 2 * k + 1 → L acc (k : Int) = some (acc ++ wks l j d k)
  | 0, k, acc, e, ha => by rw [show k = l.length by omega, hend]; simp [wks]
  | d + 1, k, acc, e, ha => by
    have hk : k < l.length := by omega
    have hl : (if l[k] = j then lsO l k else []).length ≤ 2 := by
      split
      · rename_i h; rw [hls k hk h]; exact Nat.le_refl _
      · simp
    rw [hstep acc k hk ha, loopW hend hstep hls d (k + 1) _ (by omega) (by rw [List.length_append]; omega)]
    have : l.getD k 0 = l[k] := by simp [hk]
    rw [wks, this, List.append_assoc]
structure Rt (l : List Int) : Prop where
  len : l.length ≤ 40
  part : ∀ (i : Nat) (hi : i < l.length), NdOp l[i] → ∃ A B, mutant_less.f l (i : Int) = some [A, B] ∧ A.length ≤ 1000 ∧ B.length ≤ 1000
theorem rt_of {l : List Int} {b : Bool} (h : right l = some b) : Rt l := by
  obtain ⟨t, ho, e, h40⟩ := right_tree h
  refine ⟨h40, fun i hi hn => ?_⟩
  have hsz : t.size = l.length := by rw [← e, flat_len]
  obtain ⟨x, y, s, r, hx, hy, e2, hi2⟩ := part_at t ho 0 [] (by rw [e]; simp) i hi (by omega) (by omega) hn
  exact ⟨_, _, less_p (l := l) (by omega) hx hy e2 hi2, by simp; omega, by simp; omega⟩
theorem Rt.ls {l : List Int} (h : Rt l) {j : Int} (hj : NdOp j) : ∀ k (hk : k < l.length), l[k] = j → (lsO l k).length = 2 := by
  intro k hk e
  obtain ⟨A, B, q, _⟩ := h.part k hk (by rw [e]; exact hj)
  unfold lsO
  rw [q]; rfl
theorem Rt.less {l : List Int} (h : Rt l) {k : Nat} (hk : k < l.length) (hj : NdOp l[k]) : mutant_less.f l (k : Int) = some (lsO l k) ∧ (lsO l k).length = 2 := by
  obtain ⟨A, B, q, _⟩ := h.part k hk hj
  unfold lsO
  rw [q]; exact ⟨rfl, rfl⟩
def cnd (l : List Int) (least : Int) : List (List Int) := if l = [least] then [] else [[least]]
theorem n12 : NdOp 12 := by unfold NdOp; simp
theorem n3 : NdOp 3 := by unfold NdOp; simp
section
variable {l : List Int} (h : Rt l)
include h
theorem prog_step {j : Int} (hj : NdOp j) {L : List (List Int) → Int → Option (List (List Int))} {k : Nat} (hk : k < l.length) {acc : List (List Int)} (ha : acc.length ≤ 2 * k + 1) :
    ((lAt l (k : Int) >>= fun y => if y = j then (mutant_less.f l (k : Int) >>= fun y37 => if (acc.length + y37.length) * 24 ≤ big then (some (acc ++ y37)) else none) else (some acc) : Option (List (List Int))) >>= fun x => L x (IntKind.i64.wrap ((k : Int) + 1))) = L (acc ++ (if l[k] = j then lsO l k else [])) ((k + 1 : Nat) : Int) := by
  have hl := h.len
  have hB : 100000 ≤ big := by decide
  rw [lAt_some hk, bsome, wS (by omega)]
  by_cases q : l[k] = j
  · obtain ⟨e1, e2⟩ := h.less hk (by rw [q]; exact hj)
    rw [if_pos q, if_pos q, e1, bsome, if_pos (by rw [e2]; omega), bsome]
  · rw [if_neg q, if_neg q, bsome, List.append_nil]
theorem run_all {j : Int} (hj : NdOp j) {L : List (List Int) → Int → Option (List (List Int))} (hend : ∀ acc, L acc (l.length : Int) = some acc)
    (hstep : ∀ acc (k : Nat) (hk : k < l.length), acc.length ≤ 2 * k + 1 → L acc (k : Int) = L (acc ++ (if l[k] = j then lsO l k else [])) ((k + 1 : Nat) : Int)) {acc : List (List Int)} (ha : acc.length ≤ 1) : L acc 0 = some (acc ++ wks l j l.length 0) :=
  loopW hend hstep (h.ls hj) l.length 0 acc (by omega) (by omega)
theorem p0 {acc : List (List Int)} (ha : acc.length ≤ 1) : mutant_weaker.l0 l acc 0 = some (acc ++ wks l 12 l.length 0) :=
  run_all h n12 (fun acc => by rw [mutant_weaker.l0, if_neg (by omega)]) (fun acc k hk ha => by rw [mutant_weaker.l0, if_pos (by omega)]; exact prog_step h n12 hk ha) ha
theorem p1 {acc : List (List Int)} (ha : acc.length ≤ 1) : mutant_weaker.l1 l acc 0 = some (acc ++ wks l 12 l.length 0) :=
  run_all h n12 (fun acc => by rw [mutant_weaker.l1, if_neg (by omega)]) (fun acc k hk ha => by rw [mutant_weaker.l1, if_pos (by omega)]; exact prog_step h n12 hk ha) ha
theorem p2 {acc : List (List Int)} (ha : acc.length ≤ 1) : mutant_weaker.l2 l acc 0 = some (acc ++ wks l 3 l.length 0) :=
  run_all h n3 (fun acc => by rw [mutant_weaker.l2, if_neg (by omega)]) (fun acc k hk ha => by rw [mutant_weaker.l2, if_pos (by omega)]; exact prog_step h n3 hk ha) ha
theorem p3 {acc : List (List Int)} (ha : acc.length ≤ 1) : mutant_weaker.l3 l acc 0 = some (acc ++ wks l 3 l.length 0) :=
  run_all h n3 (fun acc => by rw [mutant_weaker.l3, if_neg (by omega)]) (fun acc k hk ha => by rw [mutant_weaker.l3, if_pos (by omega)]; exact prog_step h n3 hk ha) ha
end
end
section
noncomputable def all (l : List Int) (b : Bool) : List (List Int) := if b then cnd l 6 ++ wks l 12 l.length 0 else cnd l 1 ++ wks l 3 l.length 0
theorem weaker_p {l : List Int} {b : Bool} (h : right l = some b) : mutant_weaker.f l = some (all l b) := by
  have hr := rt_of h
  have hl := hr.len
  have hB : (([] : List (List Int)).length + ([([6] : List Int)] : List (List Int)).length) * 24 ≤ big := by decide
  have hB' : (([] : List (List Int)).length + ([([1] : List Int)] : List (List Int)).length) * 24 ≤ big := by decide
  have hRt : rule_Right.f l true = some b := by rw [Right_eq (by omega), h]; cases b <;> rfl
  unfold mutant_weaker.f all cnd
  rw [hRt, bsome]
  cases b with
  | true =>
    rw [if_pos rfl, equal_eq (by omega), bsome, if_pos rfl]
    by_cases q : l = [6]
    · rw [decide_eq_true q, if_neg (by decide), p1 hr (by simp), bsome, if_pos q]
    · rw [decide_eq_false q, if_pos (by decide), if_pos hB, p0 hr (by simp), bsome, if_neg q]; rfl
  | false =>
    rw [if_neg (show ¬ (false = true) by decide), equal_eq (by omega), bsome, if_neg (show ¬ (false = true) by decide)]
    by_cases q : l = [1]
    · rw [decide_eq_true q, if_neg (by decide), p3 hr (by simp), bsome, if_pos q]
    · rw [decide_eq_false q, if_pos (by decide), if_pos hB', p2 hr (by simp), bsome, if_neg q]; rfl
theorem Weaker_eq {l : List Int} (hl : l.length ≤ 900) : mutant_Weaker.f l = some (match right l with | none => ([], 1) | some b => (all l b, 0)) := by
  have hR : ((rule_Right.f l false >>= fun y5 => if (!y5) = true then (rule_Right.f l true >>= fun y7 => some (!y7)) else (some false) : Option Bool)) = some (right l).isNone := by
    rw [Right_eq hl, Right_eq hl]
    cases right l with
    | none => rfl
    | some b => cases b <;> rfl
  unfold mutant_Weaker.f
  rw [hR, bsome]
  cases h : right l with
  | none => rfl
  | some b => rw [if_neg (by simp), weaker_p h, bsome]
theorem alive : reticentlaw24_alive.f = some true := by
  have hr : right [9, 10, 12] = some true := by decide
  have hW := Weaker_eq (l := [9, 10, 12]) (by decide)
  have hless := less_p (l := [9, 10, 12]) (by decide) (x := .lf 9) (y := .lf 10) (s := 0) (i := 2) (r := []) (op := 12) (by simp [Tr.ok, LfOp]) (by simp [Tr.ok, LfOp]) rfl rfl
  have hls : lsO [9, 10, 12] 2 = [[9], [10]] := by unfold lsO; rw [hless]; rfl
  have hall : all [9, 10, 12] true = [[6], [9], [10]] := by
    unfold all cnd
    rw [if_pos rfl, if_neg (by decide)]
    show [[6]] ++ wks [9, 10, 12] 12 3 0 = _
    simp only [wks]
    rw [if_neg (by decide), if_neg (by decide), if_pos (by decide), hls]; rfl
  rw [hr] at hW
  simp only [hall] at hW
  unfold reticentlaw24_alive.f
  rw [hW, bsome, if_pos rfl, if_pos (by decide)]
  show ((lAt ([[6], [9], [10]] : List (List Int)) 0 >>= _) >>= _) = _
  rw [show lAt ([[6], [9], [10]] : List (List Int)) 0 = some [6] from rfl, bsome, same_eq (by decide), bsome, if_pos (by decide)]
  rw [show lAt ([[6], [9], [10]] : List (List Int)) 1 = some [9] from rfl, bsome, same_eq (by decide), bsome, if_pos (by decide)]
  rw [show lAt ([[6], [9], [10]] : List (List Int)) 2 = some [10] from rfl, bsome, same_eq (by decide), bsome]
  rfl
theorem wks_le {l : List Int} (h : Rt l) {j : Int} (hj : NdOp j) : ∀ (d k : Nat), l.length = k + d → (wks l j d k).length ≤ 2 * d ∧ ∀ y ∈ wks l j d k, y.length ≤ 1000
  | 0, k, e => by simp [wks]
  | d + 1, k, e => by
    obtain ⟨h1, h2⟩ := wks_le h hj d (k + 1) (by omega)
    have hk : k < l.length := by omega
    have hd : l.getD k 0 = l[k] := by simp [hk]
    have hl := h.len
    unfold wks
    rw [hd]
    by_cases q : l[k] = j
    · have hn : NdOp l[k] := by rw [q]; exact hj
      rw [if_pos q]
      obtain ⟨A, B, q0, q5, q6⟩ := h.part k hk hn
      have e2 : lsO l k = [A, B] := by unfold lsO; rw [q0]; rfl
      rw [e2]
      refine ⟨by simp; omega, fun y hy => ?_⟩
      rcases List.mem_append.1 hy with hy | hy
      · simp at hy
        rcases hy with rfl | rfl
        · exact q5
        · exact q6
      · exact h2 y hy
    · rw [if_neg q]
      exact ⟨by simp; omega, fun y hy => h2 y (by simpa using hy)⟩
theorem cnd_le {l : List Int} {x : Int} : (cnd l x).length ≤ 1 ∧ ∀ y ∈ cnd l x, y.length ≤ 1000 := by
  unfold cnd
  split
  · simp
  · simp
theorem all_le {l : List Int} {b : Bool} (h : right l = some b) : (all l b).length ≤ 900 ∧ ∀ y ∈ all l b, y.length ≤ 1000 := by
  have hr := rt_of h
  have hl := hr.len
  have key : ∀ (x j : Int), NdOp j → (cnd l x ++ wks l j l.length 0).length ≤ 900 ∧ ∀ y ∈ cnd l x ++ wks l j l.length 0, y.length ≤ 1000 := by
    intro x j hj
    obtain ⟨h1, h2⟩ := wks_le hr hj l.length 0 (by omega)
    obtain ⟨h3, h4⟩ := cnd_le (l := l) (x := x)
    exact ⟨by rw [List.length_append]; omega, fun y hy => (List.mem_append.1 hy).elim (h4 y) (h2 y)⟩
  unfold all
  cases b with
  | true => rw [if_pos rfl]; exact key 6 12 n12
  | false => rw [if_neg (show ¬ (false = true) by decide)]; exact key 1 3 n3
end
section
section
variable {l : api_Lattice} {labels : List Int} (E : Je l labels)
def Vw (z z' : Tr) : Prop := if z.sort then E.le (ev E z').2 (ev E z).2 = true else ((ev E z).1 = true → (ev E z').1 = true)
theorem vw_refl (hO : ∀ a, a < E.n → E.le a a = true) {z : Tr} (hz : z.wf) : Vw E z z := by
  unfold Vw
  split
  · rename_i h; exact hO _ (ev_lt E hz h)
  · exact fun h => h
theorem vw_nd (hO : ∀ a, a < E.n → E.le a a = true) (hT : ∀ a b c, a < E.n → b < E.n → c < E.n → E.le a b = true → E.le b c = true → E.le a c = true)
    (hJ : ∀ a b, a < E.n → b < E.n → ∀ c, c < E.n → (E.le (E.J a b) c = true ↔ E.le a c = true ∧ E.le b c = true))
    (hM : ∀ a b, a < E.n → b < E.n → ∀ c, c < E.n → (E.le c (E.M a b) = true ↔ E.le c a = true ∧ E.le c b = true))
    {op : Int} {x y x' y' : Tr} (h : (Tr.nd op x y).wf) (h' : (Tr.nd op x' y').wf) (h5 : op ≠ 5) (vx : Vw E x x') (vy : Vw E y y') : Vw E (.nd op x y) (.nd op x' y') := by
  obtain ⟨ho, wx, wy, sx, sy⟩ := h
  obtain ⟨_, wx', wy', sx', sy'⟩ := h'
  rcases ho with rfl | rfl | rfl | rfl | rfl
  · have s1 : x.sort = false := by rw [sx]; rfl
    have s2 : y.sort = false := by rw [sy]; rfl
    unfold Vw at *
    rw [s1] at vx; rw [s2] at vy
    simp only [Tr.sort, ev] at *
    simp at *
    exact fun a b => ⟨vx a, vy b⟩
  · have s1 : x.sort = false := by rw [sx]; rfl
    have s2 : y.sort = false := by rw [sy]; rfl
    unfold Vw at *
    rw [s1] at vx; rw [s2] at vy
    simp only [Tr.sort, ev] at *
    simp at *
    exact fun a => a.elim (fun q => .inl (vx q)) (fun q => .inr (vy q))
  · exact absurd rfl h5
  · have s1 : x.sort = true := by rw [sx]; rfl
    have s2 : y.sort = true := by rw [sy]; rfl
    have s1' : x'.sort = true := by rw [sx']; rfl
    have s2' : y'.sort = true := by rw [sy']; rfl
    have lx := ev_lt E wx s1
    have ly := ev_lt E wy s2
    have lx' := ev_lt E wx' s1'
    have ly' := ev_lt E wy' s2'
    unfold Vw at *
    rw [s1] at vx; rw [s2] at vy
    show E.le (E.J (ev E x').2 (ev E y').2) (E.J (ev E x).2 (ev E y).2) = true
    have jl := (E.hjoin _ _ lx ly).1
    have q := (hJ _ _ lx ly _ jl).1 (hO _ jl)
    exact (hJ _ _ lx' ly' _ jl).2 ⟨hT _ _ _ lx' lx jl vx q.1, hT _ _ _ ly' ly jl vy q.2⟩
  · have s1 : x.sort = true := by rw [sx]; rfl
    have s2 : y.sort = true := by rw [sy]; rfl
    have s1' : x'.sort = true := by rw [sx']; rfl
    have s2' : y'.sort = true := by rw [sy']; rfl
    have lx := ev_lt E wx s1
    have ly := ev_lt E wy s2
    have lx' := ev_lt E wx' s1'
    have ly' := ev_lt E wy' s2'
    unfold Vw at *
    rw [s1] at vx; rw [s2] at vy
    show E.le (E.M (ev E x').2 (ev E y').2) (E.M (ev E x).2 (ev E y).2) = true
    have ml := (E.hmeet _ _ lx' ly').1
    have q := (hM _ _ lx' ly' _ ml).1 (hO _ ml)
    exact (hM _ _ lx ly _ ml).2 ⟨hT _ _ _ ml lx' lx q.1 vx, hT _ _ _ ml ly' ly q.2 vy⟩
end
theorem wf_ok : ∀ {t : Tr}, t.wf → t.ok
  | .lf _, h => h
  | .nd _ _ _, ⟨h, hx, hy, _, _⟩ => ⟨h, wf_ok hx, wf_ok hy⟩
structure Ctx (q : List Int) (t : Tr) (s : Nat) (r : List Int) (i : Nat) (op : Int) where
  x : Tr
  y : Tr
  s' : Nat
  r' : List Int
  f : Tr → Tr
  hw : (Tr.nd op x y).wf
  hd : q.drop s' = (Tr.nd op x y).flat ++ r'
  hi : s' + x.size + y.size = i
  hs : s ≤ s'
  hf : f (.nd op x y) = t
  hsort : t.sort = true → (Tr.nd op x y).sort = true
  hz : ∀ z : Tr, z.wf → z.sort = (Tr.nd op x y).sort → (f z).wf ∧ (f z).sort = t.sort ∧ (q.drop s).take (s' - s) ++ z.flat ++ r' = (f z).flat ++ r
  hv : ∀ {l : api_Lattice} {labels : List Int} (E : Je l labels), (∀ a, a < E.n → E.le a a = true) → (∀ a b c, a < E.n → b < E.n → c < E.n → E.le a b = true → E.le b c = true → E.le a c = true) →
    (∀ a b, a < E.n → b < E.n → ∀ c, c < E.n → (E.le (E.J a b) c = true ↔ E.le a c = true ∧ E.le b c = true)) →
    (∀ a b, a < E.n → b < E.n → ∀ c, c < E.n → (E.le c (E.M a b) = true ↔ E.le c a = true ∧ E.le c b = true)) →
    (Tr.nd op x y).sort = t.sort → ∀ z z' : Tr, z.wf → z'.wf → z.sort = t.sort → z'.sort = t.sort → Vw E z z' → Vw E (f z) (f z')
theorem sort5 {op : Int} {x y c : Tr} (h : (Tr.nd op x y).wf) (hc : c.sort = decide (op ≥ 5)) (e : (Tr.nd op x y).sort = true) : c.sort = true := by
  rw [hc]
  have : op ≥ 12 := of_decide_eq_true e
  exact decide_eq_true (by omega)
theorem sort_or {op : Int} {x y c : Tr} (h : (Tr.nd op x y).wf) (hc : c.sort = decide (op ≥ 5)) : op = 5 ∨ c.sort = (Tr.nd op x y).sort := by
  rw [hc]
  rcases h.1 with rfl | rfl | rfl | rfl | rfl
  · exact .inr rfl
  · exact .inr rfl
  · exact .inl rfl
  · exact .inr rfl
  · exact .inr rfl
theorem ctx {q : List Int} : ∀ (t : Tr), t.wf → ∀ (s : Nat) (r : List Int), q.drop s = t.flat ++ r → ∀ (i : Nat) (hi : i < q.length), s ≤ i → i < s + t.size → NdOp q[i] → Nonempty (Ctx q t s r i q[i])
  | .lf op, ho, s, r, e, i, hi, h1, h2, hn => by
    obtain ⟨hs, hop⟩ := leaf_at e
    have : i = s := by have : i < s + 1 := h2; omega
    subst this
    rw [hop] at hn
    exfalso
    rcases ho with rfl | rfl | rfl | rfl | rfl | rfl | rfl | rfl <;> rcases hn with h | h | h | h | h <;> omega
  | .nd op x y, hw, s, r, e, i, hi, h1, h2, hn => by
    obtain ⟨e1, e2, hk, hop⟩ := split_nd e
    have h2' : i < s + (x.size + y.size + 1) := h2
    rcases Nat.lt_or_ge i (s + x.size) with a | a
    · obtain ⟨c⟩ := ctx x hw.2.1 s _ e1 i hi h1 a hn
      have hwf : ∀ z : Tr, z.wf → z.sort = (Tr.nd q[i] c.x c.y).sort → (Tr.nd op (c.f z) y).wf := fun z h h' => ⟨hw.1, (c.hz z h h').1, hw.2.2.1, by rw [(c.hz z h h').2.1]; exact hw.2.2.2.1, hw.2.2.2.2⟩
      refine ⟨⟨c.x, c.y, c.s', c.r', fun z => .nd op (c.f z) y, c.hw, c.hd, c.hi, c.hs, by rw [c.hf], fun h => c.hsort (sort5 hw hw.2.2.2.1 h), fun z h h' => ⟨hwf z h h', rfl, ?_⟩, ?_⟩⟩
      · rw [(c.hz z h h').2.2]; simp [Tr.flat]
      · intro l labels E hO hT hJ hM hs z z' hz hz' sz sz' hV
        rcases sort_or hw hw.2.2.2.1 with rfl | hx
        · have hxs : x.sort = true := by rw [hw.2.2.2.1]; rfl
          have := c.hsort hxs
          rw [hs] at this
          cases this
        · have hv := c.hv E hO hT hJ hM (by rw [hs, hx]) z z' hz hz' (by rw [sz, hx]) (by rw [sz', hx]) hV
          have h5 : op ≠ 5 := by
            rintro rfl
            have hxs : x.sort = true := by rw [hw.2.2.2.1]; rfl
            rw [hxs] at hx; cases hx
          exact vw_nd E hO hT hJ hM (hwf z hz (by rw [sz, hs])) (hwf z' hz' (by rw [sz', hs])) h5 hv (vw_refl E hO hw.2.2.1)
    · rcases Nat.lt_or_ge i (s + x.size + y.size) with b | b
      · obtain ⟨c⟩ := ctx y hw.2.2.1 (s + x.size) _ e2 i hi a b hn
        have hwf : ∀ z : Tr, z.wf → z.sort = (Tr.nd q[i] c.x c.y).sort → (Tr.nd op x (c.f z)).wf := fun z h h' => ⟨hw.1, hw.2.1, (c.hz z h h').1, hw.2.2.2.1, by rw [(c.hz z h h').2.1]; exact hw.2.2.2.2⟩
        have hcs := c.hs
        refine ⟨⟨c.x, c.y, c.s', c.r', fun z => .nd op x (c.f z), c.hw, c.hd, c.hi, by omega, by rw [c.hf], fun h => c.hsort (sort5 hw hw.2.2.2.2 h), fun z h h' => ⟨hwf z h h', rfl, ?_⟩, ?_⟩⟩
        · have e3 := (c.hz z h h').2.2
          have e4 : (q.drop s).take (c.s' - s) = x.flat ++ (q.drop (s + x.size)).take (c.s' - (s + x.size)) := by
            have e5 : q.drop s = x.flat ++ q.drop (s + x.size) := by rw [e2]; exact e1
            rw [e5, show c.s' - s = x.flat.length + (c.s' - (s + x.size)) by rw [flat_len]; omega, List.take_length_add_append]
          rw [e4]
          simp only [Tr.flat, List.append_assoc] at e3 ⊢
          rw [e3]
        · intro l labels E hO hT hJ hM hs z z' hz hz' sz sz' hV
          rcases sort_or hw hw.2.2.2.2 with rfl | hx
          · have hxs : y.sort = true := by rw [hw.2.2.2.2]; rfl
            have := c.hsort hxs
            rw [hs] at this
            cases this
          · have hv := c.hv E hO hT hJ hM (by rw [hs, hx]) z z' hz hz' (by rw [sz, hx]) (by rw [sz', hx]) hV
            have h5 : op ≠ 5 := by
              rintro rfl
              have hxs : y.sort = true := by rw [hw.2.2.2.2]; rfl
              rw [hxs] at hx; cases hx
            exact vw_nd E hO hT hJ hM (hwf z hz (by rw [sz, hs])) (hwf z' hz' (by rw [sz', hs])) h5 (vw_refl E hO hw.2.1) hv
      · have : i = s + x.size + y.size := by omega
        subst this
        rw [hop]
        refine ⟨⟨x, y, s, r, fun z => z, hw, e, rfl, Nat.le_refl _, rfl, fun h => h, fun z h h' => ⟨h, h', ?_⟩, fun E _ _ _ _ _ z z' _ _ _ _ h => h⟩⟩
        simp
end
section
open Classical
theorem nm_cut {l : api_Lattice} (h : ∃ H cs, (kR f_api_Lattice).reps H cs l) (hs : ∀ s ∈ l.Names.take 10, s.length ≤ 20) : Nm ⟨l.Names.take 10, l.Up.take 10⟩ ((l.Up.take 10).map Int.toNat) := by
  obtain ⟨h1, h2, h3⟩ := lat_in h
  refine ⟨⟨?_, ?_, ?_⟩, ?_, fun s q => Nat.le_trans (hs s q) (by omega)⟩
  · show l.Up.take 10 = _
    rw [List.map_map]
    have e2 : (l.Up.take 10).map ((fun x : Nat => (x : Int)) ∘ Int.toNat) = (l.Up.take 10).map id := List.map_congr_left (fun x hx => by
      have := h1 x (List.mem_of_mem_take hx)
      simp; omega)
    rw [e2, List.map_id]
  · intro x hx
    obtain ⟨y, hy, e⟩ := List.mem_map.1 hx
    have := h1 y (List.mem_of_mem_take hy)
    omega
  · simp; omega
  · simp; omega
theorem cut_min {α : Type} {xs : List α} {n : Nat} : lCut xs 0 (if (n : Int) < (xs.length : Int) then (n : Int) else (xs.length : Int)) = xs.take n := by
  unfold lCut
  split
  · simp
  · rw [show (0 : Int).toNat = 0 from rfl, Int.toNat_natCast, Nat.sub_zero, List.drop_zero, List.take_of_length_le (Nat.le_refl xs.length), List.take_of_length_le (by omega)]
theorem cut_ok {n m : Nat} : (0 : Int) ≤ (if (n : Int) < (m : Int) then (n : Int) else (m : Int)) ∧ (if (n : Int) < (m : Int) then (n : Int) else (m : Int)) ≤ (m : Int) := by split <;> omega
theorem names_l0 {l : api_Lattice} : ∀ (d k : Nat), (l.Names.take 10).length = k + d → (∀ s ∈ (l.Names.take 10).take k, s.length ≤ 20) →
    reticentlaw24_MutantBelow.l0 l (k : Int) = some (.inl true) ∨ (reticentlaw24_MutantBelow.l0 l (k : Int) = some (.inr ()) ∧ ∀ s ∈ l.Names.take 10, s.length ≤ 20)
  | 0, k, e, h => by
    right
    refine ⟨?_, fun s hs => h s (by rw [List.take_of_length_le (by omega)]; exact hs)⟩
    rw [reticentlaw24_MutantBelow.l0, show (10 : Int) = ((10 : Nat) : Int) from rfl, cut_min, if_neg (by omega)]
  | d + 1, k, e, h => by
    have hk : k < (l.Names.take 10).length := by omega
    have h10 : (l.Names.take 10).length ≤ 10 := by simp; omega
    rw [reticentlaw24_MutantBelow.l0, show (10 : Int) = ((10 : Nat) : Int) from rfl, cut_min, if_pos (by omega), lAt_some hk, bsome]
    by_cases q : ((l.Names.take 10)[k].length : Int) > 20
    · left
      rw [if_pos q, alive, bsome]
    · rw [if_neg q, wS (by omega)]
      refine names_l0 d (k + 1) (by omega) (fun s hs => ?_)
      rw [List.take_succ_eq_append_getElem hk, List.mem_append, List.mem_singleton] at hs
      rcases hs with hs | rfl
      · exact h s hs
      · omega
theorem right_flat {t : Tr} (hw : t.wf) (h40 : t.flat.length ≤ 40) : right t.flat = some t.sort := by
  have key : ∀ (t : Tr), t.wf → ∀ (S : List Bool) (r : List Int), run (t.flat ++ r) S = run r (t.sort :: S) := by
    intro t
    induction t with
    | lf op =>
      intro h S r
      rcases h with rfl | rfl | rfl | rfl | rfl | rfl | rfl | rfl <;> simp [Tr.flat, run, st, Tr.sort]
    | nd op x y ix iy =>
      intro h S r
      obtain ⟨ho, wx, wy, sx, sy⟩ := h
      simp only [Tr.flat, List.append_assoc]
      rw [ix wx, iy wy, sx, sy]
      rcases ho with rfl | rfl | rfl | rfl | rfl <;> simp [run, st, Tr.sort, pop]
  have := key t hw [] []
  rw [List.append_nil] at this
  unfold right
  rw [this]
  simp only [run]
  rw [if_neg (by omega)]
structure Lw {l : api_Lattice} {labels : List Int} (E : Je l labels) : Prop where
  refl : ∀ a, a < E.n → E.le a a = true
  trans : ∀ a b c, a < E.n → b < E.n → c < E.n → E.le a b = true → E.le b c = true → E.le a c = true
  join : ∀ a b, a < E.n → b < E.n → ∀ c, c < E.n → (E.le (E.J a b) c = true ↔ E.le a c = true ∧ E.le b c = true)
  meet : ∀ a b, a < E.n → b < E.n → ∀ c, c < E.n → (E.le c (E.M a b) = true ↔ E.le c a = true ∧ E.le c b = true)
  bot : ∀ c, c < E.n → E.le E.bot c = true
structure Wk (r w : List Int) (b : Bool) (t t' : Tr) : Prop where
  ht : t.wf
  ht' : t'.wf
  hf : t.flat = r
  hf' : t'.flat = w
  hs : t.sort = b
  hs' : t'.sort = b
  len : w.length ≤ 40
  ne : w ≠ r
  hV : ∀ {l : api_Lattice} {labels : List Int} (E : Je l labels), Lw E → Vw E t t'
theorem wk_least {r w : List Int} {b : Bool} {t : Tr} (ht : t.wf) (hs : t.sort = b) (hf : t.flat = r) {op : Int} (ho : op = 1 ∧ b = false ∨ op = 6 ∧ b = true) (hw : w = [op]) (hr : r ≠ [op]) : ∃ t t' : Tr, Wk r w b t t' := by
  refine ⟨t, .lf op, ht, ?_, hf, hw.symm, hs, ?_, by rw [hw]; simp, by rw [hw]; exact fun e => hr e.symm, ?_⟩
  · rcases ho with ⟨rfl, _⟩ | ⟨rfl, _⟩ <;> simp [Tr.wf, LfOp]
  · rcases ho with ⟨rfl, e⟩ | ⟨rfl, e⟩ <;> rw [e] <;> rfl
  · intro l labels E hL
    unfold Vw
    rw [hs]
    rcases ho with ⟨rfl, e⟩ | ⟨rfl, e⟩ <;> rw [e]
    · simp [ev]
    · rw [if_pos rfl]
      exact hL.bot _ (ev_lt E ht (by rw [hs, e]))
theorem wk_fin {r w : List Int} {b : Bool} {t : Tr} (ht : t.wf) (hs : t.sort = b) (hf : t.flat = r) (h40 : r.length ≤ 40) {k : Nat} {j : Int} (c : Ctx r t 0 [] k j) (hsn : (Tr.nd j c.x c.y).sort = b) {z : Tr} (hz : z.wf) (hzs : z.sort = b)
    (hlt : z.size < (Tr.nd j c.x c.y).size) (hwz : w = r.take c.s' ++ z.flat ++ c.r') (hV : ∀ {l : api_Lattice} {labels : List Int} (E : Je l labels), Lw E → Vw E (Tr.nd j c.x c.y) z) : ∃ t t' : Tr, Wk r w b t t' := by
  obtain ⟨f1, f2, f3⟩ := c.hz z hz (by rw [hzs, hsn])
  have t0 : (r.drop 0).take (c.s' - 0) = r.take c.s' := by simp
  rw [t0, List.append_nil] at f3
  have a2 := congrArg List.length c.hd
  have a4 : (Tr.nd j c.x c.y).size ≤ r.length := by
    rw [List.length_drop, List.length_append, flat_len] at a2
    omega
  have hwl : w.length < r.length := by
    have a1 := congrArg List.length hwz
    rw [List.length_drop, List.length_append, flat_len] at a2
    rw [List.length_append, List.length_append, List.length_take, flat_len] at a1
    have := size_pos (Tr.nd j c.x c.y)
    omega
  refine ⟨t, c.f z, ht, f1, hf, by rw [← f3, hwz], hs, by rw [f2, hs], by omega, fun e => by rw [e] at hwl; omega, ?_⟩
  intro l labels E hL
  have := c.hv E hL.refl hL.trans hL.join hL.meet (by rw [hsn, hs]) (Tr.nd j c.x c.y) z c.hw hz (by rw [hsn, hs]) (by rw [hzs, hs]) (hV E hL)
  rwa [c.hf] at this
theorem vw_and {x y z : Tr} (hz : z = x ∨ z = y) {l : api_Lattice} {labels : List Int} (E : Je l labels) : Vw E (Tr.nd 3 x y) z := by
  unfold Vw
  rw [if_neg (by simp [Tr.sort])]
  show ((ev E x).1 && (ev E y).1) = true → _
  rw [Bool.and_eq_true]
  rcases hz with rfl | rfl
  · exact fun q => q.1
  · exact fun q => q.2
theorem vw_join {x y z : Tr} (h : (Tr.nd 12 x y).wf) (hz : z = x ∨ z = y) {l : api_Lattice} {labels : List Int} (E : Je l labels) (hL : Lw E) : Vw E (Tr.nd 12 x y) z := by
  unfold Vw
  rw [if_pos (by simp [Tr.sort])]
  have lx := ev_lt E h.2.1 (by rw [h.2.2.2.1]; rfl)
  have ly := ev_lt E h.2.2.1 (by rw [h.2.2.2.2]; rfl)
  have jl := (E.hjoin _ _ lx ly).1
  have q3 := (hL.join _ _ lx ly _ jl).1 (hL.refl _ jl)
  show E.le (ev E z).2 (E.J (ev E x).2 (ev E y).2) = true
  rcases hz with rfl | rfl
  · exact q3.1
  · exact q3.2
theorem wk_part {r w : List Int} {b : Bool} {t : Tr} (ht : t.wf) (hs : t.sort = b) (hf : t.flat = r) (h40 : r.length ≤ 40) {j : Int} (hj : j = 3 ∧ b = false ∨ j = 12 ∧ b = true) {k : Nat} (hk : k < r.length) (hjk : r[k] = j) (hm : w ∈ lsO r k) : ∃ t t' : Tr, Wk r w b t t' := by
  have hsz : t.size = r.length := by rw [← hf, flat_len]
  have hn : NdOp r[k] := by rw [hjk]; rcases hj with ⟨rfl, _⟩ | ⟨rfl, _⟩ <;> simp [NdOp]
  have cc := ctx (q := r) t ht 0 [] (by rw [hf]; simp) k hk (by omega) (by omega) hn
  rw [hjk] at cc
  obtain ⟨c⟩ := cc
  have hl := less_p (l := r) (by omega) (wf_ok c.hw.2.1) (wf_ok c.hw.2.2.1) c.hd c.hi
  have e2 : lsO r k = [r.take (c.s' + c.x.size) ++ r.drop (k + 1), r.take c.s' ++ (r.take k).drop (c.s' + c.x.size) ++ r.drop (k + 1)] := by unfold lsO; rw [hl]; rfl
  rw [e2] at hm
  have hsn : (Tr.nd j c.x c.y).sort = b := by
    rcases hj with ⟨q, e⟩ | ⟨q, e⟩ <;> rw [e] <;> simp [Tr.sort, q]
  have hdec : decide (j ≥ 5) = b := by rcases hj with ⟨q, e⟩ | ⟨q, e⟩ <;> rw [e, q] <;> rfl
  obtain ⟨e1, e3, e4, e5⟩ := split_nd c.hd
  have hxs : c.x.sort = b := by rw [c.hw.2.2.2.1, hdec]
  have hys : c.y.sort = b := by rw [c.hw.2.2.2.2, hdec]
  have hi := c.hi
  have hr' : r.drop (k + 1) = c.r' := by
    have := congrArg (List.drop (Tr.nd j c.x c.y).flat.length) c.hd
    rw [List.drop_drop, List.drop_left] at this
    rw [← this, flat_len]
    congr 1
    simp only [Tr.size]
    omega
  have hV : ∀ z : Tr, (z = c.x ∨ z = c.y) → ∀ {l : api_Lattice} {labels : List Int} (E : Je l labels), Lw E → Vw E (Tr.nd j c.x c.y) z := by
    intro z hz l labels E hL
    rcases hj with ⟨rfl, e⟩ | ⟨rfl, e⟩
    · exact vw_and hz E
    · exact vw_join c.hw hz E hL
  have px : r.take (c.s' + c.x.size) = r.take c.s' ++ c.x.flat := by
    rw [List.take_add, e1, ← flat_len c.x, List.take_left]
  have py : (r.take k).drop (c.s' + c.x.size) = c.y.flat := by
    rw [List.drop_take, e3, show k - (c.s' + c.x.size) = c.y.flat.length by rw [flat_len]; omega, List.take_left]
  simp only [List.mem_cons, List.mem_nil_iff, or_false] at hm
  have sx := size_pos c.x
  have sy := size_pos c.y
  rcases hm with hm | hm
  · exact wk_fin ht hs hf h40 c hsn c.hw.2.1 hxs (by simp only [Tr.size]; omega) (by rw [hm, px, hr']) (hV _ (.inl rfl))
  · exact wk_fin ht hs hf h40 c hsn c.hw.2.2.1 hys (by simp only [Tr.size]; omega) (by rw [hm, py, hr']) (hV _ (.inr rfl))
theorem wk_parts {r w : List Int} {b : Bool} {t : Tr} (ht : t.wf) (hs : t.sort = b) (hf : t.flat = r) (h40 : r.length ≤ 40) {j : Int} (hj : j = 3 ∧ b = false ∨ j = 12 ∧ b = true) : ∀ (d k : Nat), r.length = k + d → w ∈ wks r j d k → ∃ t t' : Tr, Wk r w b t t'
  | 0, k, e, hm => by simp [wks] at hm
  | d + 1, k, e, hm => by
    have hk : k < r.length := by omega
    rw [wks, List.mem_append] at hm
    rcases hm with hm | hm
    · have hd : r.getD k 0 = r[k] := by simp [hk]
      rw [hd] at hm
      split at hm
      · rename_i hjk
        exact wk_part ht hs hf h40 hj hk hjk hm
      · cases hm
    · exact wk_parts ht hs hf h40 hj d (k + 1) (by omega) hm
theorem each {r : List Int} {b : Bool} (h : right r = some b) {w : List Int} (hw : w ∈ all r b) : ∃ t t' : Tr, Wk r w b t t' := by
  obtain ⟨t, ht, hs, hf, h40⟩ := right_wf h
  unfold all at hw
  cases b with
  | true =>
    rw [if_pos rfl, List.mem_append] at hw
    rcases hw with hw | hw
    · unfold cnd at hw
      split at hw
      · cases hw
      · rename_i hne
        exact wk_least ht hs hf (op := 6) (.inr ⟨rfl, rfl⟩) (by simpa using hw) hne
    · exact wk_parts ht hs hf h40 (j := 12) (.inr ⟨rfl, rfl⟩) _ 0 (by omega) hw
  | false =>
    rw [if_neg (by decide), List.mem_append] at hw
    rcases hw with hw | hw
    · unfold cnd at hw
      split at hw
      · cases hw
      · rename_i hne
        exact wk_least ht hs hf (op := 1) (.inl ⟨rfl, rfl⟩) (by simpa using hw) hne
    · exact wk_parts ht hs hf h40 (j := 3) (.inl ⟨rfl, rfl⟩) _ 0 (by omega) hw
theorem mayS_eq {l : api_Lattice} {U : List Nat} {r w labels : List Int} {b c : Bool} (h : right w = right r) : mayS l U w labels b = mayS l U r labels b := by
  unfold mayS
  rw [h]
theorem round {l : api_Lattice} {U : List Nat} (h : Nm l U) {r w labels : List Int} {b : Bool} (hl : labels.length ≤ 900) (hr : right r = some b) (hw : w ∈ all r b) :
    ∃ x y : Int × Int, ∃ x' y' : Bool × Int, judge_Label.f l r labels = some x ∧ judge_Label.f l w labels = some y ∧ judge_Cond.f l r labels = some x' ∧ judge_Cond.f l w labels = some y' ∧ y.2 = x.2 ∧ y'.2 = x'.2 ∧
      (x.2 = 0 → lattice_Flows.f l y.1 x.1 = some (true, 0)) ∧ (x'.2 = 0 → x'.1 = true → y'.1 = true) ∧ rule_Right.f w b = some true ∧ rule_Right.f w (!b) = some false ∧ w ≠ r ∧ w.length ≤ 40 := by
  obtain ⟨t, t', ⟨ht, ht', hf, hf', hs, hs', h40, hne, hV⟩⟩ := each hr hw
  have hr40 : r.length ≤ 900 := by obtain ⟨_, _, _, _, q⟩ := right_wf hr; omega
  have hrw : right w = some b := by rw [← hf', right_flat ht' (by rw [hf']; exact h40), hs']
  have hq : right w = right r := by rw [hrw, hr]
  have R1 : rule_Right.f w b = some true := by rw [Right_eq (by omega), hrw, decide_eq_true rfl]
  have R2 : rule_Right.f w (!b) = some false := by rw [Right_eq (by omega), hrw, decide_eq_false (by cases b <;> simp)]
  have mk : ∀ c : Bool, mayS l U r labels c = 0 → ∃ E : Je l labels, Vw E t t' ∧ E.n = U.length ∧ E.le = le U := by
    intro c hm
    obtain ⟨hc, _, h4, ha⟩ := mayS_zero hm
    obtain ⟨hma, hO, _⟩ := chk_zero hc
    obtain ⟨E, e1, e2, e3, e4, e5, e6, e7, e8⟩ := je_of h hc h4 ha
    refine ⟨E, hV E ⟨?_, ?_, ?_, ?_, ?_⟩, e1, e2⟩
    · rw [e1, e2]; exact hO.refl
    · rw [e1, e2]; exact hO.trans
    · rw [e1, e2]; exact e7
    · rw [e1, e2]; exact e8
    · rw [e1, e2]; exact e5
  have mw : ∀ c : Bool, mayS l U w labels c = mayS l U r labels c := fun c => mayS_eq (c := c) hq
  cases b with
  | true =>
    have hc0 : mayS l U r labels false ≠ 0 := fun q => by have := (mayS_zero q).2.1; rw [hr] at this; cases this
    rw [cond_no h hr40 hl hc0, cond_no h (by omega) hl (by rw [mw]; exact hc0)]
    by_cases hm : mayS l U r labels true = 0
    · obtain ⟨E, hv, hn, hle⟩ := mk true hm
      have q1 := label_is h E ht hs (by rw [hf]; exact hr40) hl (by rw [hf]; exact hm)
      have q2 := label_is h E ht' hs' (by rw [hf']; omega) hl (by rw [hf', mw]; exact hm)
      rw [hf] at q1; rw [hf'] at q2
      refine ⟨_, _, _, _, q1, q2, rfl, rfl, rfl, by rw [mw], fun _ => ?_, fun q => absurd q hc0, R1, R2, hne, h40⟩
      have a1 := ev_lt E ht hs
      have a2 := ev_lt E ht' hs'
      rw [E.hflows _ _ a2 a1]
      unfold Vw at hv
      rw [hs, if_pos rfl] at hv
      rw [hv]
    · rw [label_no h hr40 hl hm, label_no h (by omega) hl (by rw [mw]; exact hm)]
      exact ⟨_, _, _, _, rfl, rfl, rfl, rfl, by rw [mw], by rw [mw], fun q => absurd q hm, fun q => absurd q hc0, R1, R2, hne, h40⟩
  | false =>
    have hc0 : mayS l U r labels true ≠ 0 := fun q => by have := (mayS_zero q).2.1; rw [hr] at this; cases this
    rw [label_no h hr40 hl hc0, label_no h (by omega) hl (by rw [mw]; exact hc0)]
    by_cases hm : mayS l U r labels false = 0
    · obtain ⟨E, hv, hn, hle⟩ := mk false hm
      have q1 := cond_is h E ht hs (by rw [hf]; exact hr40) hl (by rw [hf]; exact hm)
      have q2 := cond_is h E ht' hs' (by rw [hf']; omega) hl (by rw [hf', mw]; exact hm)
      rw [hf] at q1; rw [hf'] at q2
      refine ⟨_, _, _, _, rfl, rfl, q1, q2, by rw [mw], rfl, fun q => absurd q hc0, fun _ => ?_, R1, R2, hne, h40⟩
      unfold Vw at hv
      rw [hs, if_neg (by decide)] at hv
      exact hv
    · rw [cond_no h hr40 hl hm, cond_no h (by omega) hl (by rw [mw]; exact hm)]
      exact ⟨_, _, _, _, rfl, rfl, rfl, rfl, by rw [mw], by rw [mw], fun q => absurd q hc0, fun q => absurd q hm, R1, R2, hne, h40⟩
theorem loop {l : api_Lattice} {U : List Nat} {a1 a2 : List Int} {b : Bool} (h : Nm ⟨l.Names.take 10, l.Up.take 10⟩ U) (hr : right (a1.take 45) = some b) {x : Int × Int} {x' : Bool × Int}
    (hx : judge_Label.f ⟨l.Names.take 10, l.Up.take 10⟩ (a1.take 45) (a2.take 6) = some x) (hx' : judge_Cond.f ⟨l.Names.take 10, l.Up.take 10⟩ (a1.take 45) (a2.take 6) = some x') :
    ∀ (d k : Nat), (all (a1.take 45) b).length = k + d → reticentlaw24_MutantBelow.l1 l a1 a2 (all (a1.take 45) b, 0) b x x' (k : Int) = some (.inr ())
  | 0, k, e => by rw [reticentlaw24_MutantBelow.l1, if_neg (by show ¬ (k : Int) < ((all (a1.take 45) b).length : Int); omega)]
  | d + 1, k, e => by
    have hk : k < (all (a1.take 45) b).length := by omega
    have h9 := (all_le hr).1
    obtain ⟨u, v, u', v', q1, q2, q3, q4, q5, q6, q7, q8, q9, q10, q11, q12⟩ := round h (labels := a2.take 6) (by simp; omega) hr (List.getElem_mem hk)
    rw [hx] at q1; rw [hx'] at q3
    cases q1; cases q3
    have ih := loop h hr hx hx' d (k + 1) (by omega)
    rw [reticentlaw24_MutantBelow.l1, show (10 : Int) = ((10 : Nat) : Int) from rfl, show (45 : Int) = ((45 : Nat) : Int) from rfl, show (6 : Int) = ((6 : Nat) : Int) from rfl, cut_min, cut_min, cut_min, cut_min]
    rw [if_pos (show (k : Int) < ((all (a1.take 45) b).length : Int) by omega)]
    show (((lAt (all (a1.take 45) b) (k : Int) >>= _) : Option (Bool ⊕ Unit)) >>= _) = _
    rw [lAt_some hk, bsome, q9, bsome, if_neg (by decide), q10, bsome, if_neg (by decide), same_eq (by omega), bsome, decide_eq_false q11, bsome, if_neg (by decide), q2, bsome, q4, bsome, if_pos q5, q6, decide_eq_true rfl, bsome, if_neg (by decide)]
    have last : ∀ K : Bool → Option (Bool ⊕ Unit), (((if x'.2 = 0 then (if x'.1 = true then (some (!v'.1)) else (some false)) else (some false) : Option Bool) >>= K)) = K false := by
      intro K
      by_cases z1 : x'.2 = 0
      · by_cases z2 : x'.1 = true
        · rw [if_pos z1, if_pos z2, q8 z1 z2]; rfl
        · rw [if_pos z1, if_neg z2]; rfl
      · rw [if_neg z1]; rfl
    by_cases z : x.2 = 0
    · rw [if_pos z, q7 z, bsome, if_pos rfl, bsome, if_neg (by decide), last, if_neg (by decide), bsome, wS (by omega)]
      exact ih
    · rw [if_neg z, last, if_neg (by decide), bsome, wS (by omega)]
      exact ih
theorem below {l : api_Lattice} {a1 a2 : List Int} (hl : ∃ H cs, (kR f_api_Lattice).reps H cs l) : reticentlaw24_MutantBelow.f l a1 a2 = some true := by
  unfold reticentlaw24_MutantBelow.f
  rw [show (10 : Int) = ((10 : Nat) : Int) from rfl, show (45 : Int) = ((45 : Nat) : Int) from rfl, show (6 : Int) = ((6 : Nat) : Int) from rfl, if_pos cut_ok, if_pos cut_ok, if_pos cut_ok, if_pos cut_ok, cut_min, cut_min, cut_min, cut_min]
  rcases names_l0 (l := l) (l.Names.take 10).length 0 (by omega) (fun s hs => by simp at hs) with h0 | ⟨h0, hs⟩
  · rw [show ((0 : Nat) : Int) = 0 from rfl] at h0
    rw [h0]; rfl
  · rw [show ((0 : Nat) : Int) = 0 from rfl] at h0
    rw [h0, bsome]
    have h := nm_cut hl hs
    have hlen : (a1.take 45).length ≤ 900 := by simp; omega
    have hlen2 : (a2.take 6).length ≤ 900 := by simp; omega
    show (mutant_Weaker.f (a1.take 45) >>= _) = _
    rw [Weaker_eq hlen, bsome]
    cases hr : right (a1.take 45) with
    | none =>
      show (if (1 : Int) = 0 then _ else (((reticentlaw24_alive.f >>= _) : Option Bool) >>= _)) = _
      rw [if_neg (by decide), alive]; rfl
    | some b =>
      have hR : rule_Right.f (a1.take 45) true = some b := by rw [Right_eq hlen, hr]; cases b <;> rfl
      obtain ⟨x, hx⟩ : ∃ x, judge_Label.f ⟨l.Names.take 10, l.Up.take 10⟩ (a1.take 45) (a2.take 6) = some x := by
        by_cases hm : mayS ⟨l.Names.take 10, l.Up.take 10⟩ ((l.Up.take 10).map Int.toNat) (a1.take 45) (a2.take 6) true = 0
        · obtain ⟨hc, hq, h4, ha⟩ := mayS_zero hm
          obtain ⟨E, _⟩ := je_of h hc h4 ha
          obtain ⟨t, ht, hs, hf, _⟩ := right_wf hq
          exact ⟨_, by rw [← hf]; exact label_is h E ht hs (by rw [hf]; exact hlen) hlen2 (by rw [hf]; exact hm)⟩
        · exact ⟨_, label_no h hlen hlen2 hm⟩
      obtain ⟨x', hx'⟩ : ∃ x, judge_Cond.f ⟨l.Names.take 10, l.Up.take 10⟩ (a1.take 45) (a2.take 6) = some x := by
        by_cases hm : mayS ⟨l.Names.take 10, l.Up.take 10⟩ ((l.Up.take 10).map Int.toNat) (a1.take 45) (a2.take 6) false = 0
        · obtain ⟨hc, hq, h4, ha⟩ := mayS_zero hm
          obtain ⟨E, _⟩ := je_of h hc h4 ha
          obtain ⟨t, ht, hs, hf, _⟩ := right_wf hq
          exact ⟨_, by rw [← hf]; exact cond_is h E ht hs (by rw [hf]; exact hlen) hlen2 (by rw [hf]; exact hm)⟩
        · exact ⟨_, cond_no h hlen hlen2 hm⟩
      have hL := loop h hr hx hx' (all (a1.take 45) b).length 0 (by omega)
      rw [show ((0 : Nat) : Int) = 0 from rfl] at hL
      show (if (0 : Int) = 0 then _ else _) = _
      rw [if_pos rfl, hR, bsome, hx, bsome, hx', bsome]
      show ((reticentlaw24_MutantBelow.l1 l a1 a2 (all (a1.take 45) b, 0) b x x' 0 >>= _) : Option Bool) = _
      rw [hL, bsome]
      show (reticentlaw24_alive.f >>= _) = _
      rw [alive]; rfl
end
end Go.Proofs.Ytjkijjhjffodcaa.Bw
