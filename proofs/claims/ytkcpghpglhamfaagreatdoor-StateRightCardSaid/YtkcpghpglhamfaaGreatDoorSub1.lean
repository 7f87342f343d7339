/- Plain laws, by program out of this seat's plain texts. -/
import Derived.Test.YtkcpghpglhamfaaGreatDoorGST
set_option linter.unusedVariables false
set_option linter.unusedSimpArgs false
set_option linter.unusedSectionVars false
namespace Go.Proofs.YtkcpghpglhamfaaGreatDoor.Su
open Go Go.Proofs.YtkcpghpglhamfaaGreatDoor.Ab Go.Proofs.YtkcpghpglhamfaaGreatDoor.ST
section
theorem wrap64 {x : Int} (h0 : 0 ≤ x) (h1 : x < 9223372036854775808) : IntKind.i64.wrap x = x := by
  have e : x % (18446744073709551616 : Int) = x := Int.emod_eq_of_lt h0 (by omega)
  show (if (true && decide (x % 18446744073709551616 ≥ 9223372036854775808)) = true then x % 18446744073709551616 - 18446744073709551616 else x % 18446744073709551616) = x
  rw [e, if_neg]
  simp
  omega
theorem lAt_some {α : Type} {xs : List α} {i : Nat} (h : i < xs.length) : lAt xs (i : Int) = some xs[i] := by
  simp [lAt, h]
end
section
theorem wrapU32 {m : Nat} (h : m < 4294967296) : IntKind.u32.wrap (m : Int) = (m : Int) := by
  have e : (m : Int) % (4294967296 : Int) = (m : Int) := Int.emod_eq_of_lt (by omega) (by omega)
  show (if (false && decide ((m : Int) % 4294967296 ≥ 2147483648)) = true then (m : Int) % 4294967296 - 4294967296 else (m : Int) % 4294967296) = m
  rw [e, if_neg]
  simp
theorem ofInt_nat {m : Nat} (h : m < 4294967296) : (BitVec.ofInt 32 (m : Int)).toNat = m := by
  rw [BitVec.ofInt_natCast, BitVec.toNat_ofNat]
  exact Nat.mod_eq_of_lt h
theorem bAnd_nat {a b : Nat} (ha : a < 4294967296) (hb : b < 4294967296) : bAnd .u32 (a : Int) (b : Int) = ((a &&& b : Nat) : Int) := by
  unfold bAnd
  show IntKind.u32.wrap (((BitVec.ofInt 32 (a : Int) &&& BitVec.ofInt 32 (b : Int)).toNat : Nat) : Int) = _
  rw [BitVec.toNat_and, ofInt_nat ha, ofInt_nat hb]
  exact wrapU32 (Nat.lt_of_le_of_lt Nat.and_le_left ha)
theorem bOr_nat {a b : Nat} (ha : a < 4294967296) (hb : b < 4294967296) : bOr .u32 (a : Int) (b : Int) = ((a ||| b : Nat) : Int) := by
  unfold bOr
  show IntKind.u32.wrap (((BitVec.ofInt 32 (a : Int) ||| BitVec.ofInt 32 (b : Int)).toNat : Nat) : Int) = _
  rw [BitVec.toNat_or, ofInt_nat ha, ofInt_nat hb]
  exact wrapU32 (Nat.or_lt_two_pow (n := 32) ha hb)
theorem bShr_nat {a k : Nat} (hk : k ≤ 32) : bShr .u32 (a : Int) (k : Int) = ((a >>> k : Nat) : Int) := by
  unfold bShr
  show (a : Int).fdiv (2 ^ (min ((k : Int).toNat) 32)) = _
  rw [Int.toNat_natCast, Nat.min_eq_left hk, Nat.shiftRight_eq_div_pow]
  rw [Int.fdiv_eq_ediv_of_nonneg _ (Int.le_of_lt (Int.pow_pos (by omega)))]
  norm_cast
end
section
open Classical
structure Is (l : api_Lattice) (U : List Nat) : Prop where
  up : l.Up = U.map (fun x : Nat => (x : Int))
  lt : ∀ x ∈ U, x < 4294967296
  len : U.length ≤ 10
theorem Is.n {l : api_Lattice} {U : List Nat} (h : Is l U) : l.Up.length = U.length := by rw [h.up]; simp
theorem Is.at_ {l : api_Lattice} {U : List Nat} (h : Is l U) {i : Nat} (hi : i < U.length) : lAt l.Up (i : Int) = some ((U[i] : Nat) : Int) := by
  rw [h.up, lAt_some (by simpa using hi)]
  simp
theorem Is.u {l : api_Lattice} {U : List Nat} (h : Is l U) {i : Nat} (hi : i < U.length) : U[i] < 4294967296 := h.lt _ (List.getElem_mem hi)
theorem shr1 (u b : Nat) : ((u >>> b) &&& 1 = 1) ↔ u.testBit b = true := by
  rw [Nat.testBit, Nat.and_comm]
  rw [Nat.one_and_eq_mod_two]
  simp
theorem flows_eq {l : api_Lattice} {U : List Nat} (h : Is l U) {a b : Nat} (ha : a < U.length) (hb : b ≤ 31) : lattice_flows.f l a b = some (U[a].testBit b) := by
  unfold lattice_flows.f
  rw [h.at_ ha]
  show (if ¬ (b : Int) < 0 then some (decide (bAnd .u32 (bShr .u32 (U[a] : Nat) b) 1 = 1)) else none) = _
  rw [if_pos (by omega), bShr_nat (by omega)]
  have hs : U[a] >>> b < 4294967296 := Nat.lt_of_le_of_lt (by rw [Nat.shiftRight_eq_div_pow]; exact Nat.div_le_self ..) (h.u ha)
  rw [show (1 : Int) = ((1 : Nat) : Int) from rfl, bAnd_nat hs (by omega)]
  congr 1
  rw [Bool.eq_iff_iff, decide_eq_true_iff, ← shr1]
  exact Int.natCast_inj
theorem half {u : Nat} (h : u < 4294967296) : IntKind.u32.wrap ((u : Int).tdiv 2) = ((u >>> 1 : Nat) : Int) := by
  have : (u : Int).tdiv 2 = ((u / 2 : Nat) : Int) := by
    rw [Int.tdiv_eq_ediv_of_nonneg (by omega)]; norm_cast
  rw [this, Nat.shiftRight_eq_div_pow]
  exact wrapU32 (by omega)
theorem refFlows_l0 (b : Nat) (hb : b ≤ 31) : ∀ (d k u : Nat), b = k + d → u < 4294967296 → reticentref01_Flows.l0 (b : Int) (u : Int) (k : Int) = some ((u >>> d : Nat) : Int)
  | 0, k, u, e, hu => by
    rw [reticentref01_Flows.l0, if_neg (by omega)]; simp
  | d + 1, k, u, e, hu => by
    rw [reticentref01_Flows.l0, if_pos (by omega), half hu, wrap64 (by omega) (by omega)]
    have h2 : u >>> 1 < 4294967296 := Nat.lt_of_le_of_lt (by rw [Nat.shiftRight_eq_div_pow]; exact Nat.div_le_self ..) hu
    have := refFlows_l0 b hb d (k + 1) (u >>> 1) (by omega) h2
    rw [show ((k : Int) + 1) = ((k + 1 : Nat) : Int) by omega, this, ← Nat.shiftRight_add, Nat.add_comm 1 d]
theorem refFlows_eq {l : api_Lattice} {U : List Nat} (h : Is l U) {a b : Nat} (ha : a < U.length) (hb : b ≤ 31) : reticentref01_Flows.f l a b = some (U[a].testBit b) := by
  unfold reticentref01_Flows.f
  rw [h.at_ ha]
  show (reticentref01_Flows.l0 (b : Int) ((U[a] : Nat) : Int) 0 >>= fun x6 => some (decide (x6.tmod 2 = 1))) = _
  have := refFlows_l0 b hb b 0 U[a] (by omega) (h.u ha)
  rw [show ((0 : Nat) : Int) = 0 from rfl] at this
  rw [this]
  show some (decide ((((U[a] >>> b : Nat) : Int)).tmod 2 = 1)) = _
  congr 1
  rw [Bool.eq_iff_iff, decide_eq_true_iff, ← shr1, Nat.and_comm, Nat.one_and_eq_mod_two, Int.tmod_eq_emod_of_nonneg (Int.natCast_nonneg _)]
  omega
section
variable {τ : Type} {yb : τ → Int → Int → Option (Bool × (τ × Nat))} {n : Nat} {t t' : τ} {bad : Nat → Nat → Bool}
theorem pairs_l3 (hn : n ≤ 1000) (a : Nat) (h : ∀ b, b < n → yb t a b = some (if bad a b then (false, (t', 1)) else (true, (t, 0)))) :
    ∀ (d k : Nat), n = k + d → lattice_pairs_1.l3 (yOf yb) (n : Int) (a : Int) (t, 0) (k : Int) = some (if ∃ b, k ≤ b ∧ b < n ∧ bad a b = true then .inl (t', 1) else .inr (t, 0)) := by
  intro d
  induction d with
  | zero =>
    intro k e
    rw [lattice_pairs_1.l3, if_neg (by omega), if_neg (by rintro ⟨b, h1, h2, _⟩; omega)]
  | succ d ih =>
    intro k e
    rw [lattice_pairs_1.l3, if_pos (by omega)]
    rw [show yOf yb (t, 0) (a : Int) (k : Int) = yb t a k from rfl, h k (by omega)]
    by_cases hb : bad a k = true
    · rw [if_pos hb, if_pos ⟨k, Nat.le_refl _, by omega, hb⟩]; rfl
    · rw [if_neg hb]
      show lattice_pairs_1.l3 (yOf yb) (n : Int) (a : Int) (t, 0) (IntKind.i64.wrap ((k : Int) + 1)) = _
      rw [wrap64 (by omega) (by omega), show ((k : Int) + 1) = ((k + 1 : Nat) : Int) by omega, ih (k + 1) (by omega)]
      congr 1
      by_cases h1 : ∃ b, k + 1 ≤ b ∧ b < n ∧ bad a b = true
      · rw [if_pos h1]
        obtain ⟨b, q1, q2, q3⟩ := h1
        rw [if_pos ⟨b, by omega, q2, q3⟩]
      · rw [if_neg h1, if_neg]
        rintro ⟨b, q1, q2, q3⟩
        rcases Nat.lt_or_ge k b with q | q
        · exact h1 ⟨b, q, q2, q3⟩
        · exact hb (by rw [show k = b by omega]; exact q3)
theorem pairs_l2 (hn : n ≤ 1000) (h : ∀ a b, a < n → b < n → yb t a b = some (if bad a b then (false, (t', 1)) else (true, (t, 0)))) :
    ∀ (d k : Nat), n = k + d → lattice_pairs_1.l2 (yOf yb) (n : Int) (t, 0) (k : Int) = some (if ∃ a b, k ≤ a ∧ a < n ∧ b < n ∧ bad a b = true then .inl (t', 1) else .inr (t, 0)) := by
  intro d
  induction d with
  | zero =>
    intro k e
    rw [lattice_pairs_1.l2, if_neg (by omega), if_neg (by rintro ⟨a, b, h1, h2, _⟩; omega)]
  | succ d ih =>
    intro k e
    rw [lattice_pairs_1.l2, if_pos (by omega)]
    have := pairs_l3 (t' := t') hn k (fun b hb => h k b (by omega) hb) n 0 (by omega)
    rw [show ((0 : Nat) : Int) = 0 from rfl] at this
    rw [this]
    by_cases hb : ∃ b, 0 ≤ b ∧ b < n ∧ bad k b = true
    · rw [if_pos hb]
      obtain ⟨b, _, q2, q3⟩ := hb
      rw [if_pos ⟨k, b, Nat.le_refl _, by omega, q2, q3⟩]; rfl
    · rw [if_neg hb]
      show lattice_pairs_1.l2 (yOf yb) (n : Int) (t, 0) (IntKind.i64.wrap ((k : Int) + 1)) = _
      rw [wrap64 (by omega) (by omega), show ((k : Int) + 1) = ((k + 1 : Nat) : Int) by omega, ih (k + 1) (by omega)]
      congr 1
      by_cases h1 : ∃ a b, k + 1 ≤ a ∧ a < n ∧ b < n ∧ bad a b = true
      · rw [if_pos h1]
        obtain ⟨a, b, q0, q1, q2, q3⟩ := h1
        rw [if_pos ⟨a, b, by omega, q1, q2, q3⟩]
      · rw [if_neg h1, if_neg]
        rintro ⟨a, b, q0, q1, q2, q3⟩
        rcases Nat.lt_or_ge k a with q | q
        · exact h1 ⟨a, b, q, q1, q2, q3⟩
        · exact hb ⟨b, Nat.zero_le _, q2, by rw [show k = a by omega]; exact q3⟩
theorem pairs_eq (hn : n ≤ 1000) (h : ∀ a b, a < n → b < n → yb t a b = some (if bad a b then (false, (t', 1)) else (true, (t, 0)))) :
    lattice_pairs_1.f (yOf yb) (t, 0) (n : Int) = some (if ∃ a b, a < n ∧ b < n ∧ bad a b = true then (t', 1) else (t, 0)) := by
  unfold lattice_pairs_1.f
  have := pairs_l2 (t' := t') hn h n 0 (by omega)
  rw [show ((0 : Nat) : Int) = 0 from rfl] at this
  rw [this]
  by_cases h1 : ∃ a b, a < n ∧ b < n ∧ bad a b = true
  · rw [if_pos h1]
    obtain ⟨a, b, q⟩ := h1
    rw [if_pos ⟨a, b, Nat.zero_le _, q⟩]; rfl
  · rw [if_neg h1, if_neg (fun ⟨a, b, _, q⟩ => h1 ⟨a, b, q⟩)]; rfl
end
theorem bAndNot_zero {a b : Nat} (ha : a < 4294967296) (hb : b < 4294967296) : bAndNot .u32 (a : Int) (b : Int) = 0 ↔ ∀ c, a.testBit c = true → b.testBit c = true := by
  unfold bAndNot
  show IntKind.u32.wrap (((BitVec.ofInt 32 (a : Int) &&& ~~~BitVec.ofInt 32 (b : Int)).toNat : Nat) : Int) = 0 ↔ _
  rw [wrapU32 (BitVec.isLt _)]
  have hbit : ∀ c, ((BitVec.ofInt 32 (a : Int) &&& ~~~BitVec.ofInt 32 (b : Int)).toNat).testBit c = (a.testBit c && !b.testBit c) := by
    intro c
    rw [BitVec.testBit_toNat, BitVec.getLsbD_and, BitVec.getLsbD_not, ← BitVec.testBit_toNat, ← BitVec.testBit_toNat, ofInt_nat ha, ofInt_nat hb]
    by_cases hc : c < 32
    · simp [hc]
    · have : a.testBit c = false := Nat.testBit_lt_two_pow (Nat.lt_of_lt_of_le ha (Nat.pow_le_pow_right (n := 2) (by omega) (show 32 ≤ c by omega)))
      simp [this]
  constructor
  · intro h c hc
    have h0 : (BitVec.ofInt 32 (a : Int) &&& ~~~BitVec.ofInt 32 (b : Int)).toNat = 0 := by omega
    have := hbit c
    rw [h0, hc] at this
    simpa using this
  · intro h
    have h0 : (BitVec.ofInt 32 (a : Int) &&& ~~~BitVec.ofInt 32 (b : Int)).toNat = 0 := by
      apply Nat.eq_of_testBit_eq
      intro c
      rw [hbit c]
      cases hc : a.testBit c with
      | false => simp
      | true => simp [h c hc]
    rw [h0]; rfl
def le (U : List Nat) (a b : Nat) : Bool := (U.getD a 0).testBit b
theorem le_get {U : List Nat} {a b : Nat} (ha : a < U.length) : le U a b = U[a].testBit b := by simp [le, ha]
def Above (U : List Nat) (a b : Nat) : Prop := ∀ c, c < 32 → le U b c = true → le U a c = true
noncomputable def badO (U : List Nat) (a b : Nat) : Bool := (if a = b then !le U a b else le U a b && le U b a) || (le U a b && !decide (Above U a b))
theorem order_y0 {l : api_Lattice} {U : List Nat} (h : Is l U) {a b : Nat} (ha : a < U.length) (hb : b < U.length) :
    lattice_order.y0 l () (a : Int) (b : Int) = some (if badO U a b then (false, ((), 1)) else (true, ((), 0))) := by
  have hl := h.len
  have hz : (decide (bAndNot .u32 ((U[b] : Nat) : Int) ((U[a] : Nat) : Int) = 0)) = decide (Above U a b) := by
    unfold Above
    rw [decide_eq_decide, bAndNot_zero (h.u hb) (h.u ha)]
    constructor
    · intro q c _ hc; rw [le_get hb] at hc; rw [le_get ha]; exact q c hc
    · intro q c hc
      have hc32 : c < 32 := by
        rcases Nat.lt_or_ge c 32 with q | q
        · exact q
        · rw [Nat.testBit_lt_two_pow (Nat.lt_of_lt_of_le (h.u hb) (Nat.pow_le_pow_right (n := 2) (by omega) q))] at hc; cases hc
      have := q c hc32 (by rw [le_get hb]; exact hc)
      rwa [le_get ha] at this
  unfold lattice_order.y0
  rw [flows_eq h ha (by omega), flows_eq h hb (by omega), h.at_ hb, h.at_ ha, ← le_get ha, ← le_get hb]
  unfold badO
  by_cases hS : Above U a b <;> simp only [hS, decide_true, decide_false] at hz ⊢
  all_goals
    by_cases e : a = b
    · subst e
      simp only [if_true, Option.bind_eq_bind, Option.bind_some]
      cases h1 : le U a a <;> simp [hz]
    · have e' : ¬ (a : Int) = (b : Int) := by omega
      simp only [if_neg e, if_neg e', Option.bind_eq_bind, Option.bind_some]
      cases h1 : le U a b <;> cases h2 : le U b a <;> simp [hz]
def fstOf {ρ : Type} (n : Nat) (bad : Nat → Option ρ) : Option ρ := (List.range n).findSome? bad
def out {ρ : Type} : Option ρ → ρ ⊕ Unit
  | some r => .inl r
  | none => .inr ()
theorem search {ρ : Type} (L : Int → Option (ρ ⊕ Unit)) (n : Nat) (bad : Nat → Option ρ) (hend : L (n : Int) = some (.inr ()))
    (hstep : ∀ k, k < n → L (k : Int) = (match bad k with | some r => some (.inl r) | none => L ((k + 1 : Nat) : Int))) : L 0 = some (out (fstOf n bad)) := by
  have key : ∀ d k, n = k + d → L (k : Int) = some (out ((List.range' k d).findSome? bad)) := by
    intro d
    induction d with
    | zero => intro k e; rw [show k = n by omega, hend]; rfl
    | succ d ih =>
      intro k e
      rw [hstep k (by omega), List.range'_succ, List.findSome?_cons]
      cases hb : bad k with
      | some r => rfl
      | none => exact ih (k + 1) (by omega)
  have := key n 0 (by omega)
  rw [← List.range_eq_range'] at this
  exact this
theorem fst_none {ρ : Type} {n : Nat} {bad : Nat → Option ρ} : fstOf n bad = none ↔ ∀ k, k < n → bad k = none := by
  unfold fstOf
  rw [List.findSome?_eq_none_iff]
  simp
theorem fst_congr {ρ : Type} {n : Nat} {p q : Nat → Option ρ} (h : ∀ k, k < n → p k = q k) : fstOf n p = fstOf n q := by
  unfold fstOf
  have : ∀ l : List Nat, (∀ k ∈ l, k < n) → l.findSome? p = l.findSome? q := by
    intro l
    induction l with
    | nil => intro _; rfl
    | cons a l ih =>
      intro hl
      rw [List.findSome?_cons, List.findSome?_cons, h a (hl a (List.mem_cons_self ..)), ih (fun k hk => hl k (List.mem_cons_of_mem _ hk))]
  exact this _ (fun k hk => by simpa using hk)
theorem fst_const {ρ : Type} {n : Nat} {bad : Nat → Option ρ} {r : ρ} (h : ∀ k s, bad k = some s → s = r) : fstOf n bad = if ∃ k, k < n ∧ bad k ≠ none then some r else none := by
  cases hf : fstOf n bad with
  | none => rw [if_neg]; rintro ⟨k, hk, hb⟩; exact hb (fst_none.1 hf k hk)
  | some s =>
    have hs : s = r := by
      unfold fstOf at hf
      obtain ⟨k, _, hk⟩ := List.exists_of_findSome?_eq_some hf
      exact h k s hk
    rw [if_pos, hs]
    apply Classical.byContradiction
    intro hn
    have : fstOf n bad = none := fst_none.2 (fun k hk => Classical.byContradiction fun hb => hn ⟨k, hk, hb⟩)
    rw [this] at hf; cases hf
theorem step1 {k n : Nat} (h : n ≤ 1000) (hk : k < n) : IntKind.i64.wrap ((k : Int) + 1) = ((k + 1 : Nat) : Int) := by
  rw [wrap64 (by omega) (by omega)]; omega
theorem order_eq {l : api_Lattice} {U : List Nat} (h : Is l U) : lattice_order.f l = some (decide (¬ ∃ a b, a < U.length ∧ b < U.length ∧ badO U a b = true)) := by
  unfold lattice_order.f lattice_pairs.f
  have hl := h.len
  have := pairs_eq (t := ()) (t' := ()) (n := U.length) (yb := lattice_order.y0 l) (bad := badO U) (by omega) (fun a b ha hb => order_y0 h ha hb)
  rw [h.n]
  simp only [Option.bind_eq_bind, Option.bind_some]
  rw [this]
  by_cases hb : ∃ a b, a < U.length ∧ b < U.length ∧ badO U a b = true
  · rw [if_pos hb, decide_eq_false (fun k => k hb)]; rfl
  · rw [if_neg hb, decide_eq_true hb]; rfl
def bad12 (U : List Nat) (a b c : Nat) : Bool := le U a b && le U b c && !le U a c
def bad11 (U : List Nat) (a b : Nat) : Bool := !decide (a = b) && le U a b && le U b a
theorem order_l12 {l : api_Lattice} {U : List Nat} (h : Is l U) {a b : Nat} (ha : a < U.length) (hb : b < U.length) :
    reticentref01_order.l12 l (a : Int) (b : Int) 0 = some (out (fstOf U.length fun c => if bad12 U a b c then some false else none)) := by
  have hl := h.len
  refine search (fun k => reticentref01_order.l12 l (a : Int) (b : Int) k) U.length _ ?_ ?_
  · show reticentref01_order.l12 l (a : Int) (b : Int) (U.length : Int) = _
    rw [reticentref01_order.l12, h.n, if_neg (by omega)]
  · intro c hc
    show reticentref01_order.l12 l (a : Int) (b : Int) (c : Int) = _
    rw [reticentref01_order.l12, h.n, if_pos (by omega), refFlows_eq h ha (by omega), refFlows_eq h hb (by omega), refFlows_eq h ha (by omega), ← le_get ha, ← le_get ha, ← le_get hb, step1 (by omega) hc]
    unfold bad12
    cases h1 : le U a b <;> cases h2 : le U b c <;> cases h3 : le U a c <;> simp
theorem fst_bool {ρ : Type} {n : Nat} {f : Nat → Bool} {r : ρ} : (fstOf n fun k => if f k then some r else none) = if decide (∃ k, k < n ∧ f k = true) = true then some r else none := by
  rw [fst_const (r := r) (by intro k s e; split at e <;> simp_all)]
  have e : (∃ k, k < n ∧ (if f k = true then some r else none : Option ρ) ≠ none) ↔ ∃ k, k < n ∧ f k = true := by
    constructor
    · rintro ⟨k, hk, hb⟩; exact ⟨k, hk, by split at hb <;> simp_all⟩
    · rintro ⟨k, hk, hb⟩; exact ⟨k, hk, by rw [if_pos hb]; simp⟩
  by_cases q : ∃ k, k < n ∧ f k = true
  · rw [if_pos (e.2 q), decide_eq_true q]; rfl
  · rw [if_neg (fun k => q (e.1 k)), decide_eq_false q]; rfl
noncomputable def bad2 (U : List Nat) (a b : Nat) : Bool := bad11 U a b || decide (∃ c, c < U.length ∧ bad12 U a b c = true)
noncomputable def bad1 (U : List Nat) (a : Nat) : Bool := !le U a a || decide (∃ b, b < U.length ∧ bad2 U a b = true)
theorem order_l11 {l : api_Lattice} {U : List Nat} (h : Is l U) {a : Nat} (ha : a < U.length) :
    reticentref01_order.l11 l (a : Int) 0 = some (out (fstOf U.length fun b => if bad2 U a b then some false else none)) := by
  have hl := h.len
  refine search (fun k => reticentref01_order.l11 l (a : Int) k) U.length _ ?_ ?_
  · show reticentref01_order.l11 l (a : Int) (U.length : Int) = _
    rw [reticentref01_order.l11, h.n, if_neg (by omega)]
  · intro b hb
    show reticentref01_order.l11 l (a : Int) (b : Int) = _
    rw [reticentref01_order.l11, h.n, if_pos (by omega), refFlows_eq h ha (by omega), refFlows_eq h hb (by omega), ← le_get ha, ← le_get hb, order_l12 h ha hb, step1 (by omega) hb, fst_bool]
    have e2 : ((a : Int) = (b : Int)) ↔ a = b := Int.natCast_inj
    unfold bad2 bad11
    simp only [e2]
    generalize decide (∃ c, c < U.length ∧ bad12 U a b c = true) = P
    by_cases hab : a = b <;> cases P <;> cases h1 : le U a b <;> cases h2 : le U b a <;> simp [hab, out]
theorem order_ref {l : api_Lattice} {U : List Nat} (h : Is l U) :
    reticentref01_order.f l = some (decide (¬ ∃ a, a < U.length ∧ bad1 U a = true)) := by
  have hl := h.len
  unfold reticentref01_order.f
  have key : reticentref01_order.l8 l 0 = some (out (fstOf U.length fun a => if bad1 U a then some false else none)) := by
    refine search (fun k => reticentref01_order.l8 l k) U.length _ ?_ ?_
    · show reticentref01_order.l8 l (U.length : Int) = _
      rw [reticentref01_order.l8, h.n, if_neg (by omega)]
    · intro a ha
      show reticentref01_order.l8 l (a : Int) = _
      rw [reticentref01_order.l8, h.n, if_pos (by omega), refFlows_eq h ha (by omega), ← le_get ha, order_l11 h ha, step1 (by omega) ha, fst_bool]
      unfold bad1
      generalize decide (∃ b, b < U.length ∧ bad2 U a b = true) = P
      cases P <;> cases h1 : le U a a <;> simp [out]
  rw [key, fst_bool]
  rw [decide_not]
  generalize decide (∃ a, a < U.length ∧ bad1 U a = true) = P
  cases P <;> simp [out]
structure Ord (U : List Nat) : Prop where
  refl : ∀ a, a < U.length → le U a a = true
  anti : ∀ a b, a < U.length → b < U.length → le U a b = true → le U b a = true → a = b
  trans : ∀ a b c, a < U.length → b < U.length → c < U.length → le U a b = true → le U b c = true → le U a c = true
theorem ord_ref {U : List Nat} : (¬ ∃ a, a < U.length ∧ bad1 U a = true) ↔ Ord U := by
  have e : (∃ a, a < U.length ∧ bad1 U a = true) ↔ ∃ a, a < U.length ∧ (le U a a = false ∨ ∃ b, b < U.length ∧ (bad11 U a b = true ∨ ∃ c, c < U.length ∧ bad12 U a b c = true)) := by
    simp only [bad1, bad2, Bool.or_eq_true, decide_eq_true_iff, Bool.not_eq_true']
  rw [e]
  constructor
  · intro q
    refine ⟨fun a ha => ?_, fun a b ha hb h1 h2 => ?_, fun a b c ha hb hc h1 h2 => ?_⟩
    · cases e : le U a a with
      | true => rfl
      | false => exact absurd ⟨a, ha, .inl e⟩ q
    · apply Classical.byContradiction
      intro e
      exact q ⟨a, ha, .inr ⟨b, hb, .inl (by simp [bad11, e, h1, h2])⟩⟩
    · cases e : le U a c with
      | true => rfl
      | false => exact absurd ⟨a, ha, .inr ⟨b, hb, .inr ⟨c, hc, by simp [bad12, e, h1, h2]⟩⟩⟩ q
  · rintro q ⟨a, ha, h1 | ⟨b, hb, h1 | ⟨c, hc, h1⟩⟩⟩
    · rw [q.refl a ha] at h1; cases h1
    · simp [bad11] at h1
      exact h1.1.1 (q.anti a b ha hb h1.1.2 h1.2)
    · simp [bad12] at h1
      rw [q.trans a b c ha hb hc h1.1.1 h1.1.2] at h1; simp at h1
theorem le_far {U : List Nat} (hU : ∀ x ∈ U, x < 2 ^ U.length) {a c : Nat} (h : le U a c = true) : c < U.length := by
  rcases Nat.lt_or_ge c U.length with q | q
  · exact q
  · unfold le at h
    have hx : U.getD a 0 < 2 ^ U.length := by
      rcases Nat.lt_or_ge a U.length with q2 | q2
      · have := hU _ (List.getElem_mem q2)
        simpa [List.getD, q2] using this
      · have : U.getD a 0 = 0 := by simp [List.getD, q2]
        rw [this]; exact Nat.pow_pos (by omega)
    rw [Nat.testBit_lt_two_pow (Nat.lt_of_lt_of_le hx (Nat.pow_le_pow_right (n := 2) (by omega) q))] at h
    cases h
theorem ord_lat {U : List Nat} (hn : U.length ≤ 10) (hU : ∀ x ∈ U, x < 2 ^ U.length) : (¬ ∃ a b, a < U.length ∧ b < U.length ∧ badO U a b = true) ↔ Ord U := by
  constructor
  · intro q
    refine ⟨fun a ha => ?_, fun a b ha hb h1 h2 => ?_, fun a b c ha hb hc h1 h2 => ?_⟩
    · cases e : le U a a with
      | true => rfl
      | false => exact absurd ⟨a, a, ha, ha, by simp [badO, e]⟩ q
    · apply Classical.byContradiction
      intro e
      exact q ⟨a, b, ha, hb, by simp [badO, e, h1, h2]⟩
    · cases e : le U a c with
      | true => rfl
      | false =>
        refine absurd ⟨a, b, ha, hb, ?_⟩ q
        have : ¬ Above U a b := fun k => by rw [k c (by omega) h2] at e; cases e
        simp [badO, h1, this]
  · rintro q ⟨a, b, ha, hb, h1⟩
    unfold badO at h1
    rw [Bool.or_eq_true] at h1
    rcases h1 with h1 | h1
    · by_cases e : a = b
      · subst e; rw [if_pos rfl, q.refl a ha] at h1; cases h1
      · rw [if_neg e, Bool.and_eq_true] at h1; exact e (q.anti a b ha hb h1.1 h1.2)
    · rw [Bool.and_eq_true] at h1
      have : Above U a b := fun c _ hc => q.trans a b c ha hb (le_far hU hc) h1.1 hc
      simp [this] at h1
theorem order_prog {l : api_Lattice} {U : List Nat} (h : Is l U) (hU : ∀ x ∈ U, x < 2 ^ U.length) : lattice_order.f l = some (decide (Ord U)) := by
  rw [order_eq h]
  exact (by simp only [ord_lat h.len hU])
theorem order_refd {l : api_Lattice} {U : List Nat} (h : Is l U) : reticentref01_order.f l = some (decide (Ord U)) := by
  rw [order_ref h]
  exact (by simp only [ord_ref])
end
section
open Classical
def far (s : Str) (k : Nat) : Bool := decide (sAt s (k : Int) < 97) || decide (sAt s (k : Int) > 122)
theorem name_l0 {s : Str} (hs : s.length ≤ 1000) : lattice_name.l0 s 0 = some (out (fstOf s.length fun k => if far s k then some false else none)) := by
  refine search (fun k => lattice_name.l0 s k) s.length _ ?_ ?_
  · show lattice_name.l0 s (s.length : Int) = _
    rw [lattice_name.l0, if_neg (by omega)]
  · intro k hk
    show lattice_name.l0 s (k : Int) = _
    rw [lattice_name.l0, if_pos (by omega), step1 hs hk]
    have hb : (0 : Int) ≤ (k : Int) ∧ (k : Int) < (s.length : Int) := ⟨by omega, by omega⟩
    simp only [if_pos hb]
    unfold far
    by_cases h1 : sAt s (k : Int) < 97 <;> by_cases h2 : sAt s (k : Int) > 122 <;> simp [h1, h2]
theorem refName_l0 {s : Str} (hs : s.length ≤ 1000) : reticentref01_Name.l0 s 0 = some (out (fstOf s.length fun k => if far s k then some false else none)) := by
  refine search (fun k => reticentref01_Name.l0 s k) s.length _ ?_ ?_
  · show reticentref01_Name.l0 s (s.length : Int) = _
    rw [reticentref01_Name.l0, if_neg (by omega)]
  · intro k hk
    show reticentref01_Name.l0 s (k : Int) = _
    rw [reticentref01_Name.l0, if_pos (by omega), step1 hs hk]
    have hb : (0 : Int) ≤ (k : Int) ∧ (k : Int) < (s.length : Int) := ⟨by omega, by omega⟩
    simp only [if_pos hb]
    unfold far
    by_cases h1 : sAt s (k : Int) < 97 <;> by_cases h2 : sAt s (k : Int) > 122 <;> simp [h1, h2]
noncomputable def nameOk (s : Str) : Bool := !decide (∃ k, k < s.length ∧ far s k = true) && (!decide (s = []) && decide (s.length ≤ 12))
theorem name_eq {s : Str} (hs : s.length ≤ 1000) : lattice_name.f s = some (nameOk s) := by
  unfold lattice_name.f nameOk
  rw [name_l0 hs, fst_bool]
  generalize decide (∃ k, k < s.length ∧ far s k = true) = P
  by_cases h1 : s = []
  · subst h1; cases P <;> simp [out]
  · have : 0 < s.length := List.length_pos_iff.2 h1
    cases P <;> by_cases h2 : s.length ≤ 12 <;> simp [out, h1, h2, this] <;> omega
theorem refName_eq {s : Str} (hs : s.length ≤ 1000) : reticentref01_Name.f s = some (nameOk s) := by
  unfold reticentref01_Name.f nameOk
  rw [refName_l0 hs, fst_bool]
  generalize decide (∃ k, k < s.length ∧ far s k = true) = P
  by_cases h1 : s = []
  · subst h1; cases P <;> simp [out]
  · have : 0 < s.length := List.length_pos_iff.2 h1
    cases P <;> by_cases h2 : s.length ≤ 12 <;> simp [out, h1, h2, this] <;> omega
theorem contains_eq {xs : List Str} {a : Str} (hx : xs.length ≤ 1000) : slices_Contains_string_string.f xs a = some (decide (a ∈ xs)) := by
  unfold slices_Contains_string_string.f slices_Index_string_string.f
  have key : slices_Index_string_string.l0 xs a 0 = some (out (fstOf xs.length fun k => if xs[k]? = some a then some (k : Int) else none)) := by
    refine search (fun k => slices_Index_string_string.l0 xs a k) xs.length _ ?_ ?_
    · show slices_Index_string_string.l0 xs a (xs.length : Int) = _
      rw [slices_Index_string_string.l0, if_neg (by omega)]
    · intro k hk
      show slices_Index_string_string.l0 xs a (k : Int) = _
      rw [slices_Index_string_string.l0, if_pos (by omega), lAt_some hk, step1 hx hk, List.getElem?_eq_getElem hk]
      by_cases e : a = xs[k]
      · simp [← e]
      · have : ¬ xs[k] = a := fun q => e q.symm
        simp [e, this]
  rw [key]
  cases hf : fstOf xs.length (fun k => if xs[k]? = some a then some (k : Int) else none) with
  | none =>
    have hno : ¬ a ∈ xs := by
      intro hm
      obtain ⟨k, hk, e⟩ := List.getElem_of_mem hm
      have := fst_none.1 hf k hk
      rw [if_pos (by rw [List.getElem?_eq_getElem hk, e])] at this; cases this
    simp [out, hno]
  | some r =>
    unfold fstOf at hf
    obtain ⟨k, hk0, hk⟩ := List.exists_of_findSome?_eq_some hf
    have hm : a ∈ xs := by
      by_cases e : xs[k]? = some a
      · exact List.mem_of_getElem? e
      · rw [if_neg e] at hk; cases hk
    have hr : r ≥ 0 := by
      by_cases e : xs[k]? = some a
      · rw [if_pos e] at hk; cases hk; omega
      · rw [if_neg e] at hk; cases hk
    simp [out, hm, hr]
theorem high_l0 (n : Nat) (hn : n ≤ 31) : ∀ (d k u : Nat), n = k + d → u < 4294967296 → reticentref01_high.l0 (n : Int) (u : Int) (k : Int) = some ((u >>> d : Nat) : Int)
  | 0, k, u, e, hu => by
    rw [reticentref01_high.l0, if_neg (by omega)]; simp
  | d + 1, k, u, e, hu => by
    rw [reticentref01_high.l0, if_pos (by omega), half hu, wrap64 (by omega) (by omega)]
    have h2 : u >>> 1 < 4294967296 := Nat.lt_of_le_of_lt (by rw [Nat.shiftRight_eq_div_pow]; exact Nat.div_le_self ..) hu
    have := high_l0 n hn d (k + 1) (u >>> 1) (by omega) h2
    rw [show ((k : Int) + 1) = ((k + 1 : Nat) : Int) by omega, this, ← Nat.shiftRight_add, Nat.add_comm 1 d]
theorem high_eq {u n : Nat} (hn : n ≤ 31) (hu : u < 4294967296) : reticentref01_high.f (u : Int) (n : Int) = some (decide (2 ^ n ≤ u)) := by
  unfold reticentref01_high.f
  have := high_l0 n hn n 0 u (by omega) hu
  rw [show ((0 : Nat) : Int) = 0 from rfl] at this
  rw [this]
  show some (decide (((u >>> n : Nat) : Int) > 0)) = _
  congr 1
  rw [decide_eq_decide, Nat.shiftRight_eq_div_pow]
  have := Nat.div_pos_iff (a := u) (b := 2 ^ n)
  have hp : 0 < 2 ^ n := Nat.pow_pos (by omega)
  constructor
  · intro q; exact (this.1 (by omega)).2
  · intro q; have := this.2 ⟨hp, q⟩; omega
theorem high_shr {u n : Nat} (hn : n ≤ 31) : decide (bShr .u32 (u : Int) (n : Int) = 0) = !decide (2 ^ n ≤ u) := by
  rw [bShr_nat (by omega), ← decide_not, decide_eq_decide, Nat.shiftRight_eq_div_pow]
  rw [show (((u / 2 ^ n : Nat) : Int) = 0 ↔ u / 2 ^ n = 0) by omega]
  rw [Nat.div_eq_zero_iff]
  have hp : 0 < 2 ^ n := Nat.pow_pos (by omega)
  omega
structure Nm (l : api_Lattice) (U : List Nat) : Prop extends Is l U where
  nl : l.Names.length ≤ 10
  sl : ∀ s ∈ l.Names, s.length ≤ 1000
noncomputable def badM (N : List Str) (U : List Nat) (i : Nat) : Bool := !nameOk (N.getD i []) || (decide (N.getD i [] ∈ N.take i) || decide (2 ^ U.length ≤ U.getD i 0))
theorem lCut0 {α : Type} {xs : List α} {i : Nat} : lCut xs 0 (i : Int) = xs.take i := by simp [lCut]
theorem may_l0 {l : api_Lattice} {U : List Nat} (h : Nm l U) (he : l.Names.length = U.length) :
    lattice_may.l0 l 0 = some (out (fstOf U.length fun i => if badM l.Names U i then some false else none)) := by
  have hl := h.len
  refine search (fun k => lattice_may.l0 l k) U.length _ ?_ ?_
  · show lattice_may.l0 l (U.length : Int) = _
    rw [lattice_may.l0, if_neg (by omega)]
  · intro k hk
    show lattice_may.l0 l (k : Int) = _
    have hkn : k < l.Names.length := by omega
    have h15 : l.Names[k].length ≤ 1000 := Nat.le_trans (h.sl _ (List.getElem_mem hkn)) (by omega)
    rw [lattice_may.l0, if_pos (by omega), lAt_some hkn]
    simp only [Option.bind_eq_bind, Option.bind_some]
    rw [name_eq h15]
    simp only [Option.bind_eq_bind, Option.bind_some]
    have hb : (0 : Int) ≤ (k : Int) ∧ (k : Int) ≤ (l.Names.length : Int) := ⟨by omega, by omega⟩
    simp only [if_pos hb]
    rw [lCut0, contains_eq (by simp; omega)]
    simp only [Option.bind_eq_bind, Option.bind_some]
    rw [h.at_ hk, h.n]
    simp only [Option.bind_eq_bind, Option.bind_some]
    have hb' : ¬ (U.length : Int) < 0 := by omega
    simp only [if_pos hb']
    rw [high_shr (by omega), step1 (by omega) hk]
    unfold badM
    have e1 : l.Names.getD k [] = l.Names[k] := by simp [hkn]
    have e2 : U.getD k 0 = U[k] := by simp [hk]
    rw [e1, e2]
    generalize decide (l.Names[k] ∈ l.Names.take k) = P
    generalize decide (2 ^ U.length ≤ U[k]) = Q
    cases nameOk l.Names[k] <;> cases P <;> cases Q <;> simp
theorem refMay_l3 {N : List Str} {i : Nat} (a : Str) (hN : N.length ≤ 1000) (l : api_Lattice) (e : l.Names = N) :
    reticentref01_may.l3 l (i : Int) a 0 = some (out (if decide (a ∈ N.take i) = true then some false else none)) := by
  have hi : (N.take i).length ≤ 1000 := by simp; omega
  have key : reticentref01_may.l3 l (i : Int) a 0 = some (out (fstOf (N.take i).length fun k => if decide ((N.take i)[k]? = some a) then some false else none)) := by
    refine search (fun k => reticentref01_may.l3 l (i : Int) a k) (N.take i).length _ ?_ ?_
    · show reticentref01_may.l3 l (i : Int) a ((N.take i).length : Int) = _
      rw [reticentref01_may.l3, e, lCut0, if_neg (by omega)]
    · intro k hk
      show reticentref01_may.l3 l (i : Int) a (k : Int) = _
      rw [reticentref01_may.l3, e, lCut0, if_pos (by omega), lAt_some hk, step1 hi hk, List.getElem?_eq_getElem hk]
      generalize (N.take i)[k] = b
      by_cases e : b = a <;> simp [e]
  rw [key, fst_bool]
  have e : (∃ k, k < (N.take i).length ∧ decide ((N.take i)[k]? = some a) = true) ↔ a ∈ N.take i := by
    constructor
    · rintro ⟨k, hk, q⟩; exact List.mem_of_getElem? (of_decide_eq_true q)
    · intro hm
      obtain ⟨k, hk, q⟩ := List.getElem_of_mem hm
      exact ⟨k, hk, decide_eq_true (by rw [List.getElem?_eq_getElem hk, q])⟩
  simp only [e]
theorem refMay_l2 {l : api_Lattice} {U : List Nat} (h : Nm l U) (he : l.Names.length = U.length) :
    reticentref01_may.l2 l 0 = some (out (fstOf U.length fun i => if badM l.Names U i then some false else none)) := by
  have hl := h.len
  refine search (fun k => reticentref01_may.l2 l k) U.length _ ?_ ?_
  · show reticentref01_may.l2 l (U.length : Int) = _
    rw [reticentref01_may.l2, if_neg (by omega)]
  · intro k hk
    show reticentref01_may.l2 l (k : Int) = _
    have hkn : k < l.Names.length := by omega
    have h15 : l.Names[k].length ≤ 1000 := Nat.le_trans (h.sl _ (List.getElem_mem hkn)) (by omega)
    rw [reticentref01_may.l2, if_pos (by omega), lAt_some hkn]
    simp only [Option.bind_eq_bind, Option.bind_some]
    rw [refName_eq h15, h.at_ hk, h.n]
    simp only [Option.bind_eq_bind, Option.bind_some]
    have hb : (0 : Int) ≤ (k : Int) ∧ (k : Int) ≤ (l.Names.length : Int) := ⟨by omega, by omega⟩
    simp only [if_pos hb]
    rw [high_eq (by omega) (h.u hk), refMay_l3 (N := l.Names) _ (by omega) l rfl, step1 (by omega) hk]
    unfold badM
    have e1 : l.Names.getD k [] = l.Names[k] := by simp [hkn]
    have e2 : U.getD k 0 = U[k] := by simp [hk]
    rw [e1, e2]
    generalize decide (l.Names[k] ∈ l.Names.take k) = P
    generalize decide (2 ^ U.length ≤ U[k]) = Q
    cases nameOk l.Names[k] <;> cases P <;> cases Q <;> simp [out]
structure May (l : api_Lattice) (U : List Nat) : Prop where
  pos : 1 ≤ U.length
  le8 : U.length ≤ 8
  nm : l.Names.length = U.length
  ok : ¬ ∃ i, i < U.length ∧ badM l.Names U i = true
theorem may_prog {l : api_Lattice} {U : List Nat} (h : Nm l U) : lattice_may.f l = some (decide (May l U)) := by
  unfold lattice_may.f
  rw [h.n]
  by_cases h1 : (U.length : Int) < 1
  · have : ¬ May l U := fun q => by have := q.pos; omega
    simp [h1, this]
  · by_cases h2 : (U.length : Int) > 8
    · have : ¬ May l U := fun q => by have := q.le8; omega
      simp [h1, h2, this]
    · by_cases he : l.Names.length = U.length
      · have e : (l.Names.length : Int) = (U.length : Int) := by omega
        rw [may_l0 h he, fst_bool]
        have hm : decide (May l U) = !decide (∃ i, i < U.length ∧ badM l.Names U i = true) := by
          rw [← decide_not, decide_eq_decide]
          exact ⟨fun q => q.ok, fun q => ⟨by omega, by omega, he, q⟩⟩
        rw [hm]
        generalize decide (∃ i, i < U.length ∧ badM l.Names U i = true) = P
        cases P <;> simp [h1, h2, e, out]
      · have : ¬ May l U := fun q => he q.nm
        have e : ¬ (l.Names.length : Int) = (U.length : Int) := by omega
        simp [h1, h2, this, e]
theorem may_refd {l : api_Lattice} {U : List Nat} (h : Nm l U) : reticentref01_may.f l = some (decide (May l U)) := by
  unfold reticentref01_may.f
  rw [h.n]
  by_cases h1 : (U.length : Int) < 1
  · have : ¬ May l U := fun q => by have := q.pos; omega
    simp [h1, this]
  · by_cases h2 : (U.length : Int) > 8
    · have : ¬ May l U := fun q => by have := q.le8; omega
      simp [h1, h2, this]
    · by_cases he : l.Names.length = U.length
      · have e : (l.Names.length : Int) = (U.length : Int) := by omega
        rw [refMay_l2 h he, fst_bool]
        have hm : decide (May l U) = !decide (∃ i, i < U.length ∧ badM l.Names U i = true) := by
          rw [← decide_not, decide_eq_decide]
          exact ⟨fun q => q.ok, fun q => ⟨by omega, by omega, he, q⟩⟩
        rw [hm]
        generalize decide (∃ i, i < U.length ∧ badM l.Names U i = true) = P
        cases P <;> simp [h1, h2, e, out]
      · have : ¬ May l U := fun q => he q.nm
        have e : ¬ (l.Names.length : Int) = (U.length : Int) := by omega
        simp [h1, h2, this, e]
theorem May.bits {l : api_Lattice} {U : List Nat} (q : May l U) : ∀ x ∈ U, x < 2 ^ U.length := by
  intro x hx
  obtain ⟨i, hi, e⟩ := List.getElem_of_mem hx
  apply Classical.byContradiction
  intro hn
  refine q.ok ⟨i, hi, ?_⟩
  have e2 : U.getD i 0 = x := by simp [hi, e]
  unfold badM
  rw [e2]
  simp [show 2 ^ U.length ≤ x by omega]
noncomputable def fi (n : Nat) (p : Nat → Bool) : Int := match fstOf n (fun k => if p k then some (k : Int) else none) with | some r => r | none => -1
theorem fi_out {n : Nat} {p : Nat → Bool} : (match (out (fstOf n (fun k => if p k then some (k : Int) else none)) : Int ⊕ Unit) with | .inl r => some r | .inr () => some (-1 : Int)) = some (fi n p) := by
  unfold fi
  cases fstOf n (fun k => if p k then some (k : Int) else none) <;> rfl
theorem fi_congr {n : Nat} {p q : Nat → Bool} (h : ∀ k, k < n → p k = q k) : fi n p = fi n q := by
  unfold fi
  rw [fst_congr (fun k hk => by rw [h k hk])]
noncomputable def lub (U : List Nat) (a b k : Nat) : Bool := decide (∀ c, c < U.length → (le U k c = true ↔ le U a c = true ∧ le U b c = true))
noncomputable def glb (U : List Nat) (a b k : Nat) : Bool := decide (∀ c, c < U.length → (le U c k = true ↔ le U c a = true ∧ le U c b = true))
noncomputable def jn (U : List Nat) (a b : Nat) : Int := fi U.length (lub U a b)
noncomputable def mt (U : List Nat) (a b : Nat) : Int := fi U.length (glb U a b)
theorem idxF_eq {xs : List Int} {p : Int → Bool} {g : Int → Option Bool} (hg : ∀ x, g x = some (p x)) (hx : xs.length ≤ 1000) :
    slices_IndexFunc_uint32_uint32.f xs g = some (fi xs.length (fun k => p (xs.getD k 0))) := by
  unfold slices_IndexFunc_uint32_uint32.f
  have key : slices_IndexFunc_uint32_uint32.l0 xs g 0 = some (out (fstOf xs.length fun k => if p (xs.getD k 0) then some (k : Int) else none)) := by
    refine search (fun k => slices_IndexFunc_uint32_uint32.l0 xs g k) xs.length _ ?_ ?_
    · show slices_IndexFunc_uint32_uint32.l0 xs g (xs.length : Int) = _
      rw [slices_IndexFunc_uint32_uint32.l0, if_neg (by omega)]
    · intro k hk
      show slices_IndexFunc_uint32_uint32.l0 xs g (k : Int) = _
      have e : xs.getD k 0 = xs[k] := by simp [hk]
      rw [slices_IndexFunc_uint32_uint32.l0, if_pos (by omega), lAt_some hk, step1 hx hk, e]
      simp only [Option.bind_eq_bind, Option.bind_some]
      rw [hg]
      cases p xs[k] <;> simp
  rw [key]
  exact fi_out
theorem bits_eq {U : List Nat} (hU : ∀ x ∈ U, x < 2 ^ U.length) {a b k : Nat} (ha : a < U.length) (hb : b < U.length) (hk : k < U.length) :
    (U[k] = U[a] &&& U[b]) ↔ (∀ c, c < U.length → (le U k c = true ↔ le U a c = true ∧ le U b c = true)) := by
  constructor
  · intro e c _
    rw [le_get hk, le_get ha, le_get hb, e, Nat.testBit_and, Bool.and_eq_true]
  · intro h
    apply Nat.eq_of_testBit_eq
    intro c
    rw [Nat.testBit_and, ← le_get hk, ← le_get ha, ← le_get hb]
    rcases Nat.lt_or_ge c U.length with q | q
    · rw [Bool.eq_iff_iff, Bool.and_eq_true]; exact h c q
    · have f : ∀ a, le U a c = false := by
        intro a
        cases e : le U a c with
        | false => rfl
        | true => have := le_far hU e; omega
      rw [f, f, f]; rfl
theorem join_eq {l : api_Lattice} {U : List Nat} (h : Is l U) (hU : ∀ x ∈ U, x < 2 ^ U.length) {a b : Nat} (ha : a < U.length) (hb : b < U.length) : lattice_join.f l (a : Int) (b : Int) = some (jn U a b) := by
  have hl := h.len
  unfold lattice_join.f
  rw [h.at_ ha, h.at_ hb]
  simp only [Option.bind_eq_bind, Option.bind_some]
  rw [bAnd_nat (h.u ha) (h.u hb), idxF_eq (g := fun z0 => lattice_join_1.f z0 ((U[a] &&& U[b] : Nat) : Int)) (p := fun x => decide (x = ((U[a] &&& U[b] : Nat) : Int))) (fun x => rfl) (by rw [h.n]; omega)]
  simp only [Option.bind_some]
  rw [h.n]
  congr 1
  refine fi_congr fun k hk => ?_
  unfold lub
  rw [decide_eq_decide, ← bits_eq hU ha hb hk]
  have : l.Up.getD k 0 = ((U[k] : Nat) : Int) := by rw [h.up]; simp [hk]
  rw [this]
  exact Int.natCast_inj
theorem fold {L : Int → Bool → Option Bool} {n : Nat} {viol : Nat → Bool} (hend : ∀ b, L (n : Int) b = some b) (hstep : ∀ k b, k < n → L (k : Int) b = L ((k + 1 : Nat) : Int) (if viol k then false else b)) (b : Bool) : L 0 b = some (b && !decide (∃ c, c < n ∧ viol c = true)) := by
  have key : ∀ d k b, n = k + d → L (k : Int) b = some (b && !decide (∃ c, k ≤ c ∧ c < n ∧ viol c = true)) := by
    intro d
    induction d with
    | zero =>
      intro k b e
      rw [show k = n by omega, hend]
      have : ¬ ∃ c, n ≤ c ∧ c < n ∧ viol c = true := by rintro ⟨c, h1, h2, _⟩; omega
      simp only [this, decide_false]; simp
    | succ d ih =>
      intro k b e
      rw [hstep k b (by omega), ih (k + 1) _ (by omega)]
      have : (∃ c, k ≤ c ∧ c < n ∧ viol c = true) ↔ (viol k = true ∨ ∃ c, k + 1 ≤ c ∧ c < n ∧ viol c = true) := by
        constructor
        · rintro ⟨c, h1, h2, h3⟩
          rcases Nat.lt_or_ge k c with q | q
          · exact .inr ⟨c, q, h2, h3⟩
          · exact .inl (by rw [show k = c by omega]; exact h3)
        · rintro (q | ⟨c, h1, h2, h3⟩)
          · exact ⟨k, Nat.le_refl _, by omega, q⟩
          · exact ⟨c, by omega, h2, h3⟩
      simp only [this, Bool.decide_or]
      generalize decide (∃ c, k + 1 ≤ c ∧ c < n ∧ viol c = true) = P
      cases viol k <;> cases P <;> cases b <;> rfl
  have := key n 0 b (by omega)
  simpa using this
theorem refJoin_l3 {l : api_Lattice} {U : List Nat} (h : Is l U) {a b k : Nat} (ha : a < U.length) (hb : b < U.length) (hk : k < U.length) (x : Bool) :
    reticentref01_Join.l3 l (a : Int) (b : Int) (k : Int) 0 x = some (x && !decide (∃ c, c < U.length ∧ (le U a c && le U b c && !le U k c) = true)) := by
  have hl := h.len
  refine fold (L := fun c x => reticentref01_Join.l3 l (a : Int) (b : Int) (k : Int) c x) (fun x => ?_) (fun c x hc => ?_) x
  · show reticentref01_Join.l3 l (a : Int) (b : Int) (k : Int) (U.length : Int) x = _
    rw [reticentref01_Join.l3, h.n, if_neg (by omega)]
  · show reticentref01_Join.l3 l (a : Int) (b : Int) (k : Int) (c : Int) x = _
    rw [reticentref01_Join.l3, h.n, if_pos (by omega), refFlows_eq h ha (by omega), refFlows_eq h hb (by omega), refFlows_eq h hk (by omega), ← le_get ha, ← le_get hb, ← le_get hk, step1 (by omega) hc]
    cases le U a c <;> cases le U b c <;> cases le U k c <;> simp
theorem lub_eq {U : List Nat} (hO : Ord U) {a b k : Nat} (ha : a < U.length) (hb : b < U.length) (hk : k < U.length) :
    (le U a k && le U b k && !decide (∃ c, c < U.length ∧ (le U a c && le U b c && !le U k c) = true)) = lub U a b k := by
  unfold lub
  rw [Bool.eq_iff_iff, Bool.and_eq_true, Bool.and_eq_true, ← decide_not, decide_eq_true_iff, decide_eq_true_iff]
  constructor
  · rintro ⟨⟨h1, h2⟩, h3⟩ c hc
    refine ⟨fun q => ⟨hO.trans a k c ha hk hc h1 q, hO.trans b k c hb hk hc h2 q⟩, fun ⟨q1, q2⟩ => ?_⟩
    cases e : le U k c with
    | true => rfl
    | false => exact absurd ⟨c, hc, by simp [q1, q2, e]⟩ h3
  · intro q
    obtain ⟨h1, h2⟩ := (q k hk).1 (hO.refl k hk)
    refine ⟨⟨h1, h2⟩, ?_⟩
    rintro ⟨c, hc, e⟩
    simp only [Bool.and_eq_true, Bool.not_eq_true'] at e
    rw [(q c hc).2 e.1] at e
    simp at e
theorem refJoin_eq {l : api_Lattice} {U : List Nat} (h : Is l U) (hO : Ord U) {a b : Nat} (ha : a < U.length) (hb : b < U.length) : reticentref01_Join.f l (a : Int) (b : Int) = some (jn U a b) := by
  have hl := h.len
  unfold reticentref01_Join.f
  have key : reticentref01_Join.l2 l (a : Int) (b : Int) 0 = some (out (fstOf U.length fun k => if lub U a b k then some (k : Int) else none)) := by
    refine search (fun k => reticentref01_Join.l2 l (a : Int) (b : Int) k) U.length _ ?_ ?_
    · show reticentref01_Join.l2 l (a : Int) (b : Int) (U.length : Int) = _
      rw [reticentref01_Join.l2, h.n, if_neg (by omega)]
    · intro k hk
      show reticentref01_Join.l2 l (a : Int) (b : Int) (k : Int) = _
      rw [reticentref01_Join.l2, h.n, if_pos (by omega), refFlows_eq h ha (by omega), refFlows_eq h hb (by omega), ← le_get ha, ← le_get hb, step1 (by omega) hk]
      simp only [refJoin_l3 h ha hb hk]
      rw [← lub_eq hO ha hb hk]
      generalize (!decide (∃ c, c < U.length ∧ (le U a c && le U b c && !le U k c) = true)) = P
      cases le U a k <;> cases le U b k <;> cases P <;> simp
  rw [key]
  exact fi_out
theorem bShl_nat {x k : Nat} (hk : k ≤ 20) (hx : x ≤ 1) : bShl .u32 (x : Int) (k : Int) = ((x <<< k : Nat) : Int) := by
  unfold bShl
  show IntKind.u32.wrap ((x : Int) * (2 ^ (min ((k : Int).toNat) 32) : Nat)) = _
  rw [Int.toNat_natCast, Nat.min_eq_left (by omega), ← Int.natCast_mul, Nat.shiftLeft_eq]
  refine wrapU32 ?_
  have : 2 ^ k ≤ 2 ^ 20 := Nat.pow_le_pow_right (by omega) hk
  have : x * 2 ^ k ≤ 1 * 2 ^ 20 := Nat.mul_le_mul hx this
  omega
theorem shr_and1 (u b : Nat) : (u >>> b) &&& 1 = (u.testBit b).toNat := by
  have := shr1 u b
  rcases (show (u >>> b) &&& 1 = 0 ∨ (u >>> b) &&& 1 = 1 by rw [Nat.and_comm, Nat.one_and_eq_mod_two]; omega) with q | q
  · cases e : u.testBit b with
    | false => rw [q]; rfl
    | true => rw [this.2 e] at q; cases q
  · rw [this.1 q, q]; rfl
theorem down_l0 {l : api_Lattice} {U : List Nat} (h : Is l U) {a : Nat} (ha : a ≤ 31) :
    ∀ (d k v : Nat), U.length = k + d → v < 2 ^ k → ∃ r : Nat, lattice_down.l0 l (a : Int) (k : Int) (v : Int) = some (r : Int) ∧ r < 2 ^ U.length ∧ ∀ c, r.testBit c = if c < k then v.testBit c else (decide (c < U.length) && le U c a)
  | 0, k, v, e, hv => by
    have hl := h.len
    refine ⟨v, ?_, by rw [e]; exact hv, fun c => ?_⟩
    · rw [lattice_down.l0, h.n, if_neg (by omega)]
    · by_cases hc : c < k
      · rw [if_pos hc]
      · rw [if_neg hc, Nat.testBit_lt_two_pow (Nat.lt_of_lt_of_le hv (Nat.pow_le_pow_right (n := 2) (by omega) (by omega)))]
        have : ¬ c < U.length := by omega
        simp [this]
  | d + 1, k, v, e, hv => by
    have hl := h.len
    have hk : k < U.length := by omega
    have hs : U[k] >>> a < 4294967296 := Nat.lt_of_le_of_lt (by rw [Nat.shiftRight_eq_div_pow]; exact Nat.div_le_self ..) (h.u hk)
    have hb1 : (U[k].testBit a).toNat ≤ 1 := by cases U[k].testBit a <;> decide
    have hsh : (U[k].testBit a).toNat <<< k < 2 ^ (k + 1) := by
      rw [Nat.shiftLeft_eq, Nat.pow_succ]
      have hp : 0 < 2 ^ k := Nat.pow_pos (by omega)
      cases U[k].testBit a <;> simp <;> omega
    have h10 : 2 ^ (k + 1) ≤ 2 ^ 20 := Nat.pow_le_pow_right (by omega) (by omega)
    have hv' : v < 2 ^ (k + 1) := Nat.lt_of_lt_of_le hv (Nat.pow_le_pow_right (by omega) (by omega))
    obtain ⟨r, hr1, hr2, hr3⟩ := down_l0 h ha d (k + 1) (v ||| ((U[k].testBit a).toNat <<< k)) (by omega) (Nat.or_lt_two_pow hv' hsh)
    refine ⟨r, ?_, hr2, fun c => ?_⟩
    · rw [lattice_down.l0, h.n, if_pos (by omega), h.at_ hk]
      simp only [Option.bind_eq_bind, Option.bind_some]
      rw [if_pos (by omega), if_pos (by omega), bShr_nat (by omega), show (1 : Int) = ((1 : Nat) : Int) from rfl, bAnd_nat hs (by omega), shr_and1, bShl_nat (by omega) hb1, bOr_nat (by omega) (by omega)]
      rw [show ((1 : Nat) : Int) = 1 from rfl, step1 (by omega) hk]
      exact hr1
    · rw [hr3 c, Nat.testBit_or, Nat.testBit_shiftLeft]
      rcases Nat.lt_trichotomy c k with q | q | q
      · rw [if_pos (by omega), if_pos q]
        have : decide (c ≥ k) = false := decide_eq_false (by omega)
        rw [this]; simp
      · subst q
        rw [if_pos (by omega), if_neg (by omega), Nat.testBit_lt_two_pow hv, le_get hk]
        have : decide (c < U.length) = true := decide_eq_true hk
        rw [this]
        cases U[c].testBit a <;> simp
      · rw [if_neg (by omega), if_neg (by omega)]
theorem down_eq {l : api_Lattice} {U : List Nat} (h : Is l U) {a : Nat} (ha : a ≤ 31) : ∃ r : Nat, lattice_down.f l (a : Int) = some (r : Int) ∧ r < 2 ^ U.length ∧ ∀ c, r.testBit c = (decide (c < U.length) && le U c a) := by
  obtain ⟨r, h1, h2, h3⟩ := down_l0 h ha U.length 0 0 (by omega) (by simp)
  refine ⟨r, ?_, h2, fun c => by rw [h3 c, if_neg (by omega)]⟩
  unfold lattice_down.f
  rw [show ((0 : Nat) : Int) = 0 from rfl] at h1
  rw [h1]; rfl
theorem meet_eq {l : api_Lattice} {U : List Nat} (h : Is l U) {a b : Nat} (ha : a < U.length) (hb : b < U.length) : lattice_meet.f l (a : Int) (b : Int) = some (mt U a b) := by
  have hl := h.len
  obtain ⟨ra, ea, la, ta⟩ := down_eq h (a := a) (by omega)
  obtain ⟨rb, eb, lb, tb⟩ := down_eq h (a := b) (by omega)
  have h10 : 2 ^ U.length ≤ 2 ^ 10 := Nat.pow_le_pow_right (by omega) hl
  unfold lattice_meet.f
  rw [ea, eb]
  simp only [Option.bind_eq_bind, Option.bind_some]
  have key : lattice_meet.l0 l (ra : Int) (rb : Int) 0 = some (out (fstOf U.length fun k => if glb U a b k then some (k : Int) else none)) := by
    refine search (fun k => lattice_meet.l0 l (ra : Int) (rb : Int) k) U.length _ ?_ ?_
    · show lattice_meet.l0 l (ra : Int) (rb : Int) (U.length : Int) = _
      rw [lattice_meet.l0, h.n, if_neg (by omega)]
    · intro k hk
      show lattice_meet.l0 l (ra : Int) (rb : Int) (k : Int) = _
      obtain ⟨rk, ek, lk, tk⟩ := down_eq h (a := k) (by omega)
      rw [lattice_meet.l0, h.n, if_pos (by omega), ek, bAnd_nat (by omega) (by omega), step1 (by omega) hk]
      simp only [Option.bind_eq_bind, Option.bind_some]
      have hg : ((rk : Int) = ((ra &&& rb : Nat) : Int)) ↔ glb U a b k = true := by
        rw [Int.natCast_inj]
        unfold glb
        rw [decide_eq_true_iff]
        constructor
        · intro e c hc
          have := congrArg (fun x => x.testBit c) e
          simp only [Nat.testBit_and, tk, ta, tb, decide_eq_true hc, Bool.true_and] at this
          rw [this, Bool.and_eq_true]
        · intro q
          apply Nat.eq_of_testBit_eq
          intro c
          rw [Nat.testBit_and, tk, ta, tb]
          rcases Nat.lt_or_ge c U.length with hc | hc
          · rw [decide_eq_true hc, Bool.true_and, Bool.true_and, Bool.true_and, Bool.eq_iff_iff, Bool.and_eq_true]; exact q c hc
          · rw [decide_eq_false (by omega)]; rfl
      cases e : glb U a b k with
      | true => rw [if_pos (hg.2 e)]; rfl
      | false => rw [if_neg (fun q => by rw [hg.1 q] at e; cases e)]; rfl
  rw [key]
  exact fi_out
theorem refMeet_l3 {l : api_Lattice} {U : List Nat} (h : Is l U) {a b k : Nat} (ha : a < U.length) (hb : b < U.length) (hk : k < U.length) (x : Bool) :
    reticentref01_Meet.l3 l (a : Int) (b : Int) (k : Int) 0 x = some (x && !decide (∃ c, c < U.length ∧ (le U c a && le U c b && !le U c k) = true)) := by
  have hl := h.len
  refine fold (L := fun c x => reticentref01_Meet.l3 l (a : Int) (b : Int) (k : Int) c x) (fun x => ?_) (fun c x hc => ?_) x
  · show reticentref01_Meet.l3 l (a : Int) (b : Int) (k : Int) (U.length : Int) x = _
    rw [reticentref01_Meet.l3, h.n, if_neg (by omega)]
  · show reticentref01_Meet.l3 l (a : Int) (b : Int) (k : Int) (c : Int) x = _
    rw [reticentref01_Meet.l3, h.n, if_pos (by omega), refFlows_eq h hc (by omega), refFlows_eq h hc (by omega), refFlows_eq h hc (by omega), ← le_get hc, ← le_get hc, ← le_get hc, step1 (by omega) hc]
    cases le U c a <;> cases le U c b <;> cases le U c k <;> simp
theorem glb_eq {U : List Nat} (hO : Ord U) {a b k : Nat} (ha : a < U.length) (hb : b < U.length) (hk : k < U.length) :
    (le U k a && le U k b && !decide (∃ c, c < U.length ∧ (le U c a && le U c b && !le U c k) = true)) = glb U a b k := by
  unfold glb
  rw [Bool.eq_iff_iff, Bool.and_eq_true, Bool.and_eq_true, ← decide_not, decide_eq_true_iff, decide_eq_true_iff]
  constructor
  · rintro ⟨⟨h1, h2⟩, h3⟩ c hc
    refine ⟨fun q => ⟨hO.trans c k a hc hk ha q h1, hO.trans c k b hc hk hb q h2⟩, fun ⟨q1, q2⟩ => ?_⟩
    cases e : le U c k with
    | true => rfl
    | false => exact absurd ⟨c, hc, by simp [q1, q2, e]⟩ h3
  · intro q
    obtain ⟨h1, h2⟩ := (q k hk).1 (hO.refl k hk)
    refine ⟨⟨h1, h2⟩, ?_⟩
    rintro ⟨c, hc, e⟩
    simp only [Bool.and_eq_true, Bool.not_eq_true'] at e
    rw [(q c hc).2 e.1] at e
    simp at e
theorem refMeet_eq {l : api_Lattice} {U : List Nat} (h : Is l U) (hO : Ord U) {a b : Nat} (ha : a < U.length) (hb : b < U.length) : reticentref01_Meet.f l (a : Int) (b : Int) = some (mt U a b) := by
  have hl := h.len
  unfold reticentref01_Meet.f
  have key : reticentref01_Meet.l2 l (a : Int) (b : Int) 0 = some (out (fstOf U.length fun k => if glb U a b k then some (k : Int) else none)) := by
    refine search (fun k => reticentref01_Meet.l2 l (a : Int) (b : Int) k) U.length _ ?_ ?_
    · show reticentref01_Meet.l2 l (a : Int) (b : Int) (U.length : Int) = _
      rw [reticentref01_Meet.l2, h.n, if_neg (by omega)]
    · intro k hk
      show reticentref01_Meet.l2 l (a : Int) (b : Int) (k : Int) = _
      rw [reticentref01_Meet.l2, h.n, if_pos (by omega), refFlows_eq h hk (by omega), refFlows_eq h hk (by omega), ← le_get hk, ← le_get hk, step1 (by omega) hk]
      simp only [refMeet_l3 h ha hb hk]
      rw [← glb_eq hO ha hb hk]
      generalize (!decide (∃ c, c < U.length ∧ (le U c a && le U c b && !le U c k) = true)) = P
      cases le U k a <;> cases le U k b <;> cases P <;> simp
  rw [key]
  exact fi_out
noncomputable def bad3 (U : List Nat) (a b : Nat) : Bool := decide (jn U a b < 0) || decide (mt U a b < 0)
noncomputable def chk (l : api_Lattice) (U : List Nat) : Int := if ¬ May l U then 1 else if ¬ Ord U then 2 else if ∃ a b, a < U.length ∧ b < U.length ∧ bad3 U a b = true then 3 else 0
theorem check_eq {l : api_Lattice} {U : List Nat} (h : Nm l U) : lattice_Check.f l = some (chk l U) := by
  have hl := h.len
  unfold lattice_Check.f chk
  rw [may_prog h]
  by_cases hm : May l U
  · rw [order_prog h.toIs hm.bits]
    by_cases hO : Ord U
    · unfold lattice_pairs.f
      have := pairs_eq (t := (0 : Int)) (t' := 3) (n := U.length) (yb := lattice_Check.y0 l) (bad := bad3 U) (by omega) (fun a b ha hb => by
        unfold lattice_Check.y0 bad3
        rw [join_eq h.toIs hm.bits ha hb, meet_eq h.toIs ha hb]
        by_cases h1 : jn U a b < 0 <;> by_cases h2 : mt U a b < 0 <;> simp [h1, h2])
      rw [h.n]
      simp only [Option.bind_eq_bind, Option.bind_some]
      rw [this]
      by_cases hb : ∃ a b, a < U.length ∧ b < U.length ∧ bad3 U a b = true
      · simp only [if_pos hb, hm, hO]; simp
      · simp only [if_neg hb, hm, hO]; simp
    · simp [hm, hO]
  · simp [hm]
theorem refCheck_l3 {l : api_Lattice} {U : List Nat} (h : Is l U) (hO : Ord U) {a : Nat} (ha : a < U.length) :
    reticentref01_Check.l3 l (a : Int) 0 = some (out (fstOf U.length fun b => if bad3 U a b then some (3 : Int) else none)) := by
  have hl := h.len
  refine search (fun k => reticentref01_Check.l3 l (a : Int) k) U.length _ ?_ ?_
  · show reticentref01_Check.l3 l (a : Int) (U.length : Int) = _
    rw [reticentref01_Check.l3, h.n, if_neg (by omega)]
  · intro b hb
    show reticentref01_Check.l3 l (a : Int) (b : Int) = _
    rw [reticentref01_Check.l3, h.n, if_pos (by omega), refJoin_eq h hO ha hb, refMeet_eq h hO ha hb, step1 (by omega) hb]
    unfold bad3
    by_cases h1 : jn U a b < 0 <;> by_cases h2 : mt U a b < 0 <;> simp [h1, h2]
theorem refCheck_eq {l : api_Lattice} {U : List Nat} (h : Nm l U) : reticentref01_Check.f l = some (chk l U) := by
  have hl := h.len
  unfold reticentref01_Check.f chk
  rw [may_refd h]
  by_cases hm : May l U
  · rw [order_refd h.toIs]
    by_cases hO : Ord U
    · have key : reticentref01_Check.l2 l 0 = some (out (fstOf U.length fun a => if decide (∃ b, b < U.length ∧ bad3 U a b = true) then some (3 : Int) else none)) := by
        refine search (fun k => reticentref01_Check.l2 l k) U.length _ ?_ ?_
        · show reticentref01_Check.l2 l (U.length : Int) = _
          rw [reticentref01_Check.l2, h.n, if_neg (by omega)]
        · intro a ha
          show reticentref01_Check.l2 l (a : Int) = _
          rw [reticentref01_Check.l2, h.n, if_pos (by omega), refCheck_l3 h.toIs hO ha, fst_bool, step1 (by omega) ha]
          generalize decide (∃ b, b < U.length ∧ bad3 U a b = true) = P
          cases P <;> simp [out]
      rw [key, fst_bool]
      have e : (∃ a, a < U.length ∧ decide (∃ b, b < U.length ∧ bad3 U a b = true) = true) ↔ ∃ a b, a < U.length ∧ b < U.length ∧ bad3 U a b = true := by
        constructor
        · rintro ⟨a, ha, q⟩; obtain ⟨b, hb, q⟩ := of_decide_eq_true q; exact ⟨a, b, ha, hb, q⟩
        · rintro ⟨a, b, ha, hb, q⟩; exact ⟨a, ha, decide_eq_true ⟨b, hb, q⟩⟩
      simp only [e]
      by_cases hb : ∃ a b, a < U.length ∧ b < U.length ∧ bad3 U a b = true
      · simp only [if_pos hb, decide_eq_true hb, hm, hO]; simp [out]
      · simp only [if_neg hb, decide_eq_false hb, hm, hO]; simp [out]
    · simp [hm, hO]
  · simp [hm]
end
section
open Classical
theorem inRow {α : Type} {d : Kd α} {H : FH} {cs : List Value} {xs : List α} (h : (kL d).reps H cs xs) : ∀ x ∈ xs, ∃ c, d.reps H c x := by
  obtain ⟨A, c, _, _, _, _, hs⟩ := h
  intro x hx
  rcases hs with e | ⟨b, off, cells, t, fr, _, _, hr⟩
  · rw [e] at hx; cases hx
  · obtain ⟨k, hk, e⟩ := List.getElem_of_mem hx
    exact ⟨_, hr.2 k x (by rw [List.getElem?_eq_getElem hk, e])⟩
theorem inLen {α : Type} {d : Kd α} {H : FH} {cs : List Value} {xs : List α} (h : (kL d).reps H cs xs) : xs.length ≤ big := by
  obtain ⟨A, c, _, _, _, hb, hs⟩ := h
  exact hb
theorem lat_in {l : api_Lattice} (h : ∃ H cs, (kR f_api_Lattice).reps H cs l) : (∀ x ∈ l.Up, 0 ≤ x ∧ x < 4294967296) ∧ l.Up.length ≤ big ∧ l.Names.length ≤ big := by
  obtain ⟨H, cs, c1, c2, e, h1, c3, c4, e2, h2, _⟩ := h
  have h1' : (kL kS).reps H c1 l.Names := h1
  have h2' : (kL (kI .u32)).reps H c3 l.Up := h2
  refine ⟨fun x hx => ?_, inLen h2', inLen h1'⟩
  obtain ⟨c, hc⟩ := inRow h2' x hx
  have : InR .u32 x := hc.2
  unfold InR IntKind.min IntKind.max at this
  simp [IntKind.signed, IntKind.bits] at this
  omega
theorem few_l0 {l : api_Lattice} (hm : (if 10 < (l.Names.length : Int) then (10 : Int) else (l.Names.length : Int)) = ((min 10 l.Names.length : Nat) : Int)) :
    ∀ (d k : Nat) (acc : List Str), min 10 l.Names.length = k + d → acc.length = k → (∀ s ∈ acc, s.length ≤ 15) → ∃ r, reticentlaw09_few.l0 l acc (k : Int) = some r ∧ r.length = min 10 l.Names.length ∧ ∀ s ∈ r, s.length ≤ 15
  | 0, k, acc, e, ha, hs => by
    refine ⟨acc, ?_, by omega, hs⟩
    have hlen : ((lCut l.Names 0 ((min 10 l.Names.length : Nat) : Int)).length) = min 10 l.Names.length := by rw [lCut0, List.length_take]; omega
    rw [reticentlaw09_few.l0, hm, hlen, if_neg (by omega)]
  | d + 1, k, acc, e, ha, hs => by
    have hlen : ((lCut l.Names 0 ((min 10 l.Names.length : Nat) : Int)).length) = min 10 l.Names.length := by rw [lCut0, List.length_take]; omega
    have hk : k < (lCut l.Names 0 ((min 10 l.Names.length : Nat) : Int)).length := by omega
    rw [reticentlaw09_few.l0, hm, if_pos (by omega), lAt_some hk]
    simp only [Option.bind_eq_bind, Option.bind_some]
    generalize (lCut l.Names 0 ((min 10 l.Names.length : Nat) : Int))[k] = s
    have hm2 : (if 15 < (s.length : Int) then (15 : Int) else (s.length : Int)) = ((min 15 s.length : Nat) : Int) := by split <;> omega
    rw [hm2, if_pos ⟨by omega, by omega⟩, if_pos (by unfold big; simp; omega), wrap64 (by omega) (by omega)]
    have := few_l0 hm d (k + 1) (acc ++ [sCut s 0 ((min 15 s.length : Nat) : Int)]) (by omega) (by simp [ha]) (by
      intro t ht
      rw [List.mem_append] at ht
      rcases ht with ht | ht
      · exact hs t ht
      · simp at ht; subst ht
        simp [sCut]; omega)
    rw [show ((k : Int) + 1) = ((k + 1 : Nat) : Int) by omega]
    exact this
theorem few_eq {l : api_Lattice} (h : ∃ H cs, (kR f_api_Lattice).reps H cs l) : ∃ l' U, reticentlaw09_few.f l = some l' ∧ Nm l' U := by
  obtain ⟨h1, h2, h3⟩ := lat_in h
  have hu : (if 10 < (l.Up.length : Int) then (10 : Int) else (l.Up.length : Int)) = ((min 10 l.Up.length : Nat) : Int) := by split <;> omega
  have hm : (if 10 < (l.Names.length : Int) then (10 : Int) else (l.Names.length : Int)) = ((min 10 l.Names.length : Nat) : Int) := by split <;> omega
  obtain ⟨r, hr, hl, hs⟩ := few_l0 hm (min 10 l.Names.length) 0 [] (by omega) rfl (fun s hs => by cases hs)
  refine ⟨⟨r, lCut l.Up 0 ((min 10 l.Up.length : Nat) : Int)⟩, (l.Up.take 10).map Int.toNat, ?_, ⟨⟨?_, ?_, ?_⟩, ?_, fun s h => Nat.le_trans (hs s h) (by omega)⟩⟩
  · unfold reticentlaw09_few.f
    rw [show ((0 : Nat) : Int) = 0 from rfl] at hr
    rw [hu, hm, if_pos ⟨by omega, by omega⟩, if_pos ⟨by omega, by omega⟩, hr]
    rfl
  · show lCut l.Up 0 ((min 10 l.Up.length : Nat) : Int) = _
    rw [lCut0, List.map_map]
    have : l.Up.take (min 10 l.Up.length) = l.Up.take 10 := by
      rcases Nat.le_total 10 l.Up.length with q | q
      · rw [Nat.min_eq_left q]
      · rw [Nat.min_eq_right q, List.take_of_length_le (Nat.le_refl _), List.take_of_length_le q]
    rw [this]
    have e2 : (l.Up.take 10).map ((fun x : Nat => (x : Int)) ∘ Int.toNat) = (l.Up.take 10).map id := List.map_congr_left (fun x hx => by
      have := h1 x (List.mem_of_mem_take hx)
      simp; omega)
    rw [e2, List.map_id]
  · intro x hx
    rw [List.mem_map] at hx
    obtain ⟨y, hy, e⟩ := hx
    have := h1 y (List.mem_of_mem_take hy)
    omega
  · simp; omega
  · show r.length ≤ 10
    omega
end
section
theorem wrapZ {x : Int} (h0 : -9223372036854775808 ≤ x) (h1 : x < 9223372036854775808) : IntKind.i64.wrap x = x := by
  show (if (true && decide (x % 18446744073709551616 ≥ 9223372036854775808)) = true then x % 18446744073709551616 - 18446744073709551616 else x % 18446744073709551616) = x
  simp only [Bool.true_and, decide_eq_true_eq]
  split <;> omega
theorem wS {n : Nat} (h : n ≤ 100000) : IntKind.i64.wrap ((n : Int) + 1) = ((n + 1 : Nat) : Int) := by rw [wrapZ (by omega) (by omega)]; rfl
end
section
def code (b : Bool) : Int := if b then 2 else 1
end
section
inductive Tr where
  | lf (op : Int)
  | nd (op : Int) (x y : Tr)
def Tr.op : Tr → Int
  | .lf op => op
  | .nd op _ _ => op
end
section
theorem bsome {α β : Type} (a : α) (f : α → Option β) : (some a >>= f) = f a := rfl
end
section
theorem join_snoc {sep x : Str} : ∀ {xs : List Str}, xs ≠ [] → Lib.join (xs ++ [x]) sep = Lib.join xs sep ++ sep ++ x
  | [], h => absurd rfl h
  | a :: r, _ => by
    show Lib.join (a :: (r ++ [x])) sep = _
    rw [Lib.join_cons, Lib.join_cons]
    simp [Lib.joinTail]
theorem join_ne {sep : Str} : ∀ {xs : List Str}, xs ≠ [] → (∀ x ∈ xs, x ≠ []) → Lib.join xs sep ≠ []
  | [], h, _ => absurd rfl h
  | a :: r, _, h => by
    rw [Lib.join_cons]
    have := h a (by simp)
    simp [this]
theorem joinTail_len {sep : Str} {n : Nat} : ∀ {r : List Str}, (∀ x ∈ r, x.length ≤ n) → (Lib.joinTail sep r).length ≤ r.length * (n + sep.length)
  | [], _ => by simp [Lib.joinTail]
  | a :: r, h => by
    have ih := joinTail_len (sep := sep) (r := r) (fun x hx => h x (by simp [hx]))
    have ha := h a (by simp)
    have : Lib.joinTail sep (a :: r) = (sep ++ a) ++ Lib.joinTail sep r := by simp [Lib.joinTail]
    rw [this]
    simp only [List.length_append, List.length_cons, Nat.succ_mul]
    omega
theorem join_len {sep : Str} {n : Nat} {xs : List Str} (h : ∀ x ∈ xs, x.length ≤ n) : (Lib.join xs sep).length ≤ xs.length * (n + sep.length) := by
  match xs, h with
  | [], _ => simp [Lib.join, List.intercalate]
  | a :: r, h =>
    rw [Lib.join_cons]
    have ih := joinTail_len (sep := sep) (r := r) (fun x hx => h x (by simp [hx]))
    have ha := h a (by simp)
    simp only [List.length_append, List.length_cons, Nat.succ_mul]
    omega
end
section
theorem ff : ¬ (false = true) := by decide
theorem tt : true = true := rfl
end
section
def numB (op : Int) : Bool := decide (op = 1 ∨ op = 8 ∨ op = 9 ∨ op = 10)
theorem number_p (op : Int) : code_number.f op = some (numB op) := by
  unfold code_number.f numB
  rw [show code_spans.f = some [(1, some fun z0 => code_spans_1_1.f z0 (-20) 20), (8, some fun z0 => code_spans_1_1.f z0 0 12), (9, some fun z0 => code_spans_1_1.f z0 0 3), (10, some fun z0 => code_spans_1_1.f z0 0 1)] from rfl, bsome]
  unfold mGet mFind mFind mFind mFind mFind
  by_cases h1 : op = 1
  · simp [h1]
  · by_cases h2 : op = 8
    · simp [h2]
    · by_cases h3 : op = 9
      · simp [h3]
      · by_cases h4 : op = 10
        · simp [h4]
        · simp [h1, h2, h3, h4]
theorem number_r (op : Int) : reticentref08_Number.f op = some (numB op) := by
  unfold reticentref08_Number.f numB
  by_cases h1 : op = 1
  · simp [h1]
  · by_cases h2 : op = 8
    · simp [h2]
    · by_cases h3 : op = 9
      · simp [h3]
      · by_cases h4 : op = 10
        · simp [h4]
        · simp [h1, h2, h3, h4]
theorem span_eq (x a b : Int) : code_spans_1_1.f x a b = some (decide (a ≤ x ∧ x ≤ b)) := by
  unfold code_spans_1_1.f
  by_cases h : x ≥ a
  · rw [if_pos h]; simp; omega
  · rw [if_neg h, decide_eq_false (by omega)]; rfl
def insB (n : Int) (x : api_Instr) : Bool :=
  if x.Op = 1 then decide (-20 ≤ x.N ∧ x.N ≤ 20 ∧ 0 ≤ x.L ∧ x.L < n) else decide (0 ≤ x.Op ∧ x.Op ≤ 12 ∧ x.L = 0 ∧ (if x.Op = 8 then 0 ≤ x.N ∧ x.N ≤ 12 else if x.Op = 9 then 0 ≤ x.N ∧ x.N ≤ 3 else if x.Op = 10 then 0 ≤ x.N ∧ x.N ≤ 1 else x.N = 0))
theorem two {a b : Prop} [Decidable a] [Decidable b] : ((if a then (some (decide b)) else (some false) : Option Bool)) = some (decide (a ∧ b)) := by by_cases h : a <;> simp [h]
theorem right_r (n : Int) (x : api_Instr) : reticentref08_Instr.f n x = some (insB n x) := by
  unfold reticentref08_Instr.f insB
  by_cases h1 : x.Op = 1
  · rw [if_pos h1, if_pos h1, two]
    by_cases a : x.N ≥ -20
    · by_cases b : x.N ≤ 20
      · rw [if_pos a, if_pos b, bsome]; congr 1; apply decide_eq_decide.2; omega
      · rw [if_pos a, if_neg b, bsome, decide_eq_false (by omega)]
    · rw [if_neg a, bsome, decide_eq_false (by omega)]
  · rw [if_neg h1, if_neg h1]
    by_cases h2 : x.Op < 0
    · rw [if_pos h2, bsome, if_pos rfl, decide_eq_false (by omega)]
    · by_cases h3 : x.Op > 12
      · rw [if_neg h2, if_pos h3, bsome, if_pos rfl, decide_eq_false (by omega)]
      · by_cases h4 : x.L = 0
        · rw [if_neg h2, if_neg h3, decide_eq_true h4, bsome, if_neg (by decide)]
          by_cases q8 : x.Op = 8
          · rw [if_pos q8, two, bsome]; congr 1; apply decide_eq_decide.2; rw [if_pos q8]; omega
          · rw [if_neg q8]
            by_cases q9 : x.Op = 9
            · rw [if_pos q9, two, bsome]; congr 1; apply decide_eq_decide.2; rw [if_neg q8, if_pos q9]; omega
            · rw [if_neg q9]
              by_cases q10 : x.Op = 10
              · rw [if_pos q10]
                by_cases z : x.N = 0
                · rw [if_pos z, bsome, decide_eq_true]; rw [if_neg q8, if_neg q9, if_pos q10]; omega
                · rw [if_neg z, bsome]; congr 1; apply decide_eq_decide.2; rw [if_neg q8, if_neg q9, if_pos q10]; omega
              · rw [if_neg q10]; congr 1; apply decide_eq_decide.2; rw [if_neg q8, if_neg q9, if_neg q10]; omega
        · rw [if_neg h2, if_neg h3, decide_eq_false h4, bsome, if_pos (show (!false) = true from rfl), decide_eq_false (by omega)]
theorem right_p (n : Int) (x : api_Instr) : code_right.f n x = some (insB n x) := by
  unfold code_right.f
  have hs : code_spans.f = some [(1, some fun z0 => code_spans_1_1.f z0 (-20) 20), (8, some fun z0 => code_spans_1_1.f z0 0 12), (9, some fun z0 => code_spans_1_1.f z0 0 3), (10, some fun z0 => code_spans_1_1.f z0 0 1)] := rfl
  by_cases h2 : x.Op < 0
  · rw [if_pos h2, bsome, if_pos rfl]; unfold insB; rw [if_neg (by omega), decide_eq_false (by omega)]
  · by_cases h3 : x.Op ≥ 13
    · rw [if_neg h2, decide_eq_true h3, bsome, if_pos rfl]; unfold insB; rw [if_neg (by omega), decide_eq_false (by omega)]
    · rw [if_neg h2, decide_eq_false h3, bsome, if_neg (by decide), hs, bsome]
      unfold insB mGet mFind mFind mFind mFind mFind
      by_cases q1 : x.Op = 1
      · simp only [q1, if_true, two, bsome, span_eq]
        by_cases z : -20 ≤ x.N ∧ x.N ≤ 20
        · simp [z]
        · simp [z]; intros; omega
      · by_cases q8 : x.Op = 8
        · simp only [q8, if_true, bsome, span_eq]
          by_cases z : 0 ≤ x.N ∧ x.N ≤ 12
          · simp [z]
          · have zz : 0 ≤ x.N → 12 < x.N := by omega
            simp [z]
            rw [if_pos zz]; rfl
        · by_cases q9 : x.Op = 9
          · simp only [q9, if_true, bsome, span_eq]
            by_cases z : 0 ≤ x.N ∧ x.N ≤ 3
            · simp [z]
            · have zz : 0 ≤ x.N → 3 < x.N := by omega
              simp [z]
              rw [if_pos zz]; rfl
          · by_cases q10 : x.Op = 10
            · simp only [q10, if_true, bsome, span_eq]
              by_cases z : 0 ≤ x.N ∧ x.N ≤ 1
              · simp [z]
              · have zz : 0 ≤ x.N → 1 < x.N := by omega
                simp [z]
                rw [if_pos zz]; rfl
            · have z1 : 0 ≤ x.Op := by omega
              have z2 : x.Op ≤ 12 := by omega
              simp only [q1, q8, q9, q10, if_false, bsome]
              by_cases z : x.N = 0
              · simp [z, z1, z2]
              · simp [z]
end
section
def wdN (k : Nat) : Str := gl0.getD k []
theorem word_p {k : Nat} (hk : k < 13) : table_Name.f (k : Int) = some (wdN k, 0) := by
  match k, hk with
  | 0, _ => rfl
  | 1, _ => rfl
  | 2, _ => rfl
  | 3, _ => rfl
  | 4, _ => rfl
  | 5, _ => rfl
  | 6, _ => rfl
  | 7, _ => rfl
  | 8, _ => rfl
  | 9, _ => rfl
  | 10, _ => rfl
  | 11, _ => rfl
  | 12, _ => rfl
  | n + 13, h => omega
theorem word_r {k : Nat} (hk : k < 13) : reticentref06_Word.f (k : Int) = some (wdN k) := by
  match k, hk with
  | 0, _ => rfl
  | 1, _ => rfl
  | 2, _ => rfl
  | 3, _ => rfl
  | 4, _ => rfl
  | 5, _ => rfl
  | 6, _ => rfl
  | 7, _ => rfl
  | 8, _ => rfl
  | 9, _ => rfl
  | 10, _ => rfl
  | 11, _ => rfl
  | 12, _ => rfl
  | n + 13, h => omega
theorem cutok {n m : Nat} : (0 : Int) ≤ (if (n : Int) < (m : Int) then (n : Int) else (m : Int)) ∧ (if (n : Int) < (m : Int) then (n : Int) else (m : Int)) ≤ (m : Int) := by split <;> omega
end
section
theorem isame_l0 {a b : List api_Instr} (h : a.length = b.length) (hl : a.length ≤ 1000) : ∀ (d k : Nat), a.length = k + d →
    reticentref08_Same.l0 a b (k : Int) = some (if a.drop k = b.drop k then .inr () else .inl false) ∧ slices_Equal_api_Instr_api_Instr.l0 a b (k : Int) = some (if a.drop k = b.drop k then .inr () else .inl false)
  | 0, k, e => by
    have hn : ¬ (k : Int) < (a.length : Int) := by omega
    rw [reticentref08_Same.l0, if_neg hn, slices_Equal_api_Instr_api_Instr.l0, if_neg hn, List.drop_of_length_le (by omega), List.drop_of_length_le (by omega), if_pos rfl]; exact ⟨rfl, rfl⟩
  | d + 1, k, e => by
    have hk : k < a.length := by omega
    have hk' : k < b.length := by omega
    obtain ⟨i1, i2⟩ := isame_l0 h hl d (k + 1) (by omega)
    have hp : (k : Int) < (a.length : Int) := by omega
    rw [reticentref08_Same.l0, if_pos hp, slices_Equal_api_Instr_api_Instr.l0, if_pos hp, lAt_some hk, lAt_some hk', bsome, bsome, bsome, bsome, wS (by omega), i1, i2, List.drop_eq_getElem_cons hk, List.drop_eq_getElem_cons hk']
    by_cases q : a[k] = b[k]
    · rw [if_pos q, q]
      simp only [List.cons.injEq, true_and, and_self]
    · rw [if_neg q, if_neg (fun h => q (List.cons.inj h).1)]; exact ⟨rfl, rfl⟩
theorem isame {a b : List api_Instr} (hl : a.length ≤ 1000) : reticentref08_Same.f a b = some (decide (a = b)) ∧ code_Like.f a b = some (decide (a = b)) := by
  unfold reticentref08_Same.f code_Like.f slices_Equal_api_Instr_api_Instr.f
  by_cases h : a.length = b.length
  · obtain ⟨h1, h2⟩ := isame_l0 h hl a.length 0 (by omega)
    rw [show ((0 : Nat) : Int) = 0 from rfl, List.drop_zero, List.drop_zero] at h1 h2
    have h' : (a.length : Int) = (b.length : Int) := by omega
    rw [if_pos h', if_pos h', h1, h2]
    by_cases q : a = b
    · rw [if_pos q, decide_eq_true q]; exact ⟨rfl, rfl⟩
    · rw [if_neg q, decide_eq_false q]; exact ⟨rfl, rfl⟩
  · have h' : ¬ (a.length : Int) = (b.length : Int) := by omega
    rw [if_neg h', if_neg h', decide_eq_false (fun q => h (by rw [q]))]; exact ⟨rfl, rfl⟩
def rightB (n : Int) (code : List api_Instr) : Bool := decide (code.length ≤ 12) && code.all (insB n)
theorem rright_l0 {l : api_Lattice} {c : List api_Instr} (hl : c.length ≤ 1000) : ∀ (d k : Nat), c.length = k + d → reticentref08_Right.l0 l c (k : Int) = some (if (c.drop k).all (insB (l.Up.length : Int)) = true then .inr () else .inl false)
  | 0, k, e => by rw [reticentref08_Right.l0, if_neg (by omega), List.drop_of_length_le (by omega)]; rfl
  | d + 1, k, e => by
    have hk : k < c.length := by omega
    rw [reticentref08_Right.l0, if_pos (by omega), lAt_some hk, bsome, right_r, bsome, wS (by omega), rright_l0 hl d (k + 1) (by omega), List.drop_eq_getElem_cons hk, List.all_cons]
    cases insB (l.Up.length : Int) c[k] <;> simp
theorem rright_eq {l : api_Lattice} {c : List api_Instr} (hl : c.length ≤ 1000) : reticentref08_Right.f l c = some (rightB (l.Up.length : Int) c) := by
  unfold reticentref08_Right.f rightB
  have := rright_l0 (l := l) hl c.length 0 (by omega)
  rw [show ((0 : Nat) : Int) = 0 from rfl, List.drop_zero] at this
  rw [this, bsome]
  cases c.all (insB (l.Up.length : Int)) with
  | true => rw [if_pos rfl, Bool.and_true]; show some (decide ((c.length : Int) ≤ 12)) = _; congr 1; apply decide_eq_decide.2; omega
  | false => rw [if_neg (by decide), Bool.and_false]
theorem pright_l0 {l : api_Lattice} {c : List api_Instr} (hl : c.length ≤ 1000) : ∀ (d k : Nat), c.length = k + d → ∃ r : Int ⊕ Unit, slices_IndexFunc_api_Instr_api_Instr.l0 c (fun z0 => code_Right_1.f z0 l) (k : Int) = some r ∧ (match r with | .inl j => 0 ≤ j ∧ (c.drop k).all (insB (l.Up.length : Int)) = false | .inr () => (c.drop k).all (insB (l.Up.length : Int)) = true)
  | 0, k, e => by rw [slices_IndexFunc_api_Instr_api_Instr.l0, if_neg (by omega), List.drop_of_length_le (by omega)]; exact ⟨_, rfl, rfl⟩
  | d + 1, k, e => by
    have hk : k < c.length := by omega
    obtain ⟨r, h1, h2⟩ := pright_l0 (l := l) hl d (k + 1) (by omega)
    rw [slices_IndexFunc_api_Instr_api_Instr.l0, if_pos (by omega), lAt_some hk, bsome]
    show ∃ r, (code_Right_1.f c[k] l >>= _) = _ ∧ _
    have hr : code_Right_1.f c[k] l = some (!insB (l.Up.length : Int) c[k]) := by unfold code_Right_1.f; rw [right_p]; rfl
    rw [hr, bsome, wS (by omega), h1, List.drop_eq_getElem_cons hk, List.all_cons]
    cases q : insB (l.Up.length : Int) c[k] with
    | true => rw [if_neg (by decide), Bool.true_and]; exact ⟨r, rfl, h2⟩
    | false => rw [if_pos (by decide), Bool.false_and]; exact ⟨.inl (k : Int), rfl, by omega, rfl⟩
theorem pright_eq {l : api_Lattice} {U : List Nat} (h : Nm l U) {c : List api_Instr} (hl : c.length ≤ 1000) : code_Right.f l c = some (decide (chk l U = 0) && rightB (l.Up.length : Int) c) := by
  unfold code_Right.f rightB slices_ContainsFunc_api_Instr_api_Instr.f slices_IndexFunc_api_Instr_api_Instr.f
  rw [check_eq h, bsome]
  by_cases hc : chk l U = 0
  · rw [if_pos hc, decide_eq_true hc, Bool.true_and]
    by_cases h12 : (c.length : Int) ≤ 12
    · obtain ⟨r, h1, h2⟩ := pright_l0 (l := l) hl c.length 0 (by omega)
      rw [show ((0 : Nat) : Int) = 0 from rfl] at h1
      rw [if_pos h12, h1, bsome, decide_eq_true (show c.length ≤ 12 by omega), Bool.true_and]
      rw [List.drop_zero] at h2
      cases r with
      | inl j => rw [h2.2]; show (((some (decide (j ≥ 0)) >>= _) : Option Bool) >>= _) = _; rw [decide_eq_true h2.1]; rfl
      | inr u => cases u; rw [show c.all (insB (l.Up.length : Int)) = true from h2]; rfl
    · rw [if_neg h12, decide_eq_false (show ¬ c.length ≤ 12 by omega)]; rfl
  · rw [if_neg hc, decide_eq_false hc]; rfl
end
section
theorem itoaS {n : Int} (h0 : 0 ≤ n) (h1 : n < 100) : lib_ItoaA n = some (Lib.decDigits n.toNat) ∧ (Lib.decDigits n.toNat).length ≤ 2 := by
  refine ⟨by unfold lib_ItoaA; rw [if_pos ⟨h0, h1⟩], ?_⟩
  have : n.toNat < 100 := by omega
  generalize n.toNat = m at this
  unfold Lib.decDigits
  split
  · simp
  · unfold Lib.decDigits
    rw [dif_pos (by omega)]; simp
def sg (n : Int) : Str := if n < 0 then [45, 32] ++ Lib.decDigits (0 - n).toNat else Lib.decDigits n.toNat
theorem sg_len {n : Int} (h0 : -20 ≤ n) (h1 : n ≤ 20) : (sg n).length ≤ 4 := by
  unfold sg
  split
  · have := (itoaS (n := 0 - n) (by omega) (by omega)).2
    rw [List.length_append]
    show 2 + _ ≤ 4
    omega
  · have := (itoaS (n := n) (by omega) (by omega)).2
    omega
theorem sg_p {n : Int} (h0 : -20 ≤ n) (h1 : n ≤ 20) : code_signed.f n = some (sg n) := by
  unfold code_signed.f sg
  by_cases h : n < 0
  · obtain ⟨e1, e2⟩ := itoaS (n := 0 - n) (by omega) (by omega)
    rw [if_pos h, if_pos h, wrapZ (by omega) (by omega), e1, bsome, if_pos (by first | omega | (simp only [List.length_append, List.length_cons, List.length_nil]; omega))]
  · obtain ⟨e1, e2⟩ := itoaS (n := n) (by omega) (by omega)
    rw [if_neg h, if_neg h, e1]; rfl
theorem sg_r {n : Int} (h0 : -20 ≤ n) (h1 : n ≤ 20) : reticentref08_Signed.f n = some (sg n) := by
  unfold reticentref08_Signed.f sg
  by_cases h : n < 0
  · obtain ⟨e1, e2⟩ := itoaS (n := 0 - n) (by omega) (by omega)
    rw [if_pos h, if_pos h, wrapZ (by omega) (by omega), e1, bsome, if_pos (by first | omega | (simp only [List.length_append, List.length_cons, List.length_nil]; omega))]
  · obtain ⟨e1, e2⟩ := itoaS (n := n) (by omega) (by omega)
    rw [if_neg h, if_neg h, e1]; rfl
def txi (l : api_Lattice) (x : api_Instr) : Str := (wdN x.Op.toNat ++ (if numB x.Op = true then [32] ++ sg x.N else [])) ++ (if x.Op = 1 then [32, 64, 32] ++ l.Names.getD x.L.toNat [] else []) ++ [32, 59]
theorem wdi_len {k : Nat} (hk : k < 13) : (wdN k).length ≤ 6 := by
  match k, hk with
  | 0, _ => decide
  | 1, _ => decide
  | 2, _ => decide
  | 3, _ => decide
  | 4, _ => decide
  | 5, _ => decide
  | 6, _ => decide
  | 7, _ => decide
  | 8, _ => decide
  | 9, _ => decide
  | 10, _ => decide
  | 11, _ => decide
  | 12, _ => decide
  | n + 13, h => omega
structure Iok (l : api_Lattice) (x : api_Instr) : Prop where
  o0 : 0 ≤ x.Op
  o1 : x.Op < 13
  n0 : -20 ≤ x.N
  n1 : x.N ≤ 20
  lb : x.Op = 1 → 0 ≤ x.L ∧ x.L.toNat < l.Names.length
theorem iok_of {l : api_Lattice} (hn : l.Names.length = l.Up.length) {x : api_Instr} (h : insB (l.Up.length : Int) x = true) : Iok l x := by
  unfold insB at h
  by_cases q : x.Op = 1
  · rw [if_pos q] at h
    have h := of_decide_eq_true h
    exact ⟨by omega, by omega, h.1, h.2.1, fun _ => ⟨h.2.2.1, by omega⟩⟩
  · rw [if_neg q] at h
    obtain ⟨a, b, c, d⟩ := of_decide_eq_true h
    refine ⟨a, by omega, ?_, ?_, fun w => absurd w q⟩ <;>
      (split at d
       · omega
       · split at d
         · omega
         · split at d
           · omega
           · omega)
section
variable {l : api_Lattice} (hN : ∀ s ∈ l.Names, s.length ≤ 1000)
include hN
theorem nm_len {k : Nat} : (l.Names.getD k []).length ≤ 1000 := by
  rw [List.getD_eq_getElem?_getD]
  cases h : l.Names[k]? with
  | none => simp
  | some s => exact hN s (List.mem_of_getElem? h)
theorem txi_len {x : api_Instr} (h : Iok l x) : (txi l x).length ≤ 1100 := by
  have a := wdi_len (k := x.Op.toNat) (by have := h.o0; have := h.o1; omega)
  have b := sg_len h.n0 h.n1
  have c := nm_len hN (k := x.L.toNat)
  unfold txi
  split <;> split <;> simp only [List.length_append, List.length_cons, List.length_nil] <;> omega
theorem name_at {x : api_Instr} (h : Iok l x) (ho : x.Op = 1) : lAt l.Names x.L = some (l.Names.getD x.L.toNat []) := by
  obtain ⟨h0, h1⟩ := h.lb ho
  obtain ⟨k, hk⟩ : ∃ k : Nat, x.L = (k : Int) := ⟨x.L.toNat, by omega⟩
  rw [hk] at h1 ⊢
  rw [Int.toNat_natCast] at h1 ⊢
  rw [lAt_some h1]; simp [h1]
theorem word_atp {x : api_Instr} (h : Iok l x) : table_Name.f x.Op = some (wdN x.Op.toNat, 0) := by
  obtain ⟨k, hk⟩ : ∃ k : Nat, x.Op = (k : Int) := ⟨x.Op.toNat, by have := h.o0; omega⟩
  rw [hk, Int.toNat_natCast]
  exact word_p (by have := h.o1; omega)
theorem word_atr {x : api_Instr} (h : Iok l x) : reticentref06_Word.f x.Op = some (wdN x.Op.toNat) := by
  obtain ⟨k, hk⟩ : ∃ k : Nat, x.Op = (k : Int) := ⟨x.Op.toNat, by have := h.o0; omega⟩
  rw [hk, Int.toNat_natCast]
  exact word_r (by have := h.o1; omega)
theorem text_l0 {c : List api_Instr} (hc : ∀ x ∈ c, Iok l x) (hl : c.length ≤ 100) : ∀ (d k : Nat) (acc : List Str), c.length = k + d → acc.length = k → code_Text.l0 l c acc (k : Int) = some (acc ++ (c.drop k).map (txi l))
  | 0, k, acc, e, ha => by rw [code_Text.l0, if_neg (by omega), List.drop_of_length_le (by omega)]; simp
  | d + 1, k, acc, e, ha => by
    have hk : k < c.length := by omega
    have hx := hc _ (List.getElem_mem hk)
    have hB : 1000000 ≤ big := by decide
    have a := wdi_len (k := c[k].Op.toNat) (by have := hx.o0; have := hx.o1; omega)
    have b := sg_len hx.n0 hx.n1
    have cc := nm_len hN (k := c[k].L.toNat)
    have ih := text_l0 hc hl d (k + 1) (acc ++ [txi l c[k]]) (by omega) (by simp; omega)
    rw [code_Text.l0, if_pos (by omega), lAt_some hk, bsome, word_atp hN hx, bsome, number_p, bsome, wS (by omega)]
    have fin : (some (acc ++ [txi l c[k]]) >>= fun x128 => code_Text.l0 l c x128 ((k + 1 : Nat) : Int)) = some (acc ++ (c.drop k).map (txi l)) := by
      rw [bsome, ih, List.drop_eq_getElem_cons hk, List.map_cons, List.append_assoc]; rfl
    rw [← fin]
    congr 1
    by_cases hn : numB c[k].Op = true
    · rw [if_pos hn, sg_p hx.n0 hx.n1, bsome, if_pos (by first | omega | (simp only [List.length_append, List.length_cons, List.length_nil]; omega)), if_pos (by first | omega | (simp only [List.length_append, List.length_cons, List.length_nil]; omega))]
      by_cases ho : c[k].Op = 1
      · rw [if_pos ho, name_at hN hx ho, bsome, if_pos (by first | omega | (simp only [List.length_append, List.length_cons, List.length_nil]; omega)), if_pos (by first | omega | (simp only [List.length_append, List.length_cons, List.length_nil]; omega)), if_pos (by first | omega | (simp only [List.length_append, List.length_cons, List.length_nil]; omega)), if_pos (by first | omega | (simp only [List.length_append, List.length_cons, List.length_nil]; omega))]
        unfold txi; rw [if_pos hn, if_pos ho]
      · rw [if_neg ho, if_pos (by first | omega | (simp only [List.length_append, List.length_cons, List.length_nil]; omega)), if_pos (by first | omega | (simp only [List.length_append, List.length_cons, List.length_nil]; omega))]
        unfold txi; rw [if_pos hn, if_neg ho, List.append_nil]
    · have ho : ¬ c[k].Op = 1 := fun q => hn (by rw [q]; rfl)
      rw [if_neg hn, if_neg ho, if_pos (by first | omega | (simp only [List.length_append, List.length_cons, List.length_nil]; omega)), if_pos (by first | omega | (simp only [List.length_append, List.length_cons, List.length_nil]; omega))]
      unfold txi; rw [if_neg hn, if_neg ho, List.append_nil, List.append_nil]
theorem rtext_l0 {c : List api_Instr} (hc : ∀ x ∈ c, Iok l x) (hl : c.length ≤ 100) : ∀ (d k : Nat), c.length = k + d → reticentref08_Text.l0 l c (k : Int) (Lib.join ((c.take k).map (txi l)) [32]) = some (Lib.join (c.map (txi l)) [32])
  | 0, k, e => by rw [reticentref08_Text.l0, if_neg (by omega), List.take_of_length_le (by omega)]
  | d + 1, k, e => by
    have hk : k < c.length := by omega
    have hx := hc _ (List.getElem_mem hk)
    have a := wdi_len (k := c[k].Op.toNat) (by have := hx.o0; have := hx.o1; omega)
    have b := sg_len hx.n0 hx.n1
    have cc := nm_len hN (k := c[k].L.toNat)
    have ih := rtext_l0 hc hl d (k + 1) (by omega)
    have hj : (Lib.join ((c.take k).map (txi l)) [32]).length ≤ 110100 := by
      have h1 := join_len (sep := [32]) (n := 1100) (xs := (c.take k).map (txi l)) (fun s hs => by
        obtain ⟨x, hxm, rfl⟩ := List.mem_map.1 hs
        exact txi_len hN (hc x (List.mem_of_mem_take hxm)))
      have h2 : ((c.take k).map (txi l)).length ≤ 100 := by rw [List.length_map, List.length_take]; omega
      exact Nat.le_trans h1 (Nat.mul_le_mul_right _ h2)
    have hnext : Lib.join ((c.take (k + 1)).map (txi l)) [32] = (if k = 0 then Lib.join ((c.take k).map (txi l)) [32] else Lib.join ((c.take k).map (txi l)) [32] ++ [32]) ++ txi l c[k] := by
      rw [List.take_succ_eq_append_getElem hk, List.map_append, List.map_cons, List.map_nil]
      by_cases h0 : k = 0
      · subst h0; rw [if_pos rfl, List.take_zero, List.map_nil, List.nil_append, Lib.join_one]; rfl
      · rw [if_neg h0, join_snoc (by intro q; have := congrArg List.length q; rw [List.length_map, List.length_take, List.length_nil] at this; omega)]
    rw [hnext] at ih
    generalize Lib.join ((c.take k).map (txi l)) [32] = J at hj ih ⊢
    rw [reticentref08_Text.l0, if_pos (show (k : Int) < (c.length : Int) by omega), lAt_some hk, bsome, word_atr hN hx, bsome, number_r, wS (by omega), ← ih]
    by_cases h0 : k = 0
    · rw [if_neg (show ¬ (k : Int) > 0 by omega), if_pos h0, bsome, if_pos (by first | omega | (simp only [List.length_append, List.length_cons, List.length_nil]; omega)), bsome]
      by_cases hn : numB c[k].Op = true
      · rw [if_pos hn, if_pos (by first | omega | (simp only [List.length_append, List.length_cons, List.length_nil]; omega)), sg_r hx.n0 hx.n1, bsome, if_pos (by first | omega | (simp only [List.length_append, List.length_cons, List.length_nil]; omega))]
        by_cases ho : c[k].Op = 1
        · rw [if_pos ho, if_pos (by first | omega | (simp only [List.length_append, List.length_cons, List.length_nil]; omega)), name_at hN hx ho, bsome, if_pos (by first | omega | (simp only [List.length_append, List.length_cons, List.length_nil]; omega)), if_pos (by first | omega | (simp only [List.length_append, List.length_cons, List.length_nil]; omega)), bsome]
          unfold txi; rw [if_pos hn, if_pos ho]; simp only [List.append_assoc]
        · rw [if_neg ho, if_pos (by first | omega | (simp only [List.length_append, List.length_cons, List.length_nil]; omega)), bsome]
          unfold txi; rw [if_pos hn, if_neg ho, List.append_nil]; simp only [List.append_assoc]
      · have ho : ¬ c[k].Op = 1 := fun q => hn (by rw [q]; rfl)
        rw [if_neg hn, if_neg ho, if_pos (by first | omega | (simp only [List.length_append, List.length_cons, List.length_nil]; omega)), bsome]
        unfold txi; rw [if_neg hn, if_neg ho, List.append_nil, List.append_nil]; simp only [List.append_assoc]
    · rw [if_pos (show (k : Int) > 0 by omega), if_neg h0, if_pos (by first | omega | (simp only [List.length_append, List.length_cons, List.length_nil]; omega)), if_pos (by first | omega | (simp only [List.length_append, List.length_cons, List.length_nil]; omega)), bsome]
      by_cases hn : numB c[k].Op = true
      · rw [if_pos hn, if_pos (by first | omega | (simp only [List.length_append, List.length_cons, List.length_nil]; omega)), sg_r hx.n0 hx.n1, bsome, if_pos (by first | omega | (simp only [List.length_append, List.length_cons, List.length_nil]; omega))]
        by_cases ho : c[k].Op = 1
        · rw [if_pos ho, if_pos (by first | omega | (simp only [List.length_append, List.length_cons, List.length_nil]; omega)), name_at hN hx ho, bsome, if_pos (by first | omega | (simp only [List.length_append, List.length_cons, List.length_nil]; omega)), if_pos (by first | omega | (simp only [List.length_append, List.length_cons, List.length_nil]; omega)), bsome]
          unfold txi; rw [if_pos hn, if_pos ho]; simp only [List.append_assoc]
        · rw [if_neg ho, if_pos (by first | omega | (simp only [List.length_append, List.length_cons, List.length_nil]; omega)), bsome]
          unfold txi; rw [if_pos hn, if_neg ho, List.append_nil]; simp only [List.append_assoc]
      · have ho : ¬ c[k].Op = 1 := fun q => hn (by rw [q]; rfl)
        rw [if_neg hn, if_neg ho, if_pos (by first | omega | (simp only [List.length_append, List.length_cons, List.length_nil]; omega)), bsome]
        unfold txi; rw [if_neg hn, if_neg ho, List.append_nil, List.append_nil]; simp only [List.append_assoc]
end
end
section
theorem oks {l : api_Lattice} {U : List Nat} (h : Nm l U) (hc : chk l U = 0) {c : List api_Instr} (hr : rightB (l.Up.length : Int) c = true) : c.length ≤ 12 ∧ (∀ x ∈ c, Iok l x) ∧ (∀ s ∈ l.Names, s.length ≤ 1000) := by
  unfold rightB at hr
  rw [Bool.and_eq_true] at hr
  have hm : May l U := by
    unfold chk at hc
    by_cases q : May l U
    · exact q
    · rw [if_pos q] at hc; cases hc
  have hn : l.Names.length = l.Up.length := by rw [hm.nm, h.n]
  exact ⟨of_decide_eq_true hr.1, fun x hx => iok_of hn (List.all_eq_true.1 hr.2 x hx), h.sl⟩
noncomputable def txt (l : api_Lattice) (c : List api_Instr) : Str := Lib.join (c.map (txi l)) [32]
theorem txt_len {l : api_Lattice} (hN : ∀ s ∈ l.Names, s.length ≤ 1000) {c : List api_Instr} (hc : ∀ x ∈ c, Iok l x) (hl : c.length ≤ 12) : (txt l c).length ≤ 13212 := by
  have h1 := join_len (sep := [32]) (n := 1100) (xs := c.map (txi l)) (fun s hs => by
    obtain ⟨x, hxm, rfl⟩ := List.mem_map.1 hs
    exact txi_len hN (hc x hxm))
  have h2 : (c.map (txi l)).length ≤ 12 := by rw [List.length_map]; exact hl
  exact Nat.le_trans h1 (Nat.mul_le_mul_right _ h2)
theorem text_p {l : api_Lattice} {U : List Nat} (h : Nm l U) {c : List api_Instr} (hl : c.length ≤ 100) : code_Text.f l c = some (if chk l U = 0 then (if rightB (l.Up.length : Int) c = true then (txt l c, 0) else ([], 1)) else ([], chk l U)) := by
  unfold code_Text.f
  rw [check_eq h, bsome]
  by_cases hc : chk l U = 0
  · rw [if_pos hc, if_pos hc, pright_eq h (by omega), bsome, decide_eq_true hc, Bool.true_and]
    cases hr : rightB (l.Up.length : Int) c with
    | false => rfl
    | true =>
      obtain ⟨h12, hok, hN⟩ := oks h hc hr
      have e := text_l0 hN hok hl c.length 0 [] (by omega) rfl
      rw [show ((0 : Nat) : Int) = 0 from rfl, List.drop_zero, List.nil_append] at e
      have ht := txt_len hN hok h12
      have ej : lib_Join (c.map (txi l)) [32] = some (txt l c) := by
        unfold lib_Join
        rw [if_pos (show (Lib.join (c.map (txi l)) [32]).length ≤ 140737488355328 by unfold txt at ht; omega)]; rfl
      rw [if_neg (by decide), e, bsome, ej, bsome, if_pos rfl]
  · rw [if_neg hc, if_neg hc]
theorem text_r {l : api_Lattice} {U : List Nat} (h : Nm l U) (hc : chk l U = 0) {c : List api_Instr} (hr : rightB (l.Up.length : Int) c = true) : reticentref08_Text.f l c = some (txt l c) := by
  obtain ⟨h12, hok, hN⟩ := oks h hc hr
  have e := rtext_l0 hN hok (by omega) c.length 0 (by omega)
  rw [show ((0 : Nat) : Int) = 0 from rfl, List.take_zero, List.map_nil, Lib.join_nil] at e
  unfold reticentref08_Text.f
  rw [e]; rfl
theorem lcut_le {α : Type} {a : List α} {n : Nat} : (lCut a 0 (if (n : Int) < (a.length : Int) then (n : Int) else (a.length : Int))).length ≤ n := by
  unfold lCut
  split
  · simp; omega
  · simp; omega
end
section
def labB (n : Int) (a : Int) : Bool := decide (a ≥ 0 ∧ a < n)
def valB (v : Int) : Bool := decide (v ≥ -20 ∧ v ≤ 20)
def plaB (v : Int) : Bool := decide (v ≥ 0 ∧ v ≤ 12)
def okA (n : Int) (a : api_Atom) : Bool := valB a.V && labB n a.L
def okS (n : Int) (x : api_Slot) : Bool := labB n x.L && (if x.Ret = true then plaB x.V else valB x.V)
def rightS (n : Int) (s : api_State) : Bool := rightB n s.Code && plaB s.Pc.V && labB n s.Pc.L && (decide (s.Mem.length ≤ 6) && decide (s.Stack.length ≤ 12) && decide (s.Out.length ≤ 8)) && s.Mem.all (okA n) && s.Stack.all (okS n) && s.Out.all (okA n)
theorem if_two {a b : Prop} [Decidable a] [Decidable b] : ((if a then (some (decide b)) else (some false) : Option Bool)) = some (decide (a ∧ b)) := by by_cases h : a <;> simp [h]
theorem value_p (v : Int) : state_value.f v = some (valB v) := by
  unfold state_value.f valB
  rw [if_two]; rfl
theorem place_p (v : Int) : state_place.f v = some (plaB v) := by
  unfold state_place.f plaB
  rw [if_two]; rfl
theorem label_p (l : api_Lattice) (a : Int) : state_Right_1.f a l = some (labB (l.Up.length : Int) a) := by
  unfold state_Right_1.f labB
  rw [if_two]; rfl
theorem label_r (l : api_Lattice) (a : Int) : reticentref09_label.f l a = some (labB (l.Up.length : Int) a) := by
  unfold reticentref09_label.f labB
  rw [if_two]; rfl
theorem odd_p (l : api_Lattice) (a : api_Atom) : state_Right_2.f a (some (fun z0 => state_Right_1.f z0 l)) = some (!okA (l.Up.length : Int) a) := by
  unfold state_Right_2.f okA
  rw [value_p, bsome]
  cases valB a.V with
  | false => rfl
  | true =>
    rw [if_neg (by decide), bsome]
    show ((state_Right_1.f a.L l >>= _) >>= _) = _
    rw [label_p, bsome, bsome]; rfl
theorem strange_p (l : api_Lattice) (x : api_Slot) : state_Right_3.f x (some (fun z0 => state_Right_1.f z0 l)) = some (!okS (l.Up.length : Int) x) := by
  unfold state_Right_3.f okS
  rw [bsome]
  show ((state_Right_1.f x.L l >>= _) >>= _) = _
  rw [label_p, bsome, value_p, place_p, bsome, bsome]
  cases labB (l.Up.length : Int) x.L <;> cases x.Ret <;> cases valB x.V <;> cases plaB x.V <;> rfl
theorem idxA {xs : List api_Atom} {p : api_Atom → Option Bool} {q : api_Atom → Bool} (hp : ∀ x, p x = some (!q x)) (hl : xs.length ≤ 1000) : ∀ (d k : Nat), xs.length = k + d → ∃ r : Int ⊕ Unit, slices_IndexFunc_api_Atom_api_Atom.l0 xs p (k : Int) = some r ∧ (match r with | .inl j => 0 ≤ j ∧ (xs.drop k).all q = false | .inr () => (xs.drop k).all q = true)
  | 0, k, e => by rw [slices_IndexFunc_api_Atom_api_Atom.l0, if_neg (by omega), List.drop_of_length_le (by omega)]; exact ⟨_, rfl, rfl⟩
  | d + 1, k, e => by
    have hk : k < xs.length := by omega
    obtain ⟨r, h1, h2⟩ := idxA hp hl d (k + 1) (by omega)
    rw [slices_IndexFunc_api_Atom_api_Atom.l0, if_pos (by omega), lAt_some hk, bsome, hp, bsome, wS (by omega), h1, List.drop_eq_getElem_cons hk, List.all_cons]
    cases q xs[k] with
    | true => rw [if_neg (by decide), Bool.true_and]; exact ⟨r, rfl, h2⟩
    | false => rw [if_pos (by decide), Bool.false_and]; exact ⟨.inl (k : Int), rfl, by omega, rfl⟩
theorem conA {xs : List api_Atom} {p : api_Atom → Option Bool} {q : api_Atom → Bool} (hp : ∀ x, p x = some (!q x)) (hl : xs.length ≤ 1000) : slices_ContainsFunc_api_Atom_api_Atom.f xs p = some (!xs.all q) := by
  unfold slices_ContainsFunc_api_Atom_api_Atom.f slices_IndexFunc_api_Atom_api_Atom.f
  obtain ⟨r, h1, h2⟩ := idxA hp hl xs.length 0 (by omega)
  rw [show ((0 : Nat) : Int) = 0 from rfl] at h1
  rw [h1, bsome]
  rw [List.drop_zero] at h2
  rcases r with j | u
  · obtain ⟨h3, h4⟩ := h2
    show some (decide (j ≥ 0)) = _
    rw [h4, decide_eq_true h3]; rfl
  · have h2 : xs.all q = true := h2
    rw [h2]; rfl
theorem idxS {xs : List api_Slot} {p : api_Slot → Option Bool} {q : api_Slot → Bool} (hp : ∀ x, p x = some (!q x)) (hl : xs.length ≤ 1000) : ∀ (d k : Nat), xs.length = k + d → ∃ r : Int ⊕ Unit, slices_IndexFunc_api_Slot_api_Slot.l0 xs p (k : Int) = some r ∧ (match r with | .inl j => 0 ≤ j ∧ (xs.drop k).all q = false | .inr () => (xs.drop k).all q = true)
  | 0, k, e => by rw [slices_IndexFunc_api_Slot_api_Slot.l0, if_neg (by omega), List.drop_of_length_le (by omega)]; exact ⟨_, rfl, rfl⟩
  | d + 1, k, e => by
    have hk : k < xs.length := by omega
    obtain ⟨r, h1, h2⟩ := idxS hp hl d (k + 1) (by omega)
    rw [slices_IndexFunc_api_Slot_api_Slot.l0, if_pos (by omega), lAt_some hk, bsome, hp, bsome, wS (by omega), h1, List.drop_eq_getElem_cons hk, List.all_cons]
    cases q xs[k] with
    | true => rw [if_neg (by decide), Bool.true_and]; exact ⟨r, rfl, h2⟩
    | false => rw [if_pos (by decide), Bool.false_and]; exact ⟨.inl (k : Int), rfl, by omega, rfl⟩
theorem conS {xs : List api_Slot} {p : api_Slot → Option Bool} {q : api_Slot → Bool} (hp : ∀ x, p x = some (!q x)) (hl : xs.length ≤ 1000) : slices_ContainsFunc_api_Slot_api_Slot.f xs p = some (!xs.all q) := by
  unfold slices_ContainsFunc_api_Slot_api_Slot.f slices_IndexFunc_api_Slot_api_Slot.f
  obtain ⟨r, h1, h2⟩ := idxS hp hl xs.length 0 (by omega)
  rw [show ((0 : Nat) : Int) = 0 from rfl] at h1
  rw [h1, bsome]
  rw [List.drop_zero] at h2
  rcases r with j | u
  · obtain ⟨h3, h4⟩ := h2
    show some (decide (j ≥ 0)) = _
    rw [h4, decide_eq_true h3]; rfl
  · have h2 : xs.all q = true := h2
    rw [h2]; rfl
structure Sz (s : api_State) : Prop where
  code : s.Code.length ≤ 1000
  mem : s.Mem.length ≤ 1000
  stack : s.Stack.length ≤ 1000
  out : s.Out.length ≤ 1000
theorem le_int {a b : Nat} : (decide ((a : Int) ≤ (b : Int))) = decide (a ≤ b) := decide_eq_decide.2 (by omega)
theorem right_s {l : api_Lattice} {U : List Nat} (h : Nm l U) (hc : chk l U = 0) {s : api_State} (z : Sz s) : state_Right.f l s = some (rightS (l.Up.length : Int) s) := by
  unfold state_Right.f rightS
  rw [pright_eq h z.code, decide_eq_true hc, Bool.true_and, place_p, conA (odd_p l) z.mem, conA (odd_p l) z.out, conS (strange_p l) z.stack]
  have hz : ((if (s.Mem.length : Int) ≤ 6 then (if (s.Stack.length : Int) ≤ 12 then (some (decide ((s.Out.length : Int) ≤ 8))) else (some false)) else (some false) : Option Bool)) = some (decide (s.Mem.length ≤ 6) && decide (s.Stack.length ≤ 12) && decide (s.Out.length ≤ 8)) := by
    by_cases h1 : s.Mem.length ≤ 6
    · rw [if_pos (by omega), decide_eq_true h1]
      by_cases h2 : s.Stack.length ≤ 12
      · rw [if_pos (by omega), decide_eq_true h2]
        show some (decide ((s.Out.length : Int) ≤ ((8 : Nat) : Int))) = _
        rw [le_int]; rfl
      · rw [if_neg (by omega), decide_eq_false h2]; rfl
    · rw [if_neg (by omega), decide_eq_false h1]; rfl
  rw [hz, bsome, bsome]
  generalize (decide (s.Mem.length ≤ 6) && decide (s.Stack.length ≤ 12) && decide (s.Out.length ≤ 8)) = Z
  generalize s.Mem.all (okA (l.Up.length : Int)) = M
  generalize s.Stack.all (okS (l.Up.length : Int)) = S
  generalize s.Out.all (okA (l.Up.length : Int)) = O
  generalize rightB (l.Up.length : Int) s.Code = C
  generalize plaB s.Pc.V = P
  cases C with
  | false => rfl
  | true =>
    rw [if_pos rfl, bsome]
    cases P with
    | false => rfl
    | true =>
      rw [if_pos rfl, bsome]
      show ((state_Right_1.f s.Pc.L l >>= _) >>= _) = _
      rw [label_p, bsome]
      cases labB (l.Up.length : Int) s.Pc.L <;> cases Z <;> cases M <;> cases S <;> cases O <;> rfl
theorem atoms_l0 {l : api_Lattice} {xs : List api_Atom} (hl : xs.length ≤ 1000) : ∀ (d k : Nat), xs.length = k + d → reticentref09_Atoms.l0 l xs (k : Int) = some (if (xs.drop k).all (okA (l.Up.length : Int)) = true then .inr () else .inl false)
  | 0, k, e => by rw [reticentref09_Atoms.l0, if_neg (by omega), List.drop_of_length_le (by omega)]; rfl
  | d + 1, k, e => by
    have hk : k < xs.length := by omega
    have key : ((if xs[k].V < (-20) then (some true) else (if xs[k].V > 20 then (some true) else (reticentref09_label.f l xs[k].L >>= fun y30 => some (!y30))) : Option Bool)) = some (!okA (l.Up.length : Int) xs[k]) := by
      rw [label_r, bsome]
      unfold okA valB
      by_cases h1 : xs[k].V < -20
      · rw [if_pos h1, decide_eq_false (by omega)]; rfl
      · by_cases h2 : xs[k].V > 20
        · rw [if_neg h1, if_pos h2, decide_eq_false (by omega)]; rfl
        · rw [if_neg h1, if_neg h2, decide_eq_true (by omega)]; rfl
    rw [reticentref09_Atoms.l0, if_pos (by omega), lAt_some hk, bsome, key, bsome, wS (by omega), atoms_l0 hl d (k + 1) (by omega), List.drop_eq_getElem_cons hk, List.all_cons]
    cases okA (l.Up.length : Int) xs[k] <;> simp
theorem atoms_r {l : api_Lattice} {xs : List api_Atom} (hl : xs.length ≤ 1000) : reticentref09_Atoms.f l xs = some (xs.all (okA (l.Up.length : Int))) := by
  unfold reticentref09_Atoms.f
  have := atoms_l0 (l := l) hl xs.length 0 (by omega)
  rw [show ((0 : Nat) : Int) = 0 from rfl, List.drop_zero] at this
  rw [this, bsome]
  cases xs.all (okA (l.Up.length : Int)) <;> rfl
theorem stack_l0 {l : api_Lattice} {xs : List api_Slot} (hl : xs.length ≤ 1000) : ∀ (d k : Nat), xs.length = k + d → reticentref09_Stack.l0 l xs (k : Int) = some (if (xs.drop k).all (okS (l.Up.length : Int)) = true then .inr () else .inl false)
  | 0, k, e => by rw [reticentref09_Stack.l0, if_neg (by omega), List.drop_of_length_le (by omega)]; rfl
  | d + 1, k, e => by
    have hk : k < xs.length := by omega
    have key : ((if xs[k].V < (-20) then (some true) else (if xs[k].V > 20 then (some true) else (reticentref09_label.f l xs[k].L >>= fun y45 => if (!y45) = true then (some true) else (if xs[k].Ret = true then (if xs[k].V < 0 then (some true) else (some (decide (xs[k].V > 12)))) else (some false)))) : Option Bool)) = some (!okS (l.Up.length : Int) xs[k]) := by
      rw [label_r, bsome]
      unfold okS valB plaB
      by_cases h1 : xs[k].V < -20
      · rw [if_pos h1, decide_eq_false (show ¬ (xs[k].V ≥ 0 ∧ xs[k].V ≤ 12) by omega), decide_eq_false (show ¬ (xs[k].V ≥ -20 ∧ xs[k].V ≤ 20) by omega)]
        cases labB (l.Up.length : Int) xs[k].L <;> cases xs[k].Ret <;> rfl
      · by_cases h2 : xs[k].V > 20
        · rw [if_neg h1, if_pos h2, decide_eq_false (show ¬ (xs[k].V ≥ 0 ∧ xs[k].V ≤ 12) by omega), decide_eq_false (show ¬ (xs[k].V ≥ -20 ∧ xs[k].V ≤ 20) by omega)]
          cases labB (l.Up.length : Int) xs[k].L <;> cases xs[k].Ret <;> rfl
        · rw [if_neg h1, if_neg h2, decide_eq_true (show (xs[k].V ≥ -20 ∧ xs[k].V ≤ 20) by omega)]
          by_cases h3 : xs[k].V < 0
          · rw [if_pos h3, decide_eq_false (show ¬ (xs[k].V ≥ 0 ∧ xs[k].V ≤ 12) by omega)]
            cases labB (l.Up.length : Int) xs[k].L <;> cases xs[k].Ret <;> rfl
          · by_cases h4 : xs[k].V > 12
            · rw [if_neg h3, decide_eq_true h4, decide_eq_false (show ¬ (xs[k].V ≥ 0 ∧ xs[k].V ≤ 12) by omega)]
              cases labB (l.Up.length : Int) xs[k].L <;> cases xs[k].Ret <;> rfl
            · rw [if_neg h3, decide_eq_false h4, decide_eq_true (show (xs[k].V ≥ 0 ∧ xs[k].V ≤ 12) by omega)]
              cases labB (l.Up.length : Int) xs[k].L <;> cases xs[k].Ret <;> rfl
    rw [reticentref09_Stack.l0, if_pos (by omega), lAt_some hk, bsome, key, bsome, wS (by omega), stack_l0 hl d (k + 1) (by omega), List.drop_eq_getElem_cons hk, List.all_cons]
    cases okS (l.Up.length : Int) xs[k] <;> simp
theorem stack_r {l : api_Lattice} {xs : List api_Slot} (hl : xs.length ≤ 1000) : reticentref09_Stack.f l xs = some (xs.all (okS (l.Up.length : Int)) && decide (xs.length ≤ 12)) := by
  unfold reticentref09_Stack.f
  have := stack_l0 (l := l) hl xs.length 0 (by omega)
  rw [show ((0 : Nat) : Int) = 0 from rfl, List.drop_zero] at this
  rw [this, bsome]
  cases xs.all (okS (l.Up.length : Int)) with
  | true =>
    show some (decide ((xs.length : Int) ≤ ((12 : Nat) : Int))) = _
    rw [le_int]; rfl
  | false => rfl
theorem right_rs {l : api_Lattice} {s : api_State} (z : Sz s) : reticentref09_Right.f l s = some (rightS (l.Up.length : Int) s) := by
  unfold reticentref09_Right.f rightS
  rw [rright_eq z.code, label_r, atoms_r z.mem, atoms_r z.out, stack_r z.stack, bsome, bsome, bsome]
  have hp : ((if s.Pc.V < 0 then (some true) else (if s.Pc.V > 12 then (some true) else (some (!labB (l.Up.length : Int) s.Pc.L))) : Option Bool)) = some (!(plaB s.Pc.V && labB (l.Up.length : Int) s.Pc.L)) := by
    unfold plaB
    by_cases h1 : s.Pc.V < 0
    · rw [if_pos h1, decide_eq_false (by omega)]; rfl
    · by_cases h2 : s.Pc.V > 12
      · rw [if_neg h1, if_pos h2, decide_eq_false (by omega)]; rfl
      · rw [if_neg h1, if_neg h2, decide_eq_true (by omega)]; rfl
  rw [bsome, hp, bsome]
  have h6 : ((s.Mem.length : Int) ≤ 6) ↔ s.Mem.length ≤ 6 := by omega
  have h8 : (decide ((s.Out.length : Int) ≤ 8)) = decide (s.Out.length ≤ 8) := decide_eq_decide.2 (by omega)
  rw [h8]
  by_cases q : s.Mem.length ≤ 6
  · rw [if_pos (h6.2 q), decide_eq_true q]
    cases rightB (l.Up.length : Int) s.Code <;> cases plaB s.Pc.V <;> cases labB (l.Up.length : Int) s.Pc.L <;> cases s.Mem.all (okA (l.Up.length : Int)) <;> cases s.Stack.all (okS (l.Up.length : Int)) <;> cases s.Out.all (okA (l.Up.length : Int)) <;> cases decide (s.Stack.length ≤ 12) <;> cases decide (s.Out.length ≤ 8) <;> rfl
  · rw [if_neg (fun k => q (h6.1 k)), decide_eq_false q]
    cases rightB (l.Up.length : Int) s.Code <;> cases plaB s.Pc.V <;> cases labB (l.Up.length : Int) s.Pc.L <;> cases s.Mem.all (okA (l.Up.length : Int)) <;> rfl
end
end Go.Proofs.YtkcpghpglhamfaaGreatDoor.Su
