import Derived.Test.YtkmobcaobmchpaaGreatDoorGSR
set_option linter.unusedVariables false
set_option linter.unusedSimpArgs false
set_option linter.unusedSectionVars false
namespace Go.Proofs.YtkmobcaobmchpaaGreatDoor.St
open Go Go.Proofs.YtkmobcaobmchpaaGreatDoor.Ab Go.Proofs.YtkmobcaobmchpaaGreatDoor.SR
section
theorem wrap64 {x : Int} (h0 : 0 ≤ x) (h1 : x < 9223372036854775808) : IntKind.i64.wrap x = x := by
  have e : x % (18446744073709551616 : Int) = x := Int.emod_eq_of_lt h0 (by omega)
  show (if (true && decide (x % 18446744073709551616 ≥ 9223372036854775808)) = true then x % 18446744073709551616 - 18446744073709551616 else x % 18446744073709551616) = x
  rw [e, if_neg]
  simp
  omega
theorem lAt_some {α : Type} {xs : List α} {i : Nat} (h : i < xs.length) : lAt xs (i : Int) = some xs[i] := by
  simp [lAt, h]
end
section
theorem wrapU32 {m : Nat} (h : m < 4294967296) : IntKind.u32.wrap (m : Int) = (m : Int) := by
  have e : (m : Int) % (4294967296 : Int) = (m : Int) := Int.emod_eq_of_lt (by omega) (by omega)
  show (if (false && decide ((m : Int) % 4294967296 ≥ 2147483648)) = true then (m : Int) % 4294967296 - 4294967296 else (m : Int) % 4294967296) = m
  rw [e, if_neg]
  simp
theorem ofInt_nat {m : Nat} (h : m < 4294967296) : (BitVec.ofInt 32 (m : Int)).toNat = m := by
  rw [BitVec.ofInt_natCast, BitVec.toNat_ofNat]
  exact Nat.mod_eq_of_lt h
theorem bAnd_nat {a b : Nat} (ha : a < 4294967296) (hb : b < 4294967296) : bAnd .u32 (a : Int) (b : Int) = ((a &&& b : Nat) : Int) := by
  unfold bAnd
  show IntKind.u32.wrap (((BitVec.ofInt 32 (a : Int) &&& BitVec.ofInt 32 (b : Int)).toNat : Nat) : Int) = _
  rw [BitVec.toNat_and, ofInt_nat ha, ofInt_nat hb]
  exact wrapU32 (Nat.lt_of_le_of_lt Nat.and_le_left ha)
theorem bOr_nat {a b : Nat} (ha : a < 4294967296) (hb : b < 4294967296) : bOr .u32 (a : Int) (b : Int) = ((a ||| b : Nat) : Int) := by
  unfold bOr
  show IntKind.u32.wrap (((BitVec.ofInt 32 (a : Int) ||| BitVec.ofInt 32 (b : Int)).toNat : Nat) : Int) = _
  rw [BitVec.toNat_or, ofInt_nat ha, ofInt_nat hb]
  exact wrapU32 (Nat.or_lt_two_pow (n := 32) ha hb)
theorem bShr_nat {a k : Nat} (hk : k ≤ 32) : bShr .u32 (a : Int) (k : Int) = ((a >>> k : Nat) : Int) := by
  unfold bShr
  show (a : Int).fdiv (2 ^ (min ((k : Int).toNat) 32)) = _
  rw [Int.toNat_natCast, Nat.min_eq_left hk, Nat.shiftRight_eq_div_pow]
  rw [Int.fdiv_eq_ediv_of_nonneg _ (Int.le_of_lt (Int.pow_pos (by omega)))]
  norm_cast
end
section
open Classical
structure Is (l : api_Lattice) (U : List Nat) : Prop where
  up : l.Up = U.map (fun x : Nat => (x : Int))
  lt : ∀ x ∈ U, x < 4294967296
  len : U.length ≤ 10
theorem Is.n {l : api_Lattice} {U : List Nat} (h : Is l U) : l.Up.length = U.length := by rw [h.up]; simp
theorem Is.at_ {l : api_Lattice} {U : List Nat} (h : Is l U) {i : Nat} (hi : i < U.length) : lAt l.Up (i : Int) = some ((U[i] : Nat) : Int) := by
  rw [h.up, lAt_some (by simpa using hi)]
  simp
theorem Is.u {l : api_Lattice} {U : List Nat} (h : Is l U) {i : Nat} (hi : i < U.length) : U[i] < 4294967296 := h.lt _ (List.getElem_mem hi)
theorem shr1 (u b : Nat) : ((u >>> b) &&& 1 = 1) ↔ u.testBit b = true := by
  rw [Nat.testBit, Nat.and_comm]
  rw [Nat.one_and_eq_mod_two]
  simp
theorem flows_eq {l : api_Lattice} {U : List Nat} (h : Is l U) {a b : Nat} (ha : a < U.length) (hb : b ≤ 31) : lattice_flows.f l a b = some (U[a].testBit b) := by
  unfold lattice_flows.f
  rw [h.at_ ha]
  show (if ¬ (b : Int) < 0 then some (decide (bAnd .u32 (bShr .u32 (U[a] : Nat) b) 1 = 1)) else none) = _
  rw [if_pos (by omega), bShr_nat (by omega)]
  have hs : U[a] >>> b < 4294967296 := Nat.lt_of_le_of_lt (by rw [Nat.shiftRight_eq_div_pow]; exact Nat.div_le_self ..) (h.u ha)
  rw [show (1 : Int) = ((1 : Nat) : Int) from rfl, bAnd_nat hs (by omega)]
  congr 1
  rw [Bool.eq_iff_iff, decide_eq_true_iff, ← shr1]
  exact Int.natCast_inj
theorem half {u : Nat} (h : u < 4294967296) : IntKind.u32.wrap ((u : Int).tdiv 2) = ((u >>> 1 : Nat) : Int) := by
  have : (u : Int).tdiv 2 = ((u / 2 : Nat) : Int) := by
    rw [Int.tdiv_eq_ediv_of_nonneg (by omega)]; norm_cast
  rw [this, Nat.shiftRight_eq_div_pow]
  exact wrapU32 (by omega)
theorem refFlows_l0 (b : Nat) (hb : b ≤ 31) : ∀ (d k u : Nat), b = k + d → u < 4294967296 → reticentref01_Flows.l0 (b : Int) (u : Int) (k : Int) = some ((u >>> d : Nat) : Int)
  | 0, k, u, e, hu => by
    rw [reticentref01_Flows.l0, if_neg (by omega)]; simp
  | d + 1, k, u, e, hu => by
    rw [reticentref01_Flows.l0, if_pos (by omega), half hu, wrap64 (by omega) (by omega)]
    have h2 : u >>> 1 < 4294967296 := Nat.lt_of_le_of_lt (by rw [Nat.shiftRight_eq_div_pow]; exact Nat.div_le_self ..) hu
    have := refFlows_l0 b hb d (k + 1) (u >>> 1) (by omega) h2
    rw [show ((k : Int) + 1) = ((k + 1 : Nat) : Int) by omega, this, ← Nat.shiftRight_add, Nat.add_comm 1 d]
theorem refFlows_eq {l : api_Lattice} {U : List Nat} (h : Is l U) {a b : Nat} (ha : a < U.length) (hb : b ≤ 31) : reticentref01_Flows.f l a b = some (U[a].testBit b) := by
  unfold reticentref01_Flows.f
  rw [h.at_ ha]
  show (reticentref01_Flows.l0 (b : Int) ((U[a] : Nat) : Int) 0 >>= fun x6 => some (decide (x6.tmod 2 = 1))) = _
  have := refFlows_l0 b hb b 0 U[a] (by omega) (h.u ha)
  rw [show ((0 : Nat) : Int) = 0 from rfl] at this
  rw [this]
  show some (decide ((((U[a] >>> b : Nat) : Int)).tmod 2 = 1)) = _
  congr 1
  rw [Bool.eq_iff_iff, decide_eq_true_iff, ← shr1, Nat.and_comm, Nat.one_and_eq_mod_two, Int.tmod_eq_emod_of_nonneg (Int.natCast_nonneg _)]
  omega
section
variable {τ : Type} {yb : τ → Int → Int → Option (Bool × (τ × Nat))} {n : Nat} {t t' : τ} {bad : Nat → Nat → Bool}
theorem pairs_l3 (hn : n ≤ 1000) (a : Nat) (h : ∀ b, b < n → yb t a b = some (if bad a b then (false, (t', 1)) else (true, (t, 0)))) :
    ∀ (d k : Nat), n = k + d → lattice_pairs_1.l3 (yOf yb) (n : Int) (a : Int) (t, 0) (k : Int) = some (if ∃ b, k ≤ b ∧ b < n ∧ bad a b = true then .inl (t', 1) else .inr (t, 0)) := by
  intro d
  induction d with
  | zero =>
    intro k e
    rw [lattice_pairs_1.l3, if_neg (by omega), if_neg (by rintro ⟨b, h1, h2, _⟩; omega)]
  | succ d ih =>
    intro k e
    rw [lattice_pairs_1.l3, if_pos (by omega)]
    rw [show yOf yb (t, 0) (a : Int) (k : Int) = yb t a k from rfl, h k (by omega)]
    by_cases hb : bad a k = true
    · rw [if_pos hb, if_pos ⟨k, Nat.le_refl _, by omega, hb⟩]; rfl
    · rw [if_neg hb]
      show lattice_pairs_1.l3 (yOf yb) (n : Int) (a : Int) (t, 0) (IntKind.i64.wrap ((k : Int) + 1)) = _
      rw [wrap64 (by omega) (by omega), show ((k : Int) + 1) = ((k + 1 : Nat) : Int) by omega, ih (k + 1) (by omega)]
      congr 1
      by_cases h1 : ∃ b, k + 1 ≤ b ∧ b < n ∧ bad a b = true
      · rw [if_pos h1]
        obtain ⟨b, q1, q2, q3⟩ := h1
        rw [if_pos ⟨b, by omega, q2, q3⟩]
      · rw [if_neg h1, if_neg]
        rintro ⟨b, q1, q2, q3⟩
        rcases Nat.lt_or_ge k b with q | q
        · exact h1 ⟨b, q, q2, q3⟩
        · exact hb (by rw [show k = b by omega]; exact q3)
theorem pairs_l2 (hn : n ≤ 1000) (h : ∀ a b, a < n → b < n → yb t a b = some (if bad a b then (false, (t', 1)) else (true, (t, 0)))) :
    ∀ (d k : Nat), n = k + d → lattice_pairs_1.l2 (yOf yb) (n : Int) (t, 0) (k : Int) = some (if ∃ a b, k ≤ a ∧ a < n ∧ b < n ∧ bad a b = true then .inl (t', 1) else .inr (t, 0)) := by
  intro d
  induction d with
  | zero =>
    intro k e
    rw [lattice_pairs_1.l2, if_neg (by omega), if_neg (by rintro ⟨a, b, h1, h2, _⟩; omega)]
  | succ d ih =>
    intro k e
    rw [lattice_pairs_1.l2, if_pos (by omega)]
    have := pairs_l3 (t' := t') hn k (fun b hb => h k b (by omega) hb) n 0 (by omega)
    rw [show ((0 : Nat) : Int) = 0 from rfl] at this
    rw [this]
    by_cases hb : ∃ b, 0 ≤ b ∧ b < n ∧ bad k b = true
    · rw [if_pos hb]
      obtain ⟨b, _, q2, q3⟩ := hb
      rw [if_pos ⟨k, b, Nat.le_refl _, by omega, q2, q3⟩]; rfl
    · rw [if_neg hb]
      show lattice_pairs_1.l2 (yOf yb) (n : Int) (t, 0) (IntKind.i64.wrap ((k : Int) + 1)) = _
      rw [wrap64 (by omega) (by omega), show ((k : Int) + 1) = ((k + 1 : Nat) : Int) by omega, ih (k + 1) (by omega)]
      congr 1
      by_cases h1 : ∃ a b, k + 1 ≤ a ∧ a < n ∧ b < n ∧ bad a b = true
      · rw [if_pos h1]
        obtain ⟨a, b, q0, q1, q2, q3⟩ := h1
        rw [if_pos ⟨a, b, by omega, q1, q2, q3⟩]
      · rw [if_neg h1, if_neg]
        rintro ⟨a, b, q0, q1, q2, q3⟩
        rcases Nat.lt_or_ge k a with q | q
        · exact h1 ⟨a, b, q, q1, q2, q3⟩
        · exact hb ⟨b, Nat.zero_le _, q2, by rw [show k = a by omega]; exact q3⟩
theorem pairs_eq (hn : n ≤ 1000) (h : ∀ a b, a < n → b < n → yb t a b = some (if bad a b then (false, (t', 1)) else (true, (t, 0)))) :
    lattice_pairs_1.f (yOf yb) (t, 0) (n : Int) = some (if ∃ a b, a < n ∧ b < n ∧ bad a b = true then (t', 1) else (t, 0)) := by
  unfold lattice_pairs_1.f
  have := pairs_l2 (t' := t') hn h n 0 (by omega)
  rw [show ((0 : Nat) : Int) = 0 from rfl] at this
  rw [this]
  by_cases h1 : ∃ a b, a < n ∧ b < n ∧ bad a b = true
  · rw [if_pos h1]
    obtain ⟨a, b, q⟩ := h1
    rw [if_pos ⟨a, b, Nat.zero_le _, q⟩]; rfl
  · rw [if_neg h1, if_neg (fun ⟨a, b, _, q⟩ => h1 ⟨a, b, q⟩)]; rfl
end
theorem bAndNot_zero {a b : Nat} (ha : a < 4294967296) (hb : b < 4294967296) : bAndNot .u32 (a : Int) (b : Int) = 0 ↔ ∀ c, a.testBit c = true → b.testBit c = true := by
  unfold bAndNot
  show IntKind.u32.wrap (((BitVec.ofInt 32 (a : Int) &&& ~~~BitVec.ofInt 32 (b : Int)).toNat : Nat) : Int) = 0 ↔ _
  rw [wrapU32 (BitVec.isLt _)]
  have hbit : ∀ c, ((BitVec.ofInt 32 (a : Int) &&& ~~~BitVec.ofInt 32 (b : Int)).toNat).testBit c = (a.testBit c && !b.testBit c) := by
    intro c
    rw [BitVec.testBit_toNat, BitVec.getLsbD_and, BitVec.getLsbD_not, ← BitVec.testBit_toNat, ← BitVec.testBit_toNat, ofInt_nat ha, ofInt_nat hb]
    by_cases hc : c < 32
    · simp [hc]
    · have : a.testBit c = false := Nat.testBit_lt_two_pow (Nat.lt_of_lt_of_le ha (Nat.pow_le_pow_right (n := 2) (by omega) (show 32 ≤ c by omega)))
      simp [this]
  constructor
  · intro h c hc
    have h0 : (BitVec.ofInt 32 (a : Int) &&& ~~~BitVec.ofInt 32 (b : Int)).toNat = 0 := by omega
    have := hbit c
    rw [h0, hc] at this
    simpa using this
  · intro h
    have h0 : (BitVec.ofInt 32 (a : Int) &&& ~~~BitVec.ofInt 32 (b : Int)).toNat = 0 := by
      apply Nat.eq_of_testBit_eq
      intro c
      rw [hbit c]
      cases hc : a.testBit c with
      | false => simp
      | true => simp [h c hc]
    rw [h0]; rfl
def le (U : List Nat) (a b : Nat) : Bool := (U.getD a 0).testBit b
theorem le_get {U : List Nat} {a b : Nat} (ha : a < U.length) : le U a b = U[a].testBit b := by simp [le, ha]
def Above (U : List Nat) (a b : Nat) : Prop := ∀ c, c < 32 → le U b c = true → le U a c = true
noncomputable def badO (U : List Nat) (a b : Nat) : Bool := (if a = b then !le U a b else le U a b && le U b a) || (le U a b && !decide (Above U a b))
theorem order_y0 {l : api_Lattice} {U : List Nat} (h : Is l U) {a b : Nat} (ha : a < U.length) (hb : b < U.length) :
    lattice_order.y0 l () (a : Int) (b : Int) = some (if badO U a b then (false, ((), 1)) else (true, ((), 0))) := by
  have hl := h.len
  have hz : (decide (bAndNot .u32 ((U[b] : Nat) : Int) ((U[a] : Nat) : Int) = 0)) = decide (Above U a b) := by
    unfold Above
    rw [decide_eq_decide, bAndNot_zero (h.u hb) (h.u ha)]
    constructor
    · intro q c _ hc; rw [le_get hb] at hc; rw [le_get ha]; exact q c hc
    · intro q c hc
      have hc32 : c < 32 := by
        rcases Nat.lt_or_ge c 32 with q | q
        · exact q
        · rw [Nat.testBit_lt_two_pow (Nat.lt_of_lt_of_le (h.u hb) (Nat.pow_le_pow_right (n := 2) (by omega) q))] at hc; cases hc
      have := q c hc32 (by rw [le_get hb]; exact hc)
      rwa [le_get ha] at this
  unfold lattice_order.y0
  rw [flows_eq h ha (by omega), flows_eq h hb (by omega), h.at_ hb, h.at_ ha, ← le_get ha, ← le_get hb]
  unfold badO
  by_cases hS : Above U a b <;> simp only [hS, decide_true, decide_false] at hz ⊢
  all_goals
    by_cases e : a = b
    · subst e
      simp only [if_true, Option.bind_eq_bind, Option.bind_some]
      cases h1 : le U a a <;> simp [hz]
    · have e' : ¬ (a : Int) = (b : Int) := by omega
      simp only [if_neg e, if_neg e', Option.bind_eq_bind, Option.bind_some]
      cases h1 : le U a b <;> cases h2 : le U b a <;> simp [hz]
def fstOf {ρ : Type} (n : Nat) (bad : Nat → Option ρ) : Option ρ := (List.range n).findSome? bad
def out {ρ : Type} : Option ρ → ρ ⊕ Unit
  | some r => .inl r
  | none => .inr ()
theorem search {ρ : Type} (L : Int → Option (ρ ⊕ Unit)) (n : Nat) (bad : Nat → Option ρ) (hend : L (n : Int) = some (.inr ()))
    (hstep : ∀ k, k < n → L (k : Int) = (match bad k with | some r => some (.inl r) | none => L ((k + 1 : Nat) : Int))) : L 0 = some (out (fstOf n bad)) := by
  have key : ∀ d k, n = k + d → L (k : Int) = some (out ((List.range' k d).findSome? bad)) := by
    intro d
    induction d with
    | zero => intro k e; rw [show k = n by omega, hend]; rfl
    | succ d ih =>
      intro k e
      rw [hstep k (by omega), List.range'_succ, List.findSome?_cons]
      cases hb : bad k with
      | some r => rfl
      | none => exact ih (k + 1) (by omega)
  have := key n 0 (by omega)
  rw [← List.range_eq_range'] at this
  exact this
theorem fst_none {ρ : Type} {n : Nat} {bad : Nat → Option ρ} : fstOf n bad = none ↔ ∀ k, k < n → bad k = none := by
  unfold fstOf
  rw [List.findSome?_eq_none_iff]
  simp
theorem fst_congr {ρ : Type} {n : Nat} {p q : Nat → Option ρ} (h : ∀ k, k < n → p k = q k) : fstOf n p = fstOf n q := by
  unfold fstOf
  have : ∀ l : List Nat, (∀ k ∈ l, k < n) → l.findSome? p = l.findSome? q := by
    intro l
    induction l with
    | nil => intro _; rfl
    | cons a l ih =>
      intro hl
      rw [List.findSome?_cons, List.findSome?_cons, h a (hl a (List.mem_cons_self ..)), ih (fun k hk => hl k (List.mem_cons_of_mem _ hk))]
  exact this _ (fun k hk => by simpa using hk)
theorem fst_const {ρ : Type} {n : Nat} {bad : Nat → Option ρ} {r : ρ} (h : ∀ k s, bad k = some s → s = r) : fstOf n bad = if ∃ k, k < n ∧ bad k ≠ none then some r else none := by
  cases hf : fstOf n bad with
  | none => rw [if_neg]; rintro ⟨k, hk, hb⟩; exact hb (fst_none.1 hf k hk)
  | some s =>
    have hs : s = r := by
      unfold fstOf at hf
      obtain ⟨k, _, hk⟩ := List.exists_of_findSome?_eq_some hf
      exact h k s hk
    rw [if_pos, hs]
    apply Classical.byContradiction
    intro hn
    have : fstOf n bad = none := fst_none.2 (fun k hk => Classical.byContradiction fun hb => hn ⟨k, hk, hb⟩)
    rw [this] at hf; cases hf
theorem step1 {k n : Nat} (h : n ≤ 1000) (hk : k < n) : IntKind.i64.wrap ((k : Int) + 1) = ((k + 1 : Nat) : Int) := by
  rw [wrap64 (by omega) (by omega)]; omega
theorem order_eq {l : api_Lattice} {U : List Nat} (h : Is l U) : lattice_order.f l = some (decide (¬ ∃ a b, a < U.length ∧ b < U.length ∧ badO U a b = true)) := by
  unfold lattice_order.f lattice_pairs.f
  have hl := h.len
  have := pairs_eq (t := ()) (t' := ()) (n := U.length) (yb := lattice_order.y0 l) (bad := badO U) (by omega) (fun a b ha hb => order_y0 h ha hb)
  rw [h.n]
  simp only [Option.bind_eq_bind, Option.bind_some]
  rw [this]
  by_cases hb : ∃ a b, a < U.length ∧ b < U.length ∧ badO U a b = true
  · rw [if_pos hb, decide_eq_false (fun k => k hb)]; rfl
  · rw [if_neg hb, decide_eq_true hb]; rfl
def bad12 (U : List Nat) (a b c : Nat) : Bool := le U a b && le U b c && !le U a c
def bad11 (U : List Nat) (a b : Nat) : Bool := !decide (a = b) && le U a b && le U b a
theorem order_l12 {l : api_Lattice} {U : List Nat} (h : Is l U) {a b : Nat} (ha : a < U.length) (hb : b < U.length) :
    reticentref01_order.l12 l (a : Int) (b : Int) 0 = some (out (fstOf U.length fun c => if bad12 U a b c then some false else none)) := by
  have hl := h.len
  refine search (fun k => reticentref01_order.l12 l (a : Int) (b : Int) k) U.length _ ?_ ?_
  · show reticentref01_order.l12 l (a : Int) (b : Int) (U.length : Int) = _
    rw [reticentref01_order.l12, h.n, if_neg (by omega)]
  · intro c hc
    show reticentref01_order.l12 l (a : Int) (b : Int) (c : Int) = _
    rw [reticentref01_order.l12, h.n, if_pos (by omega), refFlows_eq h ha (by omega), refFlows_eq h hb (by omega), refFlows_eq h ha (by omega), ← le_get ha, ← le_get ha, ← le_get hb, step1 (by omega) hc]
    unfold bad12
    cases h1 : le U a b <;> cases h2 : le U b c <;> cases h3 : le U a c <;> simp
theorem fst_bool {ρ : Type} {n : Nat} {f : Nat → Bool} {r : ρ} : (fstOf n fun k => if f k then some r else none) = if decide (∃ k, k < n ∧ f k = true) = true then some r else none := by
  rw [fst_const (r := r) (by intro k s e; split at e <;> simp_all)]
  have e : (∃ k, k < n ∧ (if f k = true then some r else none : Option ρ) ≠ none) ↔ ∃ k, k < n ∧ f k = true := by
    constructor
    · rintro ⟨k, hk, hb⟩; exact ⟨k, hk, by split at hb <;> simp_all⟩
    · rintro ⟨k, hk, hb⟩; exact ⟨k, hk, by rw [if_pos hb]; simp⟩
  by_cases q : ∃ k, k < n ∧ f k = true
  · rw [if_pos (e.2 q), decide_eq_true q]; rfl
  · rw [if_neg (fun k => q (e.1 k)), decide_eq_false q]; rfl
noncomputable def bad2 (U : List Nat) (a b : Nat) : Bool := bad11 U a b || decide (∃ c, c < U.length ∧ bad12 U a b c = true)
noncomputable def bad1 (U : List Nat) (a : Nat) : Bool := !le U a a || decide (∃ b, b < U.length ∧ bad2 U a b = true)
theorem order_l11 {l : api_Lattice} {U : List Nat} (h : Is l U) {a : Nat} (ha : a < U.length) :
    reticentref01_order.l11 l (a : Int) 0 = some (out (fstOf U.length fun b => if bad2 U a b then some false else none)) := by
  have hl := h.len
  refine search (fun k => reticentref01_order.l11 l (a : Int) k) U.length _ ?_ ?_
  · show reticentref01_order.l11 l (a : Int) (U.length : Int) = _
    rw [reticentref01_order.l11, h.n, if_neg (by omega)]
  · intro b hb
    show reticentref01_order.l11 l (a : Int) (b : Int) = _
    rw [reticentref01_order.l11, h.n, if_pos (by omega), refFlows_eq h ha (by omega), refFlows_eq h hb (by omega), ← le_get ha, ← le_get hb, order_l12 h ha hb, step1 (by omega) hb, fst_bool]
    have e2 : ((a : Int) = (b : Int)) ↔ a = b := Int.natCast_inj
    unfold bad2 bad11
    simp only [e2]
    generalize decide (∃ c, c < U.length ∧ bad12 U a b c = true) = P
    by_cases hab : a = b <;> cases P <;> cases h1 : le U a b <;> cases h2 : le U b a <;> simp [hab, out]
theorem order_ref {l : api_Lattice} {U : List Nat} (h : Is l U) :
    reticentref01_order.f l = some (decide (¬ ∃ a, a < U.length ∧ bad1 U a = true)) := by
  have hl := h.len
  unfold reticentref01_order.f
  have key : reticentref01_order.l8 l 0 = some (out (fstOf U.length fun a => if bad1 U a then some false else none)) := by
    refine search (fun k => reticentref01_order.l8 l k) U.length _ ?_ ?_
    · show reticentref01_order.l8 l (U.length : Int) = _
      rw [reticentref01_order.l8, h.n, if_neg (by omega)]
    · intro a ha
      show reticentref01_order.l8 l (a : Int) = _
      rw [reticentref01_order.l8, h.n, if_pos (by omega), refFlows_eq h ha (by omega), ← le_get ha, order_l11 h ha, step1 (by omega) ha, fst_bool]
      unfold bad1
      generalize decide (∃ b, b < U.length ∧ bad2 U a b = true) = P
      cases P <;> cases h1 : le U a a <;> simp [out]
  rw [key, fst_bool]
  rw [decide_not]
  generalize decide (∃ a, a < U.length ∧ bad1 U a = true) = P
  cases P <;> simp [out]
structure Ord (U : List Nat) : Prop where
  refl : ∀ a, a < U.length → le U a a = true
  anti : ∀ a b, a < U.length → b < U.length → le U a b = true → le U b a = true → a = b
  trans : ∀ a b c, a < U.length → b < U.length → c < U.length → le U a b = true → le U b c = true → le U a c = true
theorem ord_ref {U : List Nat} : (¬ ∃ a, a < U.length ∧ bad1 U a = true) ↔ Ord U := by
  have e : (∃ a, a < U.length ∧ bad1 U a = true) ↔ ∃ a, a < U.length ∧ (le U a a = false ∨ ∃ b, b < U.length ∧ (bad11 U a b = true ∨ ∃ c, c < U.length ∧ bad12 U a b c = true)) := by
    simp only [bad1, bad2, Bool.or_eq_true, decide_eq_true_iff, Bool.not_eq_true']
  rw [e]
  constructor
  · intro q
    refine ⟨fun a ha => ?_, fun a b ha hb h1 h2 => ?_, fun a b c ha hb hc h1 h2 => ?_⟩
    · cases e : le U a a with
      | true => rfl
      | false => exact absurd ⟨a, ha, .inl e⟩ q
    · apply Classical.byContradiction
      intro e
      exact q ⟨a, ha, .inr ⟨b, hb, .inl (by simp [bad11, e, h1, h2])⟩⟩
    · cases e : le U a c with
      | true => rfl
      | false => exact absurd ⟨a, ha, .inr ⟨b, hb, .inr ⟨c, hc, by simp [bad12, e, h1, h2]⟩⟩⟩ q
  · rintro q ⟨a, ha, h1 | ⟨b, hb, h1 | ⟨c, hc, h1⟩⟩⟩
    · rw [q.refl a ha] at h1; cases h1
    · simp [bad11] at h1
      exact h1.1.1 (q.anti a b ha hb h1.1.2 h1.2)
    · simp [bad12] at h1
      rw [q.trans a b c ha hb hc h1.1.1 h1.1.2] at h1; simp at h1
theorem le_far {U : List Nat} (hU : ∀ x ∈ U, x < 2 ^ U.length) {a c : Nat} (h : le U a c = true) : c < U.length := by
  rcases Nat.lt_or_ge c U.length with q | q
  · exact q
  · unfold le at h
    have hx : U.getD a 0 < 2 ^ U.length := by
      rcases Nat.lt_or_ge a U.length with q2 | q2
      · have := hU _ (List.getElem_mem q2)
        simpa [List.getD, q2] using this
      · have : U.getD a 0 = 0 := by simp [List.getD, q2]
        rw [this]; exact Nat.pow_pos (by omega)
    rw [Nat.testBit_lt_two_pow (Nat.lt_of_lt_of_le hx (Nat.pow_le_pow_right (n := 2) (by omega) q))] at h
    cases h
theorem ord_lat {U : List Nat} (hn : U.length ≤ 10) (hU : ∀ x ∈ U, x < 2 ^ U.length) : (¬ ∃ a b, a < U.length ∧ b < U.length ∧ badO U a b = true) ↔ Ord U := by
  constructor
  · intro q
    refine ⟨fun a ha => ?_, fun a b ha hb h1 h2 => ?_, fun a b c ha hb hc h1 h2 => ?_⟩
    · cases e : le U a a with
      | true => rfl
      | false => exact absurd ⟨a, a, ha, ha, by simp [badO, e]⟩ q
    · apply Classical.byContradiction
      intro e
      exact q ⟨a, b, ha, hb, by simp [badO, e, h1, h2]⟩
    · cases e : le U a c with
      | true => rfl
      | false =>
        refine absurd ⟨a, b, ha, hb, ?_⟩ q
        have : ¬ Above U a b := fun k => by rw [k c (by omega) h2] at e; cases e
        simp [badO, h1, this]
  · rintro q ⟨a, b, ha, hb, h1⟩
    unfold badO at h1
    rw [Bool.or_eq_true] at h1
    rcases h1 with h1 | h1
    · by_cases e : a = b
      · subst e; rw [if_pos rfl, q.refl a ha] at h1; cases h1
      · rw [if_neg e, Bool.and_eq_true] at h1; exact e (q.anti a b ha hb h1.1 h1.2)
    · rw [Bool.and_eq_true] at h1
      have : Above U a b := fun c _ hc => q.trans a b c ha hb (le_far hU hc) h1.1 hc
      simp [this] at h1
theorem order_prog {l : api_Lattice} {U : List Nat} (h : Is l U) (hU : ∀ x ∈ U, x < 2 ^ U.length) : lattice_order.f l = some (decide (Ord U)) := by
  rw [order_eq h]
  exact (by simp only [ord_lat h.len hU])
theorem order_refd {l : api_Lattice} {U : List Nat} (h : Is l U) : reticentref01_order.f l = some (decide (Ord U)) := by
  rw [order_ref h]
  exact (by simp only [ord_ref])
end
section
open Classical
def far (s : Str) (k : Nat) : Bool := decide (sAt s (k : Int) < 97) || decide (sAt s (k : Int) > 122)
theorem name_l0 {s : Str} (hs : s.length ≤ 1000) : lattice_name.l0 s 0 = some (out (fstOf s.length fun k => if far s k then some false else none)) := by
  refine search (fun k => lattice_name.l0 s k) s.length _ ?_ ?_
  · show lattice_name.l0 s (s.length : Int) = _
    rw [lattice_name.l0, if_neg (by omega)]
  · intro k hk
    show lattice_name.l0 s (k : Int) = _
    rw [lattice_name.l0, if_pos (by omega), step1 hs hk]
    have hb : (0 : Int) ≤ (k : Int) ∧ (k : Int) < (s.length : Int) := ⟨by omega, by omega⟩
    simp only [if_pos hb]
    unfold far
    by_cases h1 : sAt s (k : Int) < 97 <;> by_cases h2 : sAt s (k : Int) > 122 <;> simp [h1, h2]
theorem refName_l0 {s : Str} (hs : s.length ≤ 1000) : reticentref01_Name.l0 s 0 = some (out (fstOf s.length fun k => if far s k then some false else none)) := by
  refine search (fun k => reticentref01_Name.l0 s k) s.length _ ?_ ?_
  · show reticentref01_Name.l0 s (s.length : Int) = _
    rw [reticentref01_Name.l0, if_neg (by omega)]
  · intro k hk
    show reticentref01_Name.l0 s (k : Int) = _
    rw [reticentref01_Name.l0, if_pos (by omega), step1 hs hk]
    have hb : (0 : Int) ≤ (k : Int) ∧ (k : Int) < (s.length : Int) := ⟨by omega, by omega⟩
    simp only [if_pos hb]
    unfold far
    by_cases h1 : sAt s (k : Int) < 97 <;> by_cases h2 : sAt s (k : Int) > 122 <;> simp [h1, h2]
noncomputable def nameOk (s : Str) : Bool := !decide (∃ k, k < s.length ∧ far s k = true) && (!decide (s = []) && decide (s.length ≤ 12))
theorem name_eq {s : Str} (hs : s.length ≤ 1000) : lattice_name.f s = some (nameOk s) := by
  unfold lattice_name.f nameOk
  rw [name_l0 hs, fst_bool]
  generalize decide (∃ k, k < s.length ∧ far s k = true) = P
  by_cases h1 : s = []
  · subst h1; cases P <;> simp [out]
  · have : 0 < s.length := List.length_pos_iff.2 h1
    cases P <;> by_cases h2 : s.length ≤ 12 <;> simp [out, h1, h2, this] <;> omega
theorem refName_eq {s : Str} (hs : s.length ≤ 1000) : reticentref01_Name.f s = some (nameOk s) := by
  unfold reticentref01_Name.f nameOk
  rw [refName_l0 hs, fst_bool]
  generalize decide (∃ k, k < s.length ∧ far s k = true) = P
  by_cases h1 : s = []
  · subst h1; cases P <;> simp [out]
  · have : 0 < s.length := List.length_pos_iff.2 h1
    cases P <;> by_cases h2 : s.length ≤ 12 <;> simp [out, h1, h2, this] <;> omega
theorem contains_eq {xs : List Str} {a : Str} (hx : xs.length ≤ 1000) : slices_Contains_string_string.f xs a = some (decide (a ∈ xs)) := by
  unfold slices_Contains_string_string.f slices_Index_string_string.f
  have key : slices_Index_string_string.l0 xs a 0 = some (out (fstOf xs.length fun k => if xs[k]? = some a then some (k : Int) else none)) := by
    refine search (fun k => slices_Index_string_string.l0 xs a k) xs.length _ ?_ ?_
    · show slices_Index_string_string.l0 xs a (xs.length : Int) = _
      rw [slices_Index_string_string.l0, if_neg (by omega)]
    · intro k hk
      show slices_Index_string_string.l0 xs a (k : Int) = _
      rw [slices_Index_string_string.l0, if_pos (by omega), lAt_some hk, step1 hx hk, List.getElem?_eq_getElem hk]
      by_cases e : a = xs[k]
      · simp [← e]
      · have : ¬ xs[k] = a := fun q => e q.symm
        simp [e, this]
  rw [key]
  cases hf : fstOf xs.length (fun k => if xs[k]? = some a then some (k : Int) else none) with
  | none =>
    have hno : ¬ a ∈ xs := by
      intro hm
      obtain ⟨k, hk, e⟩ := List.getElem_of_mem hm
      have := fst_none.1 hf k hk
      rw [if_pos (by rw [List.getElem?_eq_getElem hk, e])] at this; cases this
    simp [out, hno]
  | some r =>
    unfold fstOf at hf
    obtain ⟨k, hk0, hk⟩ := List.exists_of_findSome?_eq_some hf
    have hm : a ∈ xs := by
      by_cases e : xs[k]? = some a
      · exact List.mem_of_getElem? e
      · rw [if_neg e] at hk; cases hk
    have hr : r ≥ 0 := by
      by_cases e : xs[k]? = some a
      · rw [if_pos e] at hk; cases hk; omega
      · rw [if_neg e] at hk; cases hk
    simp [out, hm, hr]
theorem high_l0 (n : Nat) (hn : n ≤ 31) : ∀ (d k u : Nat), n = k + d → u < 4294967296 → reticentref01_high.l0 (n : Int) (u : Int) (k : Int) = some ((u >>> d : Nat) : Int)
  | 0, k, u, e, hu => by
    rw [reticentref01_high.l0, if_neg (by omega)]; simp
  | d + 1, k, u, e, hu => by
    rw [reticentref01_high.l0, if_pos (by omega), half hu, wrap64 (by omega) (by omega)]
    have h2 : u >>> 1 < 4294967296 := Nat.lt_of_le_of_lt (by rw [Nat.shiftRight_eq_div_pow]; exact Nat.div_le_self ..) hu
    have := high_l0 n hn d (k + 1) (u >>> 1) (by omega) h2
    rw [show ((k : Int) + 1) = ((k + 1 : Nat) : Int) by omega, this, ← Nat.shiftRight_add, Nat.add_comm 1 d]
theorem high_eq {u n : Nat} (hn : n ≤ 31) (hu : u < 4294967296) : reticentref01_high.f (u : Int) (n : Int) = some (decide (2 ^ n ≤ u)) := by
  unfold reticentref01_high.f
  have := high_l0 n hn n 0 u (by omega) hu
  rw [show ((0 : Nat) : Int) = 0 from rfl] at this
  rw [this]
  show some (decide (((u >>> n : Nat) : Int) > 0)) = _
  congr 1
  rw [decide_eq_decide, Nat.shiftRight_eq_div_pow]
  have := Nat.div_pos_iff (a := u) (b := 2 ^ n)
  have hp : 0 < 2 ^ n := Nat.pow_pos (by omega)
  constructor
  · intro q; exact (this.1 (by omega)).2
  · intro q; have := this.2 ⟨hp, q⟩; omega
theorem high_shr {u n : Nat} (hn : n ≤ 31) : decide (bShr .u32 (u : Int) (n : Int) = 0) = !decide (2 ^ n ≤ u) := by
  rw [bShr_nat (by omega), ← decide_not, decide_eq_decide, Nat.shiftRight_eq_div_pow]
  rw [show (((u / 2 ^ n : Nat) : Int) = 0 ↔ u / 2 ^ n = 0) by omega]
  rw [Nat.div_eq_zero_iff]
  have hp : 0 < 2 ^ n := Nat.pow_pos (by omega)
  omega
structure Nm (l : api_Lattice) (U : List Nat) : Prop extends Is l U where
  nl : l.Names.length ≤ 10
  sl : ∀ s ∈ l.Names, s.length ≤ 1000
noncomputable def badM (N : List Str) (U : List Nat) (i : Nat) : Bool := !nameOk (N.getD i []) || (decide (N.getD i [] ∈ N.take i) || decide (2 ^ U.length ≤ U.getD i 0))
theorem lCut0 {α : Type} {xs : List α} {i : Nat} : lCut xs 0 (i : Int) = xs.take i := by simp [lCut]
theorem may_l0 {l : api_Lattice} {U : List Nat} (h : Nm l U) (he : l.Names.length = U.length) :
    lattice_may.l0 l 0 = some (out (fstOf U.length fun i => if badM l.Names U i then some false else none)) := by
  have hl := h.len
  refine search (fun k => lattice_may.l0 l k) U.length _ ?_ ?_
  · show lattice_may.l0 l (U.length : Int) = _
    rw [lattice_may.l0, if_neg (by omega)]
  · intro k hk
    show lattice_may.l0 l (k : Int) = _
    have hkn : k < l.Names.length := by omega
    have h15 : l.Names[k].length ≤ 1000 := Nat.le_trans (h.sl _ (List.getElem_mem hkn)) (by omega)
    rw [lattice_may.l0, if_pos (by omega), lAt_some hkn]
    simp only [Option.bind_eq_bind, Option.bind_some]
    rw [name_eq h15]
    simp only [Option.bind_eq_bind, Option.bind_some]
    have hb : (0 : Int) ≤ (k : Int) ∧ (k : Int) ≤ (l.Names.length : Int) := ⟨by omega, by omega⟩
    simp only [if_pos hb]
    rw [lCut0, contains_eq (by simp; omega)]
    simp only [Option.bind_eq_bind, Option.bind_some]
    rw [h.at_ hk, h.n]
    simp only [Option.bind_eq_bind, Option.bind_some]
    have hb' : ¬ (U.length : Int) < 0 := by omega
    simp only [if_pos hb']
    rw [high_shr (by omega), step1 (by omega) hk]
    unfold badM
    have e1 : l.Names.getD k [] = l.Names[k] := by simp [hkn]
    have e2 : U.getD k 0 = U[k] := by simp [hk]
    rw [e1, e2]
    generalize decide (l.Names[k] ∈ l.Names.take k) = P
    generalize decide (2 ^ U.length ≤ U[k]) = Q
    cases nameOk l.Names[k] <;> cases P <;> cases Q <;> simp
theorem refMay_l3 {N : List Str} {i : Nat} (a : Str) (hN : N.length ≤ 1000) (l : api_Lattice) (e : l.Names = N) :
    reticentref01_may.l3 l (i : Int) a 0 = some (out (if decide (a ∈ N.take i) = true then some false else none)) := by
  have hi : (N.take i).length ≤ 1000 := by simp; omega
  have key : reticentref01_may.l3 l (i : Int) a 0 = some (out (fstOf (N.take i).length fun k => if decide ((N.take i)[k]? = some a) then some false else none)) := by
    refine search (fun k => reticentref01_may.l3 l (i : Int) a k) (N.take i).length _ ?_ ?_
    · show reticentref01_may.l3 l (i : Int) a ((N.take i).length : Int) = _
      rw [reticentref01_may.l3, e, lCut0, if_neg (by omega)]
    · intro k hk
      show reticentref01_may.l3 l (i : Int) a (k : Int) = _
      rw [reticentref01_may.l3, e, lCut0, if_pos (by omega), lAt_some hk, step1 hi hk, List.getElem?_eq_getElem hk]
      generalize (N.take i)[k] = b
      by_cases e : b = a <;> simp [e]
  rw [key, fst_bool]
  have e : (∃ k, k < (N.take i).length ∧ decide ((N.take i)[k]? = some a) = true) ↔ a ∈ N.take i := by
    constructor
    · rintro ⟨k, hk, q⟩; exact List.mem_of_getElem? (of_decide_eq_true q)
    · intro hm
      obtain ⟨k, hk, q⟩ := List.getElem_of_mem hm
      exact ⟨k, hk, decide_eq_true (by rw [List.getElem?_eq_getElem hk, q])⟩
  simp only [e]
theorem refMay_l2 {l : api_Lattice} {U : List Nat} (h : Nm l U) (he : l.Names.length = U.length) :
    reticentref01_may.l2 l 0 = some (out (fstOf U.length fun i => if badM l.Names U i then some false else none)) := by
  have hl := h.len
  refine search (fun k => reticentref01_may.l2 l k) U.length _ ?_ ?_
  · show reticentref01_may.l2 l (U.length : Int) = _
    rw [reticentref01_may.l2, if_neg (by omega)]
  · intro k hk
    show reticentref01_may.l2 l (k : Int) = _
    have hkn : k < l.Names.length := by omega
    have h15 : l.Names[k].length ≤ 1000 := Nat.le_trans (h.sl _ (List.getElem_mem hkn)) (by omega)
    rw [reticentref01_may.l2, if_pos (by omega), lAt_some hkn]
    simp only [Option.bind_eq_bind, Option.bind_some]
    rw [refName_eq h15, h.at_ hk, h.n]
    simp only [Option.bind_eq_bind, Option.bind_some]
    have hb : (0 : Int) ≤ (k : Int) ∧ (k : Int) ≤ (l.Names.length : Int) := ⟨by omega, by omega⟩
    simp only [if_pos hb]
    rw [high_eq (by omega) (h.u hk), refMay_l3 (N := l.Names) _ (by omega) l rfl, step1 (by omega) hk]
    unfold badM
    have e1 : l.Names.getD k [] = l.Names[k] := by simp [hkn]
    have e2 : U.getD k 0 = U[k] := by simp [hk]
    rw [e1, e2]
    generalize decide (l.Names[k] ∈ l.Names.take k) = P
    generalize decide (2 ^ U.length ≤ U[k]) = Q
    cases nameOk l.Names[k] <;> cases P <;> cases Q <;> simp [out]
structure May (l : api_Lattice) (U : List Nat) : Prop where
  pos : 1 ≤ U.length
  le8 : U.length ≤ 8
  nm : l.Names.length = U.length
  ok : ¬ ∃ i, i < U.length ∧ badM l.Names U i = true
theorem may_prog {l : api_Lattice} {U : List Nat} (h : Nm l U) : lattice_may.f l = some (decide (May l U)) := by
  unfold lattice_may.f
  rw [h.n]
  by_cases h1 : (U.length : Int) < 1
  · have : ¬ May l U := fun q => by have := q.pos; omega
    simp [h1, this]
  · by_cases h2 : (U.length : Int) > 8
    · have : ¬ May l U := fun q => by have := q.le8; omega
      simp [h1, h2, this]
    · by_cases he : l.Names.length = U.length
      · have e : (l.Names.length : Int) = (U.length : Int) := by omega
        rw [may_l0 h he, fst_bool]
        have hm : decide (May l U) = !decide (∃ i, i < U.length ∧ badM l.Names U i = true) := by
          rw [← decide_not, decide_eq_decide]
          exact ⟨fun q => q.ok, fun q => ⟨by omega, by omega, he, q⟩⟩
        rw [hm]
        generalize decide (∃ i, i < U.length ∧ badM l.Names U i = true) = P
        cases P <;> simp [h1, h2, e, out]
      · have : ¬ May l U := fun q => he q.nm
        have e : ¬ (l.Names.length : Int) = (U.length : Int) := by omega
        simp [h1, h2, this, e]
theorem may_refd {l : api_Lattice} {U : List Nat} (h : Nm l U) : reticentref01_may.f l = some (decide (May l U)) := by
  unfold reticentref01_may.f
  rw [h.n]
  by_cases h1 : (U.length : Int) < 1
  · have : ¬ May l U := fun q => by have := q.pos; omega
    simp [h1, this]
  · by_cases h2 : (U.length : Int) > 8
    · have : ¬ May l U := fun q => by have := q.le8; omega
      simp [h1, h2, this]
    · by_cases he : l.Names.length = U.length
      · have e : (l.Names.length : Int) = (U.length : Int) := by omega
        rw [refMay_l2 h he, fst_bool]
        have hm : decide (May l U) = !decide (∃ i, i < U.length ∧ badM l.Names U i = true) := by
          rw [← decide_not, decide_eq_decide]
          exact ⟨fun q => q.ok, fun q => ⟨by omega, by omega, he, q⟩⟩
        rw [hm]
        generalize decide (∃ i, i < U.length ∧ badM l.Names U i = true) = P
        cases P <;> simp [h1, h2, e, out]
      · have : ¬ May l U := fun q => he q.nm
        have e : ¬ (l.Names.length : Int) = (U.length : Int) := by omega
        simp [h1, h2, this, e]
theorem May.bits {l : api_Lattice} {U : List Nat} (q : May l U) : ∀ x ∈ U, x < 2 ^ U.length := by
  intro x hx
  obtain ⟨i, hi, e⟩ := List.getElem_of_mem hx
  apply Classical.byContradiction
  intro hn
  refine q.ok ⟨i, hi, ?_⟩
  have e2 : U.getD i 0 = x := by simp [hi, e]
  unfold badM
  rw [e2]
  simp [show 2 ^ U.length ≤ x by omega]
noncomputable def fi (n : Nat) (p : Nat → Bool) : Int := match fstOf n (fun k => if p k then some (k : Int) else none) with | some r => r | none => -1
theorem fi_out {n : Nat} {p : Nat → Bool} : (match (out (fstOf n (fun k => if p k then some (k : Int) else none)) : Int ⊕ Unit) with | .inl r => some r | .inr () => some (-1 : Int)) = some (fi n p) := by
  unfold fi
  cases fstOf n (fun k => if p k then some (k : Int) else none) <;> rfl
theorem fi_congr {n : Nat} {p q : Nat → Bool} (h : ∀ k, k < n → p k = q k) : fi n p = fi n q := by
  unfold fi
  rw [fst_congr (fun k hk => by rw [h k hk])]
noncomputable def lub (U : List Nat) (a b k : Nat) : Bool := decide (∀ c, c < U.length → (le U k c = true ↔ le U a c = true ∧ le U b c = true))
noncomputable def glb (U : List Nat) (a b k : Nat) : Bool := decide (∀ c, c < U.length → (le U c k = true ↔ le U c a = true ∧ le U c b = true))
noncomputable def jn (U : List Nat) (a b : Nat) : Int := fi U.length (lub U a b)
noncomputable def mt (U : List Nat) (a b : Nat) : Int := fi U.length (glb U a b)
theorem idxF_eq {xs : List Int} {p : Int → Bool} {g : Int → Option Bool} (hg : ∀ x, g x = some (p x)) (hx : xs.length ≤ 1000) :
    slices_IndexFunc_uint32_uint32.f xs g = some (fi xs.length (fun k => p (xs.getD k 0))) := by
  unfold slices_IndexFunc_uint32_uint32.f
  have key : slices_IndexFunc_uint32_uint32.l0 xs g 0 = some (out (fstOf xs.length fun k => if p (xs.getD k 0) then some (k : Int) else none)) := by
    refine search (fun k => slices_IndexFunc_uint32_uint32.l0 xs g k) xs.length _ ?_ ?_
    · show slices_IndexFunc_uint32_uint32.l0 xs g (xs.length : Int) = _
      rw [slices_IndexFunc_uint32_uint32.l0, if_neg (by omega)]
    · intro k hk
      show slices_IndexFunc_uint32_uint32.l0 xs g (k : Int) = _
      have e : xs.getD k 0 = xs[k] := by simp [hk]
      rw [slices_IndexFunc_uint32_uint32.l0, if_pos (by omega), lAt_some hk, step1 hx hk, e]
      simp only [Option.bind_eq_bind, Option.bind_some]
      rw [hg]
      cases p xs[k] <;> simp
  rw [key]
  exact fi_out
theorem bits_eq {U : List Nat} (hU : ∀ x ∈ U, x < 2 ^ U.length) {a b k : Nat} (ha : a < U.length) (hb : b < U.length) (hk : k < U.length) :
    (U[k] = U[a] &&& U[b]) ↔ (∀ c, c < U.length → (le U k c = true ↔ le U a c = true ∧ le U b c = true)) := by
  constructor
  · intro e c _
    rw [le_get hk, le_get ha, le_get hb, e, Nat.testBit_and, Bool.and_eq_true]
  · intro h
    apply Nat.eq_of_testBit_eq
    intro c
    rw [Nat.testBit_and, ← le_get hk, ← le_get ha, ← le_get hb]
    rcases Nat.lt_or_ge c U.length with q | q
    · rw [Bool.eq_iff_iff, Bool.and_eq_true]; exact h c q
    · have f : ∀ a, le U a c = false := by
        intro a
        cases e : le U a c with
        | false => rfl
        | true => have := le_far hU e; omega
      rw [f, f, f]; rfl
theorem join_eq {l : api_Lattice} {U : List Nat} (h : Is l U) (hU : ∀ x ∈ U, x < 2 ^ U.length) {a b : Nat} (ha : a < U.length) (hb : b < U.length) : lattice_join.f l (a : Int) (b : Int) = some (jn U a b) := by
  have hl := h.len
  unfold lattice_join.f
  rw [h.at_ ha, h.at_ hb]
  simp only [Option.bind_eq_bind, Option.bind_some]
  rw [bAnd_nat (h.u ha) (h.u hb), idxF_eq (g := fun z0 => lattice_join_1.f z0 ((U[a] &&& U[b] : Nat) : Int)) (p := fun x => decide (x = ((U[a] &&& U[b] : Nat) : Int))) (fun x => rfl) (by rw [h.n]; omega)]
  simp only [Option.bind_some]
  rw [h.n]
  congr 1
  refine fi_congr fun k hk => ?_
  unfold lub
  rw [decide_eq_decide, ← bits_eq hU ha hb hk]
  have : l.Up.getD k 0 = ((U[k] : Nat) : Int) := by rw [h.up]; simp [hk]
  rw [this]
  exact Int.natCast_inj
theorem fold {L : Int → Bool → Option Bool} {n : Nat} {viol : Nat → Bool} (hend : ∀ b, L (n : Int) b = some b) (hstep : ∀ k b, k < n → L (k : Int) b = L ((k + 1 : Nat) : Int) (if viol k then false else b)) (b : Bool) : L 0 b = some (b && !decide (∃ c, c < n ∧ viol c = true)) := by
  have key : ∀ d k b, n = k + d → L (k : Int) b = some (b && !decide (∃ c, k ≤ c ∧ c < n ∧ viol c = true)) := by
    intro d
    induction d with
    | zero =>
      intro k b e
      rw [show k = n by omega, hend]
      have : ¬ ∃ c, n ≤ c ∧ c < n ∧ viol c = true := by rintro ⟨c, h1, h2, _⟩; omega
      simp only [this, decide_false]; simp
    | succ d ih =>
      intro k b e
      rw [hstep k b (by omega), ih (k + 1) _ (by omega)]
      have : (∃ c, k ≤ c ∧ c < n ∧ viol c = true) ↔ (viol k = true ∨ ∃ c, k + 1 ≤ c ∧ c < n ∧ viol c = true) := by
        constructor
        · rintro ⟨c, h1, h2, h3⟩
          rcases Nat.lt_or_ge k c with q | q
          · exact .inr ⟨c, q, h2, h3⟩
          · exact .inl (by rw [show k = c by omega]; exact h3)
        · rintro (q | ⟨c, h1, h2, h3⟩)
          · exact ⟨k, Nat.le_refl _, by omega, q⟩
          · exact ⟨c, by omega, h2, h3⟩
      simp only [this, Bool.decide_or]
      generalize decide (∃ c, k + 1 ≤ c ∧ c < n ∧ viol c = true) = P
      cases viol k <;> cases P <;> cases b <;> rfl
  have := key n 0 b (by omega)
  simpa using this
theorem refJoin_l3 {l : api_Lattice} {U : List Nat} (h : Is l U) {a b k : Nat} (ha : a < U.length) (hb : b < U.length) (hk : k < U.length) (x : Bool) :
    reticentref01_Join.l3 l (a : Int) (b : Int) (k : Int) 0 x = some (x && !decide (∃ c, c < U.length ∧ (le U a c && le U b c && !le U k c) = true)) := by
  have hl := h.len
  refine fold (L := fun c x => reticentref01_Join.l3 l (a : Int) (b : Int) (k : Int) c x) (fun x => ?_) (fun c x hc => ?_) x
  · show reticentref01_Join.l3 l (a : Int) (b : Int) (k : Int) (U.length : Int) x = _
    rw [reticentref01_Join.l3, h.n, if_neg (by omega)]
  · show reticentref01_Join.l3 l (a : Int) (b : Int) (k : Int) (c : Int) x = _
    rw [reticentref01_Join.l3, h.n, if_pos (by omega), refFlows_eq h ha (by omega), refFlows_eq h hb (by omega), refFlows_eq h hk (by omega), ← le_get ha, ← le_get hb, ← le_get hk, step1 (by omega) hc]
    cases le U a c <;> cases le U b c <;> cases le U k c <;> simp
theorem lub_eq {U : List Nat} (hO : Ord U) {a b k : Nat} (ha : a < U.length) (hb : b < U.length) (hk : k < U.length) :
    (le U a k && le U b k && !decide (∃ c, c < U.length ∧ (le U a c && le U b c && !le U k c) = true)) = lub U a b k := by
  unfold lub
  rw [Bool.eq_iff_iff, Bool.and_eq_true, Bool.and_eq_true, ← decide_not, decide_eq_true_iff, decide_eq_true_iff]
  constructor
  · rintro ⟨⟨h1, h2⟩, h3⟩ c hc
    refine ⟨fun q => ⟨hO.trans a k c ha hk hc h1 q, hO.trans b k c hb hk hc h2 q⟩, fun ⟨q1, q2⟩ => ?_⟩
    cases e : le U k c with
    | true => rfl
    | false => exact absurd ⟨c, hc, by simp [q1, q2, e]⟩ h3
  · intro q
    obtain ⟨h1, h2⟩ := (q k hk).1 (hO.refl k hk)
    refine ⟨⟨h1, h2⟩, ?_⟩
    rintro ⟨c, hc, e⟩
    simp only [Bool.and_eq_true, Bool.not_eq_true'] at e
    rw [(q c hc).2 e.1] at e
    simp at e
theorem refJoin_eq {l : api_Lattice} {U : List Nat} (h : Is l U) (hO : Ord U) {a b : Nat} (ha : a < U.length) (hb : b < U.length) : reticentref01_Join.f l (a : Int) (b : Int) = some (jn U a b) := by
  have hl := h.len
  unfold reticentref01_Join.f
  have key : reticentref01_Join.l2 l (a : Int) (b : Int) 0 = some (out (fstOf U.length fun k => if lub U a b k then some (k : Int) else none)) := by
    refine search (fun k => reticentref01_Join.l2 l (a : Int) (b : Int) k) U.length _ ?_ ?_
    · show reticentref01_Join.l2 l (a : Int) (b : Int) (U.length : Int) = _
      rw [reticentref01_Join.l2, h.n, if_neg (by omega)]
    · intro k hk
      show reticentref01_Join.l2 l (a : Int) (b : Int) (k : Int) = _
      rw [reticentref01_Join.l2, h.n, if_pos (by omega), refFlows_eq h ha (by omega), refFlows_eq h hb (by omega), ← le_get ha, ← le_get hb, step1 (by omega) hk]
      simp only [refJoin_l3 h ha hb hk]
      rw [← lub_eq hO ha hb hk]
      generalize (!decide (∃ c, c < U.length ∧ (le U a c && le U b c && !le U k c) = true)) = P
      cases le U a k <;> cases le U b k <;> cases P <;> simp
  rw [key]
  exact fi_out
theorem bShl_nat {x k : Nat} (hk : k ≤ 20) (hx : x ≤ 1) : bShl .u32 (x : Int) (k : Int) = ((x <<< k : Nat) : Int) := by
  unfold bShl
  show IntKind.u32.wrap ((x : Int) * (2 ^ (min ((k : Int).toNat) 32) : Nat)) = _
  rw [Int.toNat_natCast, Nat.min_eq_left (by omega), ← Int.natCast_mul, Nat.shiftLeft_eq]
  refine wrapU32 ?_
  have : 2 ^ k ≤ 2 ^ 20 := Nat.pow_le_pow_right (by omega) hk
  have : x * 2 ^ k ≤ 1 * 2 ^ 20 := Nat.mul_le_mul hx this
  omega
theorem shr_and1 (u b : Nat) : (u >>> b) &&& 1 = (u.testBit b).toNat := by
  have := shr1 u b
  rcases (show (u >>> b) &&& 1 = 0 ∨ (u >>> b) &&& 1 = 1 by rw [Nat.and_comm, Nat.one_and_eq_mod_two]; omega) with q | q
  · cases e : u.testBit b with
    | false => rw [q]; rfl
    | true => rw [this.2 e] at q; cases q
  · rw [this.1 q, q]; rfl
theorem down_l0 {l : api_Lattice} {U : List Nat} (h : Is l U) {a : Nat} (ha : a ≤ 31) :
    ∀ (d k v : Nat), U.length = k + d → v < 2 ^ k → ∃ r : Nat, lattice_down.l0 l (a : Int) (k : Int) (v : Int) = some (r : Int) ∧ r < 2 ^ U.length ∧ ∀ c, r.testBit c = if c < k then v.testBit c else (decide (c < U.length) && le U c a)
  | 0, k, v, e, hv => by
    have hl := h.len
    refine ⟨v, ?_, by rw [e]; exact hv, fun c => ?_⟩
    · rw [lattice_down.l0, h.n, if_neg (by omega)]
    · by_cases hc : c < k
      · rw [if_pos hc]
      · rw [if_neg hc, Nat.testBit_lt_two_pow (Nat.lt_of_lt_of_le hv (Nat.pow_le_pow_right (n := 2) (by omega) (by omega)))]
        have : ¬ c < U.length := by omega
        simp [this]
  | d + 1, k, v, e, hv => by
    have hl := h.len
    have hk : k < U.length := by omega
    have hs : U[k] >>> a < 4294967296 := Nat.lt_of_le_of_lt (by rw [Nat.shiftRight_eq_div_pow]; exact Nat.div_le_self ..) (h.u hk)
    have hb1 : (U[k].testBit a).toNat ≤ 1 := by cases U[k].testBit a <;> decide
    have hsh : (U[k].testBit a).toNat <<< k < 2 ^ (k + 1) := by
      rw [Nat.shiftLeft_eq, Nat.pow_succ]
      have hp : 0 < 2 ^ k := Nat.pow_pos (by omega)
      cases U[k].testBit a <;> simp <;> omega
    have h10 : 2 ^ (k + 1) ≤ 2 ^ 20 := Nat.pow_le_pow_right (by omega) (by omega)
    have hv' : v < 2 ^ (k + 1) := Nat.lt_of_lt_of_le hv (Nat.pow_le_pow_right (by omega) (by omega))
    obtain ⟨r, hr1, hr2, hr3⟩ := down_l0 h ha d (k + 1) (v ||| ((U[k].testBit a).toNat <<< k)) (by omega) (Nat.or_lt_two_pow hv' hsh)
    refine ⟨r, ?_, hr2, fun c => ?_⟩
    · rw [lattice_down.l0, h.n, if_pos (by omega), h.at_ hk]
      simp only [Option.bind_eq_bind, Option.bind_some]
      rw [if_pos (by omega), if_pos (by omega), bShr_nat (by omega), show (1 : Int) = ((1 : Nat) : Int) from rfl, bAnd_nat hs (by omega), shr_and1, bShl_nat (by omega) hb1, bOr_nat (by omega) (by omega)]
      rw [show ((1 : Nat) : Int) = 1 from rfl, step1 (by omega) hk]
      exact hr1
    · rw [hr3 c, Nat.testBit_or, Nat.testBit_shiftLeft]
      rcases Nat.lt_trichotomy c k with q | q | q
      · rw [if_pos (by omega), if_pos q]
        have : decide (c ≥ k) = false := decide_eq_false (by omega)
        rw [this]; simp
      · subst q
        rw [if_pos (by omega), if_neg (by omega), Nat.testBit_lt_two_pow hv, le_get hk]
        have : decide (c < U.length) = true := decide_eq_true hk
        rw [this]
        cases U[c].testBit a <;> simp
      · rw [if_neg (by omega), if_neg (by omega)]
theorem down_eq {l : api_Lattice} {U : List Nat} (h : Is l U) {a : Nat} (ha : a ≤ 31) : ∃ r : Nat, lattice_down.f l (a : Int) = some (r : Int) ∧ r < 2 ^ U.length ∧ ∀ c, r.testBit c = (decide (c < U.length) && le U c a) := by
  obtain ⟨r, h1, h2, h3⟩ := down_l0 h ha U.length 0 0 (by omega) (by simp)
  refine ⟨r, ?_, h2, fun c => by rw [h3 c, if_neg (by omega)]⟩
  unfold lattice_down.f
  rw [show ((0 : Nat) : Int) = 0 from rfl] at h1
  rw [h1]; rfl
theorem meet_eq {l : api_Lattice} {U : List Nat} (h : Is l U) {a b : Nat} (ha : a < U.length) (hb : b < U.length) : lattice_meet.f l (a : Int) (b : Int) = some (mt U a b) := by
  have hl := h.len
  obtain ⟨ra, ea, la, ta⟩ := down_eq h (a := a) (by omega)
  obtain ⟨rb, eb, lb, tb⟩ := down_eq h (a := b) (by omega)
  have h10 : 2 ^ U.length ≤ 2 ^ 10 := Nat.pow_le_pow_right (by omega) hl
  unfold lattice_meet.f
  rw [ea, eb]
  simp only [Option.bind_eq_bind, Option.bind_some]
  have key : lattice_meet.l0 l (ra : Int) (rb : Int) 0 = some (out (fstOf U.length fun k => if glb U a b k then some (k : Int) else none)) := by
    refine search (fun k => lattice_meet.l0 l (ra : Int) (rb : Int) k) U.length _ ?_ ?_
    · show lattice_meet.l0 l (ra : Int) (rb : Int) (U.length : Int) = _
      rw [lattice_meet.l0, h.n, if_neg (by omega)]
    · intro k hk
      show lattice_meet.l0 l (ra : Int) (rb : Int) (k : Int) = _
      obtain ⟨rk, ek, lk, tk⟩ := down_eq h (a := k) (by omega)
      rw [lattice_meet.l0, h.n, if_pos (by omega), ek, bAnd_nat (by omega) (by omega), step1 (by omega) hk]
      simp only [Option.bind_eq_bind, Option.bind_some]
      have hg : ((rk : Int) = ((ra &&& rb : Nat) : Int)) ↔ glb U a b k = true := by
        rw [Int.natCast_inj]
        unfold glb
        rw [decide_eq_true_iff]
        constructor
        · intro e c hc
          have := congrArg (fun x => x.testBit c) e
          simp only [Nat.testBit_and, tk, ta, tb, decide_eq_true hc, Bool.true_and] at this
          rw [this, Bool.and_eq_true]
        · intro q
          apply Nat.eq_of_testBit_eq
          intro c
          rw [Nat.testBit_and, tk, ta, tb]
          rcases Nat.lt_or_ge c U.length with hc | hc
          · rw [decide_eq_true hc, Bool.true_and, Bool.true_and, Bool.true_and, Bool.eq_iff_iff, Bool.and_eq_true]; exact q c hc
          · rw [decide_eq_false (by omega)]; rfl
      cases e : glb U a b k with
      | true => rw [if_pos (hg.2 e)]; rfl
      | false => rw [if_neg (fun q => by rw [hg.1 q] at e; cases e)]; rfl
  rw [key]
  exact fi_out
theorem refMeet_l3 {l : api_Lattice} {U : List Nat} (h : Is l U) {a b k : Nat} (ha : a < U.length) (hb : b < U.length) (hk : k < U.length) (x : Bool) :
    reticentref01_Meet.l3 l (a : Int) (b : Int) (k : Int) 0 x = some (x && !decide (∃ c, c < U.length ∧ (le U c a && le U c b && !le U c k) = true)) := by
  have hl := h.len
  refine fold (L := fun c x => reticentref01_Meet.l3 l (a : Int) (b : Int) (k : Int) c x) (fun x => ?_) (fun c x hc => ?_) x
  · show reticentref01_Meet.l3 l (a : Int) (b : Int) (k : Int) (U.length : Int) x = _
    rw [reticentref01_Meet.l3, h.n, if_neg (by omega)]
  · show reticentref01_Meet.l3 l (a : Int) (b : Int) (k : Int) (c : Int) x = _
    rw [reticentref01_Meet.l3, h.n, if_pos (by omega), refFlows_eq h hc (by omega), refFlows_eq h hc (by omega), refFlows_eq h hc (by omega), ← le_get hc, ← le_get hc, ← le_get hc, step1 (by omega) hc]
    cases le U c a <;> cases le U c b <;> cases le U c k <;> simp
theorem glb_eq {U : List Nat} (hO : Ord U) {a b k : Nat} (ha : a < U.length) (hb : b < U.length) (hk : k < U.length) :
    (le U k a && le U k b && !decide (∃ c, c < U.length ∧ (le U c a && le U c b && !le U c k) = true)) = glb U a b k := by
  unfold glb
  rw [Bool.eq_iff_iff, Bool.and_eq_true, Bool.and_eq_true, ← decide_not, decide_eq_true_iff, decide_eq_true_iff]
  constructor
  · rintro ⟨⟨h1, h2⟩, h3⟩ c hc
    refine ⟨fun q => ⟨hO.trans c k a hc hk ha q h1, hO.trans c k b hc hk hb q h2⟩, fun ⟨q1, q2⟩ => ?_⟩
    cases e : le U c k with
    | true => rfl
    | false => exact absurd ⟨c, hc, by simp [q1, q2, e]⟩ h3
  · intro q
    obtain ⟨h1, h2⟩ := (q k hk).1 (hO.refl k hk)
    refine ⟨⟨h1, h2⟩, ?_⟩
    rintro ⟨c, hc, e⟩
    simp only [Bool.and_eq_true, Bool.not_eq_true'] at e
    rw [(q c hc).2 e.1] at e
    simp at e
theorem refMeet_eq {l : api_Lattice} {U : List Nat} (h : Is l U) (hO : Ord U) {a b : Nat} (ha : a < U.length) (hb : b < U.length) : reticentref01_Meet.f l (a : Int) (b : Int) = some (mt U a b) := by
  have hl := h.len
  unfold reticentref01_Meet.f
  have key : reticentref01_Meet.l2 l (a : Int) (b : Int) 0 = some (out (fstOf U.length fun k => if glb U a b k then some (k : Int) else none)) := by
    refine search (fun k => reticentref01_Meet.l2 l (a : Int) (b : Int) k) U.length _ ?_ ?_
    · show reticentref01_Meet.l2 l (a : Int) (b : Int) (U.length : Int) = _
      rw [reticentref01_Meet.l2, h.n, if_neg (by omega)]
    · intro k hk
      show reticentref01_Meet.l2 l (a : Int) (b : Int) (k : Int) = _
      rw [reticentref01_Meet.l2, h.n, if_pos (by omega), refFlows_eq h hk (by omega), refFlows_eq h hk (by omega), ← le_get hk, ← le_get hk, step1 (by omega) hk]
      simp only [refMeet_l3 h ha hb hk]
      rw [← glb_eq hO ha hb hk]
      generalize (!decide (∃ c, c < U.length ∧ (le U c a && le U c b && !le U c k) = true)) = P
      cases le U k a <;> cases le U k b <;> cases P <;> simp
  rw [key]
  exact fi_out
noncomputable def bad3 (U : List Nat) (a b : Nat) : Bool := decide (jn U a b < 0) || decide (mt U a b < 0)
noncomputable def chk (l : api_Lattice) (U : List Nat) : Int := if ¬ May l U then 1 else if ¬ Ord U then 2 else if ∃ a b, a < U.length ∧ b < U.length ∧ bad3 U a b = true then 3 else 0
theorem check_eq {l : api_Lattice} {U : List Nat} (h : Nm l U) : lattice_Check.f l = some (chk l U) := by
  have hl := h.len
  unfold lattice_Check.f chk
  rw [may_prog h]
  by_cases hm : May l U
  · rw [order_prog h.toIs hm.bits]
    by_cases hO : Ord U
    · unfold lattice_pairs.f
      have := pairs_eq (t := (0 : Int)) (t' := 3) (n := U.length) (yb := lattice_Check.y0 l) (bad := bad3 U) (by omega) (fun a b ha hb => by
        unfold lattice_Check.y0 bad3
        rw [join_eq h.toIs hm.bits ha hb, meet_eq h.toIs ha hb]
        by_cases h1 : jn U a b < 0 <;> by_cases h2 : mt U a b < 0 <;> simp [h1, h2])
      rw [h.n]
      simp only [Option.bind_eq_bind, Option.bind_some]
      rw [this]
      by_cases hb : ∃ a b, a < U.length ∧ b < U.length ∧ bad3 U a b = true
      · simp only [if_pos hb, hm, hO]; simp
      · simp only [if_neg hb, hm, hO]; simp
    · simp [hm, hO]
  · simp [hm]
theorem refCheck_l3 {l : api_Lattice} {U : List Nat} (h : Is l U) (hO : Ord U) {a : Nat} (ha : a < U.length) :
    reticentref01_Check.l3 l (a : Int) 0 = some (out (fstOf U.length fun b => if bad3 U a b then some (3 : Int) else none)) := by
  have hl := h.len
  refine search (fun k => reticentref01_Check.l3 l (a : Int) k) U.length _ ?_ ?_
  · show reticentref01_Check.l3 l (a : Int) (U.length : Int) = _
    rw [reticentref01_Check.l3, h.n, if_neg (by omega)]
  · intro b hb
    show reticentref01_Check.l3 l (a : Int) (b : Int) = _
    rw [reticentref01_Check.l3, h.n, if_pos (by omega), refJoin_eq h hO ha hb, refMeet_eq h hO ha hb, step1 (by omega) hb]
    unfold bad3
    by_cases h1 : jn U a b < 0 <;> by_cases h2 : mt U a b < 0 <;> simp [h1, h2]
theorem refCheck_eq {l : api_Lattice} {U : List Nat} (h : Nm l U) : reticentref01_Check.f l = some (chk l U) := by
  have hl := h.len
  unfold reticentref01_Check.f chk
  rw [may_refd h]
  by_cases hm : May l U
  · rw [order_refd h.toIs]
    by_cases hO : Ord U
    · have key : reticentref01_Check.l2 l 0 = some (out (fstOf U.length fun a => if decide (∃ b, b < U.length ∧ bad3 U a b = true) then some (3 : Int) else none)) := by
        refine search (fun k => reticentref01_Check.l2 l k) U.length _ ?_ ?_
        · show reticentref01_Check.l2 l (U.length : Int) = _
          rw [reticentref01_Check.l2, h.n, if_neg (by omega)]
        · intro a ha
          show reticentref01_Check.l2 l (a : Int) = _
          rw [reticentref01_Check.l2, h.n, if_pos (by omega), refCheck_l3 h.toIs hO ha, fst_bool, step1 (by omega) ha]
          generalize decide (∃ b, b < U.length ∧ bad3 U a b = true) = P
          cases P <;> simp [out]
      rw [key, fst_bool]
      have e : (∃ a, a < U.length ∧ decide (∃ b, b < U.length ∧ bad3 U a b = true) = true) ↔ ∃ a b, a < U.length ∧ b < U.length ∧ bad3 U a b = true := by
        constructor
        · rintro ⟨a, ha, q⟩; obtain ⟨b, hb, q⟩ := of_decide_eq_true q; exact ⟨a, b, ha, hb, q⟩
        · rintro ⟨a, b, ha, hb, q⟩; exact ⟨a, ha, decide_eq_true ⟨b, hb, q⟩⟩
      simp only [e]
      by_cases hb : ∃ a b, a < U.length ∧ b < U.length ∧ bad3 U a b = true
      · simp only [if_pos hb, decide_eq_true hb, hm, hO]; simp [out]
      · simp only [if_neg hb, decide_eq_false hb, hm, hO]; simp [out]
    · simp [hm, hO]
  · simp [hm]
end
section
open Classical
theorem inRow {α : Type} {d : Kd α} {H : FH} {cs : List Value} {xs : List α} (h : (kL d).reps H cs xs) : ∀ x ∈ xs, ∃ c, d.reps H c x := by
  obtain ⟨A, c, _, _, _, _, hs⟩ := h
  intro x hx
  rcases hs with e | ⟨b, off, cells, t, fr, _, _, hr⟩
  · rw [e] at hx; cases hx
  · obtain ⟨k, hk, e⟩ := List.getElem_of_mem hx
    exact ⟨_, hr.2 k x (by rw [List.getElem?_eq_getElem hk, e])⟩
theorem inLen {α : Type} {d : Kd α} {H : FH} {cs : List Value} {xs : List α} (h : (kL d).reps H cs xs) : xs.length ≤ big := by
  obtain ⟨A, c, _, _, _, hb, hs⟩ := h
  exact hb
theorem lat_in {l : api_Lattice} (h : ∃ H cs, (kR f_api_Lattice).reps H cs l) : (∀ x ∈ l.Up, 0 ≤ x ∧ x < 4294967296) ∧ l.Up.length ≤ big ∧ l.Names.length ≤ big := by
  obtain ⟨H, cs, c1, c2, e, h1, c3, c4, e2, h2, _⟩ := h
  have h1' : (kL kS).reps H c1 l.Names := h1
  have h2' : (kL (kI .u32)).reps H c3 l.Up := h2
  refine ⟨fun x hx => ?_, inLen h2', inLen h1'⟩
  obtain ⟨c, hc⟩ := inRow h2' x hx
  have : InR .u32 x := hc.2
  unfold InR IntKind.min IntKind.max at this
  simp [IntKind.signed, IntKind.bits] at this
  omega
theorem few_l0 {l : api_Lattice} (hm : (if 10 < (l.Names.length : Int) then (10 : Int) else (l.Names.length : Int)) = ((min 10 l.Names.length : Nat) : Int)) :
    ∀ (d k : Nat) (acc : List Str), min 10 l.Names.length = k + d → acc.length = k → (∀ s ∈ acc, s.length ≤ 15) → ∃ r, reticentlaw09_few.l0 l acc (k : Int) = some r ∧ r.length = min 10 l.Names.length ∧ ∀ s ∈ r, s.length ≤ 15
  | 0, k, acc, e, ha, hs => by
    refine ⟨acc, ?_, by omega, hs⟩
    have hlen : ((lCut l.Names 0 ((min 10 l.Names.length : Nat) : Int)).length) = min 10 l.Names.length := by rw [lCut0, List.length_take]; omega
    rw [reticentlaw09_few.l0, hm, hlen, if_neg (by omega)]
  | d + 1, k, acc, e, ha, hs => by
    have hlen : ((lCut l.Names 0 ((min 10 l.Names.length : Nat) : Int)).length) = min 10 l.Names.length := by rw [lCut0, List.length_take]; omega
    have hk : k < (lCut l.Names 0 ((min 10 l.Names.length : Nat) : Int)).length := by omega
    rw [reticentlaw09_few.l0, hm, if_pos (by omega), lAt_some hk]
    simp only [Option.bind_eq_bind, Option.bind_some]
    generalize (lCut l.Names 0 ((min 10 l.Names.length : Nat) : Int))[k] = s
    have hm2 : (if 15 < (s.length : Int) then (15 : Int) else (s.length : Int)) = ((min 15 s.length : Nat) : Int) := by split <;> omega
    rw [hm2, if_pos ⟨by omega, by omega⟩, if_pos (by unfold big; simp; omega), wrap64 (by omega) (by omega)]
    have := few_l0 hm d (k + 1) (acc ++ [sCut s 0 ((min 15 s.length : Nat) : Int)]) (by omega) (by simp [ha]) (by
      intro t ht
      rw [List.mem_append] at ht
      rcases ht with ht | ht
      · exact hs t ht
      · simp at ht; subst ht
        simp [sCut]; omega)
    rw [show ((k : Int) + 1) = ((k + 1 : Nat) : Int) by omega]
    exact this
theorem few_eq {l : api_Lattice} (h : ∃ H cs, (kR f_api_Lattice).reps H cs l) : ∃ l' U, reticentlaw09_few.f l = some l' ∧ Nm l' U := by
  obtain ⟨h1, h2, h3⟩ := lat_in h
  have hu : (if 10 < (l.Up.length : Int) then (10 : Int) else (l.Up.length : Int)) = ((min 10 l.Up.length : Nat) : Int) := by split <;> omega
  have hm : (if 10 < (l.Names.length : Int) then (10 : Int) else (l.Names.length : Int)) = ((min 10 l.Names.length : Nat) : Int) := by split <;> omega
  obtain ⟨r, hr, hl, hs⟩ := few_l0 hm (min 10 l.Names.length) 0 [] (by omega) rfl (fun s hs => by cases hs)
  refine ⟨⟨r, lCut l.Up 0 ((min 10 l.Up.length : Nat) : Int)⟩, (l.Up.take 10).map Int.toNat, ?_, ⟨⟨?_, ?_, ?_⟩, ?_, fun s h => Nat.le_trans (hs s h) (by omega)⟩⟩
  · unfold reticentlaw09_few.f
    rw [show ((0 : Nat) : Int) = 0 from rfl] at hr
    rw [hu, hm, if_pos ⟨by omega, by omega⟩, if_pos ⟨by omega, by omega⟩, hr]
    rfl
  · show lCut l.Up 0 ((min 10 l.Up.length : Nat) : Int) = _
    rw [lCut0, List.map_map]
    have : l.Up.take (min 10 l.Up.length) = l.Up.take 10 := by
      rcases Nat.le_total 10 l.Up.length with q | q
      · rw [Nat.min_eq_left q]
      · rw [Nat.min_eq_right q, List.take_of_length_le (Nat.le_refl _), List.take_of_length_le q]
    rw [this]
    have e2 : (l.Up.take 10).map ((fun x : Nat => (x : Int)) ∘ Int.toNat) = (l.Up.take 10).map id := List.map_congr_left (fun x hx => by
      have := h1 x (List.mem_of_mem_take hx)
      simp; omega)
    rw [e2, List.map_id]
  · intro x hx
    rw [List.mem_map] at hx
    obtain ⟨y, hy, e⟩ := hx
    have := h1 y (List.mem_of_mem_take hy)
    omega
  · simp; omega
  · show r.length ≤ 10
    omega
section
variable {l : api_Lattice} {U : List Nat}
noncomputable def er (l : api_Lattice) (U : List Nat) (ok : Bool) : Int := if chk l U = 0 then (if ok then 0 else 9) else chk l U
end
end
section
theorem wrapZ {x : Int} (h0 : -9223372036854775808 ≤ x) (h1 : x < 9223372036854775808) : IntKind.i64.wrap x = x := by
  show (if (true && decide (x % 18446744073709551616 ≥ 9223372036854775808)) = true then x % 18446744073709551616 - 18446744073709551616 else x % 18446744073709551616) = x
  simp only [Bool.true_and, decide_eq_true_eq]
  split <;> omega
theorem wS {n : Nat} (h : n ≤ 100000) : IntKind.i64.wrap ((n : Int) + 1) = ((n + 1 : Nat) : Int) := by rw [wrapZ (by omega) (by omega)]; rfl
end
section
def code (b : Bool) : Int := if b then 2 else 1
end
section
inductive Tr where
  | lf (op : Int)
  | nd (op : Int) (x y : Tr)
def Tr.op : Tr → Int
  | .lf op => op
  | .nd op _ _ => op
end
section
theorem bsome {α β : Type} (a : α) (f : α → Option β) : (some a >>= f) = f a := rfl
def cnt (p : Int → Bool) (s : Str) : Nat := (s.takeWhile fun b => p (b.toNat : Int)).length
theorem cnt_le (p : Int → Bool) (s : Str) : cnt p s ≤ s.length := by
  unfold cnt
  induction s with
  | nil => simp
  | cons a r ih =>
    rw [List.takeWhile_cons]
    split <;> simp
    exact ih
theorem sAt_get {s : Str} {k : Nat} (h : k < s.length) : sAt s (k : Int) = (s[k].toNat : Int) := by
  unfold sAt
  simp [h]
theorem while_l0 {p : Int → Bool} {g : Int → Option Bool} (hg : ∀ x, g x = some (p x)) {s : Str} (hs : s.length ≤ 3000) : ∀ (d k : Nat), s.length = k + d → lex_while.l0 s g (k : Int) = some ((k + cnt p (s.drop k) : Nat) : Int)
  | 0, k, e => by
    rw [lex_while.l0, if_neg (by omega), bsome, List.drop_of_length_le (by omega)]
    simp [cnt]
  | d + 1, k, e => by
    have hk : k < s.length := by omega
    have ih := while_l0 hg hs d (k + 1) (by omega)
    rw [lex_while.l0, if_pos (by omega), if_pos ⟨by omega, by omega⟩, hg, bsome, bsome, wS (by omega), sAt_get hk, List.drop_eq_getElem_cons hk]
    unfold cnt
    rw [List.takeWhile_cons]
    cases hp : p (s[k].toNat : Int) with
    | true =>
      rw [if_pos rfl, ih, if_pos rfl]
      unfold cnt
      congr 2
      simp
      omega
    | false => simp
theorem while_eq {p : Int → Bool} {g : Int → Option Bool} (hg : ∀ x, g x = some (p x)) {s : Str} (hs : s.length ≤ 3000) : lex_while.f s g = some (cnt p s : Int) := by
  unfold lex_while.f
  have := while_l0 hg hs s.length 0 (by omega)
  rw [show ((0 : Nat) : Int) = 0 from rfl, List.drop_zero, Nat.zero_add] at this
  rw [this, bsome]
def letP (c : Int) : Bool := decide (c ≥ 97) && decide (c ≤ 122)
def digP (c : Int) : Bool := decide (c ≥ 48) && decide (c ≤ 57)
def remP (c : Int) : Bool := !decide (c = 10)
theorem letter_eq (c : Int) : lex_letter.f c = some (letP c) := by
  unfold lex_letter.f letP
  by_cases h : c ≥ 97 <;> simp [h]
theorem digit_eq (c : Int) : lex_digit.f c = some (digP c) := by
  unfold lex_digit.f digP
  by_cases h : c ≥ 48 <;> simp [h]
theorem prefix_eq (s t : Str) : strings_HasPrefix.f s t = some (decide (s.take t.length = t)) := by
  unfold strings_HasPrefix.f stringslite_HasPrefix.f
  by_cases h : (s.length : Int) ≥ (t.length : Int)
  · rw [if_pos h, if_pos ⟨by omega, by omega⟩, bsome, bsome]
    simp [sCut]
  · rw [if_neg h, bsome, bsome, decide_eq_false]
    intro q
    have := congrArg List.length q
    simp at this
    omega
def marks : Str := [40, 41, 91, 93, 59, 58, 44, 60, 62, 64, 45, 61]
def tokX (x : Int) (c : UInt8) (r : Str) : Int × Nat :=
  if x = 32 ∨ x = 9 ∨ x = 10 then (0, 1) else if x = 35 then (0, cnt remP (c :: r)) else if letP x then (1, cnt letP (c :: r)) else if digP x then (2, cnt digP (c :: r))
  else if (c :: r).take 2 = [60, 61] then (3, 2) else if Lib.indexByte marks c ≥ 0 then (3, 1) else (0, 0)
def tokS : Str → Int × Nat
  | [] => (0, 0)
  | c :: r => tokX (c.toNat : Int) c r
theorem token_eq {c : UInt8} {r : Str} (hs : (c :: r).length ≤ 3000) : lex_token.f (c :: r) = some ((tokS (c :: r)).1, ((tokS (c :: r)).2 : Int)) := by
  unfold lex_token.f tokS
  have h0 : sAt (c :: r) 0 = (c.toNat : Int) := by simp [sAt]
  rw [if_pos ⟨by decide, by simp⟩, h0]
  have hc : ((c.toNat : Int).toNat).toUInt8 = c := by simp
  have hw1 := while_eq (g := lex_token_1.f) (p := remP) (fun x => rfl) hs
  have hw2 := while_eq (g := lex_letter.f) (p := letP) letter_eq hs
  have hw3 := while_eq (g := lex_digit.f) (p := digP) digit_eq hs
  rw [hw1, hw2, hw3, letter_eq, digit_eq, prefix_eq]
  unfold lib_IndexByte
  rw [hc]
  simp only [bsome, List.length_cons, List.length_nil]
  generalize (c.toNat : Int) = x
  unfold tokX
  by_cases h1 : x = 32
  · simp [h1]
  · by_cases h2 : x = 9
    · simp [h2]
    · by_cases h3 : x = 10
      · simp [h3]
      · by_cases h4 : x = 35
        · simp [h4]
        · cases h5 : letP x with
          | true => simp [h1, h2, h3, h4]
          | false =>
            cases h6 : digP x with
            | true => simp [h1, h2, h3, h4]
            | false =>
              by_cases h7 : (c :: r).take 2 = [60, 61]
              · have h7' : (c :: r).take (0 + 1 + 1) = [60, 61] := h7
                simp only [h1, h2, h3, h4, h7, h7', if_false, if_true, or_self, decide_false, decide_true, Bool.false_eq_true]
                rfl
              · have h7' : ¬ (c :: r).take (0 + 1 + 1) = [60, 61] := h7
                by_cases h8 : Lib.indexByte marks c ≥ 0
                · have h8' : Lib.indexByte [40, 41, 91, 93, 59, 58, 44, 60, 62, 64, 45, 61] c ≥ 0 := h8
                  simp only [h1, h2, h3, h4, h7, h7', h8, h8', if_false, if_true, or_self, decide_false, Bool.false_eq_true]
                  rfl
                · have h8' : ¬ Lib.indexByte [40, 41, 91, 93, 59, 58, 44, 60, 62, 64, 45, 61] c ≥ 0 := h8
                  simp only [h1, h2, h3, h4, h7, h7', h8, h8', if_false, or_self, decide_false, Bool.false_eq_true]
                  rfl
theorem tok_le : ∀ {s : Str}, s ≠ [] → (tokS s).2 ≤ s.length
  | [], h => absurd rfl h
  | c :: r, _ => by
    show (tokX (c.toNat : Int) c r).2 ≤ _
    unfold tokX
    split
    · simp
    · split
      · exact cnt_le ..
      · split
        · exact cnt_le ..
        · split
          · exact cnt_le ..
          · split
            · rename_i h
              have := congrArg List.length h
              simp at this ⊢
              omega
            · split
              · simp
              · simp
theorem lex_step {s : Str} (hs : s.length ≤ 2500) {L : List api_Tok} (hL : L.length ≤ 2500) {k : Nat} (hk : k < s.length) :
    lex_Lex.l0 s L (k : Int) = (if (tokS (s.drop k)).2 = 0 then some (.inl ([], (k : Int), 4)) else if (tokS (s.drop k)).1 = 0 then lex_Lex.l0 s L ((k + (tokS (s.drop k)).2 : Nat) : Int)
      else lex_Lex.l0 s (L ++ [⟨(tokS (s.drop k)).1, (s.drop k).take (tokS (s.drop k)).2, (k : Int)⟩]) ((k + (tokS (s.drop k)).2 : Nat) : Int)) := by
  have hne : s.drop k ≠ [] := by
    intro h
    have := congrArg List.length h
    simp at this; omega
  have hle := tok_le hne
  have hd : (s.drop k).length = s.length - k := List.length_drop ..
  have hcut : sCut s (k : Int) (s.length : Int) = s.drop k := by
    unfold sCut
    rw [List.take_of_length_le (by simp)]; simp
  have htok : lex_token.f (s.drop k) = some ((tokS (s.drop k)).1, ((tokS (s.drop k)).2 : Int)) := by
    match h : s.drop k with
    | [] => exact absurd h hne
    | c :: r => exact token_eq (by rw [← h]; omega)
  rw [lex_Lex.l0, if_pos (by omega), if_pos ⟨by omega, by omega⟩, hcut, htok, bsome]
  generalize hT : tokS (s.drop k) = T at *
  obtain ⟨kd, n⟩ := T
  simp only at hle ⊢
  have hw : IntKind.i64.wrap ((k : Int) + (n : Int)) = ((k + n : Nat) : Int) := by rw [wrapZ (by omega) (by omega)]; omega
  rw [hw]
  by_cases h0 : n = 0
  · subst h0
    rfl
  · have h0' : ¬ ((n : Int) = 0) := by omega
    rw [if_neg h0', if_neg h0]
    by_cases h1 : kd = 0
    · rw [if_pos h1, if_pos h1, bsome]
    · have hB : 1000000 ≤ big := by decide
      have hc2 : sCut s (k : Int) ((k + n : Nat) : Int) = (s.drop k).take n := by
        unfold sCut
        have : ((k + n : Nat) : Int).toNat - (k : Int).toNat = n := by omega
        rw [this]; simp
      rw [if_neg h1, if_neg h1, if_pos ⟨by omega, by omega, by omega⟩, if_pos (by simp; omega), bsome, hc2]
end
section
theorem rletter_eq (c : Int) : reticentref03_letter.f c = some (letP c) := by
  unfold reticentref03_letter.f letP
  by_cases h : c ≥ 97 <;> simp [h]
theorem rdigit_eq (c : Int) : reticentref03_digit.f c = some (digP c) := by
  unfold reticentref03_digit.f digP
  by_cases h : c ≥ 48 <;> simp [h]
theorem rkind_eq (c : Int) : reticentref03_kind.f c = some (if letP c = true then 1 else if digP c = true then 2 else 3) := by
  unfold reticentref03_kind.f
  rw [rletter_eq, rdigit_eq, bsome]
  cases letP c <;> cases digP c <;> rfl
theorem rmark_all : ((List.range 256).all fun n => reticentref03_mark.f_g 20 (n : Int) == some (decide (Lib.indexByte marks n.toUInt8 ≥ 0))) = true := by kernel_rfl
theorem rmark_eq (c : UInt8) : reticentref03_mark.f (c.toNat : Int) = some (decide (Lib.indexByte marks c ≥ 0)) := by
  have h := List.all_eq_true.1 rmark_all c.toNat (List.mem_range.2 c.toNat_lt)
  have h' := eq_of_beq h
  rw [show (c.toNat).toUInt8 = c by simp] at h'
  exact reticentref03_mark.f_le 20 _ _ h'
theorem scan {p : Int → Bool} {L : Int → Option Int} {s : Str} (hs : s.length ≤ 3000) (hend : L (s.length : Int) = some (s.length : Int))
    (hgo : ∀ k, k < s.length → L (k : Int) = if p (sAt s (k : Int)) = true then L ((k + 1 : Nat) : Int) else some (k : Int)) : ∀ (d k : Nat), s.length = k + d → L (k : Int) = some ((k + cnt p (s.drop k) : Nat) : Int)
  | 0, k, e => by
    obtain rfl : k = s.length := by omega
    rw [hend, List.drop_of_length_le (by omega)]; simp [cnt]
  | d + 1, k, e => by
    have hk : k < s.length := by omega
    rw [hgo k hk, scan hs hend hgo d (k + 1) (by omega), sAt_get hk, List.drop_eq_getElem_cons hk]
    unfold cnt
    rw [List.takeWhile_cons]
    cases hp : p (s[k].toNat : Int) with
    | true => simp; omega
    | false => simp
theorem rend0 {s : Str} (hs : s.length ≤ 3000) {k : Nat} (hk : k ≤ s.length) : reticentref03_end.l0 s (k : Int) = some ((k + cnt letP (s.drop k) : Nat) : Int) :=
  scan (L := fun k => reticentref03_end.l0 s k) hs (by show reticentref03_end.l0 s _ = _; rw [reticentref03_end.l0, if_neg (by omega)]; rfl)
    (fun k hk => by show reticentref03_end.l0 s _ = _; rw [reticentref03_end.l0, if_pos (by omega), if_pos ⟨by omega, by omega⟩, rletter_eq, bsome, bsome, wS (by omega)]) (s.length - k) k (by omega)
theorem rend1 {s : Str} (hs : s.length ≤ 3000) {k : Nat} (hk : k ≤ s.length) : reticentref03_end.l1 s (k : Int) = some ((k + cnt digP (s.drop k) : Nat) : Int) :=
  scan (L := fun k => reticentref03_end.l1 s k) hs (by show reticentref03_end.l1 s _ = _; rw [reticentref03_end.l1, if_neg (by omega)]; rfl)
    (fun k hk => by show reticentref03_end.l1 s _ = _; rw [reticentref03_end.l1, if_pos (by omega), if_pos ⟨by omega, by omega⟩, rdigit_eq, bsome, bsome, wS (by omega)]) (s.length - k) k (by omega)
theorem rlex6 {s : Str} (hs : s.length ≤ 3000) {k : Nat} (hk : k ≤ s.length) : reticentref03_Lex.l6 s (k : Int) = some ((k + cnt remP (s.drop k) : Nat) : Int) :=
  scan (L := fun k => reticentref03_Lex.l6 s k) hs (by show reticentref03_Lex.l6 s _ = _; rw [reticentref03_Lex.l6, if_neg (by omega)]; rfl)
    (fun k hk => by show reticentref03_Lex.l6 s _ = _; rw [reticentref03_Lex.l6, if_pos (by omega), if_pos ⟨by omega, by omega⟩, bsome, wS (by omega)]; rfl) (s.length - k) k (by omega)
def endN (c : UInt8) (r : Str) : Nat := if letP c.toNat = true then cnt letP (c :: r) else if digP c.toNat = true then cnt digP (c :: r) else if (c :: r).take 2 = [60, 61] then 2 else if Lib.indexByte marks c ≥ 0 then 1 else 0
theorem toNat60 {c : UInt8} {n : Nat} (hn : n < 256) : ((c.toNat : Int) = (n : Int)) ↔ c = n.toUInt8 := by
  constructor
  · intro h
    have : c.toNat = n := by omega
    rw [← this]; simp
  · rintro rfl
    simp [Nat.mod_eq_of_lt hn]
theorem ff : ¬ (false = true) := by decide
theorem tt : true = true := rfl
theorem rend_eq {s : Str} (hs : s.length ≤ 2500) {k : Nat} {c : UInt8} {r : Str} (e : s.drop k = c :: r) : reticentref03_end.f s (k : Int) = some ((k + endN c r : Nat) : Int) := by
  have hk : k < s.length := by
    rcases Nat.lt_or_ge k s.length with h | h
    · exact h
    · rw [List.drop_of_length_le h] at e; cases e
  have e' := List.drop_eq_getElem_cons hk
  rw [e] at e'
  have hc : c = s[k] := (List.cons.inj e').1
  have hr : r = s.drop (k + 1) := (List.cons.inj e').2
  have hx : sAt s (k : Int) = (c.toNat : Int) := by rw [sAt_get hk, hc]
  have hg : (0 : Int) ≤ (k : Int) ∧ (k : Int) < (s.length : Int) := ⟨by omega, by omega⟩
  unfold reticentref03_end.f
  rw [if_pos hg, hx, rletter_eq, bsome, rend0 (by omega) (by omega), e, bsome, if_pos hg, rdigit_eq, bsome, rend1 (by omega) (by omega), e, bsome]
  unfold endN
  cases h1 : letP (c.toNat : Int) with
  | true => rw [if_pos tt, if_pos tt]
  | false =>
    rw [if_neg ff, if_neg ff]
    cases h2 : digP (c.toNat : Int) with
    | true => rw [if_pos tt, if_pos tt]
    | false =>
      rw [if_neg ff, if_neg ff, if_pos hg, if_pos hg, rmark_eq, bsome, wS (by omega)]
      have h60 : ((c.toNat : Int) = 60) ↔ c = 60 := toNat60 (n := 60) (by decide)
      have key : ((if (c.toNat : Int) = 60 then (if ((k + 1 : Nat) : Int) < (s.length : Int) then (if (0 : Int) ≤ ((k + 1 : Nat) : Int) ∧ ((k + 1 : Nat) : Int) < (s.length : Int) then (some (decide (sAt s ((k + 1 : Nat) : Int) = 61))) else none) else (some false)) else (some false) : Option Bool)) = some (decide ((c :: r).take 2 = [60, 61])) := by
        by_cases q : c = 60
        · rw [if_pos (h60.2 q)]
          by_cases q2 : k + 1 < s.length
          · have er := List.drop_eq_getElem_cons q2
            rw [← hr] at er
            rw [if_pos (by omega), if_pos ⟨by omega, by omega⟩, sAt_get q2, er, q]
            have h61 : ((s[k + 1].toNat : Int) = 61) ↔ s[k + 1] = 61 := toNat60 (n := 61) (by decide)
            congr 1
            by_cases z : s[k + 1] = 61
            · rw [decide_eq_true (h61.2 z), z]; simp
            · rw [decide_eq_false (fun w => z (h61.1 w)), decide_eq_false]
              intro w
              rw [List.take_succ_cons, List.take_succ_cons] at w
              exact z (by simpa using w)
          · have er : r = [] := by rw [hr, List.drop_of_length_le (by omega)]
            rw [if_neg (by omega), er, decide_eq_false (by simp)]
        · rw [if_neg (fun w => q (h60.1 w)), decide_eq_false]
          intro w
          simp at w
          exact q w.1
      rw [key, bsome]
      by_cases q : (c :: r).take 2 = [60, 61]
      · rw [decide_eq_true q, if_pos tt, if_pos q, wrapZ (by omega) (by omega)]; rfl
      · rw [decide_eq_false q, if_neg ff, if_neg q]
        by_cases q2 : Lib.indexByte marks c ≥ 0
        · rw [decide_eq_true q2, if_pos tt, if_pos q2]
        · rw [decide_eq_false q2, if_neg ff, if_neg q2]; rfl
theorem cnt_pos {p : Int → Bool} {c : UInt8} {r : Str} (h : p (c.toNat : Int) = true) : 0 < cnt p (c :: r) := by
  unfold cnt; rw [List.takeWhile_cons, if_pos h]; simp
theorem rlex_step {s : Str} (hs : s.length ≤ 2500) {L : List api_Tok} (hL : L.length ≤ 2500) {k : Nat} (hk : k < s.length) :
    reticentref03_Lex.l4 s L (k : Int) = (if (tokS (s.drop k)).2 = 0 then some (.inl ⟨[], (k : Int), 4⟩) else if (tokS (s.drop k)).1 = 0 then reticentref03_Lex.l4 s L ((k + (tokS (s.drop k)).2 : Nat) : Int)
      else reticentref03_Lex.l4 s (L ++ [⟨(tokS (s.drop k)).1, (s.drop k).take (tokS (s.drop k)).2, (k : Int)⟩]) ((k + (tokS (s.drop k)).2 : Nat) : Int)) := by
  have hne : s.drop k ≠ [] := by
    intro h
    have := congrArg List.length h
    simp at this; omega
  have hle := tok_le hne
  have hd : (s.drop k).length = s.length - k := List.length_drop ..
  obtain ⟨c, r, e⟩ : ∃ c r, s.drop k = c :: r := by
    match h : s.drop k with
    | [] => exact absurd h hne
    | c :: r => exact ⟨c, r, rfl⟩
  have e' := List.drop_eq_getElem_cons hk
  rw [e] at e'
  have hx : sAt s (k : Int) = (c.toNat : Int) := by rw [sAt_get hk, (List.cons.inj e').1]
  have hg : (0 : Int) ≤ (k : Int) ∧ (k : Int) < (s.length : Int) := ⟨by omega, by omega⟩
  have hB : 1000000 ≤ big := by decide
  have e6 := rlex6 (s := s) (by omega) (k := k) (by omega)
  have ee := rend_eq hs e
  rw [e] at e6 hle hd ⊢
  rw [reticentref03_Lex.l4, if_pos (show (k : Int) < (s.length : Int) by omega)]
  simp only [if_pos hg]
  rw [hx, e6, ee, bsome, bsome, rkind_eq, bsome]
  have hT : tokS (c :: r) = tokX (c.toNat : Int) c r := rfl
  rw [hT] at hle ⊢
  have hn : endN c r ≤ (c :: r).length := by
    unfold endN
    split
    · exact cnt_le ..
    · split
      · exact cnt_le ..
      · split
        · rename_i h
          have := congrArg List.length h
          simp at this ⊢
          omega
        · split <;> simp
  have hcut : sCut s (k : Int) ((k + endN c r : Nat) : Int) = (c :: r).take (endN c r) := by
    unfold sCut
    rw [Int.toNat_natCast, Int.toNat_natCast, ← e, Nat.add_sub_cancel_left]
  have hg2 : (0 : Int) ≤ (k : Int) ∧ (k : Int) ≤ ((k + endN c r : Nat) : Int) ∧ ((k + endN c r : Nat) : Int) ≤ (s.length : Int) := ⟨by omega, by omega, by omega⟩
  have hg3 : ∀ t : api_Tok, (L.length + ([t] : List api_Tok).length) * 32 ≤ big := by intro t; simp; omega
  rw [hcut, if_pos hg2, if_pos (hg3 _)]
  generalize hxx : (c.toNat : Int) = x at *
  unfold tokX
  have hw1 : IntKind.i64.wrap ((k : Int) + 1) = ((k + 1 : Nat) : Int) := wS (by omega)
  rw [hw1]
  by_cases h1 : x = 9
  · subst h1; simp
  · by_cases h2 : x = 10
    · subst h2; simp
    · by_cases h3 : x = 32
      · subst h3; simp
      · rw [if_neg h1, if_neg h2, decide_eq_false h3, bsome, if_neg (by decide), if_neg (show ¬ (x = 32 ∨ x = 9 ∨ x = 10) by omega)]
        by_cases h4 : x = 35
        · have hp : 0 < cnt remP (c :: r) := cnt_pos (by rw [hxx]; unfold remP; simp; omega)
          rw [if_pos h4, if_pos h4, bsome]
          simp only []
          rw [if_neg (by omega), if_pos trivial]
        · rw [if_neg h4, if_neg h4]
          unfold endN at hn hg2 ⊢
          rw [hxx] at hn hg2 ⊢
          cases h5 : letP x with
          | true =>
            have hp : 0 < cnt letP (c :: r) := cnt_pos (by rw [hxx]; exact h5)
            simp only [h5, if_true] at hn hg2 ⊢
            rw [if_neg (by omega), if_neg (by omega), if_neg (by decide), bsome]
          | false =>
            cases h6 : digP x with
            | true =>
              have hp : 0 < cnt digP (c :: r) := cnt_pos (by rw [hxx]; exact h6)
              simp only [h5, h6, if_true, if_false, Bool.false_eq_true] at hn hg2 ⊢
              rw [if_neg (by omega), if_neg (by omega), if_neg (by decide), bsome]
            | false =>
              simp only [h5, h6, if_false, Bool.false_eq_true] at hn hg2 ⊢
              by_cases h7 : (c :: r).take 2 = [60, 61]
              · simp only [h7, if_true] at hn hg2 ⊢
                rw [if_neg (by omega), if_neg (by decide), if_neg (by decide), bsome]
              · by_cases h8 : Lib.indexByte marks c ≥ 0
                · simp only [h7, h8, if_true, if_false] at hn hg2 ⊢
                  rw [if_neg (by omega), if_neg (by decide), if_neg (by decide), bsome]
                · simp only [h7, h8, if_false] at hn hg2 ⊢
                  rw [if_pos (by omega), if_pos trivial, bsome]
theorem lex_pair {s : Str} (hs : s.length ≤ 2000) : ∀ (d k : Nat) (L : List api_Tok), s.length - k ≤ d → k ≤ s.length → L.length ≤ k →
    (∃ q, lex_Lex.l0 s L (k : Int) = some (.inl ([], q, 4)) ∧ reticentref03_Lex.l4 s L (k : Int) = some (.inl ⟨[], q, 4⟩)) ∨ ∃ L', lex_Lex.l0 s L (k : Int) = some (.inr L') ∧ reticentref03_Lex.l4 s L (k : Int) = some (.inr L') ∧ L'.length ≤ s.length
  | 0, k, L, hd, hk, hL => by
    refine .inr ⟨L, by rw [lex_Lex.l0, if_neg (by omega)], by rw [reticentref03_Lex.l4, if_neg (by omega)], by omega⟩
  | d + 1, k, L, hd, hk, hL => by
    rcases Nat.lt_or_ge k s.length with hlt | hge
    · rw [lex_step (by omega) (by omega) hlt, rlex_step (by omega) (by omega) hlt]
      have hne : s.drop k ≠ [] := by
        intro h
        have := congrArg List.length h
        simp at this; omega
      have hle := tok_le hne
      rw [List.length_drop] at hle
      generalize hT : tokS (s.drop k) = T at *
      obtain ⟨kd, n⟩ := T
      simp only at hle ⊢
      by_cases h0 : n = 0
      · rw [if_pos h0, if_pos h0]; exact .inl ⟨_, rfl, rfl⟩
      · rw [if_neg h0, if_neg h0]
        by_cases h1 : kd = 0
        · rw [if_pos h1, if_pos h1]
          exact lex_pair hs d (k + n) L (by omega) (by omega) (by omega)
        · rw [if_neg h1, if_neg h1]
          exact lex_pair hs d (k + n) _ (by omega) (by omega) (by simp; omega)
    · exact .inr ⟨L, by rw [lex_Lex.l0, if_neg (by omega)], by rw [reticentref03_Lex.l4, if_neg (by omega)], by omega⟩
theorem lex_both {s : Str} : ∃ r j e, lex_Lex.f s = some (r, j, e) ∧ reticentref03_Lex.f s = some ⟨r, j, e⟩ ∧ (e = 0 → ∃ L, r = L ++ [⟨0, [], (s.length : Int)⟩] ∧ r.length ≤ 200) := by
  unfold lex_Lex.f reticentref03_Lex.f
  by_cases h : (s.length : Int) > 2000
  · rw [if_pos h, if_pos h]
    exact ⟨_, _, _, rfl, rfl, fun h => by cases h⟩
  · rw [if_neg h, if_neg h]
    have hB : 1000000 ≤ big := by decide
    rcases lex_pair (s := s) (by omega) s.length 0 [] (by omega) (by omega) (by simp) with ⟨q, e1, e2⟩ | ⟨L, e1, e2, hl⟩
    · rw [show ((0 : Nat) : Int) = 0 from rfl] at e1 e2
      rw [e1, e2, bsome, bsome]
      exact ⟨_, _, _, rfl, rfl, fun h => by cases h⟩
    · rw [show ((0 : Nat) : Int) = 0 from rfl] at e1 e2
      rw [e1, e2, bsome, bsome]
      dsimp only
      have hb : (L.length + ([(⟨0, [], (s.length : Int)⟩ : api_Tok)] : List api_Tok).length) * 32 ≤ big := by simp; omega
      rw [if_pos hb, if_pos hb]
      by_cases q : ((L ++ [(⟨0, [], (s.length : Int)⟩ : api_Tok)]).length : Int) > 200
      · rw [if_pos q, if_pos q]
        exact ⟨_, _, _, rfl, rfl, fun h => by cases h⟩
      · rw [if_neg q, if_neg q]
        exact ⟨_, _, _, rfl, rfl, fun _ => ⟨L, rfl, by omega⟩⟩
end
section
theorem wrap_in (x : Int) : -9223372036854775808 ≤ IntKind.i64.wrap x ∧ IntKind.i64.wrap x < 9223372036854775808 := by
  show -9223372036854775808 ≤ (if (true && decide (x % 18446744073709551616 ≥ 9223372036854775808)) = true then x % 18446744073709551616 - 18446744073709551616 else x % 18446744073709551616) ∧ (if (true && decide (x % 18446744073709551616 ≥ 9223372036854775808)) = true then x % 18446744073709551616 - 18446744073709551616 else x % 18446744073709551616) < 9223372036854775808
  have h1 := Int.emod_nonneg x (show (18446744073709551616 : Int) ≠ 0 by decide)
  have h2 := Int.emod_lt_of_pos x (show (0 : Int) < 18446744073709551616 by decide)
  split
  · rename_i h
    simp at h
    omega
  · rename_i h
    simp at h
    omega
structure Tk (T : List api_Tok) : Prop where
  len : T.length ≤ 1000
  pos : 0 < T.length
  next : ∀ (i : Nat) (h : i < T.length), T[i].Kind ≠ 0 → i + 1 < T.length
section
variable {T : List api_Tok} (hT : Tk T) {l : api_Lattice}
include hT
theorem tok_p {i : Nat} (hi : i < T.length) {e : Int} : code_reader_tok.f ⟨l, T, (i : Int), e⟩ = some (⟨l, T, (i : Int), e⟩, T[i]) := by
  unfold code_reader_tok.f
  rw [lAt_some hi]; rfl
theorem fail_p {i : Int} {e : Int} : code_reader_fail.f ⟨l, T, i, 0⟩ e = some ⟨l, T, i, e⟩ := rfl
def mkS (T : List api_Tok) (s : Str) (i : Nat) (e : Int) : Nat × Int := if e = 0 then (if (T.getD i ⟨0, [], 0⟩).Kind = 3 ∧ (T.getD i ⟨0, [], 0⟩).Text = s then (i + 1, 0) else (i, 4)) else (i, e)
theorem get_at {i : Nat} (hi : i < T.length) : T.getD i ⟨0, [], 0⟩ = T[i] := by simp [hi]
theorem mark_p {i : Nat} (hi : i < T.length) {e : Int} {s : Str} : code_reader_mark.f ⟨l, T, (i : Int), e⟩ s = some ⟨l, T, ((mkS T s i e).1 : Int), (mkS T s i e).2⟩ := by
  have hl := hT.len
  unfold code_reader_mark.f
  rw [tok_p hT hi, bsome]
  unfold mkS
  rw [get_at hT hi]
  by_cases he : e = 0
  · subst he
    by_cases h1 : T[i].Kind = 3
    · by_cases h2 : T[i].Text = s
      · simp [h1, h2, bsome, wS (show i ≤ 100000 by omega)]
      · simp [h1, h2, fail_p hT]
    · simp [h1, fail_p hT]
  · simp [he]
theorem mark_r {i : Nat} (hi : i < T.length) {e n : Int} {x : api_Instr} {s : Str} : reticentref08_Mark.f T ⟨(i : Int), n, x, e⟩ s = some ⟨((mkS T s i e).1 : Int), n, x, (mkS T s i e).2⟩ := by
  have hl := hT.len
  unfold reticentref08_Mark.f
  rw [lAt_some hi]
  unfold mkS
  rw [get_at hT hi]
  by_cases he : e = 0
  · subst he
    by_cases h1 : T[i].Kind = 3
    · by_cases h2 : T[i].Text = s
      · simp [h1, h2, wS (show i ≤ 100000 by omega)]
      · simp [h1, h2]
    · simp [h1]
  · simp [he]
theorem mkS_lt {i : Nat} (hi : i < T.length) {e : Int} {s : Str} : (mkS T s i e).1 < T.length := by
  unfold mkS
  rw [get_at hT hi]
  split
  · split
    · rename_i h; exact hT.next i hi (by omega)
    · exact hi
  · exact hi
end
theorem mkS_bad {T : List api_Tok} {s : Str} {i : Nat} {e : Int} (h : e ≠ 0) : mkS T s i e = (i, e) := by unfold mkS; rw [if_neg h]
theorem and15 : ((List.range 256).all fun n => bAnd .u8 (n : Int) 15 == (n : Int).tmod 16) = true := by decide +kernel
theorem byte15 (c : UInt8) : bAnd .u8 (c.toNat : Int) 15 = (c.toNat : Int).tmod 16 := eq_of_beq (List.all_eq_true.1 and15 c.toNat (List.mem_range.2 c.toNat_lt))
theorem digits {y y' : api_Tok} {r : code_reader} (ht : y.Text = y'.Text) (hs : y.Text.length ≤ 4) : ∀ (d k : Nat) (a : Int), y.Text.length = k + d → (-9223372036854775808 ≤ a ∧ a < 9223372036854775808) →
    ∃ v, code_reader_number.l0 (r, y) (k : Int) a = some v ∧ code_reader_number.l1 (r, y) (k : Int) a = some v ∧ reticentref08_Int.l0 y' a (k : Int) = some v ∧ reticentref08_Int.l1 y' a (k : Int) = some v ∧ -9223372036854775808 ≤ v ∧ v < 9223372036854775808
  | 0, k, a, e, ha => by
    refine ⟨a, ?_, ?_, ?_, ?_, ha⟩
    · rw [code_reader_number.l0, if_neg (show ¬ (k : Int) < (y.Text.length : Int) by omega)]
    · rw [code_reader_number.l1, if_neg (show ¬ (k : Int) < (y.Text.length : Int) by omega)]
    · rw [reticentref08_Int.l0, if_neg (by rw [← ht]; omega)]
    · rw [reticentref08_Int.l1, if_neg (by rw [← ht]; omega)]
  | d + 1, k, a, e, ha => by
    have hk : k < y.Text.length := by omega
    obtain ⟨v, h1, h2, h3, h4, h5⟩ := digits ht hs d (k + 1) (IntKind.i64.wrap ((IntKind.i64.wrap (10 * a)) + (IntKind.i64.wrap ((sAt y.Text (k : Int)).tmod 16)))) (by omega) (wrap_in _)
    have hb : bAnd .u8 (sAt y.Text (k : Int)) 15 = (sAt y.Text (k : Int)).tmod 16 := by rw [sAt_get hk]; exact byte15 _
    refine ⟨v, ?_, ?_, ?_, ?_, h5⟩
    · rw [code_reader_number.l0, if_pos (show (k : Int) < (y.Text.length : Int) by omega), if_pos (show (0 : Int) ≤ (k : Int) ∧ (k : Int) < (y.Text.length : Int) by omega)]
      show code_reader_number.l0 (r, y) _ (IntKind.i64.wrap ((IntKind.i64.wrap (10 * a)) + (IntKind.i64.wrap (bAnd .u8 (sAt y.Text (k : Int)) 15)))) = _
      rw [hb, wS (by omega), h1]
    · rw [code_reader_number.l1, if_pos (show (k : Int) < (y.Text.length : Int) by omega), if_pos (show (0 : Int) ≤ (k : Int) ∧ (k : Int) < (y.Text.length : Int) by omega)]
      show code_reader_number.l1 (r, y) _ (IntKind.i64.wrap ((IntKind.i64.wrap (10 * a)) + (IntKind.i64.wrap (bAnd .u8 (sAt y.Text (k : Int)) 15)))) = _
      rw [hb, wS (by omega), h2]
    · rw [reticentref08_Int.l0, ← ht, if_pos (by omega), if_pos (by omega), wS (by omega), h3]
    · rw [reticentref08_Int.l1, ← ht, if_pos (by omega), if_pos (by omega), wS (by omega), h4]
section
variable {T : List api_Tok} (hT : Tk T) {l : api_Lattice}
include hT
theorem num_both {i : Nat} (hi : i < T.length) {n : Int} {x : api_Instr} : ∃ (j : Nat) (e v m : Int), code_reader_number.f ⟨l, T, (i : Int), 0⟩ = some (⟨l, T, (j : Int), e⟩, v) ∧ reticentref08_Int.f T ⟨(i : Int), n, x, 0⟩ = some ⟨(j : Int), m, x, e⟩ ∧ j < T.length ∧ (e = 0 → m = v) := by
  have hl := hT.len
  unfold code_reader_number.f reticentref08_Int.f
  rw [tok_p hT hi, bsome, if_pos rfl, lAt_some hi, bsome, bsome]
  have key : ((if T[i].Kind = 3 then (some (decide (T[i].Text = ([45] : Str)))) else (some false) : Option Bool)) = some (decide (T[i].Kind = 3 ∧ T[i].Text = [45])) := by
    by_cases h1 : T[i].Kind = 3 <;> simp [h1]
  show ∃ (j : Nat) (e v m : Int), (((if T[i].Kind = 3 then (some (decide (T[i].Text = ([45] : Str)))) else (some false) : Option Bool)) >>= _) = _ ∧ (((if T[i].Kind = 3 then (some (decide (T[i].Text = ([45] : Str)))) else (some false) : Option Bool)) >>= _) = _ ∧ _
  rw [key, bsome, bsome]
  have k2 : ∀ t : api_Tok, ((if t.Kind = 2 then (some (decide ((t.Text.length : Int) > 4))) else (some true) : Option Bool)) = some (decide (¬ (t.Kind = 2 ∧ t.Text.length ≤ 4))) := by
    intro t
    by_cases h1 : t.Kind = 2
    · by_cases h2 : t.Text.length ≤ 4
      · rw [if_pos h1, decide_eq_false (show ¬ (t.Text.length : Int) > 4 by omega), decide_eq_false (by simp [h1, h2])]
      · rw [if_pos h1, decide_eq_true (show (t.Text.length : Int) > 4 by omega), decide_eq_true (by simp [h2])]
    · rw [if_neg h1, decide_eq_true (by simp [h1])]
  by_cases hm : T[i].Kind = 3 ∧ T[i].Text = [45]
  · have hi2 := hT.next i hi (by omega)
    rw [decide_eq_true hm, if_pos rfl, if_pos rfl, wS (by omega)]
    show ∃ (j : Nat) (e v m : Int), (code_reader_tok.f ⟨l, T, ((i + 1 : Nat) : Int), 0⟩ >>= _) = _ ∧ _
    rw [tok_p hT hi2, bsome, lAt_some hi2, bsome]
    show ∃ (j : Nat) (e v m : Int), (((if T[i + 1].Kind = 2 then (some (decide ((T[i + 1].Text.length : Int) > 4))) else (some true) : Option Bool)) >>= _) = _ ∧ (((if T[i + 1].Kind = 2 then (some (decide ((T[i + 1].Text.length : Int) > 4))) else (some true) : Option Bool)) >>= _) = _ ∧ _
    rw [k2, bsome, bsome]
    by_cases hn : T[i + 1].Kind = 2 ∧ T[i + 1].Text.length ≤ 4
    · have hi3 := hT.next _ hi2 (by omega)
      obtain ⟨v, h1, _, h3, _, h5⟩ := digits (y := T[i + 1]) (y' := T[i + 1]) (r := ⟨l, T, ((i + 1 : Nat) : Int), 0⟩) rfl hn.2 T[i + 1].Text.length 0 0 (by omega) (by omega)
      rw [decide_eq_false (by simp [hn.1, hn.2]), if_neg ff, if_neg ff]
      rw [show ((0 : Nat) : Int) = 0 from rfl] at h1 h3
      rw [h1, bsome, h3, bsome, wS (by omega)]
      exact ⟨i + 1 + 1, 0, _, _, rfl, rfl, hi3, fun _ => by congr 1; omega⟩
    · rw [decide_eq_true hn, if_pos rfl, if_pos rfl]
      show ∃ (j : Nat) (e v m : Int), (code_reader_fail.f ⟨l, T, ((i + 1 : Nat) : Int), 0⟩ 4 >>= _) = _ ∧ _
      rw [fail_p hT, bsome]
      exact ⟨i + 1, 4, _, _, rfl, rfl, hi2, fun h => by cases h⟩
  · rw [decide_eq_false hm, if_neg ff, if_neg ff]
    show ∃ (j : Nat) (e v m : Int), (code_reader_tok.f ⟨l, T, (i : Int), 0⟩ >>= _) = _ ∧ _
    rw [tok_p hT hi, bsome, bsome]
    show ∃ (j : Nat) (e v m : Int), (((if T[i].Kind = 2 then (some (decide ((T[i].Text.length : Int) > 4))) else (some true) : Option Bool)) >>= _) = _ ∧ (((if T[i].Kind = 2 then (some (decide ((T[i].Text.length : Int) > 4))) else (some true) : Option Bool)) >>= _) = _ ∧ _
    rw [k2, bsome, bsome]
    by_cases hn : T[i].Kind = 2 ∧ T[i].Text.length ≤ 4
    · have hi3 := hT.next _ hi (by omega)
      obtain ⟨v, _, h2, _, h4, h5⟩ := digits (y := T[i]) (y' := T[i]) (r := ⟨l, T, (i : Int), 0⟩) rfl hn.2 T[i].Text.length 0 0 (by omega) (by omega)
      rw [decide_eq_false (by simp [hn.1, hn.2]), if_neg ff, if_neg ff]
      rw [show ((0 : Nat) : Int) = 0 from rfl] at h2 h4
      rw [h2, bsome, h4, bsome, wS (by omega)]
      exact ⟨i + 1, 0, _, _, rfl, rfl, hi3, fun _ => by rw [wrapZ (by omega) (by omega)]; omega⟩
    · rw [decide_eq_true hn, if_pos rfl, if_pos rfl]
      show ∃ (j : Nat) (e v m : Int), (code_reader_fail.f ⟨l, T, (i : Int), 0⟩ 4 >>= _) = _ ∧ _
      rw [fail_p hT, bsome]
      exact ⟨i, 4, _, _, rfl, rfl, hi, fun h => by cases h⟩
end
def plc (N : List Str) (t : Str) : Int := match (List.range N.length).findSome? (fun k => if N.getD k [] = t then some (k : Int) else none) with | some k => k | none => -1
theorem find_p {N : List Str} (hN : N.length ≤ 1000) (t : Str) : slices_Index_string_string.f N t = some (plc N t) := by
  unfold slices_Index_string_string.f
  have := search (fun k => slices_Index_string_string.l0 N t k) N.length (fun k => if N.getD k [] = t then some (k : Int) else none) (by show slices_Index_string_string.l0 N t _ = _; rw [slices_Index_string_string.l0, if_neg (by omega)]) (fun k hk => by
    show slices_Index_string_string.l0 N t _ = _
    rw [slices_Index_string_string.l0, if_pos (by omega), lAt_some hk, bsome, wS (by omega)]
    have e : N.getD k [] = N[k] := by simp [hk]
    rw [e]
    by_cases q : t = N[k]
    · rw [if_pos q, if_pos q.symm]
    · rw [if_neg q, if_neg (fun w => q w.symm)])
  rw [show slices_Index_string_string.l0 N t 0 = _ from this, bsome]
  unfold plc fstOf
  cases (List.range N.length).findSome? (fun k => if N.getD k [] = t then some (k : Int) else none) <;> rfl
theorem find_r {l : api_Lattice} (hN : l.Names.length ≤ 1000) (t : Str) : reticentref02_Find.f l t = some (plc l.Names t) := by
  unfold reticentref02_Find.f
  have := search (fun k => reticentref02_Find.l0 l t k) l.Names.length (fun k => if l.Names.getD k [] = t then some (k : Int) else none) (by show reticentref02_Find.l0 l t _ = _; rw [reticentref02_Find.l0, if_neg (by omega)]) (fun k hk => by
    show reticentref02_Find.l0 l t _ = _
    rw [reticentref02_Find.l0, if_pos (by omega), lAt_some hk, bsome, wS (by omega)]
    have e : l.Names.getD k [] = l.Names[k] := by simp [hk]
    rw [e]
    by_cases q : l.Names[k] = t
    · rw [if_pos q, if_pos q]
    · rw [if_neg q, if_neg q])
  rw [show reticentref02_Find.l0 l t 0 = _ from this, bsome]
  unfold plc fstOf
  cases (List.range l.Names.length).findSome? (fun k => if l.Names.getD k [] = t then some (k : Int) else none) <;> rfl
section
variable {T : List api_Tok} (hT : Tk T) {l : api_Lattice} (hN : l.Names.length ≤ 1000) (hC : lattice_Check.f l = some 0)
include hT hN hC
theorem lab_both {i : Nat} (hi : i < T.length) {n : Int} {x : api_Instr} : ∃ (j : Nat) (e v m : Int), code_reader_label.f ⟨l, T, (i : Int), 0⟩ = some (⟨l, T, (j : Int), e⟩, v) ∧ reticentref08_Label.f l T ⟨(i : Int), n, x, 0⟩ = some ⟨(j : Int), m, x, e⟩ ∧ j < T.length ∧ (e = 0 → m = v) := by
  have hl := hT.len
  unfold code_reader_label.f reticentref08_Label.f
  rw [mark_p hT hi, mark_r hT hi, bsome, bsome]
  have hj := mkS_lt hT (e := 0) (s := [64]) hi
  generalize mkS T [64] i 0 = q at hj ⊢
  obtain ⟨j, e⟩ := q
  simp only at hj ⊢
  rw [tok_p hT hj, bsome, lAt_some hj, bsome]
  show ∃ (j' : Nat) (e' v m : Int), (if e = 0 then _ else _) = _ ∧ _
  by_cases he : e = 0
  · subst he
    rw [if_pos rfl, if_pos rfl]
    show ∃ (j' : Nat) (e' v m : Int), (if T[j].Kind = 1 then _ else _) = _ ∧ _
    by_cases hk : T[j].Kind = 1
    · have hj2 := hT.next j hj (by omega)
      rw [if_pos hk, if_pos hk, bsome, find_r hN, bsome]
      show ∃ (j' : Nat) (e' v m : Int), (order_Find.f l T[j].Text >>= _) = _ ∧ _
      have e1 : order_Find.f l T[j].Text = some (if plc l.Names T[j].Text < 0 then (0, 9) else (plc l.Names T[j].Text, 0)) := by
        unfold order_Find.f
        rw [hC, bsome, if_pos rfl, find_p hN, bsome]
        split <;> rfl
      rw [e1, bsome]
      by_cases hp : plc l.Names T[j].Text < 0
      · rw [if_pos hp, if_pos hp]
        exact ⟨j, 6, 0, _, rfl, rfl, hj, fun h => by cases h⟩
      · rw [if_neg hp, if_neg hp]
        show ∃ (j' : Nat) (e' v m : Int), some ((⟨l, T, IntKind.i64.wrap ((j : Int) + 1), 0⟩ : code_reader), plc l.Names T[j].Text) = _ ∧ _
        rw [wS (by omega)]
        exact ⟨j + 1, 0, _, _, rfl, rfl, hj2, fun _ => rfl⟩
    · rw [if_neg hk, if_neg hk]
      exact ⟨j, 4, 0, _, rfl, rfl, hj, fun h => by cases h⟩
  · rw [if_neg he, if_neg he]
    exact ⟨j, e, 0, _, rfl, rfl, hj, fun h => absurd h he⟩
end
def numB (op : Int) : Bool := decide (op = 1 ∨ op = 8 ∨ op = 9 ∨ op = 10)
theorem number_p (op : Int) : code_number.f op = some (numB op) := by
  unfold code_number.f numB
  rw [show code_spans.f = some [(1, some fun z0 => code_spans_1_1.f z0 (-20) 20), (8, some fun z0 => code_spans_1_1.f z0 0 12), (9, some fun z0 => code_spans_1_1.f z0 0 3), (10, some fun z0 => code_spans_1_1.f z0 0 1)] from rfl, bsome]
  unfold mGet mFind mFind mFind mFind mFind
  by_cases h1 : op = 1
  · simp [h1]
  · by_cases h2 : op = 8
    · simp [h2]
    · by_cases h3 : op = 9
      · simp [h3]
      · by_cases h4 : op = 10
        · simp [h4]
        · simp [h1, h2, h3, h4]
theorem number_r (op : Int) : reticentref08_Number.f op = some (numB op) := by
  unfold reticentref08_Number.f numB
  by_cases h1 : op = 1
  · simp [h1]
  · by_cases h2 : op = 8
    · simp [h2]
    · by_cases h3 : op = 9
      · simp [h3]
      · by_cases h4 : op = 10
        · simp [h4]
        · simp [h1, h2, h3, h4]
theorem span_eq (x a b : Int) : code_spans_1_1.f x a b = some (decide (a ≤ x ∧ x ≤ b)) := by
  unfold code_spans_1_1.f
  by_cases h : x ≥ a
  · rw [if_pos h]; simp; omega
  · rw [if_neg h, decide_eq_false (by omega)]; rfl
def insB (n : Int) (x : api_Instr) : Bool :=
  if x.Op = 1 then decide (-20 ≤ x.N ∧ x.N ≤ 20 ∧ 0 ≤ x.L ∧ x.L < n) else decide (0 ≤ x.Op ∧ x.Op ≤ 12 ∧ x.L = 0 ∧ (if x.Op = 8 then 0 ≤ x.N ∧ x.N ≤ 12 else if x.Op = 9 then 0 ≤ x.N ∧ x.N ≤ 3 else if x.Op = 10 then 0 ≤ x.N ∧ x.N ≤ 1 else x.N = 0))
theorem two {a b : Prop} [Decidable a] [Decidable b] : ((if a then (some (decide b)) else (some false) : Option Bool)) = some (decide (a ∧ b)) := by by_cases h : a <;> simp [h]
theorem right_r (n : Int) (x : api_Instr) : reticentref08_Instr.f n x = some (insB n x) := by
  unfold reticentref08_Instr.f insB
  by_cases h1 : x.Op = 1
  · rw [if_pos h1, if_pos h1, two]
    by_cases a : x.N ≥ -20
    · by_cases b : x.N ≤ 20
      · rw [if_pos a, if_pos b, bsome]; congr 1; apply decide_eq_decide.2; omega
      · rw [if_pos a, if_neg b, bsome, decide_eq_false (by omega)]
    · rw [if_neg a, bsome, decide_eq_false (by omega)]
  · rw [if_neg h1, if_neg h1]
    by_cases h2 : x.Op < 0
    · rw [if_pos h2, bsome, if_pos rfl, decide_eq_false (by omega)]
    · by_cases h3 : x.Op > 12
      · rw [if_neg h2, if_pos h3, bsome, if_pos rfl, decide_eq_false (by omega)]
      · by_cases h4 : x.L = 0
        · rw [if_neg h2, if_neg h3, decide_eq_true h4, bsome, if_neg (by decide)]
          by_cases q8 : x.Op = 8
          · rw [if_pos q8, two, bsome]; congr 1; apply decide_eq_decide.2; rw [if_pos q8]; omega
          · rw [if_neg q8]
            by_cases q9 : x.Op = 9
            · rw [if_pos q9, two, bsome]; congr 1; apply decide_eq_decide.2; rw [if_neg q8, if_pos q9]; omega
            · rw [if_neg q9]
              by_cases q10 : x.Op = 10
              · rw [if_pos q10]
                by_cases z : x.N = 0
                · rw [if_pos z, bsome, decide_eq_true]; rw [if_neg q8, if_neg q9, if_pos q10]; omega
                · rw [if_neg z, bsome]; congr 1; apply decide_eq_decide.2; rw [if_neg q8, if_neg q9, if_pos q10]; omega
              · rw [if_neg q10]; congr 1; apply decide_eq_decide.2; rw [if_neg q8, if_neg q9, if_neg q10]; omega
        · rw [if_neg h2, if_neg h3, decide_eq_false h4, bsome, if_pos (show (!false) = true from rfl), decide_eq_false (by omega)]
theorem right_p (n : Int) (x : api_Instr) : code_right.f n x = some (insB n x) := by
  unfold code_right.f
  have hs : code_spans.f = some [(1, some fun z0 => code_spans_1_1.f z0 (-20) 20), (8, some fun z0 => code_spans_1_1.f z0 0 12), (9, some fun z0 => code_spans_1_1.f z0 0 3), (10, some fun z0 => code_spans_1_1.f z0 0 1)] := rfl
  by_cases h2 : x.Op < 0
  · rw [if_pos h2, bsome, if_pos rfl]; unfold insB; rw [if_neg (by omega), decide_eq_false (by omega)]
  · by_cases h3 : x.Op ≥ 13
    · rw [if_neg h2, decide_eq_true h3, bsome, if_pos rfl]; unfold insB; rw [if_neg (by omega), decide_eq_false (by omega)]
    · rw [if_neg h2, decide_eq_false h3, bsome, if_neg (by decide), hs, bsome]
      unfold insB mGet mFind mFind mFind mFind mFind
      by_cases q1 : x.Op = 1
      · simp only [q1, if_true, two, bsome, span_eq]
        by_cases z : -20 ≤ x.N ∧ x.N ≤ 20
        · simp [z]
        · simp [z]; intros; omega
      · by_cases q8 : x.Op = 8
        · simp only [q8, if_true, bsome, span_eq]
          by_cases z : 0 ≤ x.N ∧ x.N ≤ 12
          · simp [z]
          · have zz : 0 ≤ x.N → 12 < x.N := by omega
            simp [z]
            rw [if_pos zz]; rfl
        · by_cases q9 : x.Op = 9
          · simp only [q9, if_true, bsome, span_eq]
            by_cases z : 0 ≤ x.N ∧ x.N ≤ 3
            · simp [z]
            · have zz : 0 ≤ x.N → 3 < x.N := by omega
              simp [z]
              rw [if_pos zz]; rfl
          · by_cases q10 : x.Op = 10
            · simp only [q10, if_true, bsome, span_eq]
              by_cases z : 0 ≤ x.N ∧ x.N ≤ 1
              · simp [z]
              · have zz : 0 ≤ x.N → 1 < x.N := by omega
                simp [z]
                rw [if_pos zz]; rfl
            · have z1 : 0 ≤ x.Op := by omega
              have z2 : x.Op ≤ 12 := by omega
              simp only [q1, q8, q9, q10, if_false, bsome]
              by_cases z : x.N = 0
              · simp [z, z1, z2]
              · simp [z]
end
section
section
variable {T : List api_Tok} (hT : Tk T) {l : api_Lattice}
include hT
theorem fin_both {i j : Nat} (hi : i < T.length) (hj : j < T.length) {e m : Int} {x : api_Instr} : ∃ (j' : Nat) (e' m' : Int) (y : api_Instr),
    ((if e = 0 then (code_right.f (l.Up.length : Int) x >>= fun y14 => some (!y14)) else (some false) : Option Bool) >>= fun x12 => if x12 = true then (code_reader_fail.f (⟨l, T, (i : Int), e⟩ : code_reader) 1 >>= fun y16 => some (y16, x)) else (some ((⟨l, T, (j : Int), e⟩ : code_reader), x))) = some (⟨l, T, (j' : Int), e'⟩, x) ∧
    ((if e = 0 then (reticentref08_Instr.f (l.Up.length : Int) x >>= fun y11 => some (!y11)) else (some false) : Option Bool) >>= fun x9 => if x9 = true then (some (⟨(i : Int), 0, ⟨0, 0, 0⟩, 1⟩ : reticentref08_P)) else (some (⟨(j : Int), m, x, e⟩ : reticentref08_P))) = some ⟨(j' : Int), m', y, e'⟩ ∧ j' < T.length ∧ (e' = 0 → y = x) := by
  by_cases he : e = 0
  · subst he
    rw [if_pos rfl, if_pos rfl, right_p, right_r, bsome, bsome, bsome]
    cases insB (l.Up.length : Int) x with
    | true => exact ⟨j, 0, m, x, rfl, rfl, hj, fun _ => rfl⟩
    | false => exact ⟨i, 1, 0, _, rfl, rfl, hi, fun h => by cases h⟩
  · rw [if_neg he, if_neg he, bsome, bsome]
    exact ⟨j, e, m, x, rfl, rfl, hj, fun h => absurd h he⟩
variable (hN : l.Names.length ≤ 1000) (hC : lattice_Check.f l = some 0)
include hN hC
theorem one_both {i : Nat} (hi : i + 1 < T.length) {op : Int} : ∃ (j : Nat) (e m : Int) (x y : api_Instr), code_reader_one.f ⟨l, T, (i : Int), 0⟩ op = some (⟨l, T, (j : Int), e⟩, x) ∧ reticentref08_one.f l T (i : Int) op = some ⟨(j : Int), m, y, e⟩ ∧ j < T.length ∧ (e = 0 → y = x) := by
  have hl := hT.len
  have hi0 : i < T.length := by omega
  unfold code_reader_one.f reticentref08_one.f
  rw [number_p, number_r, bsome, bsome]
  by_cases hn : numB op = true
  · rw [if_pos hn, if_pos hn]
    show ∃ (j : Nat) (e m : Int) (x y : api_Instr), (code_reader_number.f ⟨l, T, IntKind.i64.wrap ((i : Int) + 1), 0⟩ >>= _) = _ ∧ _
    rw [wS (by omega)]
    obtain ⟨j1, e1, v1, m1, h1, h2, hj1, hm1⟩ := num_both hT (l := l) hi (n := 0) (x := ⟨op, 0, 0⟩)
    rw [h1, h2, bsome, bsome]
    by_cases ho : op = 1
    · rw [if_pos ho, if_pos ho]
      by_cases he : e1 = 0
      · obtain rfl := hm1 he
        subst he
        rw [show (decide (((⟨l, T, (j1 : Int), 0⟩ : code_reader), m1).1.bad_ = 0)) = true from rfl, bsome, if_pos tt]
        obtain ⟨j2, e2, v2, m2, h3, h4, hj2, hm2⟩ := lab_both hT hN hC hj1 (n := m1) (x := ⟨op, m1, 0⟩)
        show ∃ (j : Nat) (e m : Int) (x y : api_Instr), (code_reader_label.f ⟨l, T, (j1 : Int), 0⟩ >>= _) = _ ∧ (reticentref08_Label.f l T ⟨(j1 : Int), m1, ⟨op, m1, 0⟩, 0⟩ >>= _) = _ ∧ _
        rw [h3, h4, bsome, bsome]
        show ∃ (j : Nat) (e m : Int) (x y : api_Instr), (code_reader_mark.f ⟨l, T, (j2 : Int), e2⟩ ([59] : Str) >>= _) = _ ∧ (reticentref08_Mark.f T ⟨(j2 : Int), m2, ⟨op, m1, m2⟩, e2⟩ ([59] : Str) >>= _) = _ ∧ _
        rw [mark_p hT hj2, mark_r hT hj2, bsome, bsome]
        have hj3 := mkS_lt hT (e := e2) (s := [59]) hj2
        by_cases he2 : e2 = 0
        · obtain rfl := hm2 he2
          obtain ⟨j', e', m', y, q1, q2, q3, q4⟩ := fin_both hT (l := l) hi0 hj3 (e := (mkS T [59] j2 e2).2) (m := m2) (x := ⟨op, m1, m2⟩)
          exact ⟨j', e', m', _, y, q1, q2, q3, q4⟩
        · rw [mkS_bad he2]
          show ∃ (j : Nat) (e m : Int) (x y : api_Instr), ((if e2 = 0 then _ else _) >>= _) = _ ∧ ((if e2 = 0 then _ else _) >>= _) = _ ∧ _
          rw [if_neg he2, if_neg he2, bsome, bsome]
          exact ⟨j2, e2, _, _, _, rfl, rfl, hj2, fun h => absurd h he2⟩
      · rw [show (decide (((⟨l, T, (j1 : Int), e1⟩ : code_reader), v1).1.bad_ = 0)) = false from decide_eq_false he, bsome, if_neg ff]
        show ∃ (j : Nat) (e m : Int) (x y : api_Instr), (code_reader_mark.f ⟨l, T, (j1 : Int), e1⟩ ([59] : Str) >>= _) = _ ∧ (reticentref08_Label.f l T ⟨(j1 : Int), m1, ⟨op, m1, 0⟩, e1⟩ >>= _) = _ ∧ _
        have hlab : reticentref08_Label.f l T ⟨(j1 : Int), m1, ⟨op, m1, 0⟩, e1⟩ = some ⟨(j1 : Int), m1, ⟨op, m1, 0⟩, e1⟩ := by
          unfold reticentref08_Label.f
          rw [mark_r hT hj1, bsome, mkS_bad he]
          show (if e1 = 0 then _ else _) = _
          rw [if_neg he]
        rw [mark_p hT hj1, mkS_bad he, hlab, bsome, bsome]
        show ∃ (j : Nat) (e m : Int) (x y : api_Instr), _ = _ ∧ (reticentref08_Mark.f T ⟨(j1 : Int), m1, ⟨op, m1, m1⟩, e1⟩ ([59] : Str) >>= _) = _ ∧ _
        rw [mark_r hT hj1, mkS_bad he, bsome]
        show ∃ (j : Nat) (e m : Int) (x y : api_Instr), ((if e1 = 0 then _ else _) >>= _) = _ ∧ ((if e1 = 0 then _ else _) >>= _) = _ ∧ _
        rw [if_neg he, if_neg he, bsome, bsome]
        exact ⟨j1, e1, _, _, _, rfl, rfl, hj1, fun h => absurd h he⟩
    · rw [if_neg ho, if_neg ho, bsome, if_neg ff]
      show ∃ (j : Nat) (e m : Int) (x y : api_Instr), (code_reader_mark.f ⟨l, T, (j1 : Int), e1⟩ ([59] : Str) >>= _) = _ ∧ (reticentref08_Mark.f T ⟨(j1 : Int), m1, ⟨op, m1, 0⟩, e1⟩ ([59] : Str) >>= _) = _ ∧ _
      rw [mark_p hT hj1, mark_r hT hj1, bsome, bsome]
      have hj3 := mkS_lt hT (e := e1) (s := [59]) hj1
      by_cases he : e1 = 0
      · obtain rfl := hm1 he
        obtain ⟨j', e', m', y, q1, q2, q3, q4⟩ := fin_both hT (l := l) hi0 hj3 (e := (mkS T [59] j1 e1).2) (m := m1) (x := ⟨op, m1, 0⟩)
        exact ⟨j', e', m', _, y, q1, q2, q3, q4⟩
      · rw [mkS_bad he]
        show ∃ (j : Nat) (e m : Int) (x y : api_Instr), ((if e1 = 0 then _ else _) >>= _) = _ ∧ ((if e1 = 0 then _ else _) >>= _) = _ ∧ _
        rw [if_neg he, if_neg he, bsome, bsome]
        exact ⟨j1, e1, _, _, _, rfl, rfl, hj1, fun h => absurd h he⟩
  · have ho : ¬ op = 1 := fun h => hn (by subst h; rfl)
    rw [if_neg hn, if_neg hn, if_neg ho, if_neg ho, bsome, if_neg ff, wS (by omega)]
    show ∃ (j : Nat) (e m : Int) (x y : api_Instr), (code_reader_mark.f ⟨l, T, ((i + 1 : Nat) : Int), 0⟩ ([59] : Str) >>= _) = _ ∧ _
    rw [mark_p hT hi, mark_r hT hi, bsome, bsome]
    have hj3 := mkS_lt hT (e := 0) (s := [59]) hi
    obtain ⟨j', e', m', y, q1, q2, q3, q4⟩ := fin_both hT (l := l) hi0 hj3 (e := (mkS T [59] (i + 1) 0).2) (m := 0) (x := ⟨op, 0, 0⟩)
    exact ⟨j', e', m', _, y, q1, q2, q3, q4⟩
end
def wdN (k : Nat) : Str := gl0.getD k []
theorem word_p {k : Nat} (hk : k < 13) : table_Name.f (k : Int) = some (wdN k, 0) := by
  match k, hk with
  | 0, _ => rfl
  | 1, _ => rfl
  | 2, _ => rfl
  | 3, _ => rfl
  | 4, _ => rfl
  | 5, _ => rfl
  | 6, _ => rfl
  | 7, _ => rfl
  | 8, _ => rfl
  | 9, _ => rfl
  | 10, _ => rfl
  | 11, _ => rfl
  | 12, _ => rfl
  | n + 13, h => omega
theorem word_r {k : Nat} (hk : k < 13) : reticentref06_Word.f (k : Int) = some (wdN k) := by
  match k, hk with
  | 0, _ => rfl
  | 1, _ => rfl
  | 2, _ => rfl
  | 3, _ => rfl
  | 4, _ => rfl
  | 5, _ => rfl
  | 6, _ => rfl
  | 7, _ => rfl
  | 8, _ => rfl
  | 9, _ => rfl
  | 10, _ => rfl
  | 11, _ => rfl
  | 12, _ => rfl
  | n + 13, h => omega
def opT (t : Str) : Int := match fstOf 13 (fun k => if wdN k = t then some (k : Int) else none) with | some k => k | none => -1
theorem op_r (t : Str) : reticentref06_Op.f t = some (opT t) := by
  unfold reticentref06_Op.f
  have := search (fun k => reticentref06_Op.l0 t k) 13 (fun k => if wdN k = t then some (k : Int) else none) (by show reticentref06_Op.l0 t _ = _; rw [reticentref06_Op.l0, if_neg (by decide)]) (fun k hk => by
    show reticentref06_Op.l0 t _ = _
    rw [reticentref06_Op.l0, if_pos (by omega), word_r hk, bsome, wS (by omega)]
    by_cases q : wdN k = t
    · rw [if_pos q, if_pos q]
    · rw [if_neg q, if_neg q])
  rw [show reticentref06_Op.l0 t 0 = _ from this, bsome]
  unfold opT
  cases fstOf 13 (fun k => if wdN k = t then some (k : Int) else none) <;> rfl
theorem op_p (t : api_Tok) : code_instruction.f t = some (if t.Kind = 1 then opT t.Text else -1) := by
  unfold code_instruction.f
  by_cases h1 : t.Kind = 1
  · have := search (fun k => code_instruction.l0 t k) 13 (fun k => if wdN k = t.Text then some (k : Int) else none) (by show code_instruction.l0 t _ = _; rw [code_instruction.l0, if_neg (by decide)]) (fun k hk => by
      show code_instruction.l0 t _ = _
      rw [code_instruction.l0, if_pos (by omega), word_p hk, bsome, if_pos h1, bsome, wS (by omega)]
      by_cases q : wdN k = t.Text
      · rw [if_pos q, decide_eq_true q, if_pos tt]
      · rw [if_neg q, decide_eq_false q, if_neg ff])
    rw [show code_instruction.l0 t 0 = _ from this, bsome, if_pos h1]
    unfold opT
    cases fstOf 13 (fun k => if wdN k = t.Text then some (k : Int) else none) <;> rfl
  · have : code_instruction.l0 t 0 = _ := search (fun k => code_instruction.l0 t k) 13 (fun k => none) (by show code_instruction.l0 t _ = _; rw [code_instruction.l0, if_neg (by decide)]) (fun k hk => by
      show code_instruction.l0 t _ = _
      rw [code_instruction.l0, if_pos (by omega), word_p hk, bsome, if_neg h1, bsome, if_neg ff, wS (by omega)])
    rw [this, bsome, if_neg h1]
    have : (fstOf 13 fun _ => (none : Option Int)) = none := fst_none.2 (fun _ _ => rfl)
    rw [this]; rfl
def tailF (o : ((List api_Instr) × Int × Int) ⊕ ((List Str) × (List Int) × (List api_Tok) × Int × Int × (List api_Instr))) : Option ((List api_Instr) × Int × Int) :=
  match o with | .inl r => some r | .inr (x33, x34, x35, x36, x37, x38) => some (([] : List api_Instr), x36, x37)
section
variable {T : List api_Tok} (hT : Tk T) {l : api_Lattice} (hN : l.Names.length ≤ 1000) (hC : lattice_Check.f l = some 0)
include hT hN hC
theorem from_l0 : ∀ (d : Nat) (acc : List api_Instr) (i : Nat), acc.length + d = 12 → i < T.length →
    (∃ (j : Nat) (e : Int), e ≠ 0 ∧ j < T.length ∧ (code_From.l0 l.Names l.Up T (i : Int) 0 acc >>= tailF) = some ([], (j : Int), e) ∧ reticentref08_From.l0 l T acc (i : Int) = some (.inl ⟨[], (j : Int), e⟩)) ∨
    ∃ (out : List api_Instr) (j : Nat), j < T.length ∧ out.length ≤ 12 ∧ (code_From.l0 l.Names l.Up T (i : Int) 0 acc >>= tailF) = some (out, (j : Int), 0) ∧ reticentref08_From.l0 l T acc (i : Int) = some (.inr (out, (j : Int))) := by
  intro d
  induction d with
  | zero =>
    intro acc i hd hi
    rw [code_From.l0, if_pos rfl, tok_p hT hi, bsome, op_p, bsome, reticentref08_From.l0, lAt_some hi, bsome, bsome, op_r, bsome]
    by_cases h1 : T[i].Kind = 1
    · rw [if_pos h1, if_pos h1, bsome]
      by_cases h2 : opT T[i].Text < 0
      · rw [if_pos h2, decide_eq_false (by omega), if_neg ff]
        exact .inr ⟨acc, i, hi, by omega, rfl, rfl⟩
      · rw [if_neg h2, decide_eq_true (by omega), if_pos tt, if_pos (by omega), if_pos (by omega)]
        exact .inl ⟨i, 8, by decide, hi, rfl, rfl⟩
    · rw [if_neg h1, if_neg h1, if_pos (by decide), bsome, bsome, if_neg ff]
      exact .inr ⟨acc, i, hi, by omega, rfl, rfl⟩
  | succ d ih =>
    intro acc i hd hi
    have hB : 1000000 ≤ big := by decide
    rw [code_From.l0, if_pos rfl, tok_p hT hi, bsome, op_p, bsome, reticentref08_From.l0, lAt_some hi, bsome, bsome, op_r, bsome]
    by_cases h1 : T[i].Kind = 1
    · rw [if_pos h1, if_pos h1, bsome]
      by_cases h2 : opT T[i].Text < 0
      · rw [if_pos h2, decide_eq_false (by omega), if_neg ff]
        exact .inr ⟨acc, i, hi, by omega, rfl, rfl⟩
      · rw [if_neg h2, decide_eq_true (by omega), if_pos tt, if_neg (by omega), if_neg (by omega), bsome, op_r, bsome]
        obtain ⟨j, e, m, x, y, q1, q2, q3, q4⟩ := one_both hT hN hC (hT.next i hi (by omega)) (op := opT T[i].Text)
        have q1' : code_reader_one.f (((⟨⟨l.Names, l.Up⟩, T, (i : Int), 0⟩ : code_reader), T[i]) : code_reader × api_Tok).1 (opT (((⟨⟨l.Names, l.Up⟩, T, (i : Int), 0⟩ : code_reader), T[i]) : code_reader × api_Tok).2.Text) = some (⟨l, T, (j : Int), e⟩, x) := q1
        rw [q1', q2, bsome, bsome, if_pos (by simp; omega)]
        by_cases he : e = 0
        · obtain rfl := q4 he
          subst he
          rw [if_pos rfl, if_pos (by simp; omega)]
          exact ih (acc ++ [y]) j (by simp; omega) q3
        · rw [if_neg he]
          show (∃ (j' : Nat) (e' : Int), e' ≠ 0 ∧ j' < T.length ∧ (code_From.l0 l.Names l.Up T (j : Int) e (acc ++ [x]) >>= tailF) = _ ∧ _) ∨ (∃ (out : List api_Instr) (j' : Nat), j' < T.length ∧ out.length ≤ 12 ∧ (code_From.l0 l.Names l.Up T (j : Int) e (acc ++ [x]) >>= tailF) = _ ∧ _)
          rw [code_From.l0, if_neg he]
          exact .inl ⟨j, e, he, q3, rfl, rfl⟩
    · rw [if_neg h1, if_neg h1, if_pos (by decide), bsome, bsome, if_neg ff]
      exact .inr ⟨acc, i, hi, by omega, rfl, rfl⟩
theorem from_both (hE : (T[T.length - 1]'(by have := hT.pos; omega)).Kind = 0) {i : Nat} (hi : i < T.length) : ∃ (out : List api_Instr) (j : Nat) (e : Int), j < T.length ∧ out.length ≤ 12 ∧ (e ≠ 0 → out = []) ∧ code_From.f l T (i : Int) = some (out, (j : Int), e) ∧ reticentref08_From.f l T (i : Int) = some ⟨out, (j : Int), e⟩ := by
  have hl := hT.len
  have hp := hT.pos
  unfold code_From.f reticentref08_From.f
  rw [hC, bsome, if_pos rfl, if_neg (by omega), if_neg (by omega)]
  have hw : IntKind.i64.wrap ((T.length : Int) - 1) = ((T.length - 1 : Nat) : Int) := by rw [wrapZ (by omega) (by omega)]; omega
  rw [hw, lAt_some (by omega), bsome, hE, bsome, if_neg (by decide)]
  rcases from_l0 hT hN hC 12 [] i rfl hi with ⟨j, e, he, hj, q1, q2⟩ | ⟨out, j, hj, ho, q1, q2⟩
  · exact ⟨[], j, e, hj, by simp, fun _ => rfl, q1, by rw [q2]; rfl⟩
  · exact ⟨out, j, 0, hj, ho, fun h => absurd rfl h, q1, by rw [q2]; rfl⟩
end
theorem same_self {x : List api_Instr} (hx : x.length ≤ 1000) : reticentref08_Same.f x x = some true := by
  unfold reticentref08_Same.f
  have : ∀ (d k : Nat), x.length = k + d → reticentref08_Same.l0 x x (k : Int) = some (.inr ()) := by
    intro d
    induction d with
    | zero => intro k h; rw [reticentref08_Same.l0, if_neg (by omega)]
    | succ d ih => intro k h; rw [reticentref08_Same.l0, if_pos (by omega), lAt_some (by omega), bsome, bsome, if_pos rfl, wS (by omega)]; exact ih (k + 1) (by omega)
  rw [if_pos rfl, show reticentref08_Same.l0 x x 0 = _ from this x.length 0 (by omega)]; rfl
theorem tk_of {L : List api_Tok} {a : Int} (h : (L ++ [(⟨0, [], a⟩ : api_Tok)]).length ≤ 1000) : Tk (L ++ [⟨0, [], a⟩]) := by
  refine ⟨h, by simp, fun i hi hk => ?_⟩
  rcases Nat.lt_or_ge i L.length with q | q
  · simp; omega
  · exfalso
    simp at hi
    obtain rfl : i = L.length := by omega
    simp at hk
theorem cutok {n m : Nat} : (0 : Int) ≤ (if (n : Int) < (m : Int) then (n : Int) else (m : Int)) ∧ (if (n : Int) < (m : Int) then (n : Int) else (m : Int)) ≤ (m : Int) := by split <;> omega
end
section
def rightB (n : Int) (code : List api_Instr) : Bool := decide (code.length ≤ 12) && code.all (insB n)
theorem rright_l0 {l : api_Lattice} {c : List api_Instr} (hl : c.length ≤ 1000) : ∀ (d k : Nat), c.length = k + d → reticentref08_Right.l0 l c (k : Int) = some (if (c.drop k).all (insB (l.Up.length : Int)) = true then .inr () else .inl false)
  | 0, k, e => by rw [reticentref08_Right.l0, if_neg (by omega), List.drop_of_length_le (by omega)]; rfl
  | d + 1, k, e => by
    have hk : k < c.length := by omega
    rw [reticentref08_Right.l0, if_pos (by omega), lAt_some hk, bsome, right_r, bsome, wS (by omega), rright_l0 hl d (k + 1) (by omega), List.drop_eq_getElem_cons hk, List.all_cons]
    cases insB (l.Up.length : Int) c[k] <;> simp
theorem rright_eq {l : api_Lattice} {c : List api_Instr} (hl : c.length ≤ 1000) : reticentref08_Right.f l c = some (rightB (l.Up.length : Int) c) := by
  unfold reticentref08_Right.f rightB
  have := rright_l0 (l := l) hl c.length 0 (by omega)
  rw [show ((0 : Nat) : Int) = 0 from rfl, List.drop_zero] at this
  rw [this, bsome]
  cases c.all (insB (l.Up.length : Int)) with
  | true => rw [if_pos rfl, Bool.and_true]; show some (decide ((c.length : Int) ≤ 12)) = _; congr 1; apply decide_eq_decide.2; omega
  | false => rw [if_neg (by decide), Bool.and_false]
theorem pright_l0 {l : api_Lattice} {c : List api_Instr} (hl : c.length ≤ 1000) : ∀ (d k : Nat), c.length = k + d → ∃ r : Int ⊕ Unit, slices_IndexFunc_api_Instr_api_Instr.l0 c (fun z0 => code_Right_1.f z0 l) (k : Int) = some r ∧ (match r with | .inl j => 0 ≤ j ∧ (c.drop k).all (insB (l.Up.length : Int)) = false | .inr () => (c.drop k).all (insB (l.Up.length : Int)) = true)
  | 0, k, e => by rw [slices_IndexFunc_api_Instr_api_Instr.l0, if_neg (by omega), List.drop_of_length_le (by omega)]; exact ⟨_, rfl, rfl⟩
  | d + 1, k, e => by
    have hk : k < c.length := by omega
    obtain ⟨r, h1, h2⟩ := pright_l0 (l := l) hl d (k + 1) (by omega)
    rw [slices_IndexFunc_api_Instr_api_Instr.l0, if_pos (by omega), lAt_some hk, bsome]
    show ∃ r, (code_Right_1.f c[k] l >>= _) = _ ∧ _
    have hr : code_Right_1.f c[k] l = some (!insB (l.Up.length : Int) c[k]) := by unfold code_Right_1.f; rw [right_p]; rfl
    rw [hr, bsome, wS (by omega), h1, List.drop_eq_getElem_cons hk, List.all_cons]
    cases q : insB (l.Up.length : Int) c[k] with
    | true => rw [if_neg (by decide), Bool.true_and]; exact ⟨r, rfl, h2⟩
    | false => rw [if_pos (by decide), Bool.false_and]; exact ⟨.inl (k : Int), rfl, by omega, rfl⟩
theorem pright_eq {l : api_Lattice} {U : List Nat} (h : Nm l U) {c : List api_Instr} (hl : c.length ≤ 1000) : code_Right.f l c = some (decide (chk l U = 0) && rightB (l.Up.length : Int) c) := by
  unfold code_Right.f rightB slices_ContainsFunc_api_Instr_api_Instr.f slices_IndexFunc_api_Instr_api_Instr.f
  rw [check_eq h, bsome]
  by_cases hc : chk l U = 0
  · rw [if_pos hc, decide_eq_true hc, Bool.true_and]
    by_cases h12 : (c.length : Int) ≤ 12
    · obtain ⟨r, h1, h2⟩ := pright_l0 (l := l) hl c.length 0 (by omega)
      rw [show ((0 : Nat) : Int) = 0 from rfl] at h1
      rw [if_pos h12, h1, bsome, decide_eq_true (show c.length ≤ 12 by omega), Bool.true_and]
      rw [List.drop_zero] at h2
      cases r with
      | inl j => rw [h2.2]; show (((some (decide (j ≥ 0)) >>= _) : Option Bool) >>= _) = _; rw [decide_eq_true h2.1]; rfl
      | inr u => cases u; rw [show c.all (insB (l.Up.length : Int)) = true from h2]; rfl
    · rw [if_neg h12, decide_eq_false (show ¬ c.length ≤ 12 by omega)]; rfl
  · rw [if_neg hc, decide_eq_false hc]; rfl
end
end Go.Proofs.YtkmobcaobmchpaaGreatDoor.St
