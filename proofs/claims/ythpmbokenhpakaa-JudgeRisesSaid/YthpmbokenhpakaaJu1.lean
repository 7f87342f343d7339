/- Lattices: orders. -/
import Derived.Test.YthpmbokenhpakaaLat2
import Derived.Test.YthpmbokenhpakaaDLE
set_option linter.unusedVariables false
set_option linter.unusedSimpArgs false
namespace Go.Proofs.Ythpmbokenhpakaa.Jdg
open Go Go.Proofs.Ythpmbokenhpakaa.Ab Go.Proofs.Ythpmbokenhpakaa.LE
open Go.Proofs.Ythpmbokenhpakaa.Lat (lAt_some wrap64 wrapU32 ofInt_nat bAnd_nat bOr_nat bShr_nat)
open Classical
structure Is (l : api_Lattice) (U : List Nat) : Prop where
  up : l.Up = U.map (fun x : Nat => (x : Int))
  lt : ∀ x ∈ U, x < 4294967296
  len : U.length ≤ 10
theorem Is.n {l : api_Lattice} {U : List Nat} (h : Is l U) : l.Up.length = U.length := by rw [h.up]; simp
theorem Is.at_ {l : api_Lattice} {U : List Nat} (h : Is l U) {i : Nat} (hi : i < U.length) : lAt l.Up (i : Int) = some ((U[i] : Nat) : Int) := by
  rw [h.up, lAt_some (by simpa using hi)]
  simp
theorem Is.u {l : api_Lattice} {U : List Nat} (h : Is l U) {i : Nat} (hi : i < U.length) : U[i] < 4294967296 := h.lt _ (List.getElem_mem hi)
theorem shr1 (u b : Nat) : ((u >>> b) &&& 1 = 1) ↔ u.testBit b = true := by
  rw [Nat.testBit, Nat.and_comm]
  rw [Nat.one_and_eq_mod_two]
  simp
theorem flows_eq {l : api_Lattice} {U : List Nat} (h : Is l U) {a b : Nat} (ha : a < U.length) (hb : b ≤ 31) : lattice_flows.f l a b = some (U[a].testBit b) := by
  unfold lattice_flows.f
  rw [h.at_ ha]
  show (if ¬ (b : Int) < 0 then some (decide (bAnd .u32 (bShr .u32 (U[a] : Nat) b) 1 = 1)) else none) = _
  rw [if_pos (by omega), bShr_nat (by omega)]
  have hs : U[a] >>> b < 4294967296 := Nat.lt_of_le_of_lt (by rw [Nat.shiftRight_eq_div_pow]; exact Nat.div_le_self ..) (h.u ha)
  rw [show (1 : Int) = ((1 : Nat) : Int) from rfl, bAnd_nat hs (by omega)]
  congr 1
  rw [Bool.eq_iff_iff, decide_eq_true_iff, ← shr1]
  exact Int.natCast_inj

theorem half {u : Nat} (h : u < 4294967296) : IntKind.u32.wrap ((u : Int).tdiv 2) = ((u >>> 1 : Nat) : Int) := by
  have : (u : Int).tdiv 2 = ((u / 2 : Nat) : Int) := by
    rw [Int.tdiv_eq_ediv_of_nonneg (by omega)]; norm_cast
  rw [this, Nat.shiftRight_eq_div_pow]
  exact wrapU32 (by omega)
theorem refFlows_l0 (b : Nat) (hb : b ≤ 31) : ∀ (d k u : Nat), b = k + d → u < 4294967296 → reticentref01_Flows.l0 (b : Int) (u : Int) (k : Int) = some ((u >>> d : Nat) : Int)
  | 0, k, u, e, hu => by
    rw [reticentref01_Flows.l0, if_neg (by omega)]; simp
  | d + 1, k, u, e, hu => by
    rw [reticentref01_Flows.l0, if_pos (by omega), half hu, wrap64 (by omega) (by omega)]
    have h2 : u >>> 1 < 4294967296 := Nat.lt_of_le_of_lt (by rw [Nat.shiftRight_eq_div_pow]; exact Nat.div_le_self ..) hu
    have := refFlows_l0 b hb d (k + 1) (u >>> 1) (by omega) h2
    rw [show ((k : Int) + 1) = ((k + 1 : Nat) : Int) by omega, this, ← Nat.shiftRight_add, Nat.add_comm 1 d]
theorem refFlows_eq {l : api_Lattice} {U : List Nat} (h : Is l U) {a b : Nat} (ha : a < U.length) (hb : b ≤ 31) : reticentref01_Flows.f l a b = some (U[a].testBit b) := by
  unfold reticentref01_Flows.f
  rw [h.at_ ha]
  show (reticentref01_Flows.l0 (b : Int) ((U[a] : Nat) : Int) 0 >>= fun x6 => some (decide (x6.tmod 2 = 1))) = _
  have := refFlows_l0 b hb b 0 U[a] (by omega) (h.u ha)
  rw [show ((0 : Nat) : Int) = 0 from rfl] at this
  rw [this]
  show some (decide ((((U[a] >>> b : Nat) : Int)).tmod 2 = 1)) = _
  congr 1
  rw [Bool.eq_iff_iff, decide_eq_true_iff, ← shr1, Nat.and_comm, Nat.one_and_eq_mod_two, Int.tmod_eq_emod_of_nonneg (Int.natCast_nonneg _)]
  omega

section
variable {τ : Type} {yb : τ → Int → Int → Option (Bool × (τ × Nat))} {n : Nat} {t t' : τ} {bad : Nat → Nat → Bool}
theorem pairs_l3 (hn : n ≤ 1000) (a : Nat) (h : ∀ b, b < n → yb t a b = some (if bad a b then (false, (t', 1)) else (true, (t, 0)))) :
    ∀ (d k : Nat), n = k + d → lattice_pairs_1.l3 (yOf yb) (n : Int) (a : Int) (t, 0) (k : Int) = some (if ∃ b, k ≤ b ∧ b < n ∧ bad a b = true then .inl (t', 1) else .inr (t, 0)) := by
  intro d
  induction d with
  | zero =>
    intro k e
    rw [lattice_pairs_1.l3, if_neg (by omega), if_neg (by rintro ⟨b, h1, h2, _⟩; omega)]
  | succ d ih =>
    intro k e
    rw [lattice_pairs_1.l3, if_pos (by omega)]
    rw [show yOf yb (t, 0) (a : Int) (k : Int) = yb t a k from rfl, h k (by omega)]
    by_cases hb : bad a k = true
    · rw [if_pos hb, if_pos ⟨k, Nat.le_refl _, by omega, hb⟩]; rfl
    · rw [if_neg hb]
      show lattice_pairs_1.l3 (yOf yb) (n : Int) (a : Int) (t, 0) (IntKind.i64.wrap ((k : Int) + 1)) = _
      rw [wrap64 (by omega) (by omega), show ((k : Int) + 1) = ((k + 1 : Nat) : Int) by omega, ih (k + 1) (by omega)]
      congr 1
      by_cases h1 : ∃ b, k + 1 ≤ b ∧ b < n ∧ bad a b = true
      · rw [if_pos h1]
        obtain ⟨b, q1, q2, q3⟩ := h1
        rw [if_pos ⟨b, by omega, q2, q3⟩]
      · rw [if_neg h1, if_neg]
        rintro ⟨b, q1, q2, q3⟩
        rcases Nat.lt_or_ge k b with q | q
        · exact h1 ⟨b, q, q2, q3⟩
        · exact hb (by rw [show k = b by omega]; exact q3)
theorem pairs_l2 (hn : n ≤ 1000) (h : ∀ a b, a < n → b < n → yb t a b = some (if bad a b then (false, (t', 1)) else (true, (t, 0)))) :
    ∀ (d k : Nat), n = k + d → lattice_pairs_1.l2 (yOf yb) (n : Int) (t, 0) (k : Int) = some (if ∃ a b, k ≤ a ∧ a < n ∧ b < n ∧ bad a b = true then .inl (t', 1) else .inr (t, 0)) := by
  intro d
  induction d with
  | zero =>
    intro k e
    rw [lattice_pairs_1.l2, if_neg (by omega), if_neg (by rintro ⟨a, b, h1, h2, _⟩; omega)]
  | succ d ih =>
    intro k e
    rw [lattice_pairs_1.l2, if_pos (by omega)]
    have := pairs_l3 (t' := t') hn k (fun b hb => h k b (by omega) hb) n 0 (by omega)
    rw [show ((0 : Nat) : Int) = 0 from rfl] at this
    rw [this]
    by_cases hb : ∃ b, 0 ≤ b ∧ b < n ∧ bad k b = true
    · rw [if_pos hb]
      obtain ⟨b, _, q2, q3⟩ := hb
      rw [if_pos ⟨k, b, Nat.le_refl _, by omega, q2, q3⟩]; rfl
    · rw [if_neg hb]
      show lattice_pairs_1.l2 (yOf yb) (n : Int) (t, 0) (IntKind.i64.wrap ((k : Int) + 1)) = _
      rw [wrap64 (by omega) (by omega), show ((k : Int) + 1) = ((k + 1 : Nat) : Int) by omega, ih (k + 1) (by omega)]
      congr 1
      by_cases h1 : ∃ a b, k + 1 ≤ a ∧ a < n ∧ b < n ∧ bad a b = true
      · rw [if_pos h1]
        obtain ⟨a, b, q0, q1, q2, q3⟩ := h1
        rw [if_pos ⟨a, b, by omega, q1, q2, q3⟩]
      · rw [if_neg h1, if_neg]
        rintro ⟨a, b, q0, q1, q2, q3⟩
        rcases Nat.lt_or_ge k a with q | q
        · exact h1 ⟨a, b, q, q1, q2, q3⟩
        · exact hb ⟨b, Nat.zero_le _, q2, by rw [show k = a by omega]; exact q3⟩
theorem pairs_eq (hn : n ≤ 1000) (h : ∀ a b, a < n → b < n → yb t a b = some (if bad a b then (false, (t', 1)) else (true, (t, 0)))) :
    lattice_pairs_1.f (yOf yb) (t, 0) (n : Int) = some (if ∃ a b, a < n ∧ b < n ∧ bad a b = true then (t', 1) else (t, 0)) := by
  unfold lattice_pairs_1.f
  have := pairs_l2 (t' := t') hn h n 0 (by omega)
  rw [show ((0 : Nat) : Int) = 0 from rfl] at this
  rw [this]
  by_cases h1 : ∃ a b, a < n ∧ b < n ∧ bad a b = true
  · rw [if_pos h1]
    obtain ⟨a, b, q⟩ := h1
    rw [if_pos ⟨a, b, Nat.zero_le _, q⟩]; rfl
  · rw [if_neg h1, if_neg (fun ⟨a, b, _, q⟩ => h1 ⟨a, b, q⟩)]; rfl
end

theorem bAndNot_zero {a b : Nat} (ha : a < 4294967296) (hb : b < 4294967296) : bAndNot .u32 (a : Int) (b : Int) = 0 ↔ ∀ c, a.testBit c = true → b.testBit c = true := by
  unfold bAndNot
  show IntKind.u32.wrap (((BitVec.ofInt 32 (a : Int) &&& ~~~BitVec.ofInt 32 (b : Int)).toNat : Nat) : Int) = 0 ↔ _
  rw [wrapU32 (BitVec.isLt _)]
  have hbit : ∀ c, ((BitVec.ofInt 32 (a : Int) &&& ~~~BitVec.ofInt 32 (b : Int)).toNat).testBit c = (a.testBit c && !b.testBit c) := by
    intro c
    rw [BitVec.testBit_toNat, BitVec.getLsbD_and, BitVec.getLsbD_not, ← BitVec.testBit_toNat, ← BitVec.testBit_toNat, ofInt_nat ha, ofInt_nat hb]
    by_cases hc : c < 32
    · simp [hc]
    · have : a.testBit c = false := Nat.testBit_lt_two_pow (Nat.lt_of_lt_of_le ha (Nat.pow_le_pow_right (n := 2) (by omega) (show 32 ≤ c by omega)))
      simp [this]
  constructor
  · intro h c hc
    have h0 : (BitVec.ofInt 32 (a : Int) &&& ~~~BitVec.ofInt 32 (b : Int)).toNat = 0 := by omega
    have := hbit c
    rw [h0, hc] at this
    simpa using this
  · intro h
    have h0 : (BitVec.ofInt 32 (a : Int) &&& ~~~BitVec.ofInt 32 (b : Int)).toNat = 0 := by
      apply Nat.eq_of_testBit_eq
      intro c
      rw [hbit c]
      cases hc : a.testBit c with
      | false => simp
      | true => simp [h c hc]
    rw [h0]; rfl
def le (U : List Nat) (a b : Nat) : Bool := (U.getD a 0).testBit b
theorem le_get {U : List Nat} {a b : Nat} (ha : a < U.length) : le U a b = U[a].testBit b := by simp [le, ha]
/-- All that is above b is above a. -/
def Above (U : List Nat) (a b : Nat) : Prop := ∀ c, c < 32 → le U b c = true → le U a c = true
noncomputable def badO (U : List Nat) (a b : Nat) : Bool := (if a = b then !le U a b else le U a b && le U b a) || (le U a b && !decide (Above U a b))
theorem order_y0 {l : api_Lattice} {U : List Nat} (h : Is l U) {a b : Nat} (ha : a < U.length) (hb : b < U.length) :
    lattice_order.y0 l () (a : Int) (b : Int) = some (if badO U a b then (false, ((), 1)) else (true, ((), 0))) := by
  have hl := h.len
  have hz : (decide (bAndNot .u32 ((U[b] : Nat) : Int) ((U[a] : Nat) : Int) = 0)) = decide (Above U a b) := by
    unfold Above
    rw [decide_eq_decide, bAndNot_zero (h.u hb) (h.u ha)]
    constructor
    · intro q c _ hc; rw [le_get hb] at hc; rw [le_get ha]; exact q c hc
    · intro q c hc
      have hc32 : c < 32 := by
        rcases Nat.lt_or_ge c 32 with q | q
        · exact q
        · rw [Nat.testBit_lt_two_pow (Nat.lt_of_lt_of_le (h.u hb) (Nat.pow_le_pow_right (n := 2) (by omega) q))] at hc; cases hc
      have := q c hc32 (by rw [le_get hb]; exact hc)
      rwa [le_get ha] at this
  unfold lattice_order.y0
  rw [flows_eq h ha (by omega), flows_eq h hb (by omega), h.at_ hb, h.at_ ha, ← le_get ha, ← le_get hb]
  unfold badO
  by_cases hS : Above U a b <;> simp only [hS, decide_true, decide_false] at hz ⊢
  all_goals
    by_cases e : a = b
    · subst e
      simp only [if_true, Option.bind_eq_bind, Option.bind_some]
      cases h1 : le U a a <;> simp [hz]
    · have e' : ¬ (a : Int) = (b : Int) := by omega
      simp only [if_neg e, if_neg e', Option.bind_eq_bind, Option.bind_some]
      cases h1 : le U a b <;> cases h2 : le U b a <;> simp [hz]

def fstOf {ρ : Type} (n : Nat) (bad : Nat → Option ρ) : Option ρ := (List.range n).findSome? bad
def out {ρ : Type} : Option ρ → ρ ⊕ Unit
  | some r => .inl r
  | none => .inr ()
theorem search {ρ : Type} (L : Int → Option (ρ ⊕ Unit)) (n : Nat) (bad : Nat → Option ρ) (hend : L (n : Int) = some (.inr ()))
    (hstep : ∀ k, k < n → L (k : Int) = (match bad k with | some r => some (.inl r) | none => L ((k + 1 : Nat) : Int))) : L 0 = some (out (fstOf n bad)) := by
  have key : ∀ d k, n = k + d → L (k : Int) = some (out ((List.range' k d).findSome? bad)) := by
    intro d
    induction d with
    | zero => intro k e; rw [show k = n by omega, hend]; rfl
    | succ d ih =>
      intro k e
      rw [hstep k (by omega), List.range'_succ, List.findSome?_cons]
      cases hb : bad k with
      | some r => rfl
      | none => exact ih (k + 1) (by omega)
  have := key n 0 (by omega)
  rw [← List.range_eq_range'] at this
  exact this
theorem fst_none {ρ : Type} {n : Nat} {bad : Nat → Option ρ} : fstOf n bad = none ↔ ∀ k, k < n → bad k = none := by
  unfold fstOf
  rw [List.findSome?_eq_none_iff]
  simp
theorem fst_congr {ρ : Type} {n : Nat} {p q : Nat → Option ρ} (h : ∀ k, k < n → p k = q k) : fstOf n p = fstOf n q := by
  unfold fstOf
  have : ∀ l : List Nat, (∀ k ∈ l, k < n) → l.findSome? p = l.findSome? q := by
    intro l
    induction l with
    | nil => intro _; rfl
    | cons a l ih =>
      intro hl
      rw [List.findSome?_cons, List.findSome?_cons, h a (hl a (List.mem_cons_self ..)), ih (fun k hk => hl k (List.mem_cons_of_mem _ hk))]
  exact this _ (fun k hk => by simpa using hk)
/-- Where what is found tells no more than that something was. -/
theorem fst_const {ρ : Type} {n : Nat} {bad : Nat → Option ρ} {r : ρ} (h : ∀ k s, bad k = some s → s = r) : fstOf n bad = if ∃ k, k < n ∧ bad k ≠ none then some r else none := by
  cases hf : fstOf n bad with
  | none => rw [if_neg]; rintro ⟨k, hk, hb⟩; exact hb (fst_none.1 hf k hk)
  | some s =>
    have hs : s = r := by
      unfold fstOf at hf
      obtain ⟨k, _, hk⟩ := List.exists_of_findSome?_eq_some hf
      exact h k s hk
    rw [if_pos, hs]
    apply Classical.byContradiction
    intro hn
    have : fstOf n bad = none := fst_none.2 (fun k hk => Classical.byContradiction fun hb => hn ⟨k, hk, hb⟩)
    rw [this] at hf; cases hf
theorem step1 {k n : Nat} (h : n ≤ 1000) (hk : k < n) : IntKind.i64.wrap ((k : Int) + 1) = ((k + 1 : Nat) : Int) := by
  rw [wrap64 (by omega) (by omega)]; omega
theorem order_eq {l : api_Lattice} {U : List Nat} (h : Is l U) : lattice_order.f l = some (decide (¬ ∃ a b, a < U.length ∧ b < U.length ∧ badO U a b = true)) := by
  unfold lattice_order.f lattice_pairs.f
  have hl := h.len
  have := pairs_eq (t := ()) (t' := ()) (n := U.length) (yb := lattice_order.y0 l) (bad := badO U) (by omega) (fun a b ha hb => order_y0 h ha hb)
  rw [h.n]
  simp only [Option.bind_eq_bind, Option.bind_some]
  rw [this]
  by_cases hb : ∃ a b, a < U.length ∧ b < U.length ∧ badO U a b = true
  · rw [if_pos hb, decide_eq_false (fun k => k hb)]; rfl
  · rw [if_neg hb, decide_eq_true hb]; rfl

def bad12 (U : List Nat) (a b c : Nat) : Bool := le U a b && le U b c && !le U a c
def bad11 (U : List Nat) (a b : Nat) : Bool := !decide (a = b) && le U a b && le U b a
theorem order_l12 {l : api_Lattice} {U : List Nat} (h : Is l U) {a b : Nat} (ha : a < U.length) (hb : b < U.length) :
    reticentref01_order.l12 l (a : Int) (b : Int) 0 = some (out (fstOf U.length fun c => if bad12 U a b c then some false else none)) := by
  have hl := h.len
  refine search (fun k => reticentref01_order.l12 l (a : Int) (b : Int) k) U.length _ ?_ ?_
  · show reticentref01_order.l12 l (a : Int) (b : Int) (U.length : Int) = _
    rw [reticentref01_order.l12, h.n, if_neg (by omega)]
  · intro c hc
    show reticentref01_order.l12 l (a : Int) (b : Int) (c : Int) = _
    rw [reticentref01_order.l12, h.n, if_pos (by omega), refFlows_eq h ha (by omega), refFlows_eq h hb (by omega), refFlows_eq h ha (by omega), ← le_get ha, ← le_get ha, ← le_get hb, step1 (by omega) hc]
    unfold bad12
    cases h1 : le U a b <;> cases h2 : le U b c <;> cases h3 : le U a c <;> simp
theorem fst_bool {ρ : Type} {n : Nat} {f : Nat → Bool} {r : ρ} : (fstOf n fun k => if f k then some r else none) = if decide (∃ k, k < n ∧ f k = true) = true then some r else none := by
  rw [fst_const (r := r) (by intro k s e; split at e <;> simp_all)]
  have e : (∃ k, k < n ∧ (if f k = true then some r else none : Option ρ) ≠ none) ↔ ∃ k, k < n ∧ f k = true := by
    constructor
    · rintro ⟨k, hk, hb⟩; exact ⟨k, hk, by split at hb <;> simp_all⟩
    · rintro ⟨k, hk, hb⟩; exact ⟨k, hk, by rw [if_pos hb]; simp⟩
  by_cases q : ∃ k, k < n ∧ f k = true
  · rw [if_pos (e.2 q), decide_eq_true q]; rfl
  · rw [if_neg (fun k => q (e.1 k)), decide_eq_false q]; rfl
noncomputable def bad2 (U : List Nat) (a b : Nat) : Bool := bad11 U a b || decide (∃ c, c < U.length ∧ bad12 U a b c = true)
noncomputable def bad1 (U : List Nat) (a : Nat) : Bool := !le U a a || decide (∃ b, b < U.length ∧ bad2 U a b = true)
theorem order_l11 {l : api_Lattice} {U : List Nat} (h : Is l U) {a : Nat} (ha : a < U.length) :
    reticentref01_order.l11 l (a : Int) 0 = some (out (fstOf U.length fun b => if bad2 U a b then some false else none)) := by
  have hl := h.len
  refine search (fun k => reticentref01_order.l11 l (a : Int) k) U.length _ ?_ ?_
  · show reticentref01_order.l11 l (a : Int) (U.length : Int) = _
    rw [reticentref01_order.l11, h.n, if_neg (by omega)]
  · intro b hb
    show reticentref01_order.l11 l (a : Int) (b : Int) = _
    rw [reticentref01_order.l11, h.n, if_pos (by omega), refFlows_eq h ha (by omega), refFlows_eq h hb (by omega), ← le_get ha, ← le_get hb, order_l12 h ha hb, step1 (by omega) hb, fst_bool]
    have e2 : ((a : Int) = (b : Int)) ↔ a = b := Int.natCast_inj
    unfold bad2 bad11
    simp only [e2]
    generalize decide (∃ c, c < U.length ∧ bad12 U a b c = true) = P
    by_cases hab : a = b <;> cases P <;> cases h1 : le U a b <;> cases h2 : le U b a <;> simp [hab, out]
theorem order_ref {l : api_Lattice} {U : List Nat} (h : Is l U) :
    reticentref01_order.f l = some (decide (¬ ∃ a, a < U.length ∧ bad1 U a = true)) := by
  have hl := h.len
  unfold reticentref01_order.f
  have key : reticentref01_order.l8 l 0 = some (out (fstOf U.length fun a => if bad1 U a then some false else none)) := by
    refine search (fun k => reticentref01_order.l8 l k) U.length _ ?_ ?_
    · show reticentref01_order.l8 l (U.length : Int) = _
      rw [reticentref01_order.l8, h.n, if_neg (by omega)]
    · intro a ha
      show reticentref01_order.l8 l (a : Int) = _
      rw [reticentref01_order.l8, h.n, if_pos (by omega), refFlows_eq h ha (by omega), ← le_get ha, order_l11 h ha, step1 (by omega) ha, fst_bool]
      unfold bad1
      generalize decide (∃ b, b < U.length ∧ bad2 U a b = true) = P
      cases P <;> cases h1 : le U a a <;> simp [out]
  rw [key, fst_bool]
  rw [decide_not]
  generalize decide (∃ a, a < U.length ∧ bad1 U a = true) = P
  cases P <;> simp [out]
/-- An order, of labels as numbers. -/
structure Ord (U : List Nat) : Prop where
  refl : ∀ a, a < U.length → le U a a = true
  anti : ∀ a b, a < U.length → b < U.length → le U a b = true → le U b a = true → a = b
  trans : ∀ a b c, a < U.length → b < U.length → c < U.length → le U a b = true → le U b c = true → le U a c = true
theorem ord_ref {U : List Nat} : (¬ ∃ a, a < U.length ∧ bad1 U a = true) ↔ Ord U := by
  have e : (∃ a, a < U.length ∧ bad1 U a = true) ↔ ∃ a, a < U.length ∧ (le U a a = false ∨ ∃ b, b < U.length ∧ (bad11 U a b = true ∨ ∃ c, c < U.length ∧ bad12 U a b c = true)) := by
    simp only [bad1, bad2, Bool.or_eq_true, decide_eq_true_iff, Bool.not_eq_true']
  rw [e]
  constructor
  · intro q
    refine ⟨fun a ha => ?_, fun a b ha hb h1 h2 => ?_, fun a b c ha hb hc h1 h2 => ?_⟩
    · cases e : le U a a with
      | true => rfl
      | false => exact absurd ⟨a, ha, .inl e⟩ q
    · apply Classical.byContradiction
      intro e
      exact q ⟨a, ha, .inr ⟨b, hb, .inl (by simp [bad11, e, h1, h2])⟩⟩
    · cases e : le U a c with
      | true => rfl
      | false => exact absurd ⟨a, ha, .inr ⟨b, hb, .inr ⟨c, hc, by simp [bad12, e, h1, h2]⟩⟩⟩ q
  · rintro q ⟨a, ha, h1 | ⟨b, hb, h1 | ⟨c, hc, h1⟩⟩⟩
    · rw [q.refl a ha] at h1; cases h1
    · simp [bad11] at h1
      exact h1.1.1 (q.anti a b ha hb h1.1.2 h1.2)
    · simp [bad12] at h1
      rw [q.trans a b c ha hb hc h1.1.1 h1.1.2] at h1; simp at h1
theorem le_far {U : List Nat} (hU : ∀ x ∈ U, x < 2 ^ U.length) {a c : Nat} (h : le U a c = true) : c < U.length := by
  rcases Nat.lt_or_ge c U.length with q | q
  · exact q
  · unfold le at h
    have hx : U.getD a 0 < 2 ^ U.length := by
      rcases Nat.lt_or_ge a U.length with q2 | q2
      · have := hU _ (List.getElem_mem q2)
        simpa [List.getD, q2] using this
      · have : U.getD a 0 = 0 := by simp [List.getD, q2]
        rw [this]; exact Nat.pow_pos (by omega)
    rw [Nat.testBit_lt_two_pow (Nat.lt_of_lt_of_le hx (Nat.pow_le_pow_right (n := 2) (by omega) q))] at h
    cases h
theorem ord_lat {U : List Nat} (hn : U.length ≤ 10) (hU : ∀ x ∈ U, x < 2 ^ U.length) : (¬ ∃ a b, a < U.length ∧ b < U.length ∧ badO U a b = true) ↔ Ord U := by
  constructor
  · intro q
    refine ⟨fun a ha => ?_, fun a b ha hb h1 h2 => ?_, fun a b c ha hb hc h1 h2 => ?_⟩
    · cases e : le U a a with
      | true => rfl
      | false => exact absurd ⟨a, a, ha, ha, by simp [badO, e]⟩ q
    · apply Classical.byContradiction
      intro e
      exact q ⟨a, b, ha, hb, by simp [badO, e, h1, h2]⟩
    · cases e : le U a c with
      | true => rfl
      | false =>
        refine absurd ⟨a, b, ha, hb, ?_⟩ q
        have : ¬ Above U a b := fun k => by rw [k c (by omega) h2] at e; cases e
        simp [badO, h1, this]
  · rintro q ⟨a, b, ha, hb, h1⟩
    unfold badO at h1
    rw [Bool.or_eq_true] at h1
    rcases h1 with h1 | h1
    · by_cases e : a = b
      · subst e; rw [if_pos rfl, q.refl a ha] at h1; cases h1
      · rw [if_neg e, Bool.and_eq_true] at h1; exact e (q.anti a b ha hb h1.1 h1.2)
    · rw [Bool.and_eq_true] at h1
      have : Above U a b := fun c _ hc => q.trans a b c ha hb (le_far hU hc) h1.1 hc
      simp [this] at h1
theorem order_same {l : api_Lattice} {U : List Nat} (h : Is l U) (hU : ∀ x ∈ U, x < 2 ^ U.length) : lattice_order.f l = some (decide (Ord U)) ∧ reticentref01_order.f l = some (decide (Ord U)) := by
  rw [order_eq h, order_ref h]
  exact ⟨by simp only [ord_lat h.len hU], by simp only [ord_ref]⟩

end Go.Proofs.Ythpmbokenhpakaa.Jdg
