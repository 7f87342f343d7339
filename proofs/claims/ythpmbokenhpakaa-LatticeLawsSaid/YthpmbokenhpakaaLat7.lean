/- Loops that look for something. -/
import Derived.Test.YthpmbokenhpakaaLat6
set_option linter.unusedVariables false
namespace Go.Proofs.Ythpmbokenhpakaa.Lat
open Go Go.Proofs.Ythpmbokenhpakaa.Ab Go.Proofs.Ythpmbokenhpakaa.LA
open Classical
def fstOf {ρ : Type} (n : Nat) (bad : Nat → Option ρ) : Option ρ := (List.range n).findSome? bad
def out {ρ : Type} : Option ρ → ρ ⊕ Unit
  | some r => .inl r
  | none => .inr ()
theorem search {ρ : Type} (L : Int → Option (ρ ⊕ Unit)) (n : Nat) (bad : Nat → Option ρ) (hend : L (n : Int) = some (.inr ()))
    (hstep : ∀ k, k < n → L (k : Int) = (match bad k with | some r => some (.inl r) | none => L ((k + 1 : Nat) : Int))) : L 0 = some (out (fstOf n bad)) := by
  have key : ∀ d k, n = k + d → L (k : Int) = some (out ((List.range' k d).findSome? bad)) := by
    intro d
    induction d with
    | zero => intro k e; rw [show k = n by omega, hend]; rfl
    | succ d ih =>
      intro k e
      rw [hstep k (by omega), List.range'_succ, List.findSome?_cons]
      cases hb : bad k with
      | some r => rfl
      | none => exact ih (k + 1) (by omega)
  have := key n 0 (by omega)
  rw [← List.range_eq_range'] at this
  exact this
theorem fst_none {ρ : Type} {n : Nat} {bad : Nat → Option ρ} : fstOf n bad = none ↔ ∀ k, k < n → bad k = none := by
  unfold fstOf
  rw [List.findSome?_eq_none_iff]
  simp
theorem fst_congr {ρ : Type} {n : Nat} {p q : Nat → Option ρ} (h : ∀ k, k < n → p k = q k) : fstOf n p = fstOf n q := by
  unfold fstOf
  have : ∀ l : List Nat, (∀ k ∈ l, k < n) → l.findSome? p = l.findSome? q := by
    intro l
    induction l with
    | nil => intro _; rfl
    | cons a l ih =>
      intro hl
      rw [List.findSome?_cons, List.findSome?_cons, h a (hl a (List.mem_cons_self ..)), ih (fun k hk => hl k (List.mem_cons_of_mem _ hk))]
  exact this _ (fun k hk => by simpa using hk)
/-- Where what is found tells no more than that something was. -/
theorem fst_const {ρ : Type} {n : Nat} {bad : Nat → Option ρ} {r : ρ} (h : ∀ k s, bad k = some s → s = r) : fstOf n bad = if ∃ k, k < n ∧ bad k ≠ none then some r else none := by
  cases hf : fstOf n bad with
  | none => rw [if_neg]; rintro ⟨k, hk, hb⟩; exact hb (fst_none.1 hf k hk)
  | some s =>
    have hs : s = r := by
      unfold fstOf at hf
      obtain ⟨k, _, hk⟩ := List.exists_of_findSome?_eq_some hf
      exact h k s hk
    rw [if_pos, hs]
    apply Classical.byContradiction
    intro hn
    have : fstOf n bad = none := fst_none.2 (fun k hk => Classical.byContradiction fun hb => hn ⟨k, hk, hb⟩)
    rw [this] at hf; cases hf
theorem step1 {k n : Nat} (h : n ≤ 1000) (hk : k < n) : IntKind.i64.wrap ((k : Int) + 1) = ((k + 1 : Nat) : Int) := by
  rw [wrap64 (by omega) (by omega)]; omega
theorem order_eq {l : api_Lattice} {U : List Nat} (h : Is l U) : lattice_order.f l = some (decide (¬ ∃ a b, a < U.length ∧ b < U.length ∧ badO U a b = true)) := by
  unfold lattice_order.f lattice_pairs.f
  have hl := h.len
  have := pairs_eq (t := ()) (t' := ()) (n := U.length) (yb := lattice_order.y0 l) (bad := badO U) (by omega) (fun a b ha hb => order_y0 h ha hb)
  rw [h.n]
  simp only [Option.bind_eq_bind, Option.bind_some]
  rw [this]
  by_cases hb : ∃ a b, a < U.length ∧ b < U.length ∧ badO U a b = true
  · rw [if_pos hb, decide_eq_false (fun k => k hb)]; rfl
  · rw [if_neg hb, decide_eq_true hb]; rfl
end Go.Proofs.Ythpmbokenhpakaa.Lat
