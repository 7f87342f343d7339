/- Rules that are made right: the pile of sorts. -/
import Derived.Test.YtjkijjhjffodcaaLat1
import Derived.Test.YtjkijjhjffodcaaDLF
set_option linter.unusedVariables false
set_option linter.unusedSimpArgs false
namespace Go.Proofs.Ytjkijjhjffodcaa.Par
open Go Go.Proofs.Ytjkijjhjffodcaa.Ab Go.Proofs.Ytjkijjhjffodcaa.LF
open Go.Proofs.Ytjkijjhjffodcaa.Lat (lAt_some)
theorem wrapZ {x : Int} (h0 : -9223372036854775808 ≤ x) (h1 : x < 9223372036854775808) : IntKind.i64.wrap x = x := by
  show (if (true && decide (x % 18446744073709551616 ≥ 9223372036854775808)) = true then x % 18446744073709551616 - 18446744073709551616 else x % 18446744073709551616) = x
  simp only [Bool.true_and, decide_eq_true_eq]
  split <;> omega
theorem w1 {n : Nat} (h : n ≤ 100000) : IntKind.i64.wrap ((n : Int) - 1) = (n : Int) - 1 := wrapZ (by omega) (by omega)
theorem w2 {n : Nat} (h : n ≤ 100000) : IntKind.i64.wrap ((n : Int) - 2) = (n : Int) - 2 := wrapZ (by omega) (by omega)
theorem wS {n : Nat} (h : n ≤ 100000) : IntKind.i64.wrap ((n : Int) + 1) = ((n + 1 : Nat) : Int) := by rw [wrapZ (by omega) (by omega)]; rfl
theorem lAt_neg {α : Type} {xs : List α} {i : Int} (h : i < 0) : lAt xs i = none := by unfold lAt; rw [if_neg (by omega)]
theorem lAt_last {α : Type} {l : List α} {x : α} : lAt (l ++ [x]) (((l ++ [x]).length : Int) - 1) = some x := by
  have : (((l ++ [x]).length : Int) - 1) = ((l.length : Nat) : Int) := by simp
  rw [this, lAt_some (by simp)]; simp
theorem lAt_last2 {α : Type} {l : List α} {x y : α} : lAt (l ++ [y] ++ [x]) (((l ++ [y] ++ [x]).length : Int) - 2) = some y := by
  have : (((l ++ [y] ++ [x]).length : Int) - 2) = ((l.length : Nat) : Int) := by simp
  rw [this, lAt_some (by simp)]; simp
def pop (a b : Bool) : List Bool → Option (List Bool)
  | x :: y :: r => if x = a ∧ y = a then some (b :: r) else none
  | _ => none
/-- What one thing does to the pile (its top first). -/
def st (op : Int) (S : List Bool) : Option (List Bool) :=
  if op = 1 ∨ op = 2 then some (false :: S) else if op = 6 ∨ op = 7 ∨ op = 8 ∨ op = 9 ∨ op = 10 ∨ op = 11 then some (true :: S)
  else if op = 3 ∨ op = 4 then pop false false S else if op = 5 then pop true false S else if op = 12 ∨ op = 13 then pop true true S else none
def run : List Int → List Bool → Option (List Bool)
  | [], S => some S
  | op :: r, S => (st op S).bind (run r)
theorem take_eq {a : Bool} : ∀ {S : List Bool}, S.length ≤ 1000 → rule_made_1.f a S.reverse = some (match S with | x :: y :: r => if x = a ∧ y = a then (r.reverse, true) else (S.reverse, false) | _ => (S.reverse, false))
  | [], h => by unfold rule_made_1.f; simp [show IntKind.i64.wrap (-1) < 1 by decide]
  | [x], h => by unfold rule_made_1.f; simp [show IntKind.i64.wrap 0 < 1 by decide]
  | x :: y :: r, h => by
    have hl : (x :: y :: r).reverse = r.reverse ++ [y] ++ [x] := by simp
    have hlen : (r.reverse ++ [y] ++ [x]).length = r.length + 2 := by simp
    have hr : r.length + 2 ≤ 1000 := h
    rw [hl]
    unfold rule_made_1.f
    have e1 := lAt_last (l := r.reverse ++ [y]) (x := x)
    have e2 := lAt_last2 (l := r.reverse) (x := x) (y := y)
    rw [w1 (by omega)]
    have e3 : IntKind.i64.wrap ((((r.reverse ++ [y] ++ [x]).length : Nat) : Int) - 1 - 1) = (((r.reverse ++ [y] ++ [x]).length : Nat) : Int) - 2 := by rw [wrapZ (by omega) (by omega)]; omega
    rw [e3, e1, e2, if_neg (by rw [hlen]; omega)]
    have e4 : (r.reverse ++ [y] ++ [x]).take ((((r.reverse ++ [y] ++ [x]).length : Nat) : Int) - 2).toNat = r.reverse := by
      rw [hlen, show ((((r.length + 2 : Nat) : Int) - 2).toNat) = r.reverse.length by simp, List.append_assoc, List.take_left]
    rw [e4]
    have hb : (0 : Int) ≤ (((r.reverse ++ [y] ++ [x]).length : Nat) : Int) - 2 ∧ (((r.reverse ++ [y] ++ [x]).length : Nat) : Int) - 2 ≤ (((r.reverse ++ [y] ++ [x]).length : Nat) : Int) := by rw [hlen]; omega
    simp only [if_pos hb, Option.bind_eq_bind, Option.bind_some]
    by_cases h1 : x = a <;> by_cases h2 : y = a <;> simp [h1, h2]
theorem cases13 (op : Int) : op = 1 ∨ op = 2 ∨ op = 3 ∨ op = 4 ∨ op = 5 ∨ op = 6 ∨ op = 7 ∨ op = 8 ∨ op = 9 ∨ op = 10 ∨ op = 11 ∨ op = 12 ∨ op = 13 ∨ ¬ (1 ≤ op ∧ op ≤ 13) := by omega
theorem made_step {l : List Int} {S : List Bool} {k : Nat} (hk : k < l.length) (hl : l.length ≤ 900) (hS : S.length ≤ k) :
    rule_made.l0 l S.reverse (k : Int) = (match st l[k] S with | some S' => rule_made.l0 l S'.reverse ((k + 1 : Nat) : Int) | none => some (.inl (false, false))) := by
  rw [rule_made.l0, if_pos (by omega), lAt_some hk, wS (by omega)]
  generalize l[k] = op
  have hB : 2000 ≤ big := by decide
  have hb1 : S.length + 1 ≤ big := by omega
  simp only [Option.bind_eq_bind, Option.bind_some]
  rcases cases13 op with rfl | rfl | rfl | rfl | rfl | rfl | rfl | rfl | rfl | rfl | rfl | rfl | rfl | h
  case inr.inr.inr.inr.inr.inr.inr.inr.inr.inr.inr.inr.inr =>
    have e : ∀ n : Int, 1 ≤ n → n ≤ 13 → ¬ op = n := fun n h1 h2 e => h (by omega)
    simp [st, e 1, e 2, e 3, e 4, e 5, e 6, e 7, e 8, e 9, e 10, e 11, e 12, e 13]
  all_goals first
    | (simp [st, hb1]; done)
    | (rw [take_eq (a := false) (S := S) (by omega), take_eq (a := true) (S := S) (by omega)]
       match S, hS with
       | [], _ => simp [st, pop, show 1 ≤ big by omega]
       | [x], _ => simp [st, pop, show 1 + 1 ≤ big by omega]
       | x :: y :: r, hS =>
         simp only [List.length_cons] at hS hb1
         have h1 : r.length + 1 ≤ big := by omega
         have h2 : r.length + 1 + 1 + 1 ≤ big := by omega
         cases x <;> cases y <;> simp [st, pop, h1, h2])
theorem st_len {op : Int} {S S' : List Bool} (h : st op S = some S') : S'.length ≤ S.length + 1 := by
  have hp : ∀ {a b : Bool}, pop a b S = some S' → S'.length ≤ S.length + 1 := by
    intro a b h
    match S, h with
    | [], h => simp [pop] at h
    | [x], h => simp [pop] at h
    | x :: y :: r, h =>
      by_cases q : x = a ∧ y = a
      · simp [pop, q] at h; subst h; simp
      · simp [pop, q] at h
  unfold st at h
  split at h
  · cases h; simp
  · split at h
    · cases h; simp
    · split at h
      · exact hp h
      · split at h
        · exact hp h
        · split at h
          · exact hp h
          · cases h
theorem made_l0 {l : List Int} (hl : l.length ≤ 900) : ∀ (d k : Nat) (S : List Bool), l.length = k + d → S.length ≤ k →
    rule_made.l0 l S.reverse (k : Int) = some (match run (l.drop k) S with | some S' => .inr S'.reverse | none => .inl (false, false))
  | 0, k, S, e, hS => by
    rw [rule_made.l0, if_neg (by omega), List.drop_of_length_le (by omega)]; rfl
  | d + 1, k, S, e, hS => by
    have hk : k < l.length := by omega
    rw [made_step hk hl hS, List.drop_eq_getElem_cons hk]
    unfold run
    cases h : st l[k] S with
    | none => rfl
    | some S' => exact made_l0 hl d (k + 1) S' (by omega) (by have := st_len h; omega)
/-- Whether it is made right, and as what. -/
def right (l : List Int) : Option Bool := match run l [] with
  | some [b] => if l.length > 40 then none else some b
  | _ => none
theorem made_eq {l : List Int} (hl : l.length ≤ 900) : rule_made.f l = some (match right l with | some b => (b, true) | none => (false, false)) := by
  unfold rule_made.f right
  have := made_l0 hl l.length 0 [] (by omega) (by simp)
  rw [show ((0 : Nat) : Int) = 0 from rfl, List.reverse_nil] at this
  rw [this, List.drop_zero]
  match run l [] with
  | none => rfl
  | some [] => rfl
  | some [b] =>
    by_cases h : l.length > 40
    · have h' : (l.length : Int) > 40 := by omega
      simp [h, h']
    · have h' : ¬ (l.length : Int) > 40 := by omega
      simp [h, h', lAt]
  | some (x :: y :: r) =>
    have : ¬ (((x :: y :: r).reverse.length : Nat) : Int) = 1 := by simp; omega
    simp only [Option.bind_eq_bind, Option.bind_some, if_neg this]
    rfl
theorem Right_eq {l : List Int} {b : Bool} (hl : l.length ≤ 900) : rule_Right.f l b = some (decide (right l = some b)) := by
  unfold rule_Right.f
  rw [made_eq hl]
  cases right l with
  | none => simp
  | some c => cases b <;> cases c <;> simp
end Go.Proofs.Ytjkijjhjffodcaa.Par
