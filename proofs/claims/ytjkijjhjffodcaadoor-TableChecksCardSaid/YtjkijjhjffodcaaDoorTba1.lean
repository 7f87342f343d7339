/- Plain laws, by program out of this seat's plain texts. -/
import Derived.Test.YtjkijjhjffodcaaDoorDLT
set_option linter.unusedVariables false
set_option linter.unusedSimpArgs false
set_option linter.unusedSectionVars false
namespace Go.Proofs.YtjkijjhjffodcaaDoor.Tb
open Go Go.Proofs.YtjkijjhjffodcaaDoor.Ab Go.Proofs.YtjkijjhjffodcaaDoor.LT
section
theorem lAt_some {α : Type} {xs : List α} {i : Nat} (h : i < xs.length) : lAt xs (i : Int) = some xs[i] := by
  simp [lAt, h]
end
section
theorem wrapU32 {m : Nat} (h : m < 4294967296) : IntKind.u32.wrap (m : Int) = (m : Int) := by
  have e : (m : Int) % (4294967296 : Int) = (m : Int) := Int.emod_eq_of_lt (by omega) (by omega)
  show (if (false && decide ((m : Int) % 4294967296 ≥ 2147483648)) = true then (m : Int) % 4294967296 - 4294967296 else (m : Int) % 4294967296) = m
  rw [e, if_neg]
  simp
theorem ofInt_nat {m : Nat} (h : m < 4294967296) : (BitVec.ofInt 32 (m : Int)).toNat = m := by
  rw [BitVec.ofInt_natCast, BitVec.toNat_ofNat]
  exact Nat.mod_eq_of_lt h
theorem bOr_nat {a b : Nat} (ha : a < 4294967296) (hb : b < 4294967296) : bOr .u32 (a : Int) (b : Int) = ((a ||| b : Nat) : Int) := by
  unfold bOr
  show IntKind.u32.wrap (((BitVec.ofInt 32 (a : Int) ||| BitVec.ofInt 32 (b : Int)).toNat : Nat) : Int) = _
  rw [BitVec.toNat_or, ofInt_nat ha, ofInt_nat hb]
  exact wrapU32 (Nat.or_lt_two_pow (n := 32) ha hb)
theorem bShr_nat {a k : Nat} (hk : k ≤ 32) : bShr .u32 (a : Int) (k : Int) = ((a >>> k : Nat) : Int) := by
  unfold bShr
  show (a : Int).fdiv (2 ^ (min ((k : Int).toNat) 32)) = _
  rw [Int.toNat_natCast, Nat.min_eq_left hk, Nat.shiftRight_eq_div_pow]
  rw [Int.fdiv_eq_ediv_of_nonneg _ (Int.le_of_lt (Int.pow_pos (by omega)))]
  norm_cast
end
section
open Classical
end
section
open Classical
theorem bShl_nat {x k : Nat} (hk : k ≤ 20) (hx : x ≤ 1) : bShl .u32 (x : Int) (k : Int) = ((x <<< k : Nat) : Int) := by
  unfold bShl
  show IntKind.u32.wrap ((x : Int) * (2 ^ (min ((k : Int).toNat) 32) : Nat)) = _
  rw [Int.toNat_natCast, Nat.min_eq_left (by omega), ← Int.natCast_mul, Nat.shiftLeft_eq]
  refine wrapU32 ?_
  have : 2 ^ k ≤ 2 ^ 20 := Nat.pow_le_pow_right (by omega) hk
  have : x * 2 ^ k ≤ 1 * 2 ^ 20 := Nat.mul_le_mul hx this
  omega
end
section
open Classical
end
section
theorem wrapZ {x : Int} (h0 : -9223372036854775808 ≤ x) (h1 : x < 9223372036854775808) : IntKind.i64.wrap x = x := by
  show (if (true && decide (x % 18446744073709551616 ≥ 9223372036854775808)) = true then x % 18446744073709551616 - 18446744073709551616 else x % 18446744073709551616) = x
  simp only [Bool.true_and, decide_eq_true_eq]
  split <;> omega
theorem w1 {n : Nat} (h : n ≤ 100000) : IntKind.i64.wrap ((n : Int) - 1) = (n : Int) - 1 := wrapZ (by omega) (by omega)
theorem w2 {n : Nat} (h : n ≤ 100000) : IntKind.i64.wrap ((n : Int) - 2) = (n : Int) - 2 := wrapZ (by omega) (by omega)
theorem wS {n : Nat} (h : n ≤ 100000) : IntKind.i64.wrap ((n : Int) + 1) = ((n + 1 : Nat) : Int) := by rw [wrapZ (by omega) (by omega)]; rfl
theorem lAt_last {α : Type} {l : List α} {x : α} : lAt (l ++ [x]) (((l ++ [x]).length : Int) - 1) = some x := by
  have : (((l ++ [x]).length : Int) - 1) = ((l.length : Nat) : Int) := by simp
  rw [this, lAt_some (by simp)]; simp
theorem lAt_last2 {α : Type} {l : List α} {x y : α} : lAt (l ++ [y] ++ [x]) (((l ++ [y] ++ [x]).length : Int) - 2) = some y := by
  have : (((l ++ [y] ++ [x]).length : Int) - 2) = ((l.length : Nat) : Int) := by simp
  rw [this, lAt_some (by simp)]; simp
def pop (a b : Bool) : List Bool → Option (List Bool)
  | x :: y :: r => if x = a ∧ y = a then some (b :: r) else none
  | _ => none
def st (op : Int) (S : List Bool) : Option (List Bool) :=
  if op = 1 ∨ op = 2 then some (false :: S) else if op = 6 ∨ op = 7 ∨ op = 8 ∨ op = 9 ∨ op = 10 ∨ op = 11 then some (true :: S)
  else if op = 3 ∨ op = 4 then pop false false S else if op = 5 then pop true false S else if op = 12 ∨ op = 13 then pop true true S else none
def run : List Int → List Bool → Option (List Bool)
  | [], S => some S
  | op :: r, S => (st op S).bind (run r)
theorem take_eq {a : Bool} : ∀ {S : List Bool}, S.length ≤ 1000 → rule_made_1.f a S.reverse = some (match S with | x :: y :: r => if x = a ∧ y = a then (r.reverse, true) else (S.reverse, false) | _ => (S.reverse, false))
  | [], h => by unfold rule_made_1.f; simp [show IntKind.i64.wrap (-1) < 1 by decide]
  | [x], h => by unfold rule_made_1.f; simp [show IntKind.i64.wrap 0 < 1 by decide]
  | x :: y :: r, h => by
    have hl : (x :: y :: r).reverse = r.reverse ++ [y] ++ [x] := by simp
    have hlen : (r.reverse ++ [y] ++ [x]).length = r.length + 2 := by simp
    have hr : r.length + 2 ≤ 1000 := h
    rw [hl]
    unfold rule_made_1.f
    have e1 := lAt_last (l := r.reverse ++ [y]) (x := x)
    have e2 := lAt_last2 (l := r.reverse) (x := x) (y := y)
    rw [w1 (by omega)]
    have e3 : IntKind.i64.wrap ((((r.reverse ++ [y] ++ [x]).length : Nat) : Int) - 1 - 1) = (((r.reverse ++ [y] ++ [x]).length : Nat) : Int) - 2 := by rw [wrapZ (by omega) (by omega)]; omega
    rw [e3, e1, e2, if_neg (by rw [hlen]; omega)]
    have e4 : (r.reverse ++ [y] ++ [x]).take ((((r.reverse ++ [y] ++ [x]).length : Nat) : Int) - 2).toNat = r.reverse := by
      rw [hlen, show ((((r.length + 2 : Nat) : Int) - 2).toNat) = r.reverse.length by simp, List.append_assoc, List.take_left]
    rw [e4]
    have hb : (0 : Int) ≤ (((r.reverse ++ [y] ++ [x]).length : Nat) : Int) - 2 ∧ (((r.reverse ++ [y] ++ [x]).length : Nat) : Int) - 2 ≤ (((r.reverse ++ [y] ++ [x]).length : Nat) : Int) := by rw [hlen]; omega
    simp only [if_pos hb, Option.bind_eq_bind, Option.bind_some]
    by_cases h1 : x = a <;> by_cases h2 : y = a <;> simp [h1, h2]
theorem cases13 (op : Int) : op = 1 ∨ op = 2 ∨ op = 3 ∨ op = 4 ∨ op = 5 ∨ op = 6 ∨ op = 7 ∨ op = 8 ∨ op = 9 ∨ op = 10 ∨ op = 11 ∨ op = 12 ∨ op = 13 ∨ ¬ (1 ≤ op ∧ op ≤ 13) := by omega
theorem made_step {l : List Int} {S : List Bool} {k : Nat} (hk : k < l.length) (hl : l.length ≤ 900) (hS : S.length ≤ k) :
    rule_made.l0 l S.reverse (k : Int) = (match st l[k] S with | some S' => rule_made.l0 l S'.reverse ((k + 1 : Nat) : Int) | none => some (.inl (false, false))) := by
  rw [rule_made.l0, if_pos (by omega), lAt_some hk, wS (by omega)]
  generalize l[k] = op
  have hB : 2000 ≤ big := by decide
  have hb1 : S.length + 1 ≤ big := by omega
  simp only [Option.bind_eq_bind, Option.bind_some]
  rcases cases13 op with rfl | rfl | rfl | rfl | rfl | rfl | rfl | rfl | rfl | rfl | rfl | rfl | rfl | h
  case inr.inr.inr.inr.inr.inr.inr.inr.inr.inr.inr.inr.inr =>
    have e : ∀ n : Int, 1 ≤ n → n ≤ 13 → ¬ op = n := fun n h1 h2 e => h (by omega)
    simp [st, e 1, e 2, e 3, e 4, e 5, e 6, e 7, e 8, e 9, e 10, e 11, e 12, e 13]
  all_goals first
    | (simp [st, hb1]; done)
    | (rw [take_eq (a := false) (S := S) (by omega), take_eq (a := true) (S := S) (by omega)]
       match S, hS with
       | [], _ => simp [st, pop, show 1 ≤ big by omega]
       | [x], _ => simp [st, pop, show 1 + 1 ≤ big by omega]
       | x :: y :: r, hS =>
         simp only [List.length_cons] at hS hb1
         have h1 : r.length + 1 ≤ big := by omega
         have h2 : r.length + 1 + 1 + 1 ≤ big := by omega
         cases x <;> cases y <;> simp [st, pop, h1, h2])
theorem st_len {op : Int} {S S' : List Bool} (h : st op S = some S') : S'.length ≤ S.length + 1 := by
  have hp : ∀ {a b : Bool}, pop a b S = some S' → S'.length ≤ S.length + 1 := by
    intro a b h
    match S, h with
    | [], h => simp [pop] at h
    | [x], h => simp [pop] at h
    | x :: y :: r, h =>
      by_cases q : x = a ∧ y = a
      · simp [pop, q] at h; subst h; simp
      · simp [pop, q] at h
  unfold st at h
  split at h
  · cases h; simp
  · split at h
    · cases h; simp
    · split at h
      · exact hp h
      · split at h
        · exact hp h
        · split at h
          · exact hp h
          · cases h
theorem made_l0 {l : List Int} (hl : l.length ≤ 900) : ∀ (d k : Nat) (S : List Bool), l.length = k + d → S.length ≤ k →
    rule_made.l0 l S.reverse (k : Int) = some (match run (l.drop k) S with | some S' => .inr S'.reverse | none => .inl (false, false))
  | 0, k, S, e, hS => by
    rw [rule_made.l0, if_neg (by omega), List.drop_of_length_le (by omega)]; rfl
  | d + 1, k, S, e, hS => by
    have hk : k < l.length := by omega
    rw [made_step hk hl hS, List.drop_eq_getElem_cons hk]
    unfold run
    cases h : st l[k] S with
    | none => rfl
    | some S' => exact made_l0 hl d (k + 1) S' (by omega) (by have := st_len h; omega)
def right (l : List Int) : Option Bool := match run l [] with
  | some [b] => if l.length > 40 then none else some b
  | _ => none
theorem made_eq {l : List Int} (hl : l.length ≤ 900) : rule_made.f l = some (match right l with | some b => (b, true) | none => (false, false)) := by
  unfold rule_made.f right
  have := made_l0 hl l.length 0 [] (by omega) (by simp)
  rw [show ((0 : Nat) : Int) = 0 from rfl, List.reverse_nil] at this
  rw [this, List.drop_zero]
  match run l [] with
  | none => rfl
  | some [] => rfl
  | some [b] =>
    by_cases h : l.length > 40
    · have h' : (l.length : Int) > 40 := by omega
      simp [h, h']
    · have h' : ¬ (l.length : Int) > 40 := by omega
      simp [h, h', lAt]
  | some (x :: y :: r) =>
    have : ¬ (((x :: y :: r).reverse.length : Nat) : Int) = 1 := by simp; omega
    simp only [Option.bind_eq_bind, Option.bind_some, if_neg this]
    rfl
theorem Right_eq {l : List Int} {b : Bool} (hl : l.length ≤ 900) : rule_Right.f l b = some (decide (right l = some b)) := by
  unfold rule_Right.f
  rw [made_eq hl]
  cases right l with
  | none => simp
  | some c => cases b <;> cases c <;> simp
end
section
def code (b : Bool) : Int := if b then 2 else 1
def pil (S : List Bool) : List Int := (S.map code).reverse
theorem pil_len {S : List Bool} : (pil S).length = S.length := by simp [pil]
theorem two_eq {c : Int} : ∀ {S : List Bool}, S.length ≤ 1000 → reticentref04_two.f (pil S) c = some (match S with | x :: y :: r => decide (code x = c) && decide (code y = c) | _ => false)
  | [], h => by unfold reticentref04_two.f; simp [pil]
  | [x], h => by unfold reticentref04_two.f; simp [pil]
  | x :: y :: r, h => by
    have hl : pil (x :: y :: r) = pil r ++ [code y] ++ [code x] := by simp [pil]
    have hlen : (pil r ++ [code y] ++ [code x]).length = r.length + 2 := by simp [pil_len]
    have hr : r.length + 2 ≤ 1000 := h
    rw [hl]
    unfold reticentref04_two.f
    have e1 := lAt_last (l := pil r ++ [code y]) (x := code x)
    have e2 := lAt_last2 (l := pil r) (x := code x) (y := code y)
    rw [w1 (by omega), w2 (by omega), e1, e2, if_pos (by rw [hlen]; omega)]
    by_cases h1 : code x = c <;> by_cases h2 : code y = c <;> simp [h1, h2]
theorem pil_take1 {x y : Bool} {r : List Bool} (h : r.length ≤ 1000) : (pil (x :: y :: r)).take (IntKind.i64.wrap (((pil (x :: y :: r)).length : Int) - 1)).toNat = pil (y :: r) := by
  have hl : pil (x :: y :: r) = pil (y :: r) ++ [code x] := by simp [pil]
  rw [w1 (by rw [pil_len]; simp; omega), pil_len, hl]
  have : ((((x :: y :: r).length : Nat) : Int) - 1).toNat = (pil (y :: r)).length := by rw [pil_len]; simp
  rw [this, List.take_left]
theorem pil_take2 {x y : Bool} {r : List Bool} (h : r.length ≤ 1000) : (pil (x :: y :: r)).take (IntKind.i64.wrap (((pil (x :: y :: r)).length : Int) - 2)).toNat = pil r := by
  have hl : pil (x :: y :: r) = pil r ++ [code y, code x] := by simp [pil]
  rw [w2 (by rw [pil_len]; simp; omega), pil_len, hl]
  have : ((((x :: y :: r).length : Nat) : Int) - 2).toNat = (pil r).length := by rw [pil_len]; simp; omega
  rw [this, List.take_left]
theorem pil_b1 {x y : Bool} {r : List Bool} (h : r.length ≤ 1000) : (0 ≤ IntKind.i64.wrap (((pil (x :: y :: r)).length : Int) - 1) ∧ IntKind.i64.wrap (((pil (x :: y :: r)).length : Int) - 1) ≤ ((pil (x :: y :: r)).length : Int)) := by
  rw [w1 (by rw [pil_len]; simp; omega), pil_len]; simp; omega
theorem pil_b2 {x y : Bool} {r : List Bool} (h : r.length ≤ 1000) : (0 ≤ IntKind.i64.wrap (((pil (x :: y :: r)).length : Int) - 2) ∧ IntKind.i64.wrap (((pil (x :: y :: r)).length : Int) - 2) ≤ ((pil (x :: y :: r)).length : Int)) := by
  rw [w2 (by rw [pil_len]; simp; omega), pil_len]; simp; omega
theorem refMade_step {l : List Int} {S : List Bool} {k : Nat} (hk : k < l.length) (hl : l.length ≤ 900) (hS : S.length ≤ k) :
    reticentref04_Made.l0 l (pil S) (k : Int) = (match st l[k] S with | some S' => reticentref04_Made.l0 l (pil S') ((k + 1 : Nat) : Int) | none => some (.inl 0)) := by
  rw [reticentref04_Made.l0, if_pos (by omega), lAt_some hk, wS (by omega)]
  generalize l[k] = op
  have hB : 20000 ≤ big := by decide
  have hb1 : (S.length + 1) * 8 ≤ big := by omega
  simp only [Option.bind_eq_bind, Option.bind_some]
  have pf : ∀ S, pil (false :: S) = pil S ++ [1] := fun S => by simp [pil, code]
  have pt : ∀ S, pil (true :: S) = pil S ++ [2] := fun S => by simp [pil, code]
  rcases cases13 op with rfl | rfl | rfl | rfl | rfl | rfl | rfl | rfl | rfl | rfl | rfl | rfl | rfl | h
  case inr.inr.inr.inr.inr.inr.inr.inr.inr.inr.inr.inr.inr =>
    have e : ∀ n : Int, 1 ≤ n → n ≤ 13 → ¬ op = n := fun n h1 h2 e => h (by omega)
    have g : ¬ (6 ≤ op ∧ op ≤ 11) := by omega
    by_cases g1 : 6 ≤ op
    · have g2 : ¬ op ≤ 11 := fun q => g ⟨g1, q⟩
      simp [st, e 1, e 2, e 3, e 4, e 5, e 6, e 7, e 8, e 9, e 10, e 11, e 12, e 13, g1, g2]
    · simp [st, e 1, e 2, e 3, e 4, e 5, e 6, e 7, e 8, e 9, e 10, e 11, e 12, e 13, g1]
  all_goals first
    | (simp [st, pil_len, hb1, pf, pt]; done)
    | (rw [two_eq (c := 1) (S := S) (by omega), two_eq (c := 2) (S := S) (by omega)]
       match S, hS with
       | [], _ => simp [st, pop]
       | [x], _ => simp [st, pop]
       | x :: y :: r, hS =>
         simp only [List.length_cons] at hS hb1
         have hr : r.length ≤ 1000 := by omega
         rw [pil_take1 hr, pil_take2 hr]
         simp only [if_pos (pil_b1 (x := x) (y := y) hr), if_pos (pil_b2 (x := x) (y := y) hr)]
         have h1 : (r.length + 1) * 8 ≤ big := by omega
         cases x <;> cases y <;> simp [st, pop, code, pil_len, h1, pf, pt])
theorem refMade_l0 {l : List Int} (hl : l.length ≤ 900) : ∀ (d k : Nat) (S : List Bool), l.length = k + d → S.length ≤ k →
    reticentref04_Made.l0 l (pil S) (k : Int) = some (match run (l.drop k) S with | some S' => .inr (pil S') | none => .inl 0)
  | 0, k, S, e, hS => by
    rw [reticentref04_Made.l0, if_neg (by omega), List.drop_of_length_le (by omega)]; rfl
  | d + 1, k, S, e, hS => by
    have hk : k < l.length := by omega
    rw [refMade_step hk hl hS, List.drop_eq_getElem_cons hk]
    unfold run
    cases h : st l[k] S with
    | none => rfl
    | some S' => exact refMade_l0 hl d (k + 1) S' (by omega) (by have := st_len h; omega)
theorem refMade_eq {l : List Int} (hl : l.length ≤ 900) : reticentref04_Made.f l = some (match right l with | some b => code b | none => 0) := by
  unfold reticentref04_Made.f right
  have := refMade_l0 hl l.length 0 [] (by omega) (by simp)
  rw [show ((0 : Nat) : Int) = 0 from rfl] at this
  rw [show (([] : List Int)) = pil [] from rfl, this, List.drop_zero]
  match run l [] with
  | none => rfl
  | some [] => rfl
  | some [b] =>
    by_cases h : l.length > 40
    · have h' : (l.length : Int) > 40 := by omega
      simp [h, h', pil]
    · have h' : ¬ (l.length : Int) > 40 := by omega
      simp [h, h', lAt, pil]
  | some (x :: y :: r) =>
    have : ¬ (((pil (x :: y :: r)).length : Nat) : Int) = 1 := by rw [pil_len]; simp; omega
    simp only [Option.bind_eq_bind, Option.bind_some, if_neg this]
    rfl
end
section
inductive Tr where
  | lf (op : Int)
  | nd (op : Int) (x y : Tr)
def Tr.flat : Tr → List Int
  | .lf op => [op]
  | .nd op x y => x.flat ++ y.flat ++ [op]
def Tr.op : Tr → Int
  | .lf op => op
  | .nd op _ _ => op
def Tr.size : Tr → Nat
  | .lf _ => 1
  | .nd _ x y => x.size + y.size + 1
theorem flat_len : ∀ t : Tr, t.flat.length = t.size
  | .lf _ => rfl
  | .nd _ x y => by simp [Tr.flat, Tr.size, flat_len x, flat_len y]; omega
def LfOp (op : Int) : Prop := op = 1 ∨ op = 2 ∨ op = 6 ∨ op = 7 ∨ op = 8 ∨ op = 9 ∨ op = 10 ∨ op = 11
def NdOp (op : Int) : Prop := op = 3 ∨ op = 4 ∨ op = 5 ∨ op = 12 ∨ op = 13
def Tr.ok : Tr → Prop
  | .lf op => LfOp op
  | .nd op x y => NdOp op ∧ x.ok ∧ y.ok
theorem st_tree {op : Int} {S S' : List Bool} (h : st op S = some S') (T : List Tr) (hT : T.length = S.length) :
    (LfOp op ∧ S'.length = S.length + 1) ∨ (NdOp op ∧ ∃ x y r, S = x :: y :: r ∧ S'.length = r.length + 1) := by
  have hp : ∀ {a b : Bool}, pop a b S = some S' → ∃ x y r, S = x :: y :: r ∧ S'.length = r.length + 1 := by
    intro a b h
    match S, h with
    | [], h => simp [pop] at h
    | [x], h => simp [pop] at h
    | x :: y :: r, h =>
      by_cases q : x = a ∧ y = a
      · simp [pop, q] at h; subst h; exact ⟨x, y, r, rfl, by simp⟩
      · simp [pop, q] at h
  unfold st at h
  split at h
  · rename_i q; cases h; exact .inl ⟨by unfold LfOp; rcases q with q | q <;> simp [q], by simp⟩
  · split at h
    · rename_i q; cases h; exact .inl ⟨.inr (.inr q), by simp⟩
    · split at h
      · rename_i q; exact .inr ⟨by unfold NdOp; rcases q with q | q <;> simp [q], hp h⟩
      · split at h
        · rename_i q; exact .inr ⟨by unfold NdOp; simp [q], hp h⟩
        · split at h
          · rename_i q; exact .inr ⟨by unfold NdOp; rcases q with q | q <;> simp [q], hp h⟩
          · cases h
def flats (T : List Tr) : List Int := (T.reverse.map Tr.flat).flatten
theorem flats_cons {t : Tr} {T : List Tr} : flats (t :: T) = flats T ++ t.flat := by simp [flats]
theorem run_tree : ∀ {l : List Int} {S S' : List Bool} {T : List Tr}, run l S = some S' → T.length = S.length → (∀ t ∈ T, t.ok) →
    ∃ T' : List Tr, T'.length = S'.length ∧ (∀ t ∈ T', t.ok) ∧ flats T' = flats T ++ l
  | [], S, S', T, h, hT, ho => by cases h; exact ⟨T, hT, ho, by simp⟩
  | op :: l, S, S', T, h, hT, ho => by
    unfold run at h
    cases hs : st op S with
    | none => rw [hs] at h; cases h
    | some S1 =>
      rw [hs] at h
      rcases st_tree hs T hT with ⟨h1, h2⟩ | ⟨h1, x, y, r, e, h2⟩
      · obtain ⟨T', q1, q2, q3⟩ := run_tree (T := .lf op :: T) h (by simp [hT, h2]) (fun t ht => by
          rcases List.mem_cons.1 ht with rfl | ht
          · exact h1
          · exact ho t ht)
        exact ⟨T', q1, q2, by rw [q3, flats_cons]; simp [Tr.flat]⟩
      · subst e
        match T, hT, ho with
        | b :: a :: R, hT, ho =>
          obtain ⟨T', q1, q2, q3⟩ := run_tree (T := .nd op a b :: R) h (by simp at hT; simp [hT, h2]) (fun t ht => by
            rcases List.mem_cons.1 ht with rfl | ht
            · exact ⟨h1, ho a (by simp), ho b (by simp)⟩
            · exact ho t (by simp [ht]))
          exact ⟨T', q1, q2, by rw [q3, flats_cons, flats_cons, flats_cons]; simp [Tr.flat]⟩
        | [], hT, _ => simp at hT
        | [_], hT, _ => simp at hT
theorem right_tree {l : List Int} {b : Bool} (h : right l = some b) : ∃ t : Tr, t.ok ∧ t.flat = l ∧ l.length ≤ 40 := by
  unfold right at h
  cases hr : run l [] with
  | none => rw [hr] at h; cases h
  | some S =>
    rw [hr] at h
    match S, h with
    | [], h => cases h
    | x :: y :: r, h => cases h
    | [c], h =>
      simp only at h
      by_cases hl : l.length > 40
      · rw [if_pos hl] at h; cases h
      · obtain ⟨T', q1, q2, q3⟩ := run_tree (T := []) hr rfl (fun t ht => by cases ht)
        match T', q1 with
        | [t], _ => exact ⟨t, q2 t (by simp), by rw [flats_cons] at q3; simpa [flats] using q3, by omega⟩
def wd (op : Int) : Str :=
  if op = 1 then [116, 114, 117, 101] else if op = 2 then [102, 97, 108, 115, 101] else if op = 3 then [97, 110, 100] else if op = 4 then [111, 114] else if op = 5 then [60, 61]
  else if op = 6 then [98, 111, 116] else if op = 7 then [116, 111, 112] else if op = 8 then [112, 99] else if op = 9 then [111, 110, 101] else if op = 10 then [116, 119, 111] else if op = 11 then [116, 104, 114, 101, 101]
  else if op = 12 then [106, 111, 105, 110] else [109, 101, 101, 116]
def bd (op : Int) : Int := if op = 4 ∨ op = 12 then 1 else if op = 3 ∨ op = 13 then 2 else 3
def lab (op : Int) : Bool := decide (op = 12 ∨ op = 13)
def wi (op b least : Int) (p : Str × Int) : Str × Int := if b ≥ least then p else ((if lab op then ([91] ++ p.1) ++ [93] else ([40] ++ p.1) ++ [41]), p.2 + 1)
def tx : Tr → Str × Int
  | .lf op => (wd op, 0)
  | .nd op x y =>
    let X := if op = 5 then tx x else wi op (bd x.op) (bd op) (tx x)
    let Y := if op = 5 then tx y else wi op (bd y.op) (bd op + 1) (tx y)
    ((((X.1 ++ [32]) ++ wd op) ++ [32]) ++ Y.1, if X.2 < Y.2 then Y.2 else X.2)
theorem wd_len (op : Int) : (wd op).length ≤ 5 := by
  unfold wd
  by_cases h : op = 1
  · rw [if_pos h]; decide
  rw [if_neg h]; clear h
  by_cases h : op = 2
  · rw [if_pos h]; decide
  rw [if_neg h]; clear h
  by_cases h : op = 3
  · rw [if_pos h]; decide
  rw [if_neg h]; clear h
  by_cases h : op = 4
  · rw [if_pos h]; decide
  rw [if_neg h]; clear h
  by_cases h : op = 5
  · rw [if_pos h]; decide
  rw [if_neg h]; clear h
  by_cases h : op = 6
  · rw [if_pos h]; decide
  rw [if_neg h]; clear h
  by_cases h : op = 7
  · rw [if_pos h]; decide
  rw [if_neg h]; clear h
  by_cases h : op = 8
  · rw [if_pos h]; decide
  rw [if_neg h]; clear h
  by_cases h : op = 9
  · rw [if_pos h]; decide
  rw [if_neg h]; clear h
  by_cases h : op = 10
  · rw [if_pos h]; decide
  rw [if_neg h]; clear h
  by_cases h : op = 11
  · rw [if_pos h]; decide
  rw [if_neg h]; clear h
  by_cases h : op = 12
  · rw [if_pos h]; decide
  rw [if_neg h]; clear h
  decide
theorem wi_len {op b least : Int} {p : Str × Int} {n : Nat} (h1 : p.1.length ≤ 16 * n) (h2 : 0 ≤ p.2 ∧ p.2 ≤ n) : (wi op b least p).1.length ≤ 16 * n + 2 ∧ 0 ≤ (wi op b least p).2 ∧ (wi op b least p).2 ≤ n + 1 := by
  unfold wi
  split
  · exact ⟨by omega, by omega, by omega⟩
  · refine ⟨?_, by show 0 ≤ p.2 + 1; omega, by show p.2 + 1 ≤ _; omega⟩
    cases lab op <;> simp <;> omega
theorem tx_len : ∀ t : Tr, (tx t).1.length ≤ 16 * t.size ∧ 0 ≤ (tx t).2 ∧ (tx t).2 ≤ t.size
  | .lf op => by
    have := wd_len op
    refine ⟨?_, ?_, ?_⟩ <;> simp [tx, Tr.size]
    omega
  | .nd op x y => by
    obtain ⟨a1, a2, a3⟩ := tx_len x
    obtain ⟨b1, b2, b3⟩ := tx_len y
    have hw := wd_len op
    have hX : ∃ X : Str × Int, X = (if op = 5 then tx x else wi op (bd x.op) (bd op) (tx x)) ∧ X.1.length ≤ 16 * x.size + 2 ∧ 0 ≤ X.2 ∧ X.2 ≤ x.size + 1 := by
      refine ⟨_, rfl, ?_⟩
      split
      · exact ⟨by omega, by omega, by omega⟩
      · exact wi_len a1 ⟨a2, a3⟩
    have hY : ∃ Y : Str × Int, Y = (if op = 5 then tx y else wi op (bd y.op) (bd op + 1) (tx y)) ∧ Y.1.length ≤ 16 * y.size + 2 ∧ 0 ≤ Y.2 ∧ Y.2 ≤ y.size + 1 := by
      refine ⟨_, rfl, ?_⟩
      split
      · exact ⟨by omega, by omega, by omega⟩
      · exact wi_len b1 ⟨b2, b3⟩
    obtain ⟨X, eX, c1, c2, c3⟩ := hX
    obtain ⟨Y, eY, d1, d2, d3⟩ := hY
    show ((((((if op = 5 then tx x else wi op (bd x.op) (bd op) (tx x)).1 ++ [32]) ++ wd op) ++ [32]) ++ (if op = 5 then tx y else wi op (bd y.op) (bd op + 1) (tx y)).1 : Str)).length ≤ 16 * (x.size + y.size + 1) ∧ 0 ≤ (if (if op = 5 then tx x else wi op (bd x.op) (bd op) (tx x)).2 < (if op = 5 then tx y else wi op (bd y.op) (bd op + 1) (tx y)).2 then (if op = 5 then tx y else wi op (bd y.op) (bd op + 1) (tx y)).2 else (if op = 5 then tx x else wi op (bd x.op) (bd op) (tx x)).2) ∧ (if (if op = 5 then tx x else wi op (bd x.op) (bd op) (tx x)).2 < (if op = 5 then tx y else wi op (bd y.op) (bd op + 1) (tx y)).2 then (if op = 5 then tx y else wi op (bd y.op) (bd op + 1) (tx y)).2 else (if op = 5 then tx x else wi op (bd x.op) (bd op) (tx x)).2) ≤ ((x.size + y.size + 1 : Nat) : Int)
    rw [← eX, ← eY]
    refine ⟨by simp; omega, ?_, ?_⟩ <;> split <;> omega
end
section
def pc (t : Tr) : show_piece := ⟨(tx t).1, bd t.op, (tx t).2⟩
theorem word_lf {op : Int} (h : LfOp op) : show_word.f op = some (wd op, 3, false) := by
  rcases h with rfl | rfl | rfl | rfl | rfl | rfl | rfl | rfl <;> decide
theorem word_nd {op : Int} (h : NdOp op) : show_word.f op = some (wd op, bd op, true) := by
  rcases h with rfl | rfl | rfl | rfl | rfl <;> decide
theorem bd_lf {op : Int} (h : LfOp op) : bd op = 3 := by
  rcases h with rfl | rfl | rfl | rfl | rfl | rfl | rfl | rfl <;> decide
theorem put_eq {P : List show_piece} {x : show_piece} (h : P.length ≤ 1000) : show_pile_show_piece_put.f ⟨P⟩ x = some ⟨P ++ [x]⟩ := by
  unfold show_pile_show_piece_put.f
  have hB : 200000 ≤ big := by decide
  have : (P.length + ([x] : List show_piece).length) * 32 ≤ big := by simp; omega
  exact if_pos this
theorem take_pile {P : List show_piece} {x : show_piece} (h : P.length ≤ 1000) : show_pile_show_piece_take.f ⟨P ++ [x]⟩ = some (⟨P⟩, x) := by
  unfold show_pile_show_piece_take.f
  have e1 := lAt_last (l := P) (x := x)
  have hlen : (P ++ [x]).length = P.length + 1 := by simp
  have e2 : (P ++ [x]).take ((((P ++ [x]).length : Nat) : Int) - 1).toNat = P := by
    rw [hlen, show ((((P.length + 1 : Nat) : Int) - 1).toNat) = P.length by simp, List.take_left]
  show (lAt (P ++ [x]) (IntKind.i64.wrap (((P ++ [x]).length : Int) - 1)) >>= fun y1 => _) = _
  rw [w1 (by omega), e1]
  simp only [Option.bind_eq_bind, Option.bind_some]
  rw [if_pos (by rw [hlen]; omega), e2]
theorem within_eq {p : show_piece} {op least : Int} {o c : Str} (hlen : p.text_.length ≤ 100000) (hd : 0 ≤ p.deep_ ∧ p.deep_ ≤ 100000) (ho : o = (if lab op then [91] else [40])) (hc : c = (if lab op then [93] else [41])) :
    ∃ q, show_within.f p least o c = some q ∧ (q.text_, q.deep_) = wi op p.binds_ least (p.text_, p.deep_) := by
  unfold show_within.f wi
  by_cases h : p.binds_ ≥ least
  · exact ⟨p, by rw [if_pos h], by rw [if_pos h]⟩
  · have lo : o.length = 1 := by rw [ho]; cases lab op <;> rfl
    have lc : c.length = 1 := by rw [hc]; cases lab op <;> rfl
    rw [if_neg h, if_neg h, if_pos (by omega), if_pos (by rw [List.length_append]; omega)]
    refine ⟨_, rfl, ?_⟩
    show (o ++ p.text_ ++ c, IntKind.i64.wrap (p.deep_ + 1)) = _
    rw [wrapZ (by omega) (by omega), ho, hc]
    cases lab op <;> rfl
theorem wrapB {op : Int} : IntKind.i64.wrap (bd op + 1) = bd op + 1 := by
  have : 0 ≤ bd op ∧ bd op ≤ 3 := by unfold bd; repeat' split <;> omega
  exact wrapZ (by omega) (by omega)
theorem text_nd {l : List Int} {P : List show_piece} {op : Int} {x y : Tr} {k : Nat} (hk : k < l.length) (hop : l[k] = op) (ho : NdOp op) (hl : l.length ≤ 900) (hP : P.length ≤ 900) (hx : x.size ≤ 900) (hy : y.size ≤ 900) :
    show_Text.l0 l (P ++ [pc x] ++ [pc y]) (k : Int) = show_Text.l0 l (P ++ [pc (.nd op x y)]) ((k + 1 : Nat) : Int) := by
  obtain ⟨a1, a2, a3⟩ := tx_len x
  obtain ⟨b1, b2, b3⟩ := tx_len y
  have hw := wd_len op
  rw [show_Text.l0, if_pos (by omega), lAt_some hk, hop, wS (by omega)]
  simp only [Option.bind_eq_bind, Option.bind_some]
  rw [word_nd ho]
  simp only [Option.bind_eq_bind, Option.bind_some]
  rw [if_neg (show ¬ ((!true) = true) by decide), take_pile (P := P ++ [pc x]) (by simp; omega)]
  simp only [Option.bind_eq_bind, Option.bind_some]
  rw [take_pile (P := P) (by omega)]
  simp only [Option.bind_eq_bind, Option.bind_some]
  by_cases h5 : op = 5
  · subst h5
    have e : tx (.nd 5 x y) = (((((tx x).1 ++ [32]) ++ wd 5) ++ [32]) ++ (tx y).1, if (tx x).2 < (tx y).2 then (tx y).2 else (tx x).2) := rfl
    simp only [pc, put_eq (show P.length ≤ 1000 by omega)]
    rw [if_pos (show ((tx x).1.length + ([32] : Str).length : Int) ≤ 9223372036854775807 by simp; omega), if_pos (show (((tx x).1 ++ ([32] : Str)).length + (wd 5).length : Int) ≤ 9223372036854775807 by simp; omega), if_pos (show ((((tx x).1 ++ ([32] : Str)) ++ wd 5).length + ([32] : Str).length : Int) ≤ 9223372036854775807 by simp; omega), if_pos (show (((((tx x).1 ++ ([32] : Str)) ++ wd 5) ++ ([32] : Str)).length + (tx y).1.length : Int) ≤ 9223372036854775807 by simp; omega)]
    by_cases q : (tx x).2 < (tx y).2 <;> simp [e, Tr.op, q]
  · have hX := within_eq (p := pc x) (op := op) (least := bd op) (o := if lab op then [91] else [40]) (c := if lab op then [93] else [41]) (by show (tx x).1.length ≤ _; omega) (by show 0 ≤ (tx x).2 ∧ (tx x).2 ≤ _; omega) rfl rfl
    have hY := within_eq (p := pc y) (op := op) (least := bd op + 1) (o := if lab op then [91] else [40]) (c := if lab op then [93] else [41]) (by show (tx y).1.length ≤ _; omega) (by show 0 ≤ (tx y).2 ∧ (tx y).2 ≤ _; omega) rfl rfl
    obtain ⟨X, eX, tX⟩ := hX
    obtain ⟨Y, eY, tY⟩ := hY
    have lX := wi_len (op := op) (b := (pc x).binds_) (least := bd op) (p := ((pc x).text_, (pc x).deep_)) (n := x.size) a1 ⟨a2, a3⟩
    have lY := wi_len (op := op) (b := (pc y).binds_) (least := bd op + 1) (p := ((pc y).text_, (pc y).deep_)) (n := y.size) b1 ⟨b2, b3⟩
    rw [← tX] at lX
    rw [← tY] at lY
    have e : tx (.nd op x y) = ((((X.text_ ++ [32]) ++ wd op) ++ [32]) ++ Y.text_, if X.deep_ < Y.deep_ then Y.deep_ else X.deep_) := by
      show (_, _) = _
      simp only [if_neg h5]
      rw [show wi op (bd x.op) (bd op) (tx x) = (X.text_, X.deep_) from tX.symm, show wi op (bd y.op) (bd op + 1) (tx y) = (Y.text_, Y.deep_) from tY.symm]
    have c1 : (X.text_.length + ([32] : Str).length : Int) ≤ 9223372036854775807 := by simp; simp at lX; omega
    have c2 : ((X.text_ ++ ([32] : Str)).length + (wd op).length : Int) ≤ 9223372036854775807 := by simp; simp at lX; omega
    have c3 : (((X.text_ ++ ([32] : Str)) ++ wd op).length + ([32] : Str).length : Int) ≤ 9223372036854775807 := by simp; simp at lX; omega
    have c4 : ((((X.text_ ++ ([32] : Str)) ++ wd op) ++ ([32] : Str)).length + Y.text_.length : Int) ≤ 9223372036854775807 := by simp; simp at lX lY; omega
    rw [wrapB]
    cases hlab : lab op with
    | true =>
      have : op = 12 ∨ op = 13 := of_decide_eq_true hlab
      rw [hlab] at eX eY
      simp only [if_true] at eX eY
      have hc : ((if op = 12 then some true else some (decide (op = 13)) : Option Bool)) = some true := by rcases this with rfl | rfl <;> rfl
      have eX' : show_within.f (⟨(pc x).text_, (pc x).binds_, (pc x).deep_⟩ : show_piece) (bd op) [91] [93] = some X := eX
      have eY' : show_within.f (⟨(pc y).text_, (pc y).binds_, (pc y).deep_⟩ : show_piece) (bd op + 1) [91] [93] = some Y := eY
      rw [hc]
      rw [Option.bind_some]
      rw [if_pos rfl, if_neg h5, eX']
      rw [Option.bind_some]
      rw [eY']
      rw [Option.bind_some]
      rw [if_pos c1, if_pos c2, if_pos c3, if_pos c4, put_eq (show P.length ≤ 1000 by omega), Option.bind_some, Option.bind_some]
      simp [pc, e, Tr.op]
    | false =>
      have : ¬ (op = 12 ∨ op = 13) := of_decide_eq_false hlab
      rw [hlab] at eX eY
      simp only [Bool.false_eq_true, if_false] at eX eY
      have hc : ((if op = 12 then some true else some (decide (op = 13)) : Option Bool)) = some false := by
        rw [if_neg (fun q => this (.inl q)), decide_eq_false (fun q => this (.inr q))]
      have eX' : show_within.f (⟨(pc x).text_, (pc x).binds_, (pc x).deep_⟩ : show_piece) (bd op) [40] [41] = some X := eX
      have eY' : show_within.f (⟨(pc y).text_, (pc y).binds_, (pc y).deep_⟩ : show_piece) (bd op + 1) [40] [41] = some Y := eY
      rw [hc]
      rw [Option.bind_some]
      rw [if_neg (show ¬ (false = true) by decide), if_neg h5, eX']
      rw [Option.bind_some]
      rw [eY']
      rw [Option.bind_some]
      rw [if_pos c1, if_pos c2, if_pos c3, if_pos c4, put_eq (show P.length ≤ 1000 by omega), Option.bind_some, Option.bind_some]
      simp [pc, e, Tr.op]
theorem text_l0 {l : List Int} (hl : l.length ≤ 900) : ∀ (t : Tr), t.ok → ∀ (P : List show_piece) (k : Nat) (r : List Int), l.drop k = t.flat ++ r → P.length ≤ k →
    show_Text.l0 l P (k : Int) = show_Text.l0 l (P ++ [pc t]) ((k + t.size : Nat) : Int)
  | .lf op, ho, P, k, r, e, hP => by
    have hk : k < l.length := by
      rcases Nat.lt_or_ge k l.length with q | q
      · exact q
      · rw [List.drop_of_length_le q] at e; simp [Tr.flat] at e
    rw [List.drop_eq_getElem_cons hk] at e
    simp only [Tr.flat, List.cons_append, List.nil_append, List.cons.injEq] at e
    rw [show_Text.l0, if_pos (by omega), lAt_some hk, e.1, wS (by omega)]
    simp only [Option.bind_eq_bind, Option.bind_some]
    rw [word_lf ho]
    simp only [Option.bind_eq_bind, Option.bind_some]
    rw [put_eq (by omega)]
    simp [pc, tx, Tr.op, bd_lf ho, Tr.size]
  | .nd op x y, ho, P, k, r, e, hP => by
    have hlen : (l.drop k).length = x.size + y.size + 1 + r.length := by rw [e, List.length_append, flat_len]; rfl
    rw [List.length_drop] at hlen
    have e1 : l.drop k = x.flat ++ (y.flat ++ ([op] ++ r)) := by rw [e]; simp [Tr.flat]
    rw [text_l0 hl x ho.2.1 P k _ e1 hP]
    have e2 : l.drop (k + x.size) = y.flat ++ ([op] ++ r) := by
      rw [← List.drop_drop, e1, ← flat_len x, List.drop_left]
    rw [text_l0 hl y ho.2.2 (P ++ [pc x]) (k + x.size) _ e2 (by have : 1 ≤ x.size := by cases x <;> simp [Tr.size]
                                                                simp; omega)]
    have e3 : l.drop (k + x.size + y.size) = [op] ++ r := by
      rw [← List.drop_drop, e2, ← flat_len y, List.drop_left]
    have hk : k + x.size + y.size < l.length := by omega
    rw [List.drop_eq_getElem_cons hk] at e3
    simp only [List.cons_append, List.nil_append, List.cons.injEq] at e3
    rw [text_nd hk e3.1 ho.1 hl (by omega) (by omega) (by omega)]
    have e4 : k + x.size + y.size + 1 = k + (Tr.nd op x y).size := by show _ = k + (x.size + y.size + 1); omega
    rw [e4]
end
section
theorem bsome {α β : Type} (a : α) (f : α → Option β) : (some a >>= f) = f a := rfl
theorem two_lf {op : Int} (h : LfOp op) : reticentref05_two.f op = some false := by
  rcases h with rfl | rfl | rfl | rfl | rfl | rfl | rfl | rfl <;> decide
theorem two_nd {op : Int} (h : NdOp op) : reticentref05_two.f op = some true := by
  rcases h with rfl | rfl | rfl | rfl | rfl <;> decide
theorem refWord_lf {op : Int} (h : LfOp op) : reticentref05_word.f op = some (wd op) := by
  rcases h with rfl | rfl | rfl | rfl | rfl | rfl | rfl | rfl <;> decide
theorem refWord_nd {op : Int} (h : NdOp op) : reticentref05_word.f op = some (wd op) := by
  rcases h with rfl | rfl | rfl | rfl | rfl <;> decide
theorem binds_lf {op : Int} (h : LfOp op) : reticentref05_binds.f op = some (bd op) := by
  rcases h with rfl | rfl | rfl | rfl | rfl | rfl | rfl | rfl <;> decide
theorem binds_nd {op : Int} (h : NdOp op) : reticentref05_binds.f op = some (bd op) := by
  rcases h with rfl | rfl | rfl | rfl | rfl <;> decide
theorem binds_eq : ∀ {t : Tr}, t.ok → reticentref05_binds.f t.op = some (bd t.op)
  | .lf op, h => binds_lf h
  | .nd op x y, h => binds_nd h.1
theorem lab_iff {op : Int} (h : NdOp op) : lab op = decide (op ≥ 12) := by
  rcases h with rfl | rfl | rfl | rfl | rfl <;> decide
theorem root_at {l : List Int} : ∀ (t : Tr) (s : Nat) (r : List Int), l.drop s = t.flat ++ r → ∃ h : s + t.size - 1 < l.length, l[s + t.size - 1] = t.op
  | .lf op, s, r, e => by
    have hs : s < l.length := by
      rcases Nat.lt_or_ge s l.length with q | q
      · exact q
      · rw [List.drop_of_length_le q] at e; simp [Tr.flat] at e
    rw [List.drop_eq_getElem_cons hs] at e
    simp only [Tr.flat, List.cons_append, List.nil_append, List.cons.injEq] at e
    exact ⟨hs, e.1⟩
  | .nd op x y, s, r, e => by
    have e1 : l.drop (s + (x.size + y.size)) = [op] ++ r := by
      rw [← List.drop_drop, e]
      have : (Tr.nd op x y).flat ++ r = (x.flat ++ y.flat) ++ ([op] ++ r) := by simp [Tr.flat]
      rw [this, ← flat_len x, ← flat_len y, ← List.length_append, List.drop_left]
    have hs : s + (x.size + y.size) < l.length := by
      rcases Nat.lt_or_ge (s + (x.size + y.size)) l.length with q | q
      · exact q
      · rw [List.drop_of_length_le q] at e1; simp at e1
    rw [List.drop_eq_getElem_cons hs] at e1
    simp only [List.cons_append, List.nil_append, List.cons.injEq] at e1
    have hi : s + (Tr.nd op x y).size - 1 = s + (x.size + y.size) := by show s + (x.size + y.size + 1) - 1 = _; omega
    exact ⟨by rw [hi]; exact hs, by simp only [hi]; exact e1.1⟩
theorem refWithin_eq {T : reticentref05_T} {op' op least b : Int} (hb : reticentref05_binds.f op' = some b) (ho : NdOp op) (hlen : T.S.length ≤ 100000) (hd : 0 ≤ T.Deep ∧ T.Deep ≤ 100000) :
    reticentref05_within.f T op' op least = some ⟨(wi op b least (T.S, T.Deep)).1, (wi op b least (T.S, T.Deep)).2, T.From⟩ := by
  unfold reticentref05_within.f wi
  rw [hb, bsome]
  by_cases h : b ≥ least
  · rw [if_pos h, if_pos h]
  · rw [if_neg h, if_neg h, lab_iff ho]
    by_cases h2 : op ≥ 12
    · rw [if_pos h2, decide_eq_true h2, if_pos (by simp; omega), if_pos (by simp; omega), wrapZ (by omega) (by omega)]; rfl
    · rw [if_neg h2, decide_eq_false h2, if_pos (by simp; omega), if_pos (by simp; omega), wrapZ (by omega) (by omega)]; rfl
theorem thing {l : List Int} (hl : l.length ≤ 900) : ∀ (t : Tr), t.ok → ∀ (n s : Nat) (r : List Int), t.size ≤ n → l.drop s = t.flat ++ r →
    reticentref05_Thing.F n l ((s + t.size : Nat) - 1 : Int) = some ⟨(tx t).1, (tx t).2, (s : Int)⟩
  | _, _, 0, _, _, hn, _ => by rename_i t _ _ _ _; cases t <;> simp [Tr.size] at hn
  | .lf op, ho, n + 1, s, r, hn, e => by
    obtain ⟨h1, h2⟩ := root_at _ s r e
    have hi : (((s + (Tr.lf op).size : Nat) : Int) - 1) = ((s : Nat) : Int) := by show ((s + 1 : Nat) : Int) - 1 = _; omega
    have h1' : s < l.length := h1
    have h2' : l[s] = op := h2
    show reticentref05_Thing.B (reticentref05_Thing.F n) l _ = _
    unfold reticentref05_Thing.B
    rw [hi, lAt_some h1', h2', bsome, two_lf ho, bsome, if_pos (show (!false) = true from rfl), refWord_lf ho, bsome]
    rfl
  | .nd op x y, ho, n + 1, s, r, hn, e => by
    obtain ⟨hop, hx, hy⟩ := ho
    have hsz : x.size + y.size + 1 ≤ n + 1 := hn
    obtain ⟨h1, h2⟩ := root_at _ s r e
    have hs1 : s + (Tr.nd op x y).size - 1 = s + x.size + y.size := by show s + (x.size + y.size + 1) - 1 = _; omega
    have hi : (((s + (Tr.nd op x y).size : Nat) : Int) - 1) = ((s + x.size + y.size : Nat) : Int) := by show ((s + (x.size + y.size + 1) : Nat) : Int) - 1 = _; omega
    have h1' : s + x.size + y.size < l.length := by omega
    have h2' : l[s + x.size + y.size] = op := by
      have : l[s + (Tr.nd op x y).size - 1] = op := h2
      simp only [hs1] at this; exact this
    have e1 : l.drop s = x.flat ++ (y.flat ++ ([op] ++ r)) := by rw [e]; simp [Tr.flat]
    have e2 : l.drop (s + x.size) = y.flat ++ ([op] ++ r) := by rw [← List.drop_drop, e1, ← flat_len x, List.drop_left]
    have hY := thing hl y hy n (s + x.size) _ (by omega) e2
    have hX := thing hl x hx n s _ (by omega) e1
    obtain ⟨gx1, gx2⟩ := root_at x s _ e1
    obtain ⟨gy1, gy2⟩ := root_at y (s + x.size) _ e2
    have px : 1 ≤ x.size := by cases x <;> simp [Tr.size]
    have py : 1 ≤ y.size := by cases y <;> simp [Tr.size]
    obtain ⟨a1, a2, a3⟩ := tx_len x
    obtain ⟨b1, b2, b3⟩ := tx_len y
    have hw := wd_len op
    have wy : IntKind.i64.wrap (((s + x.size + y.size : Nat) : Int) - 1) = ((s + x.size + y.size : Nat) : Int) - 1 := w1 (by omega)
    have wx : IntKind.i64.wrap (((s + x.size : Nat) : Int) - 1) = ((s + x.size : Nat) : Int) - 1 := w1 (by omega)
    have nx : ((s + x.size : Nat) : Int) - 1 = ((s + x.size - 1 : Nat) : Int) := by omega
    have ny : ((s + x.size + y.size : Nat) : Int) - 1 = ((s + x.size + y.size - 1 : Nat) : Int) := by omega
    show reticentref05_Thing.B (reticentref05_Thing.F n) l _ = _
    unfold reticentref05_Thing.B
    rw [hi, lAt_some h1', h2', bsome, two_nd hop, bsome, if_neg (by decide), wy, hY, bsome]
    show (reticentref05_Thing.F n l (IntKind.i64.wrap (((s + x.size : Nat) : Int) - 1)) >>= _) = _
    rw [wx, hX, bsome]
    by_cases h5 : op = 5
    · subst h5
      have et : tx (.nd 5 x y) = (((((tx x).1 ++ [32]) ++ wd 5) ++ [32]) ++ (tx y).1, if (tx x).2 < (tx y).2 then (tx y).2 else (tx x).2) := rfl
      have c1 : ((tx x).1.length + ([32] : Str).length : Int) ≤ 9223372036854775807 := by simp; omega
      have c2 : (((tx x).1 ++ ([32] : Str)).length + (wd 5).length : Int) ≤ 9223372036854775807 := by simp; omega
      have c3 : ((((tx x).1 ++ ([32] : Str)) ++ wd 5).length + ([32] : Str).length : Int) ≤ 9223372036854775807 := by simp; omega
      have c4 : (((((tx x).1 ++ ([32] : Str)) ++ wd 5) ++ ([32] : Str)).length + (tx y).1.length : Int) ≤ 9223372036854775807 := by simp; omega
      rw [if_pos rfl, et]
      by_cases q : (tx y).2 > (tx x).2
      · rw [if_pos q, if_pos c1, refWord_nd hop, bsome, if_pos c2, if_pos c3, if_pos c4, if_pos (show (tx x).2 < (tx y).2 from q)]
      · rw [if_neg q, if_pos c1, refWord_nd hop, bsome, if_pos c2, if_pos c3, if_pos c4, if_neg (show ¬ (tx x).2 < (tx y).2 from q)]
    · have WX := refWithin_eq (T := ⟨(tx x).1, (tx x).2, (s : Int)⟩) (op' := x.op) (op := op) (least := bd op) (binds_eq hx) hop (by show (tx x).1.length ≤ _; omega) (by show 0 ≤ (tx x).2 ∧ (tx x).2 ≤ _; omega)
      have WY := refWithin_eq (T := ⟨(tx y).1, (tx y).2, ((s + x.size : Nat) : Int)⟩) (op' := y.op) (op := op) (least := bd op + 1) (binds_eq hy) hop (by show (tx y).1.length ≤ _; omega) (by show 0 ≤ (tx y).2 ∧ (tx y).2 ≤ _; omega)
      obtain ⟨X, eX⟩ : ∃ X : Str × Int, X = wi op (bd x.op) (bd op) (tx x) := ⟨_, rfl⟩
      obtain ⟨Y, eY⟩ : ∃ Y : Str × Int, Y = wi op (bd y.op) (bd op + 1) (tx y) := ⟨_, rfl⟩
      have lX := wi_len (op := op) (b := bd x.op) (least := bd op) (p := tx x) (n := x.size) a1 ⟨a2, a3⟩
      have lY := wi_len (op := op) (b := bd y.op) (least := bd op + 1) (p := tx y) (n := y.size) b1 ⟨b2, b3⟩
      have WX' : reticentref05_within.f ⟨(tx x).1, (tx x).2, (s : Int)⟩ x.op op (bd op) = some ⟨X.1, X.2, (s : Int)⟩ := by rw [eX]; exact WX
      have WY' : reticentref05_within.f ⟨(tx y).1, (tx y).2, ((s + x.size : Nat) : Int)⟩ y.op op (bd op + 1) = some ⟨Y.1, Y.2, ((s + x.size : Nat) : Int)⟩ := by rw [eY]; exact WY
      rw [← eX] at lX
      rw [← eY] at lY
      have et : tx (.nd op x y) = ((((X.1 ++ [32]) ++ wd op) ++ [32]) ++ Y.1, if X.2 < Y.2 then Y.2 else X.2) := by
        show (_, _) = _
        simp only [if_neg h5]
        rw [← eX, ← eY]
      have c1 : (X.1.length + ([32] : Str).length : Int) ≤ 9223372036854775807 := by simp; omega
      have c2 : ((X.1 ++ ([32] : Str)).length + (wd op).length : Int) ≤ 9223372036854775807 := by simp; omega
      have c3 : (((X.1 ++ ([32] : Str)) ++ wd op).length + ([32] : Str).length : Int) ≤ 9223372036854775807 := by simp; omega
      have c4 : ((((X.1 ++ ([32] : Str)) ++ wd op) ++ ([32] : Str)).length + Y.1.length : Int) ≤ 9223372036854775807 := by simp; omega
      rw [if_neg h5, et]
      rw [nx, lAt_some gx1, gx2, bsome, binds_nd hop, bsome]
      show (reticentref05_within.f ⟨(tx x).1, (tx x).2, (s : Int)⟩ x.op op (bd op) >>= _) = _
      rw [WX', bsome, ny, lAt_some gy1, gy2, bsome, bsome, wrapB]
      show (reticentref05_within.f ⟨(tx y).1, (tx y).2, ((s + x.size : Nat) : Int)⟩ y.op op (bd op + 1) >>= _) = _
      rw [WY', bsome]
      by_cases q : Y.2 > X.2
      · rw [if_pos q, if_pos c1, refWord_nd hop, bsome, if_pos c2, if_pos c3, if_pos c4, if_pos (show X.2 < Y.2 from q)]
      · rw [if_neg q, if_pos c1, refWord_nd hop, bsome, if_pos c2, if_pos c3, if_pos c4, if_neg (show ¬ X.2 < Y.2 from q)]
end
section
def ans (t : Tr) : Str × Int := if (tx t).2 > 12 then ([], 5) else ((tx t).1, 0)
theorem refText_eq {t : Tr} (ho : t.ok) (hl : t.flat.length ≤ 900) : reticentref05_Text.f t.flat = some (ans t) := by
  have h := thing hl t ho 1000 0 [] (by rw [← flat_len]; omega) (by simp)
  have hp : 1 ≤ t.size := by cases t <;> simp [Tr.size]
  unfold reticentref05_Text.f reticentref05_Thing.f ans
  rw [w1 (by omega), flat_len]
  have e : (((0 + t.size : Nat) : Int) - 1) = ((t.size : Nat) : Int) - 1 := by omega
  rw [e] at h
  rw [h, bsome]
  by_cases q : (tx t).2 > 12
  · rw [if_pos q, if_pos q]
  · rw [if_neg q, if_neg q]
theorem text_eq {l : List Int} (hl : l.length ≤ 900) : show_Text.f l = some (match right l with | none => ([], 1) | some _ => (match show_Text.f l with | some p => p | none => ([], 0))) ∧ ∀ t : Tr, t.ok → t.flat = l → right l ≠ none → show_Text.f l = some (ans t) := by
  have hR : ((rule_Right.f l false >>= fun y5 => if (!y5) = true then (rule_Right.f l true >>= fun y7 => some (!y7)) else (some false) : Option Bool)) = some (right l).isNone := by
    rw [Right_eq hl, Right_eq hl]
    cases right l with
    | none => rfl
    | some b => cases b <;> rfl
  have key : ∀ t : Tr, t.ok → t.flat = l → right l ≠ none → show_Text.f l = some (ans t) := by
    intro t ho e hr
    unfold show_Text.f
    rw [hR, bsome]
    have hn : (right l).isNone = false := by cases h : right l with | none => exact absurd h hr | some _ => rfl
    rw [hn, if_neg (by decide)]
    have h := text_l0 hl t ho [] 0 [] (by simp [e]) (by simp)
    rw [show ((0 : Nat) : Int) = 0 from rfl] at h
    rw [h, show 0 + t.size = l.length by rw [← e, flat_len]; omega]
    rw [show_Text.l0, if_neg (by omega), bsome, take_pile (by simp), bsome]
    unfold ans
    show (if (tx t).2 > 12 then _ else _) = _
    by_cases q : (tx t).2 > 12
    · rw [if_pos q, if_pos q]
    · rw [if_neg q, if_neg q]; rfl
  refine ⟨?_, key⟩
  cases hr : right l with
  | none =>
    unfold show_Text.f
    rw [hR, bsome, hr]; rfl
  | some b =>
    obtain ⟨t, ho, e, _⟩ := right_tree hr
    rw [key t ho e (by rw [hr]; simp)]
end
section
open Classical
theorem refRight_eq {r : List Int} {b : Bool} (hr : r.length ≤ 900) : reticentref04_Right.f r b = some (decide (right r = some b)) := by
  unfold reticentref04_Right.f
  rw [refMade_eq hr]
  cases b <;> cases hq : right r with
  | none => rfl
  | some c => cases c <;> rfl
end
section
open Classical
def names (r : List Int) (j : Nat) : Bool := r.any fun op => decide (op = 8 + (j : Int))
theorem or_bit {v x : Nat} (hv : v < 16) (hx : x < 4) : bOr .u32 (v : Int) (bShl .u32 1 (x : Int)) = ((v ||| 1 <<< x : Nat) : Int) ∧ v ||| 1 <<< x < 16 := by
  have h1 : bShl .u32 1 (x : Int) = ((1 <<< x : Nat) : Int) := bShl_nat (x := 1) (by omega) (by omega)
  have h2 : 1 <<< x < 16 := by
    have : x = 0 ∨ x = 1 ∨ x = 2 ∨ x = 3 := by omega
    rcases this with rfl | rfl | rfl | rfl <;> decide
  rw [h1, bOr_nat (by omega) (by omega)]
  exact ⟨rfl, Nat.or_lt_two_pow (n := 4) hv h2⟩
theorem uses_l0 {r : List Int} (hr : r.length ≤ 900) : ∀ (d k v : Nat), r.length = k + d → v < 16 → ∃ u : Nat, rule_Uses.l0 r (k : Int) (v : Int) = some (u : Int) ∧ u < 16 ∧ ∀ j, j < 4 → u.testBit j = (v.testBit j || names (r.drop k) j)
  | 0, k, v, e, hv => ⟨v, by rw [rule_Uses.l0, if_neg (by omega)], hv, fun j hj => by rw [List.drop_of_length_le (by omega)]; simp [names]⟩
  | d + 1, k, v, e, hv => by
    have hk : k < r.length := by omega
    rw [List.drop_eq_getElem_cons hk]
    by_cases hop : 8 ≤ r[k] ∧ r[k] ≤ 11
    · obtain ⟨x, hx, hxo⟩ : ∃ x : Nat, x < 4 ∧ r[k] = 8 + (x : Int) := ⟨(r[k] - 8).toNat, by omega, by omega⟩
      obtain ⟨o1, o2⟩ := or_bit hv hx
      obtain ⟨u, h1, h2, h3⟩ := uses_l0 hr d (k + 1) (v ||| 1 <<< x) (by omega) o2
      have hw : IntKind.i64.wrap (r[k] - 8) = (x : Int) := by rw [wrapZ (by omega) (by omega)]; omega
      refine ⟨u, ?_, h2, fun j hj => ?_⟩
      · have hb : ((if r[k] ≥ 8 then (some (decide (r[k] ≤ 11))) else (some false) : Option Bool)) = some true := by rw [if_pos hop.1, decide_eq_true hop.2]
        rw [rule_Uses.l0, if_pos (by omega), lAt_some hk, bsome, hb, bsome, if_pos rfl, hw, if_pos (by omega), bsome, o1, wS (by omega)]
        exact h1
      · rw [h3 j hj, Nat.testBit_or, Nat.testBit_shiftLeft]
        unfold names
        rw [List.any_cons, hxo]
        by_cases hjx : j = x
        · subst hjx; simp
        · have h1 : ((j ≥ x : Bool) && Nat.testBit 1 (j - x)) = false := by
            by_cases q : j ≥ x
            · have : 1 ≤ j - x := by omega
              have h0 : Nat.testBit 1 (j - x) = false := Nat.testBit_lt_two_pow (Nat.lt_of_lt_of_le (by decide) (Nat.pow_le_pow_right (n := 2) (by omega) this))
              simp [h0]
            · simp [q]
          have h2 : decide ((8 : Int) + (x : Int) = 8 + (j : Int)) = false := decide_eq_false (by omega)
          rw [h1, h2]; simp
    · obtain ⟨u, h1, h2, h3⟩ := uses_l0 hr d (k + 1) v (by omega) hv
      refine ⟨u, ?_, h2, fun j hj => ?_⟩
      · have hb : ((if r[k] ≥ 8 then (some (decide (r[k] ≤ 11))) else (some false) : Option Bool)) = some false := by
          by_cases q : r[k] ≥ 8
          · rw [if_pos q, decide_eq_false (fun q2 => hop ⟨q, q2⟩)]
          · rw [if_neg q]
        rw [rule_Uses.l0, if_pos (by omega), lAt_some hk, bsome, hb, bsome, if_neg (by decide), bsome, wS (by omega)]
        exact h1
      · rw [h3 j hj]
        unfold names
        rw [List.any_cons, decide_eq_false (by omega), Bool.false_or]
theorem uses_eq {r : List Int} (hr : r.length ≤ 900) : ∃ u : Nat, u < 16 ∧ (∀ j, j < 4 → u.testBit j = names r j) ∧ rule_Uses.f r = some (match right r with | none => (0, 1) | some _ => ((u : Int), 0)) := by
  obtain ⟨u, h1, h2, h3⟩ := uses_l0 hr r.length 0 0 (by omega) (by omega)
  refine ⟨u, h2, fun j hj => by rw [h3 j hj]; simp, ?_⟩
  unfold rule_Uses.f
  rw [made_eq hr, bsome]
  rw [show ((0 : Nat) : Int) = 0 from rfl] at h1
  cases right r with
  | none => rfl
  | some b => rw [if_neg (show ¬ ((!true) = true) by decide), h1, bsome]
end
section
theorem cut_min {α : Type} {xs : List α} {n : Nat} : lCut xs 0 (if (n : Int) < (xs.length : Int) then (n : Int) else (xs.length : Int)) = xs.take n := by
  unfold lCut
  split
  · simp
  · rw [show (0 : Int).toNat = 0 from rfl, Int.toNat_natCast, Nat.sub_zero, List.drop_zero, List.take_of_length_le (Nat.le_refl xs.length), List.take_of_length_le (by omega)]
theorem cut_ok {n m : Nat} : (0 : Int) ≤ (if (n : Int) < (m : Int) then (n : Int) else (m : Int)) ∧ (if (n : Int) < (m : Int) then (n : Int) else (m : Int)) ≤ (m : Int) := by split <;> omega
structure Few (R : List api_Row) : Prop where
  len : R.length ≤ 15
  may : ∀ r ∈ R, r.May.length ≤ 45
  res : ∀ r ∈ R, r.Res.length ≤ 45
  pc : ∀ r ∈ R, r.Pc.length ≤ 45
def fewR (R : List api_Row) : List api_Row := (R.take 15).map fun r => ⟨r.May.take 45, r.Res.take 45, r.Pc.take 45⟩
theorem few_l0 {R : List api_Row} : ∀ (d k : Nat) (acc : List api_Row), (R.take 15).length = k + d → acc.length = k → reticentlaw06_few.l0 ⟨R⟩ acc (k : Int) = some (acc ++ ((R.take 15).drop k).map fun r => ⟨r.May.take 45, r.Res.take 45, r.Pc.take 45⟩)
  | 0, k, acc, e, ha => by
    rw [reticentlaw06_few.l0, show (15 : Int) = ((15 : Nat) : Int) from rfl, cut_min, if_neg (show ¬ (k : Int) < ((R.take 15).length : Int) by omega), List.drop_of_length_le (by omega)]; simp
  | d + 1, k, acc, e, ha => by
    have hk : k < (R.take 15).length := by omega
    have h15 : (R.take 15).length ≤ 15 := by simp; omega
    have hB : 200000 ≤ big := by decide
    rw [reticentlaw06_few.l0, show (15 : Int) = ((15 : Nat) : Int) from rfl, show (45 : Int) = ((45 : Nat) : Int) from rfl, cut_min, if_pos (show (k : Int) < ((R.take 15).length : Int) by omega)]
    show (lAt (R.take 15) (k : Int) >>= _) = _
    rw [lAt_some hk, bsome, if_pos cut_ok, if_pos cut_ok, if_pos cut_ok, cut_min, cut_min, cut_min]
    rw [if_pos (by simp; omega), wS (by omega), few_l0 d (k + 1) _ (by omega) (by simp [ha]), List.drop_eq_getElem_cons hk]
    simp
theorem few_eq {R : List api_Row} : reticentlaw06_few.f ⟨R⟩ = some ⟨fewR R⟩ := by
  unfold reticentlaw06_few.f
  have h := few_l0 (R := R) (R.take 15).length 0 [] (by omega) rfl
  rw [show ((0 : Nat) : Int) = 0 from rfl] at h
  rw [show (15 : Int) = ((15 : Nat) : Int) from rfl, if_pos cut_ok, h]
  simp [fewR]
theorem few_ok {R : List api_Row} : Few (fewR R) := by
  refine ⟨by simp [fewR]; omega, fun r hr => ?_, fun r hr => ?_, fun r hr => ?_⟩ <;>
    (obtain ⟨x, _, rfl⟩ := List.mem_map.1 hr; simp; omega)
noncomputable def St (l : List Int) : Str × Int := (show_Text.f l).getD ([], 0)
theorem St_tree {l : List Int} (hl : l.length ≤ 900) {t : Tr} (ho : t.ok) (e : t.flat = l) (hr : right l ≠ none) : St l = ans t := by
  unfold St
  rw [(text_eq hl).2 t ho e hr]; rfl
theorem St_eq {l : List Int} {b : Bool} (hr : right l = some b) : show_Text.f l = some (St l) ∧ reticentref05_Text.f l = some (St l) ∧ (St l).1.length ≤ 640 ∧ ((St l).2 = 0 ∨ St l = ([], 5)) := by
  obtain ⟨t, ho, e, h40⟩ := right_tree hr
  have hn : right l ≠ none := by rw [hr]; simp
  have h1 := (text_eq (l := l) (by omega)).2 t ho e hn
  have h2 := refText_eq ho (by rw [e]; omega)
  rw [e] at h2
  rw [St_tree (by omega) ho e hn]
  have hs : t.size ≤ 40 := by rw [← flat_len, e]; exact h40
  refine ⟨h1, h2, ?_, ?_⟩
  · unfold ans
    split
    · simp
    · have := (tx_len t).1; show (tx t).1.length ≤ 640; omega
  · unfold ans
    split
    · exact .inr rfl
    · exact .inl rfl
def ar (op : Nat) : Nat := [0, 1, 1, 2, 2, 2, 3, 1, 1, 1, 2, 1, 0].getD op 0
theorem ar_le (op : Nat) : ar op ≤ 3 := by
  unfold ar
  rcases Nat.lt_or_ge op 13 with h | h
  · revert op; decide
  · rw [List.getD_eq_getElem?_getD, List.getElem?_eq_none (by simpa using h)]; simp
theorem ar_eq {op : Nat} (h : op < 13) : lAt gl1 (op : Int) = some (ar op : Int) := by revert op; decide
theorem refAr_eq {op : Nat} (h : op < 13) : reticentref06_Arity.f (op : Int) = some (ar op : Int) := by revert op; decide
def hasS (op : Nat) (l : List Int) : Bool := (List.range 4).all fun n => decide (n ≤ ar op) || !names l n
theorem has_p {op : Nat} (h : op < 13) {l : List Int} (hl : l.length ≤ 900) {b : Bool} (hr : right l = some b) : table_has.f (op : Int) l = some (hasS op l) := by
  obtain ⟨u, hu, hb, he⟩ := uses_eq hl
  have ha := ar_le op
  unfold table_has.f
  rw [he, hr, bsome]
  show ((if (0 : Int) = 0 then _ else _ : Option Bool) >>= _) = _
  rw [if_pos rfl, ar_eq h, bsome, wS (by omega), if_pos (by omega), bsome]
  show some (decide (bShr .u32 (u : Int) ((ar op + 1 : Nat) : Int) = 0)) = _
  rw [bShr_nat (by omega)]
  congr 1
  rw [Bool.eq_iff_iff, decide_eq_true_iff]
  unfold hasS
  rw [List.all_eq_true]
  constructor
  · intro q n hn
    have hn4 : n < 4 := by simpa using hn
    rcases Nat.lt_or_ge (ar op) n with hlt | hge
    · have : u.testBit n = false := by
        have q0 : u >>> (ar op + 1) = 0 := by omega
        have := congrArg (fun x => x.testBit (n - (ar op + 1))) q0
        simp only [Nat.testBit_shiftRight, Nat.zero_testBit] at this
        rwa [show ar op + 1 + (n - (ar op + 1)) = n by omega] at this
      rw [hb n hn4] at this
      simp [this]
    · simp [hge]
  · intro q
    have : u >>> (ar op + 1) = 0 := by
      apply Nat.eq_of_testBit_eq
      intro j
      rw [Nat.testBit_shiftRight, Nat.zero_testBit]
      rcases Nat.lt_or_ge (ar op + 1 + j) 4 with h4 | h4
      · have := q (ar op + 1 + j) (by simpa using h4)
        rw [hb _ h4]
        simpa [show ¬ (ar op + 1 + j ≤ ar op) by omega] using this
      · exact Nat.testBit_lt_two_pow (Nat.lt_of_lt_of_le hu (by have := Nat.pow_le_pow_right (n := 2) (by omega) h4; simpa using this))
    omega
theorem refHas_l0 {l : List Int} (hl : l.length ≤ 900) {j : Nat} (hj : j < 4) : ∀ (d k : Nat), l.length = k + d → reticentref04_Has.l0 l (j : Int) (k : Int) = some (if names (l.drop k) j then .inl true else .inr ())
  | 0, k, e => by rw [reticentref04_Has.l0, if_neg (by omega), List.drop_of_length_le (by omega)]; rfl
  | d + 1, k, e => by
    have hk : k < l.length := by omega
    rw [reticentref04_Has.l0, if_pos (by omega), lAt_some hk, bsome, List.drop_eq_getElem_cons hk, show IntKind.i64.wrap (8 + (j : Int)) = 8 + (j : Int) from wrapZ (by omega) (by omega)]
    unfold names
    rw [List.any_cons]
    by_cases q : l[k] = 8 + (j : Int)
    · rw [if_pos q, decide_eq_true q]; rfl
    · rw [if_neg q, decide_eq_false q, wS (by omega), refHas_l0 hl hj d (k + 1) (by omega)]; rfl
theorem refHas_eq {l : List Int} (hl : l.length ≤ 900) {j : Nat} (hj : j < 4) : reticentref04_Has.f l (j : Int) = some (names l j) := by
  unfold reticentref04_Has.f
  have h := refHas_l0 hl hj l.length 0 (by omega)
  rw [show ((0 : Nat) : Int) = 0 from rfl] at h
  rw [h, bsome, List.drop_zero]
  cases names l j <;> rfl
theorem refhas_l0 {l : List Int} (hl : l.length ≤ 900) : ∀ (d k : Nat), 4 = k + d → reticentref06_has.l0 l (k : Int) = some (if ((List.range 4).drop k).all (fun n => !names l n) then .inr () else .inl false)
  | 0, k, e => by
    obtain rfl : k = 4 := by omega
    rw [reticentref06_has.l0, if_neg (by omega)]; rfl
  | d + 1, k, e => by
    have hk : k < (List.range 4).length := by simp; omega
    rw [reticentref06_has.l0, if_pos (by omega), refHas_eq hl (by omega), bsome, List.drop_eq_getElem_cons hk, List.all_cons, List.getElem_range]
    cases names l k with
    | true => rfl
    | false => rw [if_neg (by decide), wS (by omega), refhas_l0 hl d (k + 1) (by omega)]; rfl
theorem has_r {op : Nat} (h : op < 13) {l : List Int} (hl : l.length ≤ 900) : reticentref06_has.f (op : Int) l = some (hasS op l) := by
  have ha := ar_le op
  unfold reticentref06_has.f
  rw [refAr_eq h, bsome, wS (by omega), refhas_l0 hl (3 - ar op) (ar op + 1) (by omega), bsome]
  have : ((List.range 4).drop (ar op + 1)).all (fun n => !names l n) = hasS op l := by
    unfold hasS
    generalize ar op = a at ha
    match a, ha with
    | 0, _ => simp [List.range, List.range.loop]
    | 1, _ => simp [List.range, List.range.loop]
    | 2, _ => simp [List.range, List.range.loop]
    | 3, _ => simp [List.range, List.range.loop]
  rw [this]
  cases hasS op l <;> rfl
def rowE (op : Nat) (r : api_Row) : Int := if right r.May = some false ∧ right r.Res = some true ∧ right r.Pc = some true then (if hasS op r.May && (hasS op r.Res && hasS op r.Pc) then 0 else 7) else 1
theorem row_p {op : Nat} (h : op < 13) {r : api_Row} (h1 : r.May.length ≤ 45) (h2 : r.Res.length ≤ 45) (h3 : r.Pc.length ≤ 45) :
    table_right.f r = some (!decide (rowE op r = 1)) ∧ (rowE op r ≠ 1 → table_suits.f (op : Int) r = some (!decide (rowE op r = 7))) := by
  unfold table_right.f table_suits.f rowE
  rw [Right_eq (by omega), Right_eq (by omega), Right_eq (by omega)]
  by_cases q1 : right r.May = some false
  · by_cases q2 : right r.Res = some true
    · by_cases q3 : right r.Pc = some true
      · rw [if_pos ⟨q1, q2, q3⟩, has_p h (by omega) q1, has_p h (by omega) q2, has_p h (by omega) q3, decide_eq_true q1, decide_eq_true q2, decide_eq_true q3]
        cases hasS op r.May <;> cases hasS op r.Res <;> cases hasS op r.Pc <;> exact ⟨rfl, fun _ => rfl⟩
      · rw [if_neg (fun q => q3 q.2.2), decide_eq_true q1, decide_eq_true q2, decide_eq_false q3]
        exact ⟨rfl, fun q => absurd rfl q⟩
    · rw [if_neg (fun q => q2 q.2.1), decide_eq_true q1, decide_eq_false q2]
      exact ⟨rfl, fun q => absurd rfl q⟩
  · rw [if_neg (fun q => q1 q.1), decide_eq_false q1]
    exact ⟨rfl, fun q => absurd rfl q⟩
theorem row_r {op : Nat} (h : op < 13) {r : api_Row} (h1 : r.May.length ≤ 45) (h2 : r.Res.length ≤ 45) (h3 : r.Pc.length ≤ 45) : reticentref06_Row.f (op : Int) r = some (rowE op r) := by
  unfold reticentref06_Row.f rowE
  rw [refRight_eq (by omega), refRight_eq (by omega), refRight_eq (by omega)]
  by_cases q1 : right r.May = some false
  · by_cases q2 : right r.Res = some true
    · by_cases q3 : right r.Pc = some true
      · rw [if_pos ⟨q1, q2, q3⟩, has_r h (by omega), has_r h (by omega), has_r h (by omega), decide_eq_true q1, decide_eq_true q2, decide_eq_true q3]
        cases hasS op r.May <;> cases hasS op r.Res <;> cases hasS op r.Pc <;> rfl
      · rw [if_neg (fun q => q3 q.2.2), decide_eq_true q1, decide_eq_true q2, decide_eq_false q3]; rfl
    · rw [if_neg (fun q => q2 q.2.1), decide_eq_true q1, decide_eq_false q2]; rfl
  · rw [if_neg (fun q => q1 q.1), decide_eq_false q1]; rfl
def ckl : List api_Row → Nat → Option (Nat × Int)
  | [], _ => none
  | r :: R, k => if rowE k r = 0 then ckl R (k + 1) else some (k, rowE k r)
theorem rowE_cases (op : Nat) (r : api_Row) : rowE op r = 0 ∨ rowE op r = 1 ∨ rowE op r = 7 := by
  unfold rowE
  split
  · split
    · exact .inl rfl
    · exact .inr (.inr rfl)
  · exact .inr (.inl rfl)
section
variable {R : List api_Row} (hF : Few R) (h13 : R.length = 13)
include hF h13
theorem check_l0 : ∀ (d k : Nat), R.length = k + d → table_Check.l0 ⟨R⟩ (k : Int) = some (match ckl (R.drop k) k with | some (i, e) => .inl ((i : Int), e) | none => .inr ())
  | 0, k, e => by
    rw [table_Check.l0, if_neg (by show ¬ (k : Int) < (R.length : Int); omega), List.drop_of_length_le (by omega)]; rfl
  | d + 1, k, e => by
    have hk : k < R.length := by omega
    have hm := List.getElem_mem hk
    obtain ⟨p1, p2⟩ := row_p (op := k) (by omega) (hF.may _ hm) (hF.res _ hm) (hF.pc _ hm)
    rw [table_Check.l0, if_pos (by show (k : Int) < (R.length : Int); omega)]
    show (lAt R (k : Int) >>= _) = _
    rw [lAt_some hk, bsome, List.drop_eq_getElem_cons hk]
    show (table_right.f R[k] >>= _) = _
    rw [p1, bsome]
    unfold ckl
    rcases rowE_cases k R[k] with q | q | q
    · rw [if_pos q, q, if_neg (by decide)]
      show (table_suits.f (k : Int) R[k] >>= _) = _
      rw [p2 (by rw [q]; decide), bsome, q, if_neg (by decide), wS (by omega), check_l0 d (k + 1) (by omega)]
    · rw [if_neg (show ¬ rowE k R[k] = 0 by rw [q]; decide), q, if_pos (by decide)]
    · rw [if_neg (show ¬ rowE k R[k] = 0 by rw [q]; decide), q, if_neg (by decide)]
      show (table_suits.f (k : Int) R[k] >>= _) = _
      rw [p2 (by rw [q]; decide), bsome, q, if_pos (by decide)]
theorem refCheck_l0 : ∀ (d k : Nat), R.length = k + d → reticentref06_Check.l0 ⟨R⟩ (k : Int) = some (match ckl (R.drop k) k with | some (i, e) => .inl ⟨(i : Int), e⟩ | none => .inr ())
  | 0, k, e => by
    rw [reticentref06_Check.l0, if_neg (by show ¬ (k : Int) < (R.length : Int); omega), List.drop_of_length_le (by omega)]; rfl
  | d + 1, k, e => by
    have hk : k < R.length := by omega
    have hm := List.getElem_mem hk
    rw [reticentref06_Check.l0, if_pos (by show (k : Int) < (R.length : Int); omega)]
    show (lAt R (k : Int) >>= _) = _
    rw [lAt_some hk, bsome, List.drop_eq_getElem_cons hk]
    show (reticentref06_Row.f (k : Int) R[k] >>= _) = _
    rw [row_r (by omega) (hF.may _ hm) (hF.res _ hm) (hF.pc _ hm), bsome]
    unfold ckl
    by_cases q : rowE k R[k] = 0
    · rw [if_pos q, if_pos q, wS (by omega), refCheck_l0 d (k + 1) (by omega)]
    · rw [if_neg q, if_neg q]
end
def chT (R : List api_Row) : Int × Int := if R.length = 13 then (match ckl R 0 with | some (i, e) => ((i : Int), e) | none => (0, 0)) else (0, 1)
theorem check_eq {R : List api_Row} (hF : Few R) : table_Check.f ⟨R⟩ = some (chT R) := by
  unfold table_Check.f chT
  by_cases h : R.length = 13
  · have h' : (R.length : Int) = 13 := by omega
    have hl := check_l0 hF h R.length 0 (by omega)
    rw [show ((0 : Nat) : Int) = 0 from rfl, List.drop_zero] at hl
    rw [if_pos h', if_pos h, hl, bsome]
    cases ckl R 0 <;> rfl
  · rw [if_neg (by show ¬ (R.length : Int) = 13; omega), if_neg h]
theorem refCheck_eq {R : List api_Row} (hF : Few R) : reticentref06_Check.f ⟨R⟩ = some ⟨(chT R).1, (chT R).2⟩ := by
  unfold reticentref06_Check.f chT
  by_cases h : R.length = 13
  · have h' : (R.length : Int) = 13 := by omega
    have hl := refCheck_l0 hF h R.length 0 (by omega)
    rw [show ((0 : Nat) : Int) = 0 from rfl, List.drop_zero] at hl
    rw [if_pos h', if_pos h, hl, bsome]
    cases ckl R 0 <;> rfl
  · rw [if_neg (by show ¬ (R.length : Int) = 13; omega), if_neg h]
end
section
theorem ws_eq {a s : Str} (h1 : a.length ≤ 1000000) (h2 : s.length ≤ 1000000) : strings_Builder_WriteString.f a s = some (a ++ s, (s.length : Int), ()) := by
  unfold strings_Builder_WriteString.f
  have hB : 200000000 ≤ big := by decide
  rw [if_pos (by omega)]
structure RowR (r : api_Row) : Prop where
  may : right r.May = some false
  res : right r.Res = some true
  pc : right r.Pc = some true
def ok3 (r : api_Row) : Prop := (St r.May).2 = 0 ∧ (St r.Res).2 = 0 ∧ (St r.Pc).2 = 0
theorem St_bad {l : List Int} {b : Bool} (hr : right l = some b) (h : ¬ (St l).2 = 0) : (St l).2 = 5 := by
  rcases (St_eq hr).2.2.2 with q | q
  · exact absurd q h
  · rw [q]
open Classical in
theorem l3_eq {r : api_Row} (h : RowR r) {acc : Str} (ha : acc.length ≤ 100000) : table_Text.l3 r acc 0 = some (if ok3 r then .inr (acc ++ ([32] ++ (St r.May).1) ++ [32, 59] ++ ([32] ++ (St r.Res).1) ++ [32, 59] ++ ([32] ++ (St r.Pc).1)) else .inl ([], 5)) := by
  obtain ⟨a1, _, a3, _⟩ := St_eq h.may
  obtain ⟨b1, _, b3, _⟩ := St_eq h.res
  obtain ⟨c1, _, c3, _⟩ := St_eq h.pc
  have w0 : IntKind.i64.wrap (0 + 1) = 1 := by decide
  have w1' : IntKind.i64.wrap (1 + 1) = 2 := by decide
  have w2' : IntKind.i64.wrap (2 + 1) = 3 := by decide
  have l0 : lAt ([r.May, r.Res, r.Pc] : List (List Int)) 0 = some r.May := rfl
  have l1 : lAt ([r.May, r.Res, r.Pc] : List (List Int)) 1 = some r.Res := rfl
  have l2 : lAt ([r.May, r.Res, r.Pc] : List (List Int)) 2 = some r.Pc := rfl
  rw [table_Text.l3, if_pos (by simp), l0, bsome, a1, bsome]
  by_cases qa : (St r.May).2 = 0
  · rw [if_pos qa, if_neg (show ¬ (0 : Int) > 0 by decide), if_pos (by simp; omega), ws_eq (by omega) (by simp; omega), bsome, bsome, w0]
    show table_Text.l3 r (acc ++ ([32] ++ (St r.May).1)) 1 = _
    rw [table_Text.l3, if_pos (by simp), l1, bsome, b1, bsome]
    by_cases qb : (St r.Res).2 = 0
    · rw [if_pos qb, if_pos (show (1 : Int) > 0 by decide), ws_eq (by simp; omega) (by simp), bsome, if_pos (by simp; omega), ws_eq (by simp; omega) (by simp; omega), bsome, bsome, w1']
      show table_Text.l3 r (acc ++ ([32] ++ (St r.May).1) ++ [32, 59] ++ ([32] ++ (St r.Res).1)) 2 = _
      rw [table_Text.l3, if_pos (by simp), l2, bsome, c1, bsome]
      by_cases qc : (St r.Pc).2 = 0
      · rw [if_pos qc, if_pos (show (2 : Int) > 0 by decide), ws_eq (by simp; omega) (by simp), bsome, if_pos (by simp; omega), ws_eq (by simp; omega) (by simp; omega), bsome, bsome, w2']
        show table_Text.l3 r (acc ++ ([32] ++ (St r.May).1) ++ [32, 59] ++ ([32] ++ (St r.Res).1) ++ [32, 59] ++ ([32] ++ (St r.Pc).1)) 3 = _
        rw [table_Text.l3, if_neg (by simp), if_pos ⟨qa, qb, qc⟩]
      · rw [if_neg qc, if_neg (fun q => qc q.2.2), St_bad h.pc qc]; rfl
    · rw [if_neg qb, if_neg (fun q => qb q.2.1), St_bad h.res qb]; rfl
  · rw [if_neg qa, if_neg (fun q => qa q.1), St_bad h.may qa]; rfl
def wordT (op : Nat) : Str := gl0.getD op []
theorem word_eq {op : Nat} (h : op < 13) : lAt gl0 (op : Int) = some (wordT op) ∧ reticentref06_Word.f (op : Int) = some (wordT op) ∧ (wordT op).length ≤ 6 := by revert op; decide
noncomputable def lineT (op : Nat) (r : api_Row) : Str := (wordT op ++ [32, 58]) ++ ([32] ++ (St r.May).1) ++ [32, 59] ++ ([32] ++ (St r.Res).1) ++ [32, 59] ++ ([32] ++ (St r.Pc).1) ++ [32, 59, 10]
open Classical in
noncomputable def txl : List api_Row → Nat → Str → Option Str
  | [], _, acc => some acc
  | r :: R, k, acc => if ok3 r then txl R (k + 1) (acc ++ lineT k r) else none
theorem line_len {op : Nat} (h : op < 13) {r : api_Row} (hr : RowR r) : (lineT op r).length ≤ 2000 := by
  have a := (St_eq hr.may).2.2.1
  have b := (St_eq hr.res).2.2.1
  have c := (St_eq hr.pc).2.2.1
  have d := (word_eq h).2.2
  unfold lineT
  simp only [List.length_append, List.length_cons, List.length_nil]
  omega
section
variable {R : List api_Row} (h13 : R.length = 13) (hR : ∀ r ∈ R, RowR r)
include h13 hR
theorem l2_eq : ∀ (d k : Nat) (acc : Str), R.length = k + d → acc.length ≤ k * 2000 → table_Text.l2 ⟨R⟩ acc (k : Int) = some (match txl (R.drop k) k acc with | some s => .inr s | none => .inl ([], 5))
  | 0, k, acc, e, ha => by
    rw [table_Text.l2, if_neg (show ¬ (k : Int) < (R.length : Int) by omega), List.drop_of_length_le (by omega)]; rfl
  | d + 1, k, acc, e, ha => by
    have hk : k < R.length := by omega
    have hr := hR _ (List.getElem_mem hk)
    obtain ⟨w1', _, w3⟩ := word_eq (op := k) (by omega)
    have hline := line_len (op := k) (by omega) hr
    rw [table_Text.l2, if_pos (show (k : Int) < (R.length : Int) by omega)]
    show (lAt R (k : Int) >>= _) = _
    rw [lAt_some hk, bsome, w1', bsome, if_pos (by simp; omega), ws_eq (by omega) (by simp; omega), bsome, List.drop_eq_getElem_cons hk]
    show (table_Text.l3 R[k] (acc ++ (wordT k ++ [32, 58])) 0 >>= _) = _
    rw [l3_eq hr (by simp; omega), bsome]
    unfold txl
    by_cases q : ok3 R[k]
    · rw [if_pos q, if_pos q]
      have a := (St_eq hr.may).2.2.1
      have b := (St_eq hr.res).2.2.1
      have c := (St_eq hr.pc).2.2.1
      show (strings_Builder_WriteString.f _ _ >>= _) = _
      rw [ws_eq (by simp only [List.length_append, List.length_cons, List.length_nil]; omega) (by simp), bsome, wS (by omega)]
      have e2 : acc ++ (wordT k ++ [32, 58]) ++ ([32] ++ (St R[k].May).1) ++ [32, 59] ++ ([32] ++ (St R[k].Res).1) ++ [32, 59] ++ ([32] ++ (St R[k].Pc).1) ++ [32, 59, 10] = acc ++ lineT k R[k] := by
        unfold lineT; simp only [List.append_assoc]
      show table_Text.l2 ⟨R⟩ (acc ++ (wordT k ++ [32, 58]) ++ ([32] ++ (St R[k].May).1) ++ [32, 59] ++ ([32] ++ (St R[k].Res).1) ++ [32, 59] ++ ([32] ++ (St R[k].Pc).1) ++ [32, 59, 10]) ((k + 1 : Nat) : Int) = _
      rw [e2]
      exact l2_eq d (k + 1) _ (by omega) (by rw [List.length_append]; omega)
    · rw [if_neg q, if_neg q]
open Classical in
theorem rText_l0 : ∀ (d k : Nat) (acc : Str), R.length = k + d → acc.length ≤ k * 2000 → reticentref06_Text.l0 ⟨R⟩ (k : Int) acc = some (match txl (R.drop k) k acc with | some s => .inr s | none => .inl ([], 5))
  | 0, k, acc, e, ha => by
    rw [reticentref06_Text.l0, if_neg (show ¬ (k : Int) < (R.length : Int) by omega), List.drop_of_length_le (by omega)]; rfl
  | d + 1, k, acc, e, ha => by
    have hk : k < R.length := by omega
    have hr := hR _ (List.getElem_mem hk)
    obtain ⟨_, w2', w3⟩ := word_eq (op := k) (by omega)
    have hline := line_len (op := k) (by omega) hr
    obtain ⟨_, a1, a3, _⟩ := St_eq hr.may
    obtain ⟨_, b1, b3, _⟩ := St_eq hr.res
    obtain ⟨_, c1, c3, _⟩ := St_eq hr.pc
    rw [reticentref06_Text.l0, if_pos (show (k : Int) < (R.length : Int) by omega)]
    show (lAt R (k : Int) >>= _) = _
    rw [lAt_some hk, bsome, a1, bsome, b1, bsome, c1, bsome, List.drop_eq_getElem_cons hk]
    have hx : ((if (St R[k].May).2 = 0 then (if (St R[k].Res).2 = 0 then (some (!decide ((St R[k].Pc).2 = 0))) else (some true)) else (some true) : Option Bool)) = some (decide (¬ ok3 R[k])) := by
      unfold ok3
      by_cases p1 : (St R[k].May).2 = 0 <;> by_cases p2 : (St R[k].Res).2 = 0 <;> by_cases p3 : (St R[k].Pc).2 = 0 <;> simp [p1, p2, p3]
    rw [hx, bsome]
    unfold txl
    by_cases q : ok3 R[k]
    · rw [if_neg (show ¬ (decide (¬ ok3 R[k]) = true) from fun z => (of_decide_eq_true z) q), if_pos q, w2', bsome]
      rw [if_pos (by first | omega | (simp only [List.length_append, List.length_cons, List.length_nil]; omega)), if_pos (by first | omega | (simp only [List.length_append, List.length_cons, List.length_nil]; omega)), if_pos (by first | omega | (simp only [List.length_append, List.length_cons, List.length_nil]; omega)), if_pos (by first | omega | (simp only [List.length_append, List.length_cons, List.length_nil]; omega)), if_pos (by first | omega | (simp only [List.length_append, List.length_cons, List.length_nil]; omega)), if_pos (by first | omega | (simp only [List.length_append, List.length_cons, List.length_nil]; omega)), if_pos (by first | omega | (simp only [List.length_append, List.length_cons, List.length_nil]; omega)), if_pos (by first | omega | (simp only [List.length_append, List.length_cons, List.length_nil]; omega)), wS (by omega)]
      have e2 : ((((((((acc ++ wordT k) ++ ([32, 58, 32] : Str)) ++ (St R[k].May).1) ++ ([32, 59, 32] : Str)) ++ (St R[k].Res).1) ++ ([32, 59, 32] : Str)) ++ (St R[k].Pc).1) ++ ([32, 59, 10] : Str)) = acc ++ lineT k R[k] := by
        simp [lineT]
      rw [e2]
      exact rText_l0 d (k + 1) _ (by omega) (by rw [List.length_append]; omega)
    · rw [if_pos (show decide (¬ ok3 R[k]) = true from decide_eq_true q), if_neg q]
end
theorem txl_ne : ∀ {R : List api_Row} {k : Nat} {acc s : Str}, txl R k acc = some s → R ≠ [] ∨ acc ≠ [] → s ≠ []
  | [], k, acc, s, h, hne => by
    cases h
    exact hne.elim (fun q => absurd rfl q) id
  | r :: R, k, acc, s, h, hne => by
    unfold txl at h
    split at h
    · exact txl_ne h (.inr (by unfold lineT; simp))
    · cases h
theorem ckl_none : ∀ {R : List api_Row} {k : Nat}, ckl R k = none → ∀ (i : Nat) (hi : i < R.length), rowE (k + i) R[i] = 0
  | [], k, h, i, hi => by cases hi
  | r :: R, k, h, i, hi => by
    unfold ckl at h
    split at h
    · rename_i q
      match i with
      | 0 => exact q
      | i + 1 =>
        have := ckl_none h i (by simpa using hi)
        rw [show k + 1 + i = k + (i + 1) by omega] at this
        simpa using this
    · cases h
theorem ckl_some : ∀ {R : List api_Row} {k i : Nat} {e : Int}, ckl R k = some (i, e) → e ≠ 0
  | [], k, i, e, h => by cases h
  | r :: R, k, i, e, h => by
    unfold ckl at h
    split at h
    · exact ckl_some h
    · rename_i q; cases h; exact q
theorem rowE_right {op : Nat} {r : api_Row} (h : rowE op r = 0) : RowR r := by
  unfold rowE at h
  split at h
  · rename_i q; exact ⟨q.1, q.2.1, q.2.2⟩
  · cases h
theorem chT_zero {R : List api_Row} (h : (chT R).2 = 0) : R.length = 13 ∧ (chT R).1 = 0 ∧ (∀ r ∈ R, RowR r) ∧ ∀ (i : Nat) (hi : i < R.length), rowE i R[i] = 0 := by
  unfold chT at h ⊢
  by_cases q : R.length = 13
  · rw [if_pos q] at h ⊢
    cases hc : ckl R 0 with
    | some p =>
      obtain ⟨i, e⟩ := p
      rw [hc] at h
      exact absurd h (ckl_some hc)
    | none =>
      have h0 := ckl_none hc
      refine ⟨q, rfl, fun r hr => ?_, fun i hi => by have := h0 i hi; rwa [Nat.zero_add] at this⟩
      obtain ⟨i, hi, e⟩ := List.mem_iff_getElem.1 hr
      have := h0 i hi
      rw [e] at this
      exact rowE_right this
  · rw [if_neg q] at h; cases h
noncomputable def txT (R : List api_Row) : Str × Int := match txl R 0 [] with | some s => (s, 0) | none => ([], 5)
theorem text_p {R : List api_Row} (hF : Few R) : table_Text.f ⟨R⟩ = some (if (chT R).2 = 0 then txT R else ([], (chT R).2)) := by
  unfold table_Text.f
  rw [check_eq hF, bsome]
  by_cases h : (chT R).2 = 0
  · obtain ⟨h13, _, hR, _⟩ := chT_zero h
    have hl := l2_eq h13 hR R.length 0 [] (by omega) (by simp)
    rw [show ((0 : Nat) : Int) = 0 from rfl, List.drop_zero] at hl
    rw [if_pos h, if_pos h, hl, bsome]
    unfold txT
    cases ht : txl R 0 [] with
    | none => rfl
    | some s =>
      have hs := txl_ne ht (.inl (by intro e; rw [e] at h13; cases h13))
      show (lib_String s >>= _) = _
      cases s with
      | nil => exact absurd rfl hs
      | cons c s => rfl
  · rw [if_neg h, if_neg h]
theorem text_r {R : List api_Row} (hF : Few R) (h : (chT R).2 = 0) : reticentref06_Text.f ⟨R⟩ = some (txT R) := by
  obtain ⟨h13, _, hR, _⟩ := chT_zero h
  have hl := rText_l0 h13 hR R.length 0 [] (by omega) (by simp)
  rw [show ((0 : Nat) : Int) = 0 from rfl, List.drop_zero] at hl
  unfold reticentref06_Text.f
  rw [hl, bsome]
  unfold txT
  cases txl R 0 [] <;> rfl
def usual : List api_Row := [⟨[1], [6], [8]⟩, ⟨[1], [9], [8]⟩, ⟨[1], [6], [8]⟩, ⟨[1], [9, 10, 12], [8]⟩, ⟨[1], [9, 10, 12], [8]⟩, ⟨[1], [9, 10, 12], [8]⟩, ⟨[9, 8, 12, 11, 5], [9, 10, 12, 8, 12], [8]⟩, ⟨[1], [6], [9, 8, 12]⟩, ⟨[1], [6], [9, 8, 12]⟩, ⟨[1], [6], [9, 8, 12]⟩, ⟨[1], [9, 8, 12], [10]⟩, ⟨[1], [9, 8, 12], [8]⟩, ⟨[1], [6], [8]⟩]
theorem usual_eq : table_Usual.f = some ⟨usual⟩ := rfl
theorem usual_few : Few usual := ⟨by decide, by decide, by decide, by decide⟩
theorem usual_ck : chT usual = (0, 0) := by decide
theorem St_lf {op : Int} (h : LfOp op) (hr : right [op] ≠ none) : St [op] = (wd op, 0) := St_tree (by simp) (t := .lf op) h rfl hr
theorem s1 : St [1] = ([116, 114, 117, 101], 0) := St_lf (.inl rfl) (by decide)
theorem s6 : St [6] = ([98, 111, 116], 0) := St_lf (by simp [LfOp]) (by decide)
theorem s8 : St [8] = ([112, 99], 0) := St_lf (by simp [LfOp]) (by decide)
theorem s9 : St [9] = ([111, 110, 101], 0) := St_lf (by simp [LfOp]) (by decide)
theorem s10 : St [10] = ([116, 119, 111], 0) := St_lf (by simp [LfOp]) (by decide)
def tt1 : Tr := .nd 12 (.lf 9) (.lf 10)
def tt2 : Tr := .nd 12 (.lf 9) (.lf 8)
def tt3 : Tr := .nd 5 (.nd 12 (.lf 9) (.lf 8)) (.lf 11)
def tt4 : Tr := .nd 12 (.nd 12 (.lf 9) (.lf 10)) (.lf 8)
theorem s12 : St [9, 10, 12] = ans tt1 := St_tree (by decide) (t := tt1) (by simp [tt1, Tr.ok, LfOp, NdOp]) rfl (by decide)
theorem s13 : St [9, 8, 12] = ans tt2 := St_tree (by decide) (t := tt2) (by simp [tt2, Tr.ok, LfOp, NdOp]) rfl (by decide)
theorem s14 : St [9, 8, 12, 11, 5] = ans tt3 := St_tree (by decide) (t := tt3) (by simp [tt3, Tr.ok, LfOp, NdOp]) rfl (by decide)
theorem s15 : St [9, 10, 12, 8, 12] = ans tt4 := St_tree (by decide) (t := tt4) (by simp [tt4, Tr.ok, LfOp, NdOp]) rfl (by decide)
def lnS (op : Nat) (a b c : Str) : Str := (wordT op ++ [32, 58]) ++ ([32] ++ a) ++ [32, 59] ++ ([32] ++ b) ++ [32, 59] ++ ([32] ++ c) ++ [32, 59, 10]
def usualT : Str :=
  lnS 0 (wd 1) (wd 6) (wd 8) ++ lnS 1 (wd 1) (wd 9) (wd 8) ++ lnS 2 (wd 1) (wd 6) (wd 8) ++ lnS 3 (wd 1) (tx tt1).1 (wd 8) ++ lnS 4 (wd 1) (tx tt1).1 (wd 8) ++ lnS 5 (wd 1) (tx tt1).1 (wd 8) ++ lnS 6 (tx tt3).1 (tx tt4).1 (wd 8) ++
  lnS 7 (wd 1) (wd 6) (tx tt2).1 ++ lnS 8 (wd 1) (wd 6) (tx tt2).1 ++ lnS 9 (wd 1) (wd 6) (tx tt2).1 ++ lnS 10 (wd 1) (tx tt2).1 (wd 10) ++ lnS 11 (wd 1) (tx tt2).1 (wd 8) ++ lnS 12 (wd 1) (wd 6) (wd 8)
theorem usual_tx : txl usual 0 [] = some usualT := by
  have w1' : St [1] = (wd 1, 0) := s1
  have w6 : St [6] = (wd 6, 0) := s6
  have w8 : St [8] = (wd 8, 0) := s8
  have w9 : St [9] = (wd 9, 0) := s9
  have w10 : St [10] = (wd 10, 0) := s10
  have w12 : St [9, 10, 12] = ((tx tt1).1, 0) := by rw [s12]; rfl
  have w13 : St [9, 8, 12] = ((tx tt2).1, 0) := by rw [s13]; rfl
  have w14 : St [9, 8, 12, 11, 5] = ((tx tt3).1, 0) := by rw [s14]; rfl
  have w15 : St [9, 10, 12, 8, 12] = ((tx tt4).1, 0) := by rw [s15]; rfl
  have step : ∀ (x y z : List Int) (R : List api_Row) (k : Nat) (acc : Str) (a b c : Str), St x = (a, 0) → St y = (b, 0) → St z = (c, 0) → txl (⟨x, y, z⟩ :: R) k acc = txl R (k + 1) (acc ++ lnS k a b c) := by
    intro x y z R k acc a b c ha hb hc
    have e : lineT k ⟨x, y, z⟩ = lnS k a b c := by unfold lineT lnS; rw [ha, hb, hc]
    rw [txl, if_pos ⟨by rw [ha], by rw [hb], by rw [hc]⟩, e]
  unfold usual
  rw [step _ _ _ _ _ _ _ _ _ w1' w6 w8, step _ _ _ _ _ _ _ _ _ w1' w9 w8, step _ _ _ _ _ _ _ _ _ w1' w6 w8, step _ _ _ _ _ _ _ _ _ w1' w12 w8, step _ _ _ _ _ _ _ _ _ w1' w12 w8, step _ _ _ _ _ _ _ _ _ w1' w12 w8, step _ _ _ _ _ _ _ _ _ w14 w15 w8,
    step _ _ _ _ _ _ _ _ _ w1' w6 w13, step _ _ _ _ _ _ _ _ _ w1' w6 w13, step _ _ _ _ _ _ _ _ _ w1' w6 w13, step _ _ _ _ _ _ _ _ _ w1' w13 w10, step _ _ _ _ _ _ _ _ _ w1' w13 w8, step _ _ _ _ _ _ _ _ _ w1' w6 w8, txl]
  unfold usualT
  rw [List.nil_append]
theorem alive : reticentlaw06_alive.f = some true := by
  unfold reticentlaw06_alive.f
  rw [usual_eq, bsome, text_p usual_few, usual_ck, bsome]
  have e : txT usual = (usualT, 0) := by unfold txT; rw [usual_tx]
  show ((if (txT usual).2 = 0 then _ else _ : Option Bool) >>= _) = _
  rw [e]
  have h1 : lib_Contains usualT ([97, 100, 100, 32, 58, 32, 116, 114, 117, 101, 32, 59, 32, 111, 110, 101, 32, 106, 111, 105, 110, 32, 116, 119, 111, 32, 59, 32, 112, 99, 32, 59, 10] : Str) = some true := by kernel_rfl
  have h2 : (usualT.length : Int) > 40 := of_decide_eq_true (by kernel_rfl)
  show ((if (0 : Int) = 0 then (if (usualT.length : Int) > 40 then (lib_Contains usualT _ >>= _) else _) else _ : Option Bool) >>= _) = _
  rw [if_pos rfl, if_pos h2]
  exact congrArg (fun o : Option Bool => ((o >>= fun y9 => some y9 : Option Bool) >>= fun x6 => some x6)) h1
theorem checks {t : api_Table} : reticentlaw06_TableChecks.f t = some true := by
  obtain ⟨R⟩ := t
  unfold reticentlaw06_TableChecks.f
  show (reticentlaw06_few.f ⟨R⟩ >>= _) = _
  rw [few_eq, bsome]
  have hF := few_ok (R := R)
  generalize fewR R = Q at hF
  show (table_Check.f ⟨Q⟩ >>= _) = _
  rw [check_eq hF, bsome]
  show (table_Text.f ⟨Q⟩ >>= _) = _
  rw [text_p hF, bsome]
  show (reticentref06_Check.f ⟨Q⟩ >>= _) = _
  rw [refCheck_eq hF, bsome, alive]
  show ((if (chT Q).2 = (chT Q).2 then (if (chT Q).1 = (chT Q).1 then (some true >>= fun y11 => some (!y11)) else (some true)) else (some true) : Option Bool) >>= _) = _
  rw [if_pos rfl, if_pos rfl, bsome, bsome, if_neg (by decide)]
  show (if (chT Q).2 = 0 then _ else _) = _
  by_cases h : (chT Q).2 = 0
  · rw [if_pos h]
    show ((reticentref06_Text.f ⟨Q⟩ >>= _) : Option Bool) = _
    rw [text_r hF h, bsome, if_pos h, if_pos rfl, decide_eq_true rfl]; rfl
  · rw [if_neg h, if_neg h, if_pos rfl, decide_eq_true rfl]; rfl
end
end Go.Proofs.YtjkijjhjffodcaaDoor.Tb
