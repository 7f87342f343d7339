/- Plain laws, by program out of this seat's plain texts. -/
import Derived.Test.YtkmobcaobmchpaaDoorDMD
set_option linter.unusedVariables false
set_option linter.unusedSimpArgs false
set_option linter.unusedSectionVars false
namespace Go.Proofs.YtkmobcaobmchpaaDoor.Md
open Go Go.Proofs.YtkmobcaobmchpaaDoor.Ab Go.Proofs.YtkmobcaobmchpaaDoor.MD
section
theorem lAt_some {α : Type} {xs : List α} {i : Nat} (h : i < xs.length) : lAt xs (i : Int) = some xs[i] := by
  simp [lAt, h]
end
section
theorem wrapU32 {m : Nat} (h : m < 4294967296) : IntKind.u32.wrap (m : Int) = (m : Int) := by
  have e : (m : Int) % (4294967296 : Int) = (m : Int) := Int.emod_eq_of_lt (by omega) (by omega)
  show (if (false && decide ((m : Int) % 4294967296 ≥ 2147483648)) = true then (m : Int) % 4294967296 - 4294967296 else (m : Int) % 4294967296) = m
  rw [e, if_neg]
  simp
theorem ofInt_nat {m : Nat} (h : m < 4294967296) : (BitVec.ofInt 32 (m : Int)).toNat = m := by
  rw [BitVec.ofInt_natCast, BitVec.toNat_ofNat]
  exact Nat.mod_eq_of_lt h
theorem bOr_nat {a b : Nat} (ha : a < 4294967296) (hb : b < 4294967296) : bOr .u32 (a : Int) (b : Int) = ((a ||| b : Nat) : Int) := by
  unfold bOr
  show IntKind.u32.wrap (((BitVec.ofInt 32 (a : Int) ||| BitVec.ofInt 32 (b : Int)).toNat : Nat) : Int) = _
  rw [BitVec.toNat_or, ofInt_nat ha, ofInt_nat hb]
  exact wrapU32 (Nat.or_lt_two_pow (n := 32) ha hb)
theorem bShr_nat {a k : Nat} (hk : k ≤ 32) : bShr .u32 (a : Int) (k : Int) = ((a >>> k : Nat) : Int) := by
  unfold bShr
  show (a : Int).fdiv (2 ^ (min ((k : Int).toNat) 32)) = _
  rw [Int.toNat_natCast, Nat.min_eq_left hk, Nat.shiftRight_eq_div_pow]
  rw [Int.fdiv_eq_ediv_of_nonneg _ (Int.le_of_lt (Int.pow_pos (by omega)))]
  norm_cast
end
section
open Classical
end
section
open Classical
theorem bShl_nat {x k : Nat} (hk : k ≤ 20) (hx : x ≤ 1) : bShl .u32 (x : Int) (k : Int) = ((x <<< k : Nat) : Int) := by
  unfold bShl
  show IntKind.u32.wrap ((x : Int) * (2 ^ (min ((k : Int).toNat) 32) : Nat)) = _
  rw [Int.toNat_natCast, Nat.min_eq_left (by omega), ← Int.natCast_mul, Nat.shiftLeft_eq]
  refine wrapU32 ?_
  have : 2 ^ k ≤ 2 ^ 20 := Nat.pow_le_pow_right (by omega) hk
  have : x * 2 ^ k ≤ 1 * 2 ^ 20 := Nat.mul_le_mul hx this
  omega
end
section
open Classical
end
section
theorem wrapZ {x : Int} (h0 : -9223372036854775808 ≤ x) (h1 : x < 9223372036854775808) : IntKind.i64.wrap x = x := by
  show (if (true && decide (x % 18446744073709551616 ≥ 9223372036854775808)) = true then x % 18446744073709551616 - 18446744073709551616 else x % 18446744073709551616) = x
  simp only [Bool.true_and, decide_eq_true_eq]
  split <;> omega
theorem w1 {n : Nat} (h : n ≤ 100000) : IntKind.i64.wrap ((n : Int) - 1) = (n : Int) - 1 := wrapZ (by omega) (by omega)
theorem wS {n : Nat} (h : n ≤ 100000) : IntKind.i64.wrap ((n : Int) + 1) = ((n + 1 : Nat) : Int) := by rw [wrapZ (by omega) (by omega)]; rfl
theorem lAt_last {α : Type} {l : List α} {x : α} : lAt (l ++ [x]) (((l ++ [x]).length : Int) - 1) = some x := by
  have : (((l ++ [x]).length : Int) - 1) = ((l.length : Nat) : Int) := by simp
  rw [this, lAt_some (by simp)]; simp
theorem lAt_last2 {α : Type} {l : List α} {x y : α} : lAt (l ++ [y] ++ [x]) (((l ++ [y] ++ [x]).length : Int) - 2) = some y := by
  have : (((l ++ [y] ++ [x]).length : Int) - 2) = ((l.length : Nat) : Int) := by simp
  rw [this, lAt_some (by simp)]; simp
def pop (a b : Bool) : List Bool → Option (List Bool)
  | x :: y :: r => if x = a ∧ y = a then some (b :: r) else none
  | _ => none
def st (op : Int) (S : List Bool) : Option (List Bool) :=
  if op = 1 ∨ op = 2 then some (false :: S) else if op = 6 ∨ op = 7 ∨ op = 8 ∨ op = 9 ∨ op = 10 ∨ op = 11 then some (true :: S)
  else if op = 3 ∨ op = 4 then pop false false S else if op = 5 then pop true false S else if op = 12 ∨ op = 13 then pop true true S else none
def run : List Int → List Bool → Option (List Bool)
  | [], S => some S
  | op :: r, S => (st op S).bind (run r)
theorem take_eq {a : Bool} : ∀ {S : List Bool}, S.length ≤ 1000 → rule_made_1.f a S.reverse = some (match S with | x :: y :: r => if x = a ∧ y = a then (r.reverse, true) else (S.reverse, false) | _ => (S.reverse, false))
  | [], h => by unfold rule_made_1.f; simp [show IntKind.i64.wrap (-1) < 1 by decide]
  | [x], h => by unfold rule_made_1.f; simp [show IntKind.i64.wrap 0 < 1 by decide]
  | x :: y :: r, h => by
    have hl : (x :: y :: r).reverse = r.reverse ++ [y] ++ [x] := by simp
    have hlen : (r.reverse ++ [y] ++ [x]).length = r.length + 2 := by simp
    have hr : r.length + 2 ≤ 1000 := h
    rw [hl]
    unfold rule_made_1.f
    have e1 := lAt_last (l := r.reverse ++ [y]) (x := x)
    have e2 := lAt_last2 (l := r.reverse) (x := x) (y := y)
    rw [w1 (by omega)]
    have e3 : IntKind.i64.wrap ((((r.reverse ++ [y] ++ [x]).length : Nat) : Int) - 1 - 1) = (((r.reverse ++ [y] ++ [x]).length : Nat) : Int) - 2 := by rw [wrapZ (by omega) (by omega)]; omega
    rw [e3, e1, e2, if_neg (by rw [hlen]; omega)]
    have e4 : (r.reverse ++ [y] ++ [x]).take ((((r.reverse ++ [y] ++ [x]).length : Nat) : Int) - 2).toNat = r.reverse := by
      rw [hlen, show ((((r.length + 2 : Nat) : Int) - 2).toNat) = r.reverse.length by simp, List.append_assoc, List.take_left]
    rw [e4]
    have hb : (0 : Int) ≤ (((r.reverse ++ [y] ++ [x]).length : Nat) : Int) - 2 ∧ (((r.reverse ++ [y] ++ [x]).length : Nat) : Int) - 2 ≤ (((r.reverse ++ [y] ++ [x]).length : Nat) : Int) := by rw [hlen]; omega
    simp only [if_pos hb, Option.bind_eq_bind, Option.bind_some]
    by_cases h1 : x = a <;> by_cases h2 : y = a <;> simp [h1, h2]
theorem cases13 (op : Int) : op = 1 ∨ op = 2 ∨ op = 3 ∨ op = 4 ∨ op = 5 ∨ op = 6 ∨ op = 7 ∨ op = 8 ∨ op = 9 ∨ op = 10 ∨ op = 11 ∨ op = 12 ∨ op = 13 ∨ ¬ (1 ≤ op ∧ op ≤ 13) := by omega
theorem made_step {l : List Int} {S : List Bool} {k : Nat} (hk : k < l.length) (hl : l.length ≤ 900) (hS : S.length ≤ k) :
    rule_made.l0 l S.reverse (k : Int) = (match st l[k] S with | some S' => rule_made.l0 l S'.reverse ((k + 1 : Nat) : Int) | none => some (.inl (false, false))) := by
  rw [rule_made.l0, if_pos (by omega), lAt_some hk, wS (by omega)]
  generalize l[k] = op
  have hB : 2000 ≤ big := by decide
  have hb1 : S.length + 1 ≤ big := by omega
  simp only [Option.bind_eq_bind, Option.bind_some]
  rcases cases13 op with rfl | rfl | rfl | rfl | rfl | rfl | rfl | rfl | rfl | rfl | rfl | rfl | rfl | h
  case inr.inr.inr.inr.inr.inr.inr.inr.inr.inr.inr.inr.inr =>
    have e : ∀ n : Int, 1 ≤ n → n ≤ 13 → ¬ op = n := fun n h1 h2 e => h (by omega)
    simp [st, e 1, e 2, e 3, e 4, e 5, e 6, e 7, e 8, e 9, e 10, e 11, e 12, e 13]
  all_goals first
    | (simp [st, hb1]; done)
    | (rw [take_eq (a := false) (S := S) (by omega), take_eq (a := true) (S := S) (by omega)]
       match S, hS with
       | [], _ => simp [st, pop, show 1 ≤ big by omega]
       | [x], _ => simp [st, pop, show 1 + 1 ≤ big by omega]
       | x :: y :: r, hS =>
         simp only [List.length_cons] at hS hb1
         have h1 : r.length + 1 ≤ big := by omega
         have h2 : r.length + 1 + 1 + 1 ≤ big := by omega
         cases x <;> cases y <;> simp [st, pop, h1, h2])
theorem st_len {op : Int} {S S' : List Bool} (h : st op S = some S') : S'.length ≤ S.length + 1 := by
  have hp : ∀ {a b : Bool}, pop a b S = some S' → S'.length ≤ S.length + 1 := by
    intro a b h
    match S, h with
    | [], h => simp [pop] at h
    | [x], h => simp [pop] at h
    | x :: y :: r, h =>
      by_cases q : x = a ∧ y = a
      · simp [pop, q] at h; subst h; simp
      · simp [pop, q] at h
  unfold st at h
  split at h
  · cases h; simp
  · split at h
    · cases h; simp
    · split at h
      · exact hp h
      · split at h
        · exact hp h
        · split at h
          · exact hp h
          · cases h
theorem made_l0 {l : List Int} (hl : l.length ≤ 900) : ∀ (d k : Nat) (S : List Bool), l.length = k + d → S.length ≤ k →
    rule_made.l0 l S.reverse (k : Int) = some (match run (l.drop k) S with | some S' => .inr S'.reverse | none => .inl (false, false))
  | 0, k, S, e, hS => by
    rw [rule_made.l0, if_neg (by omega), List.drop_of_length_le (by omega)]; rfl
  | d + 1, k, S, e, hS => by
    have hk : k < l.length := by omega
    rw [made_step hk hl hS, List.drop_eq_getElem_cons hk]
    unfold run
    cases h : st l[k] S with
    | none => rfl
    | some S' => exact made_l0 hl d (k + 1) S' (by omega) (by have := st_len h; omega)
def right (l : List Int) : Option Bool := match run l [] with
  | some [b] => if l.length > 40 then none else some b
  | _ => none
theorem made_eq {l : List Int} (hl : l.length ≤ 900) : rule_made.f l = some (match right l with | some b => (b, true) | none => (false, false)) := by
  unfold rule_made.f right
  have := made_l0 hl l.length 0 [] (by omega) (by simp)
  rw [show ((0 : Nat) : Int) = 0 from rfl, List.reverse_nil] at this
  rw [this, List.drop_zero]
  match run l [] with
  | none => rfl
  | some [] => rfl
  | some [b] =>
    by_cases h : l.length > 40
    · have h' : (l.length : Int) > 40 := by omega
      simp [h, h']
    · have h' : ¬ (l.length : Int) > 40 := by omega
      simp [h, h', lAt]
  | some (x :: y :: r) =>
    have : ¬ (((x :: y :: r).reverse.length : Nat) : Int) = 1 := by simp; omega
    simp only [Option.bind_eq_bind, Option.bind_some, if_neg this]
    rfl
theorem Right_eq {l : List Int} {b : Bool} (hl : l.length ≤ 900) : rule_Right.f l b = some (decide (right l = some b)) := by
  unfold rule_Right.f
  rw [made_eq hl]
  cases right l with
  | none => simp
  | some c => cases b <;> cases c <;> simp
end
section
inductive Tr where
  | lf (op : Int)
  | nd (op : Int) (x y : Tr)
def Tr.flat : Tr → List Int
  | .lf op => [op]
  | .nd op x y => x.flat ++ y.flat ++ [op]
def Tr.op : Tr → Int
  | .lf op => op
  | .nd op _ _ => op
def Tr.size : Tr → Nat
  | .lf _ => 1
  | .nd _ x y => x.size + y.size + 1
theorem flat_len : ∀ t : Tr, t.flat.length = t.size
  | .lf _ => rfl
  | .nd _ x y => by simp [Tr.flat, Tr.size, flat_len x, flat_len y]; omega
def LfOp (op : Int) : Prop := op = 1 ∨ op = 2 ∨ op = 6 ∨ op = 7 ∨ op = 8 ∨ op = 9 ∨ op = 10 ∨ op = 11
def NdOp (op : Int) : Prop := op = 3 ∨ op = 4 ∨ op = 5 ∨ op = 12 ∨ op = 13
def Tr.ok : Tr → Prop
  | .lf op => LfOp op
  | .nd op x y => NdOp op ∧ x.ok ∧ y.ok
theorem st_tree {op : Int} {S S' : List Bool} (h : st op S = some S') (T : List Tr) (hT : T.length = S.length) :
    (LfOp op ∧ S'.length = S.length + 1) ∨ (NdOp op ∧ ∃ x y r, S = x :: y :: r ∧ S'.length = r.length + 1) := by
  have hp : ∀ {a b : Bool}, pop a b S = some S' → ∃ x y r, S = x :: y :: r ∧ S'.length = r.length + 1 := by
    intro a b h
    match S, h with
    | [], h => simp [pop] at h
    | [x], h => simp [pop] at h
    | x :: y :: r, h =>
      by_cases q : x = a ∧ y = a
      · simp [pop, q] at h; subst h; exact ⟨x, y, r, rfl, by simp⟩
      · simp [pop, q] at h
  unfold st at h
  split at h
  · rename_i q; cases h; exact .inl ⟨by unfold LfOp; rcases q with q | q <;> simp [q], by simp⟩
  · split at h
    · rename_i q; cases h; exact .inl ⟨.inr (.inr q), by simp⟩
    · split at h
      · rename_i q; exact .inr ⟨by unfold NdOp; rcases q with q | q <;> simp [q], hp h⟩
      · split at h
        · rename_i q; exact .inr ⟨by unfold NdOp; simp [q], hp h⟩
        · split at h
          · rename_i q; exact .inr ⟨by unfold NdOp; rcases q with q | q <;> simp [q], hp h⟩
          · cases h
def flats (T : List Tr) : List Int := (T.reverse.map Tr.flat).flatten
theorem flats_cons {t : Tr} {T : List Tr} : flats (t :: T) = flats T ++ t.flat := by simp [flats]
theorem run_tree : ∀ {l : List Int} {S S' : List Bool} {T : List Tr}, run l S = some S' → T.length = S.length → (∀ t ∈ T, t.ok) →
    ∃ T' : List Tr, T'.length = S'.length ∧ (∀ t ∈ T', t.ok) ∧ flats T' = flats T ++ l
  | [], S, S', T, h, hT, ho => by cases h; exact ⟨T, hT, ho, by simp⟩
  | op :: l, S, S', T, h, hT, ho => by
    unfold run at h
    cases hs : st op S with
    | none => rw [hs] at h; cases h
    | some S1 =>
      rw [hs] at h
      rcases st_tree hs T hT with ⟨h1, h2⟩ | ⟨h1, x, y, r, e, h2⟩
      · obtain ⟨T', q1, q2, q3⟩ := run_tree (T := .lf op :: T) h (by simp [hT, h2]) (fun t ht => by
          rcases List.mem_cons.1 ht with rfl | ht
          · exact h1
          · exact ho t ht)
        exact ⟨T', q1, q2, by rw [q3, flats_cons]; simp [Tr.flat]⟩
      · subst e
        match T, hT, ho with
        | b :: a :: R, hT, ho =>
          obtain ⟨T', q1, q2, q3⟩ := run_tree (T := .nd op a b :: R) h (by simp at hT; simp [hT, h2]) (fun t ht => by
            rcases List.mem_cons.1 ht with rfl | ht
            · exact ⟨h1, ho a (by simp), ho b (by simp)⟩
            · exact ho t (by simp [ht]))
          exact ⟨T', q1, q2, by rw [q3, flats_cons, flats_cons, flats_cons]; simp [Tr.flat]⟩
        | [], hT, _ => simp at hT
        | [_], hT, _ => simp at hT
theorem right_tree {l : List Int} {b : Bool} (h : right l = some b) : ∃ t : Tr, t.ok ∧ t.flat = l ∧ l.length ≤ 40 := by
  unfold right at h
  cases hr : run l [] with
  | none => rw [hr] at h; cases h
  | some S =>
    rw [hr] at h
    match S, h with
    | [], h => cases h
    | x :: y :: r, h => cases h
    | [c], h =>
      simp only at h
      by_cases hl : l.length > 40
      · rw [if_pos hl] at h; cases h
      · obtain ⟨T', q1, q2, q3⟩ := run_tree (T := []) hr rfl (fun t ht => by cases ht)
        match T', q1 with
        | [t], _ => exact ⟨t, q2 t (by simp), by rw [flats_cons] at q3; simpa [flats] using q3, by omega⟩
end
section
theorem bsome {α β : Type} (a : α) (f : α → Option β) : (some a >>= f) = f a := rfl
end
section
def Tr.sort : Tr → Bool
  | .lf op => decide (op ≥ 6)
  | .nd op _ _ => decide (op ≥ 12)
def Tr.wf : Tr → Prop
  | .lf op => LfOp op
  | .nd op x y => NdOp op ∧ x.wf ∧ y.wf ∧ x.sort = decide (op ≥ 5) ∧ y.sort = decide (op ≥ 5)
theorem st_sort {op : Int} {S S' : List Bool} (h : st op S = some S') :
    (LfOp op ∧ S' = decide (op ≥ 6) :: S) ∨ (NdOp op ∧ ∃ r, S = decide (op ≥ 5) :: decide (op ≥ 5) :: r ∧ S' = decide (op ≥ 12) :: r) := by
  have hp : ∀ {a b : Bool}, pop a b S = some S' → ∃ r, S = a :: a :: r ∧ S' = b :: r := by
    intro a b h
    match S, h with
    | [], h => simp [pop] at h
    | [x], h => simp [pop] at h
    | x :: y :: r, h =>
      by_cases q : x = a ∧ y = a
      · simp [pop, q] at h; subst h; exact ⟨r, by rw [q.1, q.2], rfl⟩
      · simp [pop, q] at h
  unfold st at h
  split at h
  · rename_i q; cases h
    rcases q with rfl | rfl <;> exact .inl ⟨by unfold LfOp; simp, rfl⟩
  · split at h
    · rename_i q; cases h
      rcases q with rfl | rfl | rfl | rfl | rfl | rfl <;> exact .inl ⟨by unfold LfOp; simp, rfl⟩
    · split at h
      · rename_i q
        rcases q with rfl | rfl <;> exact .inr ⟨by unfold NdOp; simp, hp h⟩
      · split at h
        · rename_i q; subst q; exact .inr ⟨by unfold NdOp; simp, hp h⟩
        · split at h
          · rename_i q
            rcases q with rfl | rfl <;> exact .inr ⟨by unfold NdOp; simp, hp h⟩
          · cases h
theorem run_sort : ∀ {l : List Int} {S S' : List Bool} {T : List Tr}, run l S = some S' → T.map Tr.sort = S → (∀ t ∈ T, t.wf) →
    ∃ T' : List Tr, T'.map Tr.sort = S' ∧ (∀ t ∈ T', t.wf) ∧ flats T' = flats T ++ l
  | [], S, S', T, h, hT, ho => by cases h; exact ⟨T, hT, ho, by simp⟩
  | op :: l, S, S', T, h, hT, ho => by
    unfold run at h
    cases hs : st op S with
    | none => rw [hs] at h; cases h
    | some S1 =>
      rw [hs] at h
      rcases st_sort hs with ⟨h1, h2⟩ | ⟨h1, r, e, h2⟩
      · obtain ⟨T', q1, q2, q3⟩ := run_sort (T := .lf op :: T) h (by rw [h2, ← hT]; rfl) (fun t ht => by
          rcases List.mem_cons.1 ht with rfl | ht
          · exact h1
          · exact ho t ht)
        exact ⟨T', q1, q2, by rw [q3, flats_cons]; simp [Tr.flat]⟩
      · subst hT
        match T, e, ho with
        | b :: a :: R, e, ho =>
          simp only [List.map_cons, List.cons.injEq] at e
          obtain ⟨T', q1, q2, q3⟩ := run_sort (T := .nd op a b :: R) h (by rw [h2, ← e.2.2]; rfl) (fun t ht => by
            rcases List.mem_cons.1 ht with rfl | ht
            · exact ⟨h1, ho a (by simp), ho b (by simp), e.2.1, e.1⟩
            · exact ho t (by simp [ht]))
          exact ⟨T', q1, q2, by rw [q3, flats_cons, flats_cons, flats_cons]; simp [Tr.flat]⟩
        | [], e, _ => simp at e
        | [_], e, _ => simp at e
theorem right_wf {l : List Int} {b : Bool} (h : right l = some b) : ∃ t : Tr, t.wf ∧ t.sort = b ∧ t.flat = l ∧ l.length ≤ 40 := by
  unfold right at h
  cases hr : run l [] with
  | none => rw [hr] at h; cases h
  | some S =>
    rw [hr] at h
    match S, h with
    | [], h => cases h
    | x :: y :: r, h => cases h
    | [c], h =>
      simp only at h
      by_cases hl : l.length > 40
      · rw [if_pos hl] at h; cases h
      · rw [if_neg hl] at h
        cases h
        obtain ⟨T', q1, q2, q3⟩ := run_sort (T := []) hr rfl (fun t ht => by cases ht)
        match T', q1 with
        | [t], q1 => exact ⟨t, q2 t (by simp), by simpa using q1, by rw [flats_cons] at q3; simpa [flats] using q3, by omega⟩
end
section
theorem split_nd {l r : List Int} {s : Nat} {op : Int} {x y : Tr} (e : l.drop s = (Tr.nd op x y).flat ++ r) :
    l.drop s = x.flat ++ (y.flat ++ ([op] ++ r)) ∧ l.drop (s + x.size) = y.flat ++ ([op] ++ r) ∧ ∃ h : s + x.size + y.size < l.length, l[s + x.size + y.size] = op := by
  have e1 : l.drop s = x.flat ++ (y.flat ++ ([op] ++ r)) := by rw [e]; simp [Tr.flat]
  have e2 : l.drop (s + x.size) = y.flat ++ ([op] ++ r) := by rw [← List.drop_drop, e1, ← flat_len x, List.drop_left]
  have e3 : l.drop (s + x.size + y.size) = [op] ++ r := by rw [← List.drop_drop, e2, ← flat_len y, List.drop_left]
  have hk : s + x.size + y.size < l.length := by
    rcases Nat.lt_or_ge (s + x.size + y.size) l.length with q | q
    · exact q
    · rw [List.drop_of_length_le q] at e3; simp at e3
  rw [List.drop_eq_getElem_cons hk] at e3
  simp only [List.cons_append, List.nil_append, List.cons.injEq] at e3
  exact ⟨e1, e2, hk, e3.1⟩
theorem leaf_at {l r : List Int} {s : Nat} {op : Int} (e : l.drop s = (Tr.lf op).flat ++ r) : ∃ h : s < l.length, l[s] = op := by
  have hs : s < l.length := by
    rcases Nat.lt_or_ge s l.length with q | q
    · exact q
    · rw [List.drop_of_length_le q] at e; simp [Tr.flat] at e
  rw [List.drop_eq_getElem_cons hs] at e
  simp only [Tr.flat, List.cons_append, List.nil_append, List.cons.injEq] at e
  exact ⟨hs, e.1⟩
theorem size_pos : ∀ t : Tr, 1 ≤ t.size
  | .lf _ => by simp [Tr.size]
  | .nd _ _ _ => by simp [Tr.size]
end
section
open Classical
end
section
open Classical
def names (r : List Int) (j : Nat) : Bool := r.any fun op => decide (op = 8 + (j : Int))
theorem or_bit {v x : Nat} (hv : v < 16) (hx : x < 4) : bOr .u32 (v : Int) (bShl .u32 1 (x : Int)) = ((v ||| 1 <<< x : Nat) : Int) ∧ v ||| 1 <<< x < 16 := by
  have h1 : bShl .u32 1 (x : Int) = ((1 <<< x : Nat) : Int) := bShl_nat (x := 1) (by omega) (by omega)
  have h2 : 1 <<< x < 16 := by
    have : x = 0 ∨ x = 1 ∨ x = 2 ∨ x = 3 := by omega
    rcases this with rfl | rfl | rfl | rfl <;> decide
  rw [h1, bOr_nat (by omega) (by omega)]
  exact ⟨rfl, Nat.or_lt_two_pow (n := 4) hv h2⟩
theorem uses_l0 {r : List Int} (hr : r.length ≤ 900) : ∀ (d k v : Nat), r.length = k + d → v < 16 → ∃ u : Nat, rule_Uses.l0 r (k : Int) (v : Int) = some (u : Int) ∧ u < 16 ∧ ∀ j, j < 4 → u.testBit j = (v.testBit j || names (r.drop k) j)
  | 0, k, v, e, hv => ⟨v, by rw [rule_Uses.l0, if_neg (by omega)], hv, fun j hj => by rw [List.drop_of_length_le (by omega)]; simp [names]⟩
  | d + 1, k, v, e, hv => by
    have hk : k < r.length := by omega
    rw [List.drop_eq_getElem_cons hk]
    by_cases hop : 8 ≤ r[k] ∧ r[k] ≤ 11
    · obtain ⟨x, hx, hxo⟩ : ∃ x : Nat, x < 4 ∧ r[k] = 8 + (x : Int) := ⟨(r[k] - 8).toNat, by omega, by omega⟩
      obtain ⟨o1, o2⟩ := or_bit hv hx
      obtain ⟨u, h1, h2, h3⟩ := uses_l0 hr d (k + 1) (v ||| 1 <<< x) (by omega) o2
      have hw : IntKind.i64.wrap (r[k] - 8) = (x : Int) := by rw [wrapZ (by omega) (by omega)]; omega
      refine ⟨u, ?_, h2, fun j hj => ?_⟩
      · have hb : ((if r[k] ≥ 8 then (some (decide (r[k] ≤ 11))) else (some false) : Option Bool)) = some true := by rw [if_pos hop.1, decide_eq_true hop.2]
        rw [rule_Uses.l0, if_pos (by omega), lAt_some hk, bsome, hb, bsome, if_pos rfl, hw, if_pos (by omega), bsome, o1, wS (by omega)]
        exact h1
      · rw [h3 j hj, Nat.testBit_or, Nat.testBit_shiftLeft]
        unfold names
        rw [List.any_cons, hxo]
        by_cases hjx : j = x
        · subst hjx; simp
        · have h1 : ((j ≥ x : Bool) && Nat.testBit 1 (j - x)) = false := by
            by_cases q : j ≥ x
            · have : 1 ≤ j - x := by omega
              have h0 : Nat.testBit 1 (j - x) = false := Nat.testBit_lt_two_pow (Nat.lt_of_lt_of_le (by decide) (Nat.pow_le_pow_right (n := 2) (by omega) this))
              simp [h0]
            · simp [q]
          have h2 : decide ((8 : Int) + (x : Int) = 8 + (j : Int)) = false := decide_eq_false (by omega)
          rw [h1, h2]; simp
    · obtain ⟨u, h1, h2, h3⟩ := uses_l0 hr d (k + 1) v (by omega) hv
      refine ⟨u, ?_, h2, fun j hj => ?_⟩
      · have hb : ((if r[k] ≥ 8 then (some (decide (r[k] ≤ 11))) else (some false) : Option Bool)) = some false := by
          by_cases q : r[k] ≥ 8
          · rw [if_pos q, decide_eq_false (fun q2 => hop ⟨q, q2⟩)]
          · rw [if_neg q]
        rw [rule_Uses.l0, if_pos (by omega), lAt_some hk, bsome, hb, bsome, if_neg (by decide), bsome, wS (by omega)]
        exact h1
      · rw [h3 j hj]
        unfold names
        rw [List.any_cons, decide_eq_false (by omega), Bool.false_or]
theorem uses_eq {r : List Int} (hr : r.length ≤ 900) : ∃ u : Nat, u < 16 ∧ (∀ j, j < 4 → u.testBit j = names r j) ∧ rule_Uses.f r = some (match right r with | none => (0, 1) | some _ => ((u : Int), 0)) := by
  obtain ⟨u, h1, h2, h3⟩ := uses_l0 hr r.length 0 0 (by omega) (by omega)
  refine ⟨u, h2, fun j hj => by rw [h3 j hj]; simp, ?_⟩
  unfold rule_Uses.f
  rw [made_eq hr, bsome]
  rw [show ((0 : Nat) : Int) = 0 from rfl] at h1
  cases right r with
  | none => rfl
  | some b => rw [if_neg (show ¬ ((!true) = true) by decide), h1, bsome]
end
section
theorem start_l0 {l : List Int} (hl : l.length ≤ 900) : ∀ (t : Tr), t.ok → ∀ (s : Nat) (r : List Int) (need : Nat), l.drop s = t.flat ++ r → 1 ≤ need → need + t.size ≤ 2000 →
    mutant_start.l0 l (need : Int) (((s + t.size : Nat) : Int) - 1) = if need = 1 then some (s : Int) else mutant_start.l0 l ((need - 1 : Nat) : Int) ((s : Int) - 1)
  | .lf op, ho, s, r, need, e, h1, h2 => by
    obtain ⟨hs, hop⟩ := leaf_at e
    have hi : (((s + (Tr.lf op).size : Nat) : Int) - 1) = ((s : Nat) : Int) := by show ((s + 1 : Nat) : Int) - 1 = _; omega
    have hw : IntKind.i64.wrap ((need : Int) - 1) = ((need - 1 : Nat) : Int) := by rw [wrapZ (by omega) (by omega)]; omega
    have hw2 : IntKind.i64.wrap ((s : Int) - 1) = (s : Int) - 1 := wrapZ (by omega) (by omega)
    rw [mutant_start.l0, hi, lAt_some hs, hop, bsome, hw, hw2]
    have hz : (((need - 1 : Nat) : Int) = 0) ↔ need = 1 := by omega
    have hz2 : (need - 1 = 0) ↔ need = 1 := by omega
    rcases ho with rfl | rfl | rfl | rfl | rfl | rfl | rfl | rfl <;> (by_cases q : need = 1 <;> simp [hz, hz2, q])
  | .nd op x y, ho, s, r, need, e, h1, h2 => by
    obtain ⟨e1, e2, hk, hop⟩ := split_nd e
    have hsz : need + (x.size + y.size + 1) ≤ 2000 := h2
    have hi : (((s + (Tr.nd op x y).size : Nat) : Int) - 1) = ((s + x.size + y.size : Nat) : Int) := by show ((s + (x.size + y.size + 1) : Nat) : Int) - 1 = _; omega
    have hw : IntKind.i64.wrap ((IntKind.i64.wrap ((need : Int) - 1)) + 2) = ((need + 1 : Nat) : Int) := by rw [wrapZ (x := (need : Int) - 1) (by omega) (by omega), wrapZ (by omega) (by omega)]; omega
    have hw2 : IntKind.i64.wrap (((s + x.size + y.size : Nat) : Int) - 1) = ((s + x.size + y.size : Nat) : Int) - 1 := wrapZ (by omega) (by omega)
    have hY := start_l0 hl y ho.2.2 (s + x.size) _ (need + 1) e2 (by omega) (by omega)
    have hX := start_l0 hl x ho.2.1 s _ need e1 h1 (by omega)
    rw [if_neg (by omega)] at hY
    have hn : need + 1 - 1 = need := by omega
    rw [hn] at hY
    rw [mutant_start.l0, hi, lAt_some hk, hop, bsome, hw, hw2]
    have hz : ¬ (((need + 1 : Nat) : Int) = 0) := by omega
    rw [← hX, ← hY]
    rcases ho.1 with rfl | rfl | rfl | rfl | rfl <;> simp only [bsome, if_true, if_false, hz] <;> rfl
theorem start_eq {l : List Int} (hl : l.length ≤ 900) {t : Tr} (ho : t.ok) {s : Nat} {r : List Int} (e : l.drop s = t.flat ++ r) (ht : t.size ≤ 900) : mutant_start.f l (((s + t.size : Nat) : Int) - 1) = some (s : Int) := by
  unfold mutant_start.f
  have := start_l0 hl t ho s r 1 e (Nat.le_refl _) (by omega)
  rw [if_pos rfl, show ((1 : Nat) : Int) = 1 from rfl] at this
  rw [this, bsome]
theorem part_at {l : List Int} : ∀ (t : Tr), t.ok → ∀ (s : Nat) (r : List Int), l.drop s = t.flat ++ r → ∀ (i : Nat) (hi : i < l.length), s ≤ i → i < s + t.size → NdOp l[i] →
    ∃ (x y : Tr) (s' : Nat) (r' : List Int), x.ok ∧ y.ok ∧ l.drop s' = (Tr.nd l[i] x y).flat ++ r' ∧ s' + x.size + y.size = i
  | .lf op, ho, s, r, e, i, hi, h1, h2, hn => by
    obtain ⟨hs, hop⟩ := leaf_at e
    have : i = s := by have : i < s + 1 := h2; omega
    subst this
    rw [hop] at hn
    exfalso
    rcases ho with rfl | rfl | rfl | rfl | rfl | rfl | rfl | rfl <;> rcases hn with h | h | h | h | h <;> omega
  | .nd op x y, ho, s, r, e, i, hi, h1, h2, hn => by
    obtain ⟨e1, e2, hk, hop⟩ := split_nd e
    have h2' : i < s + (x.size + y.size + 1) := h2
    rcases Nat.lt_or_ge i (s + x.size) with q | q
    · exact part_at x ho.2.1 s _ e1 i hi h1 q hn
    · rcases Nat.lt_or_ge i (s + x.size + y.size) with q2 | q2
      · exact part_at y ho.2.2 (s + x.size) _ e2 i hi q q2 hn
      · have : i = s + x.size + y.size := by omega
        subst this
        exact ⟨x, y, s, r, ho.2.1, ho.2.2, by rw [hop]; exact e, rfl⟩
end
section
theorem flat_len_le {xss : List (List Int)} (h : ∀ x ∈ xss, x.length ≤ 1000) : xss.flatten.length ≤ xss.length * 1000 := by
  induction xss with
  | nil => simp
  | cons a r ih =>
    have ha := h a (by simp)
    have := ih (fun x hx => h x (by simp [hx]))
    simp only [List.flatten_cons, List.length_append, List.length_cons, Nat.succ_mul]
    omega
theorem concat_l0 {xss : List (List Int)} (hn : xss.length ≤ 100) (h : ∀ x ∈ xss, x.length ≤ 1000) : ∀ (d k : Nat) (v : Nat), xss.length = k + d → v ≤ k * 1000 → slices_Concat_int_int.l0 xss (k : Int) (v : Int) = some ((v + (xss.drop k).flatten.length : Nat) : Int)
  | 0, k, v, e, hv => by
    rw [slices_Concat_int_int.l0, if_neg (by omega), List.drop_of_length_le (by omega)]; simp
  | d + 1, k, v, e, hv => by
    have hk : k < xss.length := by omega
    have hx := h xss[k] (List.getElem_mem hk)
    have ih := concat_l0 hn h d (k + 1) (v + xss[k].length) (by omega) (by rw [Nat.succ_mul]; omega)
    have hw : IntKind.i64.wrap ((v : Int) + (xss[k].length : Int)) = ((v + xss[k].length : Nat) : Int) := by rw [wrapZ (by omega) (by omega)]; omega
    rw [slices_Concat_int_int.l0, if_pos (by omega), lAt_some hk, bsome, hw, if_neg (by omega), bsome, wS (by omega), ih, List.drop_eq_getElem_cons hk]
    simp only [List.flatten_cons, List.length_append]
    rw [Nat.add_assoc]
theorem concat_l1 {xss : List (List Int)} (hn : xss.length ≤ 100) (h : ∀ x ∈ xss, x.length ≤ 1000) : ∀ (d k : Nat) (v : List Int), xss.length = k + d → v.length ≤ k * 1000 → slices_Concat_int_int.l1 xss v (k : Int) = some (v ++ (xss.drop k).flatten)
  | 0, k, v, e, hv => by
    rw [slices_Concat_int_int.l1, if_neg (by omega), List.drop_of_length_le (by omega)]; simp
  | d + 1, k, v, e, hv => by
    have hk : k < xss.length := by omega
    have hx := h xss[k] (List.getElem_mem hk)
    have hB : 10000000 ≤ big := by decide
    have ih := concat_l1 hn h d (k + 1) (v ++ xss[k]) (by omega) (by rw [Nat.succ_mul]; simp; omega)
    rw [slices_Concat_int_int.l1, if_pos (by omega), lAt_some hk, bsome, if_pos (by omega), wS (by omega), ih, List.drop_eq_getElem_cons hk]
    simp only [List.flatten_cons, List.append_assoc]
theorem grow_eq {n : Nat} (h : n ≤ 100000) : slices_Grow_int_int_nil.f (n : Int) = some [] := by
  unfold slices_Grow_int_int_nil.f
  have h1 : IntKind.i64.wrap (0 - (([] : List Int).length : Int)) = 0 := by decide
  have h2 : IntKind.i64.wrap ((n : Int) - 0) = (n : Int) := by rw [wrapZ (by omega) (by omega)]; omega
  have hB : 10000000 ≤ big := by decide
  rw [if_neg (by omega), h1, h2]
  by_cases h0 : (n : Int) > 0
  · rw [if_pos h0, if_pos ⟨h0, by simp; omega⟩, if_pos ⟨by simp, by simp⟩]; rfl
  · rw [if_neg h0]
theorem concat_eq {xss : List (List Int)} (hn : xss.length ≤ 100) (h : ∀ x ∈ xss, x.length ≤ 1000) : slices_Concat_int_int.f xss = some xss.flatten := by
  unfold slices_Concat_int_int.f
  have h1 := concat_l0 hn h xss.length 0 0 (by omega) (by omega)
  have h2 := concat_l1 hn h xss.length 0 [] (by omega) (by simp)
  have h3 := flat_len_le h
  have h4 : xss.length * 1000 ≤ 100 * 1000 := Nat.mul_le_mul_right _ hn
  rw [show ((0 : Nat) : Int) = 0 from rfl, List.drop_zero, Nat.zero_add] at h1
  rw [show ((0 : Nat) : Int) = 0 from rfl, List.drop_zero, List.nil_append] at h2
  rw [h1, bsome, grow_eq (by omega), bsome, h2, bsome]
theorem less_p {l : List Int} (hl : l.length ≤ 900) {x y : Tr} (hx : x.ok) (hy : y.ok) {s i : Nat} {r : List Int} {op : Int} (e : l.drop s = (Tr.nd op x y).flat ++ r) (hi : s + x.size + y.size = i) :
    mutant_less.f l (i : Int) = some [l.take (s + x.size) ++ l.drop (i + 1), l.take s ++ (l.take i).drop (s + x.size) ++ l.drop (i + 1)] := by
  obtain ⟨e1, e2, hk, hop⟩ := split_nd e
  have hil : i < l.length := by omega
  have w1' : IntKind.i64.wrap ((i : Int) - 1) = ((s + x.size + y.size : Nat) : Int) - 1 := by rw [wrapZ (by omega) (by omega)]; omega
  have w2' : IntKind.i64.wrap (((s + x.size : Nat) : Int) - 1) = ((s + x.size : Nat) : Int) - 1 := wrapZ (by omega) (by omega)
  have w3' : IntKind.i64.wrap ((i : Int) + 1) = ((i + 1 : Nat) : Int) := wS (by omega)
  have sy := start_eq hl hy e2 (by omega)
  have sx := start_eq hl hx e1 (by omega)
  have c1 : ∀ n : Nat, lCut l 0 (n : Int) = l.take n := fun n => by simp [lCut]
  have c2 : ∀ n : Nat, lCut l (n : Int) (l.length : Int) = l.drop n := fun n => by
    unfold lCut
    rw [List.take_of_length_le (by simp)]; simp
  have c3 : lCut l ((s + x.size : Nat) : Int) (i : Int) = (l.take i).drop (s + x.size) := by
    unfold lCut
    rw [List.drop_take, Int.toNat_natCast, Int.toNat_natCast]
  unfold mutant_less.f
  rw [w1', sy, bsome, w2', sx, bsome, w3', if_pos ⟨by omega, by omega⟩, if_pos ⟨by omega, by omega⟩, c1, c2]
  rw [concat_eq (by simp) (by intro z hz; simp at hz; rcases hz with rfl | rfl <;> simp <;> omega), bsome]
  rw [if_pos ⟨by omega, by omega⟩, if_pos ⟨by omega, by omega, by omega⟩, if_pos ⟨by omega, by omega⟩, c1, c3]
  rw [concat_eq (by simp) (by intro z hz; simp at hz; rcases hz with rfl | rfl | rfl <;> simp <;> omega), bsome]
  simp
end
section
theorem equal_l0 {a b : List Int} (h : a.length = b.length) (hl : a.length ≤ 1000) : ∀ (d k : Nat), a.length = k + d →
    slices_Equal_int_int.l0 a b (k : Int) = some (if a.drop k = b.drop k then .inr () else .inl false)
  | 0, k, e => by
    rw [slices_Equal_int_int.l0, if_neg (by omega), List.drop_of_length_le (by omega), List.drop_of_length_le (by omega), if_pos rfl]
  | d + 1, k, e => by
    have hk : k < a.length := by omega
    have hk' : k < b.length := by omega
    have ih := equal_l0 h hl d (k + 1) (by omega)
    rw [slices_Equal_int_int.l0, if_pos (by omega), lAt_some hk, lAt_some hk', bsome, bsome, wS (by omega), ih, List.drop_eq_getElem_cons hk, List.drop_eq_getElem_cons hk']
    by_cases q : a[k] = b[k]
    · rw [if_pos q, q]
      simp only [List.cons.injEq, true_and]
    · rw [if_neg q, if_neg (fun h => q (List.cons.inj h).1)]
theorem equal_eq {a b : List Int} (hl : a.length ≤ 1000) : slices_Equal_int_int.f a b = some (decide (a = b)) := by
  unfold slices_Equal_int_int.f
  by_cases h : a.length = b.length
  · have := equal_l0 h hl a.length 0 (by omega)
    rw [show ((0 : Nat) : Int) = 0 from rfl, List.drop_zero, List.drop_zero] at this
    have h' : (a.length : Int) = (b.length : Int) := by omega
    rw [if_pos h', this]
    by_cases q : a = b
    · rw [if_pos q, decide_eq_true q]; rfl
    · rw [if_neg q, decide_eq_false q]; rfl
  · rw [if_neg (by omega), decide_eq_false (fun q => h (by rw [q]))]
noncomputable def lsO (l : List Int) (k : Nat) : List (List Int) := (mutant_less.f l (k : Int)).getD []
noncomputable def wks (l : List Int) (j : Int) : Nat → Nat → List (List Int)
  | 0, _ => []
  | d + 1, k => (if l.getD k 0 = j then lsO l k else []) ++ wks l j d (k + 1)
theorem loopW {l : List Int} {j : Int} {L : List (List Int) → Int → Option (List (List Int))} (hend : ∀ acc, L acc (l.length : Int) = some acc)
    (hstep : ∀ acc (k : Nat) (hk : k < l.length), acc.length ≤ 2 * k + 1 → L acc (k : Int) = L (acc ++ (if l[k] = j then lsO l k else [])) ((k + 1 : Nat) : Int)) (hls : ∀ k (hk : k < l.length), l[k] = j → (lsO l k).length = 2) :
    ∀ (d k : Nat) (acc : List (List Int)), l.length = k + d → acc.length ≤ 2 * k + 1 → L acc (k : Int) = some (acc ++ wks l j d k)
  | 0, k, acc, e, ha => by rw [show k = l.length by omega, hend]; simp [wks]
  | d + 1, k, acc, e, ha => by
    have hk : k < l.length := by omega
    have hl : (if l[k] = j then lsO l k else []).length ≤ 2 := by
      split
      · rename_i h; rw [hls k hk h]; exact Nat.le_refl _
      · simp
    rw [hstep acc k hk ha, loopW hend hstep hls d (k + 1) _ (by omega) (by rw [List.length_append]; omega)]
    have : l.getD k 0 = l[k] := by simp [hk]
    rw [wks, this, List.append_assoc]
structure Rt (l : List Int) : Prop where
  len : l.length ≤ 40
  part : ∀ (i : Nat) (hi : i < l.length), NdOp l[i] → ∃ A B, mutant_less.f l (i : Int) = some [A, B] ∧ A.length ≤ 1000 ∧ B.length ≤ 1000
theorem rt_of {l : List Int} {b : Bool} (h : right l = some b) : Rt l := by
  obtain ⟨t, ho, e, h40⟩ := right_tree h
  refine ⟨h40, fun i hi hn => ?_⟩
  have hsz : t.size = l.length := by rw [← e, flat_len]
  obtain ⟨x, y, s, r, hx, hy, e2, hi2⟩ := part_at t ho 0 [] (by rw [e]; simp) i hi (by omega) (by omega) hn
  exact ⟨_, _, less_p (l := l) (by omega) hx hy e2 hi2, by simp; omega, by simp; omega⟩
theorem Rt.ls {l : List Int} (h : Rt l) {j : Int} (hj : NdOp j) : ∀ k (hk : k < l.length), l[k] = j → (lsO l k).length = 2 := by
  intro k hk e
  obtain ⟨A, B, q, _⟩ := h.part k hk (by rw [e]; exact hj)
  unfold lsO
  rw [q]; rfl
theorem Rt.less {l : List Int} (h : Rt l) {k : Nat} (hk : k < l.length) (hj : NdOp l[k]) : mutant_less.f l (k : Int) = some (lsO l k) ∧ (lsO l k).length = 2 := by
  obtain ⟨A, B, q, _⟩ := h.part k hk hj
  unfold lsO
  rw [q]; exact ⟨rfl, rfl⟩
def cnd (l : List Int) (least : Int) : List (List Int) := if l = [least] then [] else [[least]]
theorem n12 : NdOp 12 := by unfold NdOp; simp
theorem n3 : NdOp 3 := by unfold NdOp; simp
section
variable {l : List Int} (h : Rt l)
include h
theorem prog_step {j : Int} (hj : NdOp j) {L : List (List Int) → Int → Option (List (List Int))} {k : Nat} (hk : k < l.length) {acc : List (List Int)} (ha : acc.length ≤ 2 * k + 1) :
    ((lAt l (k : Int) >>= fun y => if y = j then (mutant_less.f l (k : Int) >>= fun y37 => if (acc.length + y37.length) * 24 ≤ big then (some (acc ++ y37)) else none) else (some acc) : Option (List (List Int))) >>= fun x => L x (IntKind.i64.wrap ((k : Int) + 1))) = L (acc ++ (if l[k] = j then lsO l k else [])) ((k + 1 : Nat) : Int) := by
  have hl := h.len
  have hB : 100000 ≤ big := by decide
  rw [lAt_some hk, bsome, wS (by omega)]
  by_cases q : l[k] = j
  · obtain ⟨e1, e2⟩ := h.less hk (by rw [q]; exact hj)
    rw [if_pos q, if_pos q, e1, bsome, if_pos (by rw [e2]; omega), bsome]
  · rw [if_neg q, if_neg q, bsome, List.append_nil]
theorem run_all {j : Int} (hj : NdOp j) {L : List (List Int) → Int → Option (List (List Int))} (hend : ∀ acc, L acc (l.length : Int) = some acc)
    (hstep : ∀ acc (k : Nat) (hk : k < l.length), acc.length ≤ 2 * k + 1 → L acc (k : Int) = L (acc ++ (if l[k] = j then lsO l k else [])) ((k + 1 : Nat) : Int)) {acc : List (List Int)} (ha : acc.length ≤ 1) : L acc 0 = some (acc ++ wks l j l.length 0) :=
  loopW hend hstep (h.ls hj) l.length 0 acc (by omega) (by omega)
theorem p0 {acc : List (List Int)} (ha : acc.length ≤ 1) : mutant_weaker.l0 l acc 0 = some (acc ++ wks l 12 l.length 0) :=
  run_all h n12 (fun acc => by rw [mutant_weaker.l0, if_neg (by omega)]) (fun acc k hk ha => by rw [mutant_weaker.l0, if_pos (by omega)]; exact prog_step h n12 hk ha) ha
theorem p1 {acc : List (List Int)} (ha : acc.length ≤ 1) : mutant_weaker.l1 l acc 0 = some (acc ++ wks l 12 l.length 0) :=
  run_all h n12 (fun acc => by rw [mutant_weaker.l1, if_neg (by omega)]) (fun acc k hk ha => by rw [mutant_weaker.l1, if_pos (by omega)]; exact prog_step h n12 hk ha) ha
theorem p2 {acc : List (List Int)} (ha : acc.length ≤ 1) : mutant_weaker.l2 l acc 0 = some (acc ++ wks l 3 l.length 0) :=
  run_all h n3 (fun acc => by rw [mutant_weaker.l2, if_neg (by omega)]) (fun acc k hk ha => by rw [mutant_weaker.l2, if_pos (by omega)]; exact prog_step h n3 hk ha) ha
theorem p3 {acc : List (List Int)} (ha : acc.length ≤ 1) : mutant_weaker.l3 l acc 0 = some (acc ++ wks l 3 l.length 0) :=
  run_all h n3 (fun acc => by rw [mutant_weaker.l3, if_neg (by omega)]) (fun acc k hk ha => by rw [mutant_weaker.l3, if_pos (by omega)]; exact prog_step h n3 hk ha) ha
end
end
section
noncomputable def all (l : List Int) (b : Bool) : List (List Int) := if b then cnd l 6 ++ wks l 12 l.length 0 else cnd l 1 ++ wks l 3 l.length 0
theorem weaker_p {l : List Int} {b : Bool} (h : right l = some b) : mutant_weaker.f l = some (all l b) := by
  have hr := rt_of h
  have hl := hr.len
  have hB : (([] : List (List Int)).length + ([([6] : List Int)] : List (List Int)).length) * 24 ≤ big := by decide
  have hB' : (([] : List (List Int)).length + ([([1] : List Int)] : List (List Int)).length) * 24 ≤ big := by decide
  have hRt : rule_Right.f l true = some b := by rw [Right_eq (by omega), h]; cases b <;> rfl
  unfold mutant_weaker.f all cnd
  rw [hRt, bsome]
  cases b with
  | true =>
    rw [if_pos rfl, equal_eq (by omega), bsome, if_pos rfl]
    by_cases q : l = [6]
    · rw [decide_eq_true q, if_neg (by decide), p1 hr (by simp), bsome, if_pos q]
    · rw [decide_eq_false q, if_pos (by decide), if_pos hB, p0 hr (by simp), bsome, if_neg q]; rfl
  | false =>
    rw [if_neg (show ¬ (false = true) by decide), equal_eq (by omega), bsome, if_neg (show ¬ (false = true) by decide)]
    by_cases q : l = [1]
    · rw [decide_eq_true q, if_neg (by decide), p3 hr (by simp), bsome, if_pos q]
    · rw [decide_eq_false q, if_pos (by decide), if_pos hB', p2 hr (by simp), bsome, if_neg q]; rfl
theorem wks_le {l : List Int} (h : Rt l) {j : Int} (hj : NdOp j) : ∀ (d k : Nat), l.length = k + d → (wks l j d k).length ≤ 2 * d ∧ ∀ y ∈ wks l j d k, y.length ≤ 1000
  | 0, k, e => by simp [wks]
  | d + 1, k, e => by
    obtain ⟨h1, h2⟩ := wks_le h hj d (k + 1) (by omega)
    have hk : k < l.length := by omega
    have hd : l.getD k 0 = l[k] := by simp [hk]
    have hl := h.len
    unfold wks
    rw [hd]
    by_cases q : l[k] = j
    · have hn : NdOp l[k] := by rw [q]; exact hj
      rw [if_pos q]
      obtain ⟨A, B, q0, q5, q6⟩ := h.part k hk hn
      have e2 : lsO l k = [A, B] := by unfold lsO; rw [q0]; rfl
      rw [e2]
      refine ⟨by simp; omega, fun y hy => ?_⟩
      rcases List.mem_append.1 hy with hy | hy
      · simp at hy
        rcases hy with rfl | rfl
        · exact q5
        · exact q6
      · exact h2 y hy
    · rw [if_neg q]
      exact ⟨by simp; omega, fun y hy => h2 y (by simpa using hy)⟩
theorem cnd_le {l : List Int} {x : Int} : (cnd l x).length ≤ 1 ∧ ∀ y ∈ cnd l x, y.length ≤ 1000 := by
  unfold cnd
  split
  · simp
  · simp
theorem all_le {l : List Int} {b : Bool} (h : right l = some b) : (all l b).length ≤ 900 ∧ ∀ y ∈ all l b, y.length ≤ 1000 := by
  have hr := rt_of h
  have hl := hr.len
  have key : ∀ (x j : Int), NdOp j → (cnd l x ++ wks l j l.length 0).length ≤ 900 ∧ ∀ y ∈ cnd l x ++ wks l j l.length 0, y.length ≤ 1000 := by
    intro x j hj
    obtain ⟨h1, h2⟩ := wks_le hr hj l.length 0 (by omega)
    obtain ⟨h3, h4⟩ := cnd_le (l := l) (x := x)
    exact ⟨by rw [List.length_append]; omega, fun y hy => (List.mem_append.1 hy).elim (h4 y) (h2 y)⟩
  unfold all
  cases b with
  | true => rw [if_pos rfl]; exact key 6 12 n12
  | false => rw [if_neg (show ¬ (false = true) by decide)]; exact key 1 3 n3
end
section
theorem cut_min {α : Type} {xs : List α} {n : Nat} : lCut xs 0 (if (n : Int) < (xs.length : Int) then (n : Int) else (xs.length : Int)) = xs.take n := by
  unfold lCut
  split
  · simp
  · rw [show (0 : Int).toNat = 0 from rfl, Int.toNat_natCast, Nat.sub_zero, List.drop_zero, List.take_of_length_le (Nat.le_refl xs.length), List.take_of_length_le (by omega)]
theorem cut_ok {n m : Nat} : (0 : Int) ≤ (if (n : Int) < (m : Int) then (n : Int) else (m : Int)) ∧ (if (n : Int) < (m : Int) then (n : Int) else (m : Int)) ≤ (m : Int) := by split <;> omega
structure Few (R : List api_Row) : Prop where
  len : R.length ≤ 15
  may : ∀ r ∈ R, r.May.length ≤ 45
  res : ∀ r ∈ R, r.Res.length ≤ 45
  pc : ∀ r ∈ R, r.Pc.length ≤ 45
def fewR (R : List api_Row) : List api_Row := (R.take 15).map fun r => ⟨r.May.take 45, r.Res.take 45, r.Pc.take 45⟩
theorem few_l0 {R : List api_Row} : ∀ (d k : Nat) (acc : List api_Row), (R.take 15).length = k + d → acc.length = k → reticentlaw24_few.l0 ⟨R⟩ acc (k : Int) = some (acc ++ ((R.take 15).drop k).map fun r => ⟨r.May.take 45, r.Res.take 45, r.Pc.take 45⟩)
  | 0, k, acc, e, ha => by
    rw [reticentlaw24_few.l0, show (15 : Int) = ((15 : Nat) : Int) from rfl, cut_min, if_neg (show ¬ (k : Int) < ((R.take 15).length : Int) by omega), List.drop_of_length_le (by omega)]; simp
  | d + 1, k, acc, e, ha => by
    have hk : k < (R.take 15).length := by omega
    have h15 : (R.take 15).length ≤ 15 := by simp; omega
    have hB : 200000 ≤ big := by decide
    rw [reticentlaw24_few.l0, show (15 : Int) = ((15 : Nat) : Int) from rfl, show (45 : Int) = ((45 : Nat) : Int) from rfl, cut_min, if_pos (show (k : Int) < ((R.take 15).length : Int) by omega)]
    show (lAt (R.take 15) (k : Int) >>= _) = _
    rw [lAt_some hk, bsome, if_pos cut_ok, if_pos cut_ok, if_pos cut_ok, cut_min, cut_min, cut_min]
    rw [if_pos (by simp; omega), wS (by omega), few_l0 d (k + 1) _ (by omega) (by simp [ha]), List.drop_eq_getElem_cons hk]
    simp
theorem few_eq {R : List api_Row} : reticentlaw24_few.f ⟨R⟩ = some ⟨fewR R⟩ := by
  unfold reticentlaw24_few.f
  have h := few_l0 (R := R) (R.take 15).length 0 [] (by omega) rfl
  rw [show ((0 : Nat) : Int) = 0 from rfl] at h
  rw [show (15 : Int) = ((15 : Nat) : Int) from rfl, if_pos cut_ok, h]
  simp [fewR]
theorem few_ok {R : List api_Row} : Few (fewR R) := by
  refine ⟨by simp [fewR]; omega, fun r hr => ?_, fun r hr => ?_, fun r hr => ?_⟩ <;>
    (obtain ⟨x, _, rfl⟩ := List.mem_map.1 hr; simp; omega)
def ar (op : Nat) : Nat := [0, 1, 1, 2, 2, 2, 3, 1, 1, 1, 2, 1, 0].getD op 0
theorem ar_le (op : Nat) : ar op ≤ 3 := by
  unfold ar
  rcases Nat.lt_or_ge op 13 with h | h
  · revert op; decide
  · rw [List.getD_eq_getElem?_getD, List.getElem?_eq_none (by simpa using h)]; simp
theorem ar_eq {op : Nat} (h : op < 13) : lAt gl1 (op : Int) = some (ar op : Int) := by revert op; decide
def hasS (op : Nat) (l : List Int) : Bool := (List.range 4).all fun n => decide (n ≤ ar op) || !names l n
theorem has_p {op : Nat} (h : op < 13) {l : List Int} (hl : l.length ≤ 900) {b : Bool} (hr : right l = some b) : table_has.f (op : Int) l = some (hasS op l) := by
  obtain ⟨u, hu, hb, he⟩ := uses_eq hl
  have ha := ar_le op
  unfold table_has.f
  rw [he, hr, bsome]
  show ((if (0 : Int) = 0 then _ else _ : Option Bool) >>= _) = _
  rw [if_pos rfl, ar_eq h, bsome, wS (by omega), if_pos (by omega), bsome]
  show some (decide (bShr .u32 (u : Int) ((ar op + 1 : Nat) : Int) = 0)) = _
  rw [bShr_nat (by omega)]
  congr 1
  rw [Bool.eq_iff_iff, decide_eq_true_iff]
  unfold hasS
  rw [List.all_eq_true]
  constructor
  · intro q n hn
    have hn4 : n < 4 := by simpa using hn
    rcases Nat.lt_or_ge (ar op) n with hlt | hge
    · have : u.testBit n = false := by
        have q0 : u >>> (ar op + 1) = 0 := by omega
        have := congrArg (fun x => x.testBit (n - (ar op + 1))) q0
        simp only [Nat.testBit_shiftRight, Nat.zero_testBit] at this
        rwa [show ar op + 1 + (n - (ar op + 1)) = n by omega] at this
      rw [hb n hn4] at this
      simp [this]
    · simp [hge]
  · intro q
    have : u >>> (ar op + 1) = 0 := by
      apply Nat.eq_of_testBit_eq
      intro j
      rw [Nat.testBit_shiftRight, Nat.zero_testBit]
      rcases Nat.lt_or_ge (ar op + 1 + j) 4 with h4 | h4
      · have := q (ar op + 1 + j) (by simpa using h4)
        rw [hb _ h4]
        simpa [show ¬ (ar op + 1 + j ≤ ar op) by omega] using this
      · exact Nat.testBit_lt_two_pow (Nat.lt_of_lt_of_le hu (by have := Nat.pow_le_pow_right (n := 2) (by omega) h4; simpa using this))
    omega
def rowE (op : Nat) (r : api_Row) : Int := if right r.May = some false ∧ right r.Res = some true ∧ right r.Pc = some true then (if hasS op r.May && (hasS op r.Res && hasS op r.Pc) then 0 else 7) else 1
theorem row_p {op : Nat} (h : op < 13) {r : api_Row} (h1 : r.May.length ≤ 45) (h2 : r.Res.length ≤ 45) (h3 : r.Pc.length ≤ 45) :
    table_right.f r = some (!decide (rowE op r = 1)) ∧ (rowE op r ≠ 1 → table_suits.f (op : Int) r = some (!decide (rowE op r = 7))) := by
  unfold table_right.f table_suits.f rowE
  rw [Right_eq (by omega), Right_eq (by omega), Right_eq (by omega)]
  by_cases q1 : right r.May = some false
  · by_cases q2 : right r.Res = some true
    · by_cases q3 : right r.Pc = some true
      · rw [if_pos ⟨q1, q2, q3⟩, has_p h (by omega) q1, has_p h (by omega) q2, has_p h (by omega) q3, decide_eq_true q1, decide_eq_true q2, decide_eq_true q3]
        cases hasS op r.May <;> cases hasS op r.Res <;> cases hasS op r.Pc <;> exact ⟨rfl, fun _ => rfl⟩
      · rw [if_neg (fun q => q3 q.2.2), decide_eq_true q1, decide_eq_true q2, decide_eq_false q3]
        exact ⟨rfl, fun q => absurd rfl q⟩
    · rw [if_neg (fun q => q2 q.2.1), decide_eq_true q1, decide_eq_false q2]
      exact ⟨rfl, fun q => absurd rfl q⟩
  · rw [if_neg (fun q => q1 q.1), decide_eq_false q1]
    exact ⟨rfl, fun q => absurd rfl q⟩
def ckl : List api_Row → Nat → Option (Nat × Int)
  | [], _ => none
  | r :: R, k => if rowE k r = 0 then ckl R (k + 1) else some (k, rowE k r)
theorem rowE_cases (op : Nat) (r : api_Row) : rowE op r = 0 ∨ rowE op r = 1 ∨ rowE op r = 7 := by
  unfold rowE
  split
  · split
    · exact .inl rfl
    · exact .inr (.inr rfl)
  · exact .inr (.inl rfl)
section
variable {R : List api_Row} (hF : Few R) (h13 : R.length = 13)
include hF h13
theorem check_l0 : ∀ (d k : Nat), R.length = k + d → table_Check.l0 ⟨R⟩ (k : Int) = some (match ckl (R.drop k) k with | some (i, e) => .inl ((i : Int), e) | none => .inr ())
  | 0, k, e => by
    rw [table_Check.l0, if_neg (by show ¬ (k : Int) < (R.length : Int); omega), List.drop_of_length_le (by omega)]; rfl
  | d + 1, k, e => by
    have hk : k < R.length := by omega
    have hm := List.getElem_mem hk
    obtain ⟨p1, p2⟩ := row_p (op := k) (by omega) (hF.may _ hm) (hF.res _ hm) (hF.pc _ hm)
    rw [table_Check.l0, if_pos (by show (k : Int) < (R.length : Int); omega)]
    show (lAt R (k : Int) >>= _) = _
    rw [lAt_some hk, bsome, List.drop_eq_getElem_cons hk]
    show (table_right.f R[k] >>= _) = _
    rw [p1, bsome]
    unfold ckl
    rcases rowE_cases k R[k] with q | q | q
    · rw [if_pos q, q, if_neg (by decide)]
      show (table_suits.f (k : Int) R[k] >>= _) = _
      rw [p2 (by rw [q]; decide), bsome, q, if_neg (by decide), wS (by omega), check_l0 d (k + 1) (by omega)]
    · rw [if_neg (show ¬ rowE k R[k] = 0 by rw [q]; decide), q, if_pos (by decide)]
    · rw [if_neg (show ¬ rowE k R[k] = 0 by rw [q]; decide), q, if_neg (by decide)]
      show (table_suits.f (k : Int) R[k] >>= _) = _
      rw [p2 (by rw [q]; decide), bsome, q, if_pos (by decide)]
end
def chT (R : List api_Row) : Int × Int := if R.length = 13 then (match ckl R 0 with | some (i, e) => ((i : Int), e) | none => (0, 0)) else (0, 1)
theorem check_eq {R : List api_Row} (hF : Few R) : table_Check.f ⟨R⟩ = some (chT R) := by
  unfold table_Check.f chT
  by_cases h : R.length = 13
  · have h' : (R.length : Int) = 13 := by omega
    have hl := check_l0 hF h R.length 0 (by omega)
    rw [show ((0 : Nat) : Int) = 0 from rfl, List.drop_zero] at hl
    rw [if_pos h', if_pos h, hl, bsome]
    cases ckl R 0 <;> rfl
  · rw [if_neg (by show ¬ (R.length : Int) = 13; omega), if_neg h]
end
section
structure RowR (r : api_Row) : Prop where
  may : right r.May = some false
  res : right r.Res = some true
  pc : right r.Pc = some true
open Classical in
open Classical in
theorem ckl_none : ∀ {R : List api_Row} {k : Nat}, ckl R k = none → ∀ (i : Nat) (hi : i < R.length), rowE (k + i) R[i] = 0
  | [], k, h, i, hi => by cases hi
  | r :: R, k, h, i, hi => by
    unfold ckl at h
    split at h
    · rename_i q
      match i with
      | 0 => exact q
      | i + 1 =>
        have := ckl_none h i (by simpa using hi)
        rw [show k + 1 + i = k + (i + 1) by omega] at this
        simpa using this
    · cases h
theorem ckl_some : ∀ {R : List api_Row} {k i : Nat} {e : Int}, ckl R k = some (i, e) → e ≠ 0
  | [], k, i, e, h => by cases h
  | r :: R, k, i, e, h => by
    unfold ckl at h
    split at h
    · exact ckl_some h
    · rename_i q; cases h; exact q
theorem rowE_right {op : Nat} {r : api_Row} (h : rowE op r = 0) : RowR r := by
  unfold rowE at h
  split at h
  · rename_i q; exact ⟨q.1, q.2.1, q.2.2⟩
  · cases h
theorem chT_zero {R : List api_Row} (h : (chT R).2 = 0) : R.length = 13 ∧ (chT R).1 = 0 ∧ (∀ r ∈ R, RowR r) ∧ ∀ (i : Nat) (hi : i < R.length), rowE i R[i] = 0 := by
  unfold chT at h ⊢
  by_cases q : R.length = 13
  · rw [if_pos q] at h ⊢
    cases hc : ckl R 0 with
    | some p =>
      obtain ⟨i, e⟩ := p
      rw [hc] at h
      exact absurd h (ckl_some hc)
    | none =>
      have h0 := ckl_none hc
      refine ⟨q, rfl, fun r hr => ?_, fun i hi => by have := h0 i hi; rwa [Nat.zero_add] at this⟩
      obtain ⟨i, hi, e⟩ := List.mem_iff_getElem.1 hr
      have := h0 i hi
      rw [e] at this
      exact rowE_right this
  · rw [if_neg q] at h; cases h
end
section
noncomputable def ws (l : List Int) : List (List Int) := match right l with | some b => all l b | none => []
theorem ws_p {l : List Int} {b : Bool} (h : right l = some b) : mutant_weaker.f l = some (ws l) := by rw [weaker_p h]; unfold ws; rw [h]
theorem ws_le {l : List Int} : (ws l).length ≤ 81 ∧ ∀ y ∈ ws l, y.length ≤ 1000 := by
  unfold ws
  cases h : right l with
  | none => simp
  | some b =>
    refine ⟨?_, (all_le h).2⟩
    have hr := rt_of h
    have hl := hr.len
    unfold all
    cases b
    · obtain ⟨h1, _⟩ := wks_le hr n3 l.length 0 (by omega)
      have := (cnd_le (l := l) (x := 1)).1
      simp; omega
    · obtain ⟨h1, _⟩ := wks_le hr n12 l.length 0 (by omega)
      have := (cnd_le (l := l) (x := 6)).1
      simp; omega
def runY {σ : Type} (y : σ → mutant_spot → List Int → Option (Bool × σ)) : List (mutant_spot × List Int) → σ → Option (σ ⊕ σ)
  | [], s => some (.inr s)
  | p :: l, s => y s p.1 p.2 >>= fun o => if (!o.1) = true then some (.inl o.2) else runY y l o.2
theorem runY_app {σ : Type} {y : σ → mutant_spot → List Int → Option (Bool × σ)} : ∀ {a b : List (mutant_spot × List Int)} {s : σ}, runY y (a ++ b) s = (runY y a s >>= fun o => match o with | .inl r => some (.inl r) | .inr x => runY y b x)
  | [], b, s => rfl
  | p :: a, b, s => by
    simp only [List.cons_append, runY]
    cases y s p.1 p.2 with
    | none => rfl
    | some o =>
      show (if (!o.1) = true then some (.inl o.2) else runY y (a ++ b) o.2) = ((if (!o.1) = true then some (.inl o.2) else runY y a o.2) >>= _)
      split
      · rfl
      · exact runY_app
def sp12 (op wh : Int) : List (List Int) → Nat → List (mutant_spot × List Int)
  | [], _ => []
  | w :: l, k => (⟨op, wh, (k : Int)⟩, w) :: sp12 op wh l (k + 1)
theorem l12_eq {σ : Type} {y : σ → mutant_spot → List Int → Option (Bool × σ)} {op wh : Int} {ys : List (List Int)} (hy : ys.length ≤ 1000) : ∀ (d k : Nat) (s : σ), ys.length = k + d → mutant_spots_1.l12 y op wh ys s (k : Int) = runY y (sp12 op wh (ys.drop k) k) s
  | 0, k, s, e => by rw [mutant_spots_1.l12, if_neg (by omega), List.drop_of_length_le (by omega)]; rfl
  | d + 1, k, s, e => by
    have hk : k < ys.length := by omega
    rw [mutant_spots_1.l12, if_pos (by omega), lAt_some hk, bsome, List.drop_eq_getElem_cons hk, sp12, runY]
    cases y s ⟨op, wh, (k : Int)⟩ ys[k] with
    | none => rfl
    | some o =>
      rw [bsome, bsome, wS (by omega), l12_eq hy d (k + 1) _ (by omega)]
noncomputable def sp11 (op : Int) (r : api_Row) : List (mutant_spot × List Int) := sp12 op 0 (ws r.May) 0 ++ (sp12 op 1 (ws r.Res) 0 ++ sp12 op 2 (ws r.Pc) 0)
noncomputable def sp8 : List api_Row → Nat → List (mutant_spot × List Int)
  | [], _ => []
  | r :: l, k => sp11 (k : Int) r ++ sp8 l (k + 1)
theorem l12_0 {σ : Type} {y : σ → mutant_spot → List Int → Option (Bool × σ)} {op wh : Int} {l : List Int} {s : σ} : mutant_spots_1.l12 y op wh (ws l) s 0 = runY y (sp12 op wh (ws l) 0) s := by
  have := l12_eq (y := y) (op := op) (wh := wh) (ys := ws l) (by have := (ws_le (l := l)).1; omega) (ws l).length 0 s (by omega)
  simpa using this
theorem l11_eq {σ : Type} {y : σ → mutant_spot → List Int → Option (Bool × σ)} {op : Int} {r : api_Row} (h : RowR r) {s : σ} : mutant_spots_1.l11 y op [r.May, r.Res, r.Pc] s 0 = runY y (sp11 op r) s := by
  unfold sp11
  rw [runY_app, mutant_spots_1.l11, if_pos (by show (0 : Int) < 3; decide), show lAt [r.May, r.Res, r.Pc] 0 = some r.May from rfl, bsome, ws_p h.may, bsome, l12_0]
  congr 1; funext o
  cases o with
  | inl r => rfl
  | inr s =>
    show mutant_spots_1.l11 y op [r.May, r.Res, r.Pc] s 1 = runY y (sp12 op 1 (ws r.Res) 0 ++ sp12 op 2 (ws r.Pc) 0) s
    rw [runY_app, mutant_spots_1.l11, if_pos (by show (1 : Int) < 3; decide), show lAt [r.May, r.Res, r.Pc] 1 = some r.Res from rfl, bsome, ws_p h.res, bsome, l12_0]
    congr 1; funext o
    cases o with
    | inl r => rfl
    | inr s =>
      show mutant_spots_1.l11 y op [r.May, r.Res, r.Pc] s 2 = runY y (sp12 op 2 (ws r.Pc) 0) s
      rw [mutant_spots_1.l11, if_pos (by show (2 : Int) < 3; decide), show lAt [r.May, r.Res, r.Pc] 2 = some r.Pc from rfl, bsome, ws_p h.pc, bsome, l12_0]
      cases runY y (sp12 op 2 (ws r.Pc) 0) s with
      | none => rfl
      | some o =>
        cases o with
        | inl r => rfl
        | inr s =>
          show mutant_spots_1.l11 y op [r.May, r.Res, r.Pc] s 3 = _
          rw [mutant_spots_1.l11, if_neg (by show ¬ (3 : Int) < 3; decide)]
theorem l8_eq {σ : Type} {y : σ → mutant_spot → List Int → Option (Bool × σ)} {R : List api_Row} (hR : R.length ≤ 100) (h : ∀ r ∈ R, RowR r) : ∀ (d k : Nat) (s : σ), R.length = k + d → mutant_spots_1.l8 y ⟨R⟩ s (k : Int) = runY y (sp8 (R.drop k) k) s
  | 0, k, s, e => by rw [mutant_spots_1.l8, if_neg (by show ¬ (k : Int) < (R.length : Int); omega), List.drop_of_length_le (by omega)]; rfl
  | d + 1, k, s, e => by
    have hk : k < R.length := by omega
    rw [mutant_spots_1.l8, if_pos (by show (k : Int) < (R.length : Int); omega)]
    show (lAt R (k : Int) >>= _) = _
    rw [lAt_some hk, bsome, List.drop_eq_getElem_cons hk, sp8, runY_app]
    show (mutant_spots_1.l11 y (k : Int) [R[k].May, R[k].Res, R[k].Pc] s 0 >>= _) = _
    rw [l11_eq (h _ (List.getElem_mem hk))]
    congr 1; funext o
    cases o with
    | inl r => rfl
    | inr s =>
      show mutant_spots_1.l8 y ⟨R⟩ s (IntKind.i64.wrap ((k : Int) + 1)) = _
      rw [wS (by omega)]
      exact l8_eq hR h d (k + 1) s (by omega)
noncomputable def sp (R : List api_Row) : List (mutant_spot × List Int) := sp8 R 0
theorem spots_eq {σ : Type} {y : σ → mutant_spot → List Int → Option (Bool × σ)} {R : List api_Row} (hR : R.length ≤ 100) (h : ∀ r ∈ R, RowR r) {s : σ} : mutant_spots_1.f y s ⟨R⟩ = (runY y (sp R) s >>= fun o => match o with | .inl r => some r | .inr x => some x) := by
  unfold mutant_spots_1.f sp
  have := l8_eq (y := y) hR h R.length 0 s (by omega)
  rw [show ((0 : Nat) : Int) = 0 from rfl, List.drop_zero] at this
  rw [this]
  rfl
structure Ok (R : List api_Row) (p : mutant_spot × List Int) : Prop where
  op0 : 0 ≤ p.1.op_
  op1 : p.1.op_ < (R.length : Int)
  wh0 : 0 ≤ p.1.which_
  wh1 : p.1.which_ < 3
  n0 : 0 ≤ p.1.n_
  n1 : p.1.n_ < 100
  w : p.2.length ≤ 1000
theorem sp12_ok {op wh : Int} : ∀ {l : List (List Int)} {k : Nat} {p : mutant_spot × List Int}, p ∈ sp12 op wh l k → p.1.op_ = op ∧ p.1.which_ = wh ∧ 0 ≤ p.1.n_ ∧ p.1.n_ < ((k + l.length : Nat) : Int) ∧ p.2 ∈ l
  | [], k, p, h => by cases h
  | w :: l, k, p, h => by
    rcases List.mem_cons.1 h with rfl | h
    · refine ⟨rfl, rfl, ?_, ?_, List.mem_cons_self ..⟩
      · show (0 : Int) ≤ (k : Int); omega
      · show (k : Int) < _; simp only [List.length_cons]; omega
    · obtain ⟨a, b, c, d, e⟩ := sp12_ok h
      exact ⟨a, b, c, by simp only [List.length_cons]; omega, List.mem_cons_of_mem _ e⟩
theorem sp11_ok {op : Int} {r : api_Row} {p : mutant_spot × List Int} (h : p ∈ sp11 op r) : p.1.op_ = op ∧ 0 ≤ p.1.which_ ∧ p.1.which_ < 3 ∧ 0 ≤ p.1.n_ ∧ p.1.n_ < 100 ∧ p.2.length ≤ 1000 := by
  unfold sp11 at h
  have key : ∀ {wh : Int} {l : List Int}, 0 ≤ wh → wh < 3 → p ∈ sp12 op wh (ws l) 0 → p.1.op_ = op ∧ 0 ≤ p.1.which_ ∧ p.1.which_ < 3 ∧ 0 ≤ p.1.n_ ∧ p.1.n_ < 100 ∧ p.2.length ≤ 1000 := by
    intro wh l h0 h3 hm
    obtain ⟨a, b, c, d, e⟩ := sp12_ok hm
    obtain ⟨q1, q2⟩ := ws_le (l := l)
    exact ⟨a, by omega, by omega, c, by omega, q2 _ e⟩
  rcases List.mem_append.1 h with h | h
  · exact key (by decide) (by decide) h
  · rcases List.mem_append.1 h with h | h
    · exact key (by decide) (by decide) h
    · exact key (by decide) (by decide) h
theorem sp8_ok {R : List api_Row} : ∀ {l : List api_Row} {k : Nat} {p : mutant_spot × List Int}, R.length = k + l.length → p ∈ sp8 l k → Ok R p
  | [], k, p, e, h => by cases h
  | r :: l, k, p, e, h => by
    simp only [List.length_cons] at e
    rcases List.mem_append.1 h with h | h
    · obtain ⟨a, b, c, d, f, g⟩ := sp11_ok h
      exact ⟨by omega, by omega, b, c, d, f, g⟩
    · exact sp8_ok (by omega) h
theorem sp_ok {R : List api_Row} {p : mutant_spot × List Int} (h : p ∈ sp R) : Ok R p := sp8_ok (by omega) h
theorem sp12_len {op wh : Int} : ∀ {l : List (List Int)} {k : Nat}, (sp12 op wh l k).length = l.length
  | [], k => rfl
  | w :: l, k => by simp [sp12, sp12_len]
theorem sp8_len : ∀ {l : List api_Row} {k : Nat}, (sp8 l k).length ≤ 243 * l.length
  | [], k => by simp [sp8]
  | r :: l, k => by
    have h1 := (ws_le (l := r.May)).1
    have h2 := (ws_le (l := r.Res)).1
    have h3 := (ws_le (l := r.Pc)).1
    have := sp8_len (l := l) (k := k + 1)
    simp only [sp8, sp11, List.length_append, sp12_len, List.length_cons]
    omega
end
section
def upd (wh : Int) (r : api_Row) (w : List Int) : api_Row := if wh = 0 then ⟨w, r.Res, r.Pc⟩ else if wh = 1 then ⟨r.May, w, r.Pc⟩ else ⟨r.May, r.Res, w⟩
def mk (R : List api_Row) (p : mutant_spot × List Int) : api_Table := ⟨R.set p.1.op_.toNat (upd p.1.which_ (R.getD p.1.op_.toNat ⟨[], [], []⟩) p.2)⟩
theorem mk_nat {R : List api_Row} {o : Nat} (ho : o < R.length) {wh n : Int} {w : List Int} : mk R (⟨(o : Int), wh, n⟩, w) = ⟨R.set o (upd wh R[o] w)⟩ := by
  unfold mk; simp [List.getD_eq_getElem?_getD, ho]
theorem clone_eq {R : List api_Row} (hR : R.length ≤ 100) : slices_Clone_api_Row_api_Row_nn.f R = some R := by
  have hB : 1000000 ≤ big := by decide
  unfold slices_Clone_api_Row_api_Row_nn.f
  rw [if_pos (by simp; omega)]; rfl
theorem y0_eq {R : List api_Row} (hR : R.length ≤ 100) {acc : List api_Table} (ha : acc.length ≤ 10000) {p : mutant_spot × List Int} (h : Ok R p) : mutant_All.y0 ⟨R⟩ acc p.1 p.2 = some (true, (acc ++ [mk R p], 0)) := by
  obtain ⟨⟨op, wh, n⟩, w⟩ := p
  obtain ⟨h0, h1, h2, h3, _, _, _⟩ := h
  dsimp only at h0 h1 h2 h3
  obtain ⟨o, rfl⟩ : ∃ o : Nat, op = (o : Int) := ⟨op.toNat, by omega⟩
  have ho : o < R.length := by omega
  have hB : 1000000 ≤ big := by decide
  have hc : (acc.length + 1) * 24 ≤ big := by omega
  rw [mk_nat ho]
  unfold mutant_All.y0 upd
  show ((slices_Clone_api_Row_api_Row_nn.f R >>= _) >>= _) = _
  rw [clone_eq hR, bsome]
  show ((lAt R (o : Int) >>= _) >>= _) = _
  rw [lAt_some ho, bsome]
  by_cases q0 : wh = 0
  · simp [q0, hc]
  · by_cases q1 : wh = 1
    · simp [q1, hc]
    · simp [q0, q1, hc]
theorem all_run {R : List api_Row} (hR : R.length ≤ 100) : ∀ {l : List (mutant_spot × List Int)} {acc : List api_Table}, (∀ p ∈ l, Ok R p) → acc.length + l.length ≤ 10000 → runY (yOf (mutant_All.y0 ⟨R⟩)) l (acc, 0) = some (.inr (acc ++ l.map (mk R), 0))
  | [], acc, _, _ => by simp [runY]
  | p :: l, acc, h, e => by
    simp only [List.length_cons] at e
    rw [runY]
    show (mutant_All.y0 ⟨R⟩ acc p.1 p.2 >>= _) = _
    rw [y0_eq hR (by omega) (h p (List.mem_cons_self ..)), bsome]
    show (if (!true) = true then _ else runY _ l (acc ++ [mk R p], 0)) = _
    rw [if_neg (by decide), all_run hR (fun q hq => h q (List.mem_cons_of_mem _ hq)) (by simp; omega)]
    simp
theorem sp_len {R : List api_Row} (h : R.length = 13) : (sp R).length ≤ 3159 := by
  have := sp8_len (l := R) (k := 0)
  unfold sp; omega
theorem All_eq {R : List api_Row} (hF : Few R) (h0 : (chT R).2 = 0) : mutant_All.f ⟨R⟩ = some ((sp R).map (mk R), 0) := by
  obtain ⟨h13, _, hr, _⟩ := chT_zero h0
  have hl := sp_len h13
  unfold mutant_All.f
  rw [check_eq hF, bsome, if_pos h0, show mutant_spots.f ⟨R⟩ = some ⟨R⟩ from rfl, bsome, spots_eq (by omega) hr, all_run (by omega) (fun p hp => sp_ok hp) (by simp; omega)]
  rfl
theorem All_bad {R : List api_Row} (hF : Few R) (h0 : ¬ (chT R).2 = 0) : mutant_All.f ⟨R⟩ = some ([], (chT R).2) := by
  unfold mutant_All.f
  rw [check_eq hF, bsome, if_neg h0]
end
section
theorem wf_okm : ∀ {t : Tr}, t.wf → t.ok
  | .lf _, h => h
  | .nd _ _ _, ⟨h, hx, hy, _, _⟩ => ⟨h, wf_okm hx, wf_okm hy⟩
structure Ctm (q : List Int) (t : Tr) (s : Nat) (r : List Int) (i : Nat) (op : Int) where
  x : Tr
  y : Tr
  s' : Nat
  r' : List Int
  f : Tr → Tr
  hw : (Tr.nd op x y).wf
  hd : q.drop s' = (Tr.nd op x y).flat ++ r'
  hi : s' + x.size + y.size = i
  hs : s ≤ s'
  hz : ∀ z : Tr, z.wf → z.sort = (Tr.nd op x y).sort → (f z).wf ∧ (f z).sort = t.sort ∧ (q.drop s).take (s' - s) ++ z.flat ++ r' = (f z).flat ++ r
theorem ctm {q : List Int} : ∀ (t : Tr), t.wf → ∀ (s : Nat) (r : List Int), q.drop s = t.flat ++ r → ∀ (i : Nat) (hi : i < q.length), s ≤ i → i < s + t.size → NdOp q[i] → Nonempty (Ctm q t s r i q[i])
  | .lf op, ho, s, r, e, i, hi, h1, h2, hn => by
    obtain ⟨hs, hop⟩ := leaf_at e
    have : i = s := by have : i < s + 1 := h2; omega
    subst this
    rw [hop] at hn
    exfalso
    rcases ho with rfl | rfl | rfl | rfl | rfl | rfl | rfl | rfl <;> rcases hn with h | h | h | h | h <;> omega
  | .nd op x y, hw, s, r, e, i, hi, h1, h2, hn => by
    obtain ⟨e1, e2, hk, hop⟩ := split_nd e
    have h2' : i < s + (x.size + y.size + 1) := h2
    rcases Nat.lt_or_ge i (s + x.size) with a | a
    · obtain ⟨c⟩ := ctm x hw.2.1 s _ e1 i hi h1 a hn
      have hwf : ∀ z : Tr, z.wf → z.sort = (Tr.nd q[i] c.x c.y).sort → (Tr.nd op (c.f z) y).wf := fun z h h' => ⟨hw.1, (c.hz z h h').1, hw.2.2.1, by rw [(c.hz z h h').2.1]; exact hw.2.2.2.1, hw.2.2.2.2⟩
      refine ⟨⟨c.x, c.y, c.s', c.r', fun z => .nd op (c.f z) y, c.hw, c.hd, c.hi, c.hs, fun z h h' => ⟨hwf z h h', rfl, ?_⟩⟩⟩
      rw [(c.hz z h h').2.2]; simp [Tr.flat]
    · rcases Nat.lt_or_ge i (s + x.size + y.size) with b | b
      · obtain ⟨c⟩ := ctm y hw.2.2.1 (s + x.size) _ e2 i hi a b hn
        have hwf : ∀ z : Tr, z.wf → z.sort = (Tr.nd q[i] c.x c.y).sort → (Tr.nd op x (c.f z)).wf := fun z h h' => ⟨hw.1, hw.2.1, (c.hz z h h').1, hw.2.2.2.1, by rw [(c.hz z h h').2.1]; exact hw.2.2.2.2⟩
        have hcs := c.hs
        refine ⟨⟨c.x, c.y, c.s', c.r', fun z => .nd op x (c.f z), c.hw, c.hd, c.hi, by omega, fun z h h' => ⟨hwf z h h', rfl, ?_⟩⟩⟩
        have e3 := (c.hz z h h').2.2
        have e4 : (q.drop s).take (c.s' - s) = x.flat ++ (q.drop (s + x.size)).take (c.s' - (s + x.size)) := by
          have e5 : q.drop s = x.flat ++ q.drop (s + x.size) := by rw [e2]; exact e1
          rw [e5, show c.s' - s = x.flat.length + (c.s' - (s + x.size)) by rw [flat_len]; omega, List.take_length_add_append]
        rw [e4]
        simp only [Tr.flat, List.append_assoc] at e3 ⊢
        rw [e3]
      · have : i = s + x.size + y.size := by omega
        subst this
        rw [hop]
        refine ⟨⟨x, y, s, r, fun z => z, hw, e, rfl, Nat.le_refl _, fun z h h' => ⟨h, h', ?_⟩⟩⟩
        simp
theorem right_flatm {t : Tr} (hw : t.wf) (h40 : t.flat.length ≤ 40) : right t.flat = some t.sort := by
  have key : ∀ (t : Tr), t.wf → ∀ (S : List Bool) (r : List Int), run (t.flat ++ r) S = run r (t.sort :: S) := by
    intro t
    induction t with
    | lf op =>
      intro h S r
      rcases h with rfl | rfl | rfl | rfl | rfl | rfl | rfl | rfl <;> simp [Tr.flat, run, st, Tr.sort]
    | nd op x y ix iy =>
      intro h S r
      obtain ⟨ho, wx, wy, sx, sy⟩ := h
      simp only [Tr.flat, List.append_assoc]
      rw [ix wx, iy wy, sx, sy]
      rcases ho with rfl | rfl | rfl | rfl | rfl <;> simp [run, st, Tr.sort, pop]
  have := key t hw [] []
  rw [List.append_nil] at this
  unfold right
  rw [this]
  simp only [run]
  rw [if_neg (by omega)]
structure Wm (r w : List Int) (b : Bool) : Prop where
  right : right w = some b
  len : w.length ≤ 40
  ne : w ≠ r
  sub : ∀ a ∈ w, a ∈ r ∨ a = 1 ∨ a = 6
theorem wm_part {r w : List Int} {b : Bool} {t : Tr} (ht : t.wf) (hs : t.sort = b) (hf : t.flat = r) (h40 : r.length ≤ 40) {j : Int} (hj : j = 3 ∧ b = false ∨ j = 12 ∧ b = true) {k : Nat} (hk : k < r.length) (hjk : r[k] = j) (hm : w ∈ lsO r k) : Wm r w b := by
  have hsz : t.size = r.length := by rw [← hf, flat_len]
  have hn : NdOp r[k] := by rw [hjk]; rcases hj with ⟨rfl, _⟩ | ⟨rfl, _⟩ <;> simp [NdOp]
  have cc := ctm (q := r) t ht 0 [] (by rw [hf]; simp) k hk (by omega) (by omega) hn
  rw [hjk] at cc
  obtain ⟨c⟩ := cc
  have hl := less_p (l := r) (by omega) (wf_okm c.hw.2.1) (wf_okm c.hw.2.2.1) c.hd c.hi
  have e2 : lsO r k = [r.take (c.s' + c.x.size) ++ r.drop (k + 1), r.take c.s' ++ (r.take k).drop (c.s' + c.x.size) ++ r.drop (k + 1)] := by unfold lsO; rw [hl]; rfl
  rw [e2] at hm
  have hsn : (Tr.nd j c.x c.y).sort = b := by
    rcases hj with ⟨q, e⟩ | ⟨q, e⟩ <;> rw [e] <;> simp [Tr.sort, q]
  have hdec : decide (j ≥ 5) = b := by rcases hj with ⟨q, e⟩ | ⟨q, e⟩ <;> rw [e, q] <;> rfl
  obtain ⟨e1, e3, e4, e5⟩ := split_nd c.hd
  have hxs : c.x.sort = b := by rw [c.hw.2.2.2.1, hdec]
  have hys : c.y.sort = b := by rw [c.hw.2.2.2.2, hdec]
  have hi := c.hi
  have hr' : r.drop (k + 1) = c.r' := by
    have := congrArg (List.drop (Tr.nd j c.x c.y).flat.length) c.hd
    rw [List.drop_drop, List.drop_left] at this
    rw [← this, flat_len]
    congr 1
    simp only [Tr.size]
    omega
  have px : r.take (c.s' + c.x.size) = r.take c.s' ++ c.x.flat := by
    rw [List.take_add, e1, ← flat_len c.x, List.take_left]
  have py : (r.take k).drop (c.s' + c.x.size) = c.y.flat := by
    rw [List.drop_take, e3, show k - (c.s' + c.x.size) = c.y.flat.length by rw [flat_len]; omega, List.take_left]
  have sx := size_pos c.x
  have sy := size_pos c.y
  have fin : ∀ z : Tr, z.wf → z.sort = b → z.size < (Tr.nd j c.x c.y).size → w = r.take c.s' ++ z.flat ++ c.r' → Wm r w b := by
    intro z hz hzs hlt hwz
    obtain ⟨f1, f2, f3⟩ := c.hz z hz (by rw [hzs, hsn])
    have t0 : (r.drop 0).take (c.s' - 0) = r.take c.s' := by simp
    rw [t0, List.append_nil] at f3
    have a2 := congrArg List.length c.hd
    rw [List.length_drop, List.length_append, flat_len] at a2
    have sn := size_pos (Tr.nd j c.x c.y)
    have hwl : w.length < r.length := by
      have a1 := congrArg List.length hwz
      rw [List.length_append, List.length_append, List.length_take, flat_len] at a1
      omega
    refine ⟨?_, by omega, fun e => by rw [e] at hwl; omega, fun a ha => .inl ?_⟩
    · rw [hwz, f3, right_flatm f1 (by rw [← f3, ← hwz]; omega), f2, hs]
    · have hall : ∀ w', (w' = r.take (c.s' + c.x.size) ++ r.drop (k + 1) ∨ w' = r.take c.s' ++ (r.take k).drop (c.s' + c.x.size) ++ r.drop (k + 1)) → ∀ a ∈ w', a ∈ r := by
        rintro w' (rfl | rfl) a ha
        · rcases List.mem_append.1 ha with q | q
          · exact List.mem_of_mem_take q
          · exact List.mem_of_mem_drop q
        · rcases List.mem_append.1 ha with q | q
          · rcases List.mem_append.1 q with q | q
            · exact List.mem_of_mem_take q
            · exact List.mem_of_mem_take (List.mem_of_mem_drop q)
          · exact List.mem_of_mem_drop q
      exact hall w (by simpa using hm) a ha
  simp only [List.mem_cons, List.mem_nil_iff, or_false] at hm
  have hm' := hm
  rcases hm' with hm' | hm'
  · exact fin c.x c.hw.2.1 hxs (by simp only [Tr.size]; omega) (by rw [hm', px, hr'])
  · exact fin c.y c.hw.2.2.1 hys (by simp only [Tr.size]; omega) (by rw [hm', py, hr'])
theorem wm_parts {r w : List Int} {b : Bool} {t : Tr} (ht : t.wf) (hs : t.sort = b) (hf : t.flat = r) (h40 : r.length ≤ 40) {j : Int} (hj : j = 3 ∧ b = false ∨ j = 12 ∧ b = true) : ∀ (d k : Nat), r.length = k + d → w ∈ wks r j d k → Wm r w b
  | 0, k, e, hm => by simp [wks] at hm
  | d + 1, k, e, hm => by
    have hk : k < r.length := by omega
    rw [wks, List.mem_append] at hm
    rcases hm with hm | hm
    · have hd : r.getD k 0 = r[k] := by simp [hk]
      rw [hd] at hm
      split at hm
      · rename_i hjk
        exact wm_part ht hs hf h40 hj hk hjk hm
      · cases hm
    · exact wm_parts ht hs hf h40 hj d (k + 1) (by omega) hm
theorem wm {r : List Int} {b : Bool} (h : right r = some b) {w : List Int} (hw : w ∈ ws r) : Wm r w b := by
  obtain ⟨t, ht, hs, hf, h40⟩ := right_wf h
  unfold ws at hw
  rw [h] at hw
  change w ∈ all r b at hw
  unfold all at hw
  cases b with
  | true =>
    rw [if_pos rfl, List.mem_append] at hw
    rcases hw with hw | hw
    · unfold cnd at hw
      split at hw
      · cases hw
      · rename_i hne
        obtain rfl : w = [6] := by simpa using hw
        exact ⟨by decide, by simp, fun e => hne e.symm, fun a ha => .inr (.inr (by simpa using ha))⟩
    · exact wm_parts ht hs hf h40 (j := 12) (.inr ⟨rfl, rfl⟩) _ 0 (by omega) hw
  | false =>
    rw [if_neg (by decide), List.mem_append] at hw
    rcases hw with hw | hw
    · unfold cnd at hw
      split at hw
      · cases hw
      · rename_i hne
        obtain rfl : w = [1] := by simpa using hw
        exact ⟨by decide, by simp, fun e => hne e.symm, fun a ha => .inr (.inl (by simpa using ha))⟩
    · exact wm_parts ht hs hf h40 (j := 3) (.inl ⟨rfl, rfl⟩) _ 0 (by omega) hw
theorem names_sub {r w : List Int} {b : Bool} (h : Wm r w b) {n : Nat} (hn : names w n = true) : names r n = true := by
  unfold names at *
  rw [List.any_eq_true] at hn ⊢
  obtain ⟨a, ha, e⟩ := hn
  rcases h.sub a ha with q | rfl | rfl
  · exact ⟨a, q, e⟩
  · exfalso; simp at e; omega
  · exfalso; simp at e; omega
theorem has_sub {op : Nat} {r w : List Int} {b : Bool} (h : Wm r w b) (hr : hasS op r = true) : hasS op w = true := by
  unfold hasS at *
  rw [List.all_eq_true] at hr ⊢
  intro n hn
  have := hr n hn
  cases hw : names w n with
  | false => simp
  | true =>
    rw [names_sub h hw] at this
    simpa using this
def At (r : api_Row) (p : mutant_spot × List Int) : Prop := (p.1.which_ = 0 ∧ p.2 ∈ ws r.May) ∨ (p.1.which_ = 1 ∧ p.2 ∈ ws r.Res) ∨ (p.1.which_ = 2 ∧ p.2 ∈ ws r.Pc)
theorem sp11_at {op : Int} {r : api_Row} {p : mutant_spot × List Int} (h : p ∈ sp11 op r) : At r p := by
  unfold sp11 at h
  rcases List.mem_append.1 h with h | h
  · obtain ⟨a, b, c, d, e⟩ := sp12_ok h; exact .inl ⟨b, e⟩
  · rcases List.mem_append.1 h with h | h
    · obtain ⟨a, b, c, d, e⟩ := sp12_ok h; exact .inr (.inl ⟨b, e⟩)
    · obtain ⟨a, b, c, d, e⟩ := sp12_ok h; exact .inr (.inr ⟨b, e⟩)
theorem sp8_at : ∀ {l : List api_Row} {k : Nat} {p : mutant_spot × List Int}, p ∈ sp8 l k → ∃ (o : Nat) (ho : o < l.length), p.1.op_ = ((k + o : Nat) : Int) ∧ At l[o] p
  | [], k, p, h => by cases h
  | r :: l, k, p, h => by
    rcases List.mem_append.1 h with h | h
    · exact ⟨0, by simp, (sp11_ok h).1, sp11_at h⟩
    · obtain ⟨o, ho, e, q⟩ := sp8_at h
      exact ⟨o + 1, by simp; omega, by rw [e]; congr 1; omega, q⟩
theorem ckl_nil : ∀ {R : List api_Row} {k : Nat}, (∀ (i : Nat) (hi : i < R.length), rowE (k + i) R[i] = 0) → ckl R k = none
  | [], k, h => rfl
  | r :: R, k, h => by
    unfold ckl
    have h0 := h 0 (by simp)
    rw [Nat.add_zero] at h0
    rw [if_pos (show rowE k r = 0 from h0)]
    refine ckl_nil fun i hi => ?_
    have := h (i + 1) (by simp; omega)
    rw [show k + (i + 1) = k + 1 + i by omega] at this
    exact this
end
end Go.Proofs.YtkmobcaobmchpaaDoor.Md
