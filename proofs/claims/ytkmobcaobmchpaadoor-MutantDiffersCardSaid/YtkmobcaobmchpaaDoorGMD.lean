/- Pure functions with fuel: the kernel runs them. -/
import Derived.Test.YtkmobcaobmchpaaDoorDMD
set_option linter.unusedVariables false
namespace Go.Proofs.YtkmobcaobmchpaaDoor.MD
open Go Go.Proofs.YtkmobcaobmchpaaDoor.Ab
def LeO {α : Type} (a b : Option α) : Prop := ∀ r, a = some r → b = some r
theorem leR {α : Type} {a : Option α} : LeO a a := fun _ h => h
theorem leN {α : Type} {a : Option α} : LeO none a := fun _ h => by cases h
theorem leB {α β : Type} {a b : Option α} {f g : α → Option β} (h : LeO a b) (k : ∀ y, LeO (f y) (g y)) : LeO (a >>= f) (b >>= g) := fun r e => by
  cases a with
  | none => cases e
  | some y => rw [h y rfl]; exact k y r e
theorem leI {α : Type} {p : Prop} [Decidable p] {a b c d : Option α} (h : LeO a b) (k : LeO c d) : LeO (if p then a else c) (if p then b else d) := by
  by_cases q : p
  · rw [if_pos q, if_pos q]; exact h
  · rw [if_neg q, if_neg q]; exact k

def rule_made_1.f_g (k : Nat) (a0 : Bool) (a1 : List Bool) : Option ((List Bool) × Bool) := ((if IntKind.i64.wrap ((a1.length : Int) - 1) < 1 then (some true) else (lAt a1 (IntKind.i64.wrap ((a1.length : Int) - 1)) >>= fun y7 => if y7 = a0 then (lAt a1 (IntKind.i64.wrap ((IntKind.i64.wrap ((a1.length : Int) - 1)) - 1)) >>= fun y9 => some (!decide (y9 = a0))) else (some true)) : Option Bool) >>= fun x5 => if x5 = true then (some (a1, false)) else (if (0 : Int) ≤ IntKind.i64.wrap ((IntKind.i64.wrap ((a1.length : Int) - 1)) - 1) ∧ IntKind.i64.wrap ((IntKind.i64.wrap ((a1.length : Int) - 1)) - 1) ≤ (a1.length : Int) then (some (a1.take (IntKind.i64.wrap ((IntKind.i64.wrap ((a1.length : Int) - 1)) - 1)).toNat, true)) else none))
theorem rule_made_1.f_le (k : Nat) (a0 : Bool) (a1 : List Bool) : LeO (rule_made_1.f_g k a0 a1) (rule_made_1.f a0 a1) := by
  unfold rule_made_1.f_g rule_made_1.f
  exact (leB (leI leR (leB leR (fun y7 => (leI (leB leR (fun y9 => leR)) leR)))) (fun x5 => (leI leR (leI leR leR))))
def rule_made.l0_g : Nat → (a0 : List Int) → (v269 : List Bool) → (v270 : Int) → Option ((Bool × Bool) ⊕ (List Bool))
  | 0 => fun _ _ _ => none
  | k + 1 => fun a0 v269 v270 => if v270 < (a0.length : Int) then (((lAt a0 v270 >>= fun y340 => ((if y340 = 1 then (if (v269.length + ([false] : List Bool).length) * 1 ≤ big then (some (v269 ++ ([false] : List Bool), true)) else none) else (if y340 = 2 then (if (v269.length + ([false] : List Bool).length) * 1 ≤ big then (some (v269 ++ ([false] : List Bool), true)) else none) else (if y340 = 6 then (if (v269.length + ([true] : List Bool).length) * 1 ≤ big then (some (v269 ++ ([true] : List Bool), true)) else none) else (if y340 = 7 then (if (v269.length + ([true] : List Bool).length) * 1 ≤ big then (some (v269 ++ ([true] : List Bool), true)) else none) else (if y340 = 8 then (if (v269.length + ([true] : List Bool).length) * 1 ≤ big then (some (v269 ++ ([true] : List Bool), true)) else none) else (if y340 = 9 then (if (v269.length + ([true] : List Bool).length) * 1 ≤ big then (some (v269 ++ ([true] : List Bool), true)) else none) else (if y340 = 10 then (if (v269.length + ([true] : List Bool).length) * 1 ≤ big then (some (v269 ++ ([true] : List Bool), true)) else none) else (if y340 = 11 then (if (v269.length + ([true] : List Bool).length) * 1 ≤ big then (some (v269 ++ ([true] : List Bool), true)) else none) else (if y340 = 3 then ((rule_made_1.f_g k) false v269 >>= fun y391 => if (y391.1.length + ([false] : List Bool).length) * 1 ≤ big then (some (y391.1 ++ ([false] : List Bool), y391.2)) else none) else (if y340 = 4 then ((rule_made_1.f_g k) false v269 >>= fun y394 => if (y394.1.length + ([false] : List Bool).length) * 1 ≤ big then (some (y394.1 ++ ([false] : List Bool), y394.2)) else none) else (if y340 = 5 then ((rule_made_1.f_g k) true v269 >>= fun y397 => if (y397.1.length + ([false] : List Bool).length) * 1 ≤ big then (some (y397.1 ++ ([false] : List Bool), y397.2)) else none) else (if y340 = 12 then ((rule_made_1.f_g k) true v269 >>= fun y400 => if (y400.1.length + ([true] : List Bool).length) * 1 ≤ big then (some (y400.1 ++ ([true] : List Bool), y400.2)) else none) else (if y340 = 13 then ((rule_made_1.f_g k) true v269 >>= fun y403 => if (y403.1.length + ([true] : List Bool).length) * 1 ≤ big then (some (y403.1 ++ ([true] : List Bool), y403.2)) else none) else (some (v269, false)))))))))))))) : Option ((List Bool) × Bool)) >>= fun o => match o with | (x372, x373) => if (!x373) = true then (some (.inl (false, false))) else (some (.inr x372))) : Option ((Bool × Bool) ⊕ (List Bool))) >>= fun o => match o with | .inl r => some (.inl r) | .inr x339 => (rule_made.l0_g k) a0 x339 (IntKind.i64.wrap (v270 + 1)))) else (some (.inr v269))
theorem rule_made.l0_le : ∀ (k : Nat) (a0 : List Int) (v269 : List Bool) (v270 : Int) , LeO (rule_made.l0_g k a0 v269 v270) (rule_made.l0 a0 v269 v270) := by
  intro k
  induction k with
  | zero => intros; exact leN
  | succ k ih =>
    intro a0 v269 v270
    rw [rule_made.l0]
    exact (leI (leB (leB leR (fun y340 => (leB (leI (leI leR leR) (leI (leI leR leR) (leI (leI leR leR) (leI (leI leR leR) (leI (leI leR leR) (leI (leI leR leR) (leI (leI leR leR) (leI (leI leR leR) (leI (leB (rule_made_1.f_le k _ _) (fun y391 => (leI leR leR))) (leI (leB (rule_made_1.f_le k _ _) (fun y394 => (leI leR leR))) (leI (leB (rule_made_1.f_le k _ _) (fun y397 => (leI leR leR))) (leI (leB (rule_made_1.f_le k _ _) (fun y400 => (leI leR leR))) (leI (leB (rule_made_1.f_le k _ _) (fun y403 => (leI leR leR))) leR))))))))))))) (fun o => (match o with | (x372, x373) => (leI leR leR)))))) (fun o => (match o with | .inl r => leR | .inr x339 => (ih _ _ _)))) leR)
def rule_made.f_g (k : Nat) (a0 : List Int) : Option (Bool × Bool) := ((rule_made.l0_g k) a0 ([] : List Bool) 0 >>= fun o => match o with | .inl r => some r | .inr x271 => ((if (x271.length : Int) = 1 then (some (decide ((a0.length : Int) > 40))) else (some true) : Option Bool) >>= fun x407 => if x407 = true then (some (false, false)) else (lAt x271 0 >>= fun y410 => some (y410, true))))
theorem rule_made.f_le (k : Nat) (a0 : List Int) : LeO (rule_made.f_g k a0) (rule_made.f a0) := by
  unfold rule_made.f_g rule_made.f
  exact (leB (rule_made.l0_le k _ _ _) (fun o => (match o with | .inl r => leR | .inr x271 => (leB (leI leR leR) (fun x407 => (leI leR (leB leR (fun y410 => leR))))))))
def rule_Right.f_g (k : Nat) (a0 : List Int) (a1 : Bool) : Option Bool := (rule_made.f_g k) a0 >>= fun y1 => ((if y1.2 = true then (some (decide (y1.1 = a1))) else (some false) : Option Bool) >>= fun x3 => some x3)
theorem rule_Right.f_le (k : Nat) (a0 : List Int) (a1 : Bool) : LeO (rule_Right.f_g k a0 a1) (rule_Right.f a0 a1) := by
  unfold rule_Right.f_g rule_Right.f
  exact (leB (rule_made.f_le k _) (fun y1 => (leB (leI leR leR) (fun x3 => leR))))
def slices_Equal_int_int.l0_g : Nat → (a0 : List Int) → (a1 : List Int) → (v10 : Int) → Option (Bool ⊕ Unit)
  | 0 => fun _ _ _ => none
  | k + 1 => fun a0 a1 v10 => if v10 < (a0.length : Int) then (lAt a0 v10 >>= fun y12 => lAt a1 v10 >>= fun y13 => if y12 = y13 then ((slices_Equal_int_int.l0_g k) a0 a1 (IntKind.i64.wrap (v10 + 1))) else (some (.inl false))) else (some (.inr ()))
theorem slices_Equal_int_int.l0_le : ∀ (k : Nat) (a0 : List Int) (a1 : List Int) (v10 : Int) , LeO (slices_Equal_int_int.l0_g k a0 a1 v10) (slices_Equal_int_int.l0 a0 a1 v10) := by
  intro k
  induction k with
  | zero => intros; exact leN
  | succ k ih =>
    intro a0 a1 v10
    rw [slices_Equal_int_int.l0]
    exact (leI (leB leR (fun y12 => (leB leR (fun y13 => (leI (ih _ _ _) leR))))) leR)
def slices_Equal_int_int.f_g (k : Nat) (a0 : List Int) (a1 : List Int) : Option Bool := if (a0.length : Int) = (a1.length : Int) then (((slices_Equal_int_int.l0_g k) a0 a1 0 >>= fun o => match o with | .inl r => some r | .inr () => some true)) else (some false)
theorem slices_Equal_int_int.f_le (k : Nat) (a0 : List Int) (a1 : List Int) : LeO (slices_Equal_int_int.f_g k a0 a1) (slices_Equal_int_int.f a0 a1) := by
  unfold slices_Equal_int_int.f_g slices_Equal_int_int.f
  exact (leI (leB (slices_Equal_int_int.l0_le k _ _ _) (fun o => (match o with | .inl r => leR | .inr () => leR))) leR)
def mutant_start.l0_g : Nat → (a0 : List Int) → (v55 : Int) → (v56 : Int) → Option Int
  | 0 => fun _ _ _ => none
  | k + 1 => fun a0 v55 v56 => ((lAt a0 v56 >>= fun y71 => ((if y71 = 3 then (some (IntKind.i64.wrap ((IntKind.i64.wrap (v55 - 1)) + 2))) else (if y71 = 4 then (some (IntKind.i64.wrap ((IntKind.i64.wrap (v55 - 1)) + 2))) else (if y71 = 5 then (some (IntKind.i64.wrap ((IntKind.i64.wrap (v55 - 1)) + 2))) else (if y71 = 12 then (some (IntKind.i64.wrap ((IntKind.i64.wrap (v55 - 1)) + 2))) else (if y71 = 13 then (some (IntKind.i64.wrap ((IntKind.i64.wrap (v55 - 1)) + 2))) else (some (IntKind.i64.wrap (v55 - 1))))))) : Option Int) >>= fun x77 => if x77 = 0 then (some (.inl v56)) else (some (.inr x77))) : Option (Int ⊕ Int)) >>= fun o => match o with | .inl r => some r | .inr x70 => (mutant_start.l0_g k) a0 x70 (IntKind.i64.wrap (v56 - 1)))
theorem mutant_start.l0_le : ∀ (k : Nat) (a0 : List Int) (v55 : Int) (v56 : Int) , LeO (mutant_start.l0_g k a0 v55 v56) (mutant_start.l0 a0 v55 v56) := by
  intro k
  induction k with
  | zero => intros; exact leN
  | succ k ih =>
    intro a0 v55 v56
    rw [mutant_start.l0]
    exact (leB (leB leR (fun y71 => (leB (leI leR (leI leR (leI leR (leI leR (leI leR leR))))) (fun x77 => (leI leR leR))))) (fun o => (match o with | .inl r => leR | .inr x70 => (ih _ _ _))))
def mutant_start.f_g (k : Nat) (a0 : List Int) (a1 : Int) : Option Int := ((mutant_start.l0_g k) a0 1 a1 >>= fun r => some r)
theorem mutant_start.f_le (k : Nat) (a0 : List Int) (a1 : Int) : LeO (mutant_start.f_g k a0 a1) (mutant_start.f a0 a1) := by
  unfold mutant_start.f_g mutant_start.f
  exact (leB (mutant_start.l0_le k _ _ _) (fun r => leR))
def slices_Grow_int_int_nil.f_g (k : Nat) (a1 : Int) : Option (List Int) := if a1 < 0 then (none) else (if IntKind.i64.wrap (a1 - (IntKind.i64.wrap (0 - (([] : List Int).length : Int)))) > 0 then (if 0 < IntKind.i64.wrap (a1 - (IntKind.i64.wrap (0 - (([] : List Int).length : Int)))) ∧ (IntKind.i64.wrap (a1 - (IntKind.i64.wrap (0 - (([] : List Int).length : Int))))).toNat * 8 ≤ big then (if (0 : Int) ≤ (([] : List Int).length : Int) ∧ (([] : List Int).length : Int) ≤ ((List.replicate (IntKind.i64.wrap (a1 - (IntKind.i64.wrap (0 - (([] : List Int).length : Int))))).toNat (0 : Int)).length : Int) then (some ((List.replicate (IntKind.i64.wrap (a1 - (IntKind.i64.wrap (0 - (([] : List Int).length : Int))))).toNat (0 : Int)).take (([] : List Int).length : Int).toNat)) else none) else none) else (some ([] : List Int)))
theorem slices_Grow_int_int_nil.f_le (k : Nat) (a1 : Int) : LeO (slices_Grow_int_int_nil.f_g k a1) (slices_Grow_int_int_nil.f a1) := by
  unfold slices_Grow_int_int_nil.f_g slices_Grow_int_int_nil.f
  exact (leI leR (leI (leI (leI leR leR) leR) leR))
def slices_Concat_int_int.l0_g : Nat → (a0 : List (List Int)) → (v13 : Int) → (v14 : Int) → Option Int
  | 0 => fun _ _ _ => none
  | k + 1 => fun a0 v13 v14 => if v13 < (a0.length : Int) then (((lAt a0 v13 >>= fun y20 => if IntKind.i64.wrap (v14 + (y20.length : Int)) < 0 then (none) else (some (IntKind.i64.wrap (v14 + (y20.length : Int)))) : Option Int) >>= fun x19 => (slices_Concat_int_int.l0_g k) a0 (IntKind.i64.wrap (v13 + 1)) x19)) else (some v14)
theorem slices_Concat_int_int.l0_le : ∀ (k : Nat) (a0 : List (List Int)) (v13 : Int) (v14 : Int) , LeO (slices_Concat_int_int.l0_g k a0 v13 v14) (slices_Concat_int_int.l0 a0 v13 v14) := by
  intro k
  induction k with
  | zero => intros; exact leN
  | succ k ih =>
    intro a0 v13 v14
    rw [slices_Concat_int_int.l0]
    exact (leI (leB (leB leR (fun y20 => (leI leR leR))) (fun x19 => (ih _ _ _))) leR)
def slices_Concat_int_int.l1_g : Nat → (a0 : List (List Int)) → (v29 : List Int) → (v30 : Int) → Option (List Int)
  | 0 => fun _ _ _ => none
  | k + 1 => fun a0 v29 v30 => if v30 < (a0.length : Int) then (lAt a0 v30 >>= fun y33 => if (v29.length + y33.length) * 8 ≤ big then ((slices_Concat_int_int.l1_g k) a0 (v29 ++ y33) (IntKind.i64.wrap (v30 + 1))) else none) else (some v29)
theorem slices_Concat_int_int.l1_le : ∀ (k : Nat) (a0 : List (List Int)) (v29 : List Int) (v30 : Int) , LeO (slices_Concat_int_int.l1_g k a0 v29 v30) (slices_Concat_int_int.l1 a0 v29 v30) := by
  intro k
  induction k with
  | zero => intros; exact leN
  | succ k ih =>
    intro a0 v29 v30
    rw [slices_Concat_int_int.l1]
    exact (leI (leB leR (fun y33 => (leI (ih _ _ _) leR))) leR)
def slices_Concat_int_int.f_g (k : Nat) (a0 : List (List Int)) : Option (List Int) := ((slices_Concat_int_int.l0_g k) a0 0 0 >>= fun x15 => (slices_Grow_int_int_nil.f_g k) x15 >>= fun y22 => ((slices_Concat_int_int.l1_g k) a0 y22 0 >>= fun x31 => some x31))
theorem slices_Concat_int_int.f_le (k : Nat) (a0 : List (List Int)) : LeO (slices_Concat_int_int.f_g k a0) (slices_Concat_int_int.f a0) := by
  unfold slices_Concat_int_int.f_g slices_Concat_int_int.f
  exact (leB (slices_Concat_int_int.l0_le k _ _ _) (fun x15 => (leB (slices_Grow_int_int_nil.f_le k _) (fun y22 => (leB (slices_Concat_int_int.l1_le k _ _ _) (fun x31 => leR))))))
def mutant_less.f_g (k : Nat) (a0 : List Int) (a1 : Int) : Option (List (List Int)) := (mutant_start.f_g k) a0 (IntKind.i64.wrap (a1 - 1)) >>= fun y1 => (mutant_start.f_g k) a0 (IntKind.i64.wrap (y1 - 1)) >>= fun y2 => if (0 : Int) ≤ y1 ∧ y1 ≤ (a0.length : Int) then (if (0 : Int) ≤ IntKind.i64.wrap (a1 + 1) ∧ IntKind.i64.wrap (a1 + 1) ≤ (a0.length : Int) then ((slices_Concat_int_int.f_g k) ([lCut a0 0 y1, lCut a0 (IntKind.i64.wrap (a1 + 1)) (a0.length : Int)] : List (List Int)) >>= fun y5 => if (0 : Int) ≤ y2 ∧ y2 ≤ (a0.length : Int) then (if (0 : Int) ≤ y1 ∧ y1 ≤ a1 ∧ a1 ≤ (a0.length : Int) then (if (0 : Int) ≤ IntKind.i64.wrap (a1 + 1) ∧ IntKind.i64.wrap (a1 + 1) ≤ (a0.length : Int) then ((slices_Concat_int_int.f_g k) ([lCut a0 0 y2, lCut a0 y1 a1, lCut a0 (IntKind.i64.wrap (a1 + 1)) (a0.length : Int)] : List (List Int)) >>= fun y9 => some ([y5, y9] : List (List Int))) else none) else none) else none) else none) else none
theorem mutant_less.f_le (k : Nat) (a0 : List Int) (a1 : Int) : LeO (mutant_less.f_g k a0 a1) (mutant_less.f a0 a1) := by
  unfold mutant_less.f_g mutant_less.f
  exact (leB (mutant_start.f_le k _ _) (fun y1 => (leB (mutant_start.f_le k _ _) (fun y2 => (leI (leI (leB (slices_Concat_int_int.f_le k _) (fun y5 => (leI (leI (leI (leB (slices_Concat_int_int.f_le k _) (fun y9 => leR)) leR) leR) leR))) leR) leR)))))
def mutant_weaker.l0_g : Nat → (a0 : List Int) → (v26 : List (List Int)) → (v27 : Int) → Option (List (List Int))
  | 0 => fun _ _ _ => none
  | k + 1 => fun a0 v26 v27 => if v27 < (a0.length : Int) then (((lAt a0 v27 >>= fun y35 => if y35 = 12 then ((mutant_less.f_g k) a0 v27 >>= fun y37 => if (v26.length + y37.length) * 24 ≤ big then (some (v26 ++ y37)) else none) else (some v26) : Option (List (List Int))) >>= fun x34 => (mutant_weaker.l0_g k) a0 x34 (IntKind.i64.wrap (v27 + 1)))) else (some v26)
theorem mutant_weaker.l0_le : ∀ (k : Nat) (a0 : List Int) (v26 : List (List Int)) (v27 : Int) , LeO (mutant_weaker.l0_g k a0 v26 v27) (mutant_weaker.l0 a0 v26 v27) := by
  intro k
  induction k with
  | zero => intros; exact leN
  | succ k ih =>
    intro a0 v26 v27
    rw [mutant_weaker.l0]
    exact (leI (leB (leB leR (fun y35 => (leI (leB (mutant_less.f_le k _ _) (fun y37 => (leI leR leR))) leR))) (fun x34 => (ih _ _ _))) leR)
def mutant_weaker.l1_g : Nat → (a0 : List Int) → (v59 : List (List Int)) → (v60 : Int) → Option (List (List Int))
  | 0 => fun _ _ _ => none
  | k + 1 => fun a0 v59 v60 => if v60 < (a0.length : Int) then (((lAt a0 v60 >>= fun y68 => if y68 = 12 then ((mutant_less.f_g k) a0 v60 >>= fun y70 => if (v59.length + y70.length) * 24 ≤ big then (some (v59 ++ y70)) else none) else (some v59) : Option (List (List Int))) >>= fun x67 => (mutant_weaker.l1_g k) a0 x67 (IntKind.i64.wrap (v60 + 1)))) else (some v59)
theorem mutant_weaker.l1_le : ∀ (k : Nat) (a0 : List Int) (v59 : List (List Int)) (v60 : Int) , LeO (mutant_weaker.l1_g k a0 v59 v60) (mutant_weaker.l1 a0 v59 v60) := by
  intro k
  induction k with
  | zero => intros; exact leN
  | succ k ih =>
    intro a0 v59 v60
    rw [mutant_weaker.l1]
    exact (leI (leB (leB leR (fun y68 => (leI (leB (mutant_less.f_le k _ _) (fun y70 => (leI leR leR))) leR))) (fun x67 => (ih _ _ _))) leR)
def mutant_weaker.l2_g : Nat → (a0 : List Int) → (v95 : List (List Int)) → (v96 : Int) → Option (List (List Int))
  | 0 => fun _ _ _ => none
  | k + 1 => fun a0 v95 v96 => if v96 < (a0.length : Int) then (((lAt a0 v96 >>= fun y104 => if y104 = 3 then ((mutant_less.f_g k) a0 v96 >>= fun y106 => if (v95.length + y106.length) * 24 ≤ big then (some (v95 ++ y106)) else none) else (some v95) : Option (List (List Int))) >>= fun x103 => (mutant_weaker.l2_g k) a0 x103 (IntKind.i64.wrap (v96 + 1)))) else (some v95)
theorem mutant_weaker.l2_le : ∀ (k : Nat) (a0 : List Int) (v95 : List (List Int)) (v96 : Int) , LeO (mutant_weaker.l2_g k a0 v95 v96) (mutant_weaker.l2 a0 v95 v96) := by
  intro k
  induction k with
  | zero => intros; exact leN
  | succ k ih =>
    intro a0 v95 v96
    rw [mutant_weaker.l2]
    exact (leI (leB (leB leR (fun y104 => (leI (leB (mutant_less.f_le k _ _) (fun y106 => (leI leR leR))) leR))) (fun x103 => (ih _ _ _))) leR)
def mutant_weaker.l3_g : Nat → (a0 : List Int) → (v128 : List (List Int)) → (v129 : Int) → Option (List (List Int))
  | 0 => fun _ _ _ => none
  | k + 1 => fun a0 v128 v129 => if v129 < (a0.length : Int) then (((lAt a0 v129 >>= fun y137 => if y137 = 3 then ((mutant_less.f_g k) a0 v129 >>= fun y139 => if (v128.length + y139.length) * 24 ≤ big then (some (v128 ++ y139)) else none) else (some v128) : Option (List (List Int))) >>= fun x136 => (mutant_weaker.l3_g k) a0 x136 (IntKind.i64.wrap (v129 + 1)))) else (some v128)
theorem mutant_weaker.l3_le : ∀ (k : Nat) (a0 : List Int) (v128 : List (List Int)) (v129 : Int) , LeO (mutant_weaker.l3_g k a0 v128 v129) (mutant_weaker.l3 a0 v128 v129) := by
  intro k
  induction k with
  | zero => intros; exact leN
  | succ k ih =>
    intro a0 v128 v129
    rw [mutant_weaker.l3]
    exact (leI (leB (leB leR (fun y137 => (leI (leB (mutant_less.f_le k _ _) (fun y139 => (leI leR leR))) leR))) (fun x136 => (ih _ _ _))) leR)
def mutant_weaker.f_g (k : Nat) (a0 : List Int) : Option (List (List Int)) := (rule_Right.f_g k) a0 true >>= fun y1 => if y1 = true then ((slices_Equal_int_int.f_g k) a0 ([6] : List Int) >>= fun y3 => if (!y3) = true then (if (([] : List (List Int)).length + ([([6] : List Int)] : List (List Int)).length) * 24 ≤ big then (((mutant_weaker.l0_g k) a0 (([] : List (List Int)) ++ ([([6] : List Int)] : List (List Int))) 0 >>= fun x28 => some x28)) else none) else (((mutant_weaker.l1_g k) a0 ([] : List (List Int)) 0 >>= fun x61 => some x61))) else ((slices_Equal_int_int.f_g k) a0 ([1] : List Int) >>= fun y72 => if (!y72) = true then (if (([] : List (List Int)).length + ([([1] : List Int)] : List (List Int)).length) * 24 ≤ big then (((mutant_weaker.l2_g k) a0 (([] : List (List Int)) ++ ([([1] : List Int)] : List (List Int))) 0 >>= fun x97 => some x97)) else none) else (((mutant_weaker.l3_g k) a0 ([] : List (List Int)) 0 >>= fun x130 => some x130)))
theorem mutant_weaker.f_le (k : Nat) (a0 : List Int) : LeO (mutant_weaker.f_g k a0) (mutant_weaker.f a0) := by
  unfold mutant_weaker.f_g mutant_weaker.f
  exact (leB (rule_Right.f_le k _ _) (fun y1 => (leI (leB (slices_Equal_int_int.f_le k _ _) (fun y3 => (leI (leI (leB (mutant_weaker.l0_le k _ _ _) (fun x28 => leR)) leR) (leB (mutant_weaker.l1_le k _ _ _) (fun x61 => leR))))) (leB (slices_Equal_int_int.f_le k _ _) (fun y72 => (leI (leI (leB (mutant_weaker.l2_le k _ _ _) (fun x97 => leR)) leR) (leB (mutant_weaker.l3_le k _ _ _) (fun x130 => leR))))))))
def mutant_Weaker.f_g (k : Nat) (a0 : List Int) : Option ((List (List Int)) × Int) := (((rule_Right.f_g k) a0 false >>= fun y5 => if (!y5) = true then ((rule_Right.f_g k) a0 true >>= fun y7 => some (!y7)) else (some false) : Option Bool) >>= fun x4 => if x4 = true then (some (([] : List (List Int)), 1)) else ((mutant_weaker.f_g k) a0 >>= fun y9 => some (y9, 0)))
theorem mutant_Weaker.f_le (k : Nat) (a0 : List Int) : LeO (mutant_Weaker.f_g k a0) (mutant_Weaker.f a0) := by
  unfold mutant_Weaker.f_g mutant_Weaker.f
  exact (leB (leB (rule_Right.f_le k _ _) (fun y5 => (leI (leB (rule_Right.f_le k _ _) (fun y7 => leR)) leR))) (fun x4 => (leI leR (leB (mutant_weaker.f_le k _) (fun y9 => leR)))))
def reticentref04_Same.l0_g : Nat → (a0 : List Int) → (a1 : List Int) → (v10 : Int) → Option (Bool ⊕ Unit)
  | 0 => fun _ _ _ => none
  | k + 1 => fun a0 a1 v10 => if v10 < (a0.length : Int) then (lAt a0 v10 >>= fun y12 => lAt a1 v10 >>= fun y13 => if y12 = y13 then ((reticentref04_Same.l0_g k) a0 a1 (IntKind.i64.wrap (v10 + 1))) else (some (.inl false))) else (some (.inr ()))
theorem reticentref04_Same.l0_le : ∀ (k : Nat) (a0 : List Int) (a1 : List Int) (v10 : Int) , LeO (reticentref04_Same.l0_g k a0 a1 v10) (reticentref04_Same.l0 a0 a1 v10) := by
  intro k
  induction k with
  | zero => intros; exact leN
  | succ k ih =>
    intro a0 a1 v10
    rw [reticentref04_Same.l0]
    exact (leI (leB leR (fun y12 => (leB leR (fun y13 => (leI (ih _ _ _) leR))))) leR)
def reticentref04_Same.f_g (k : Nat) (a0 : List Int) (a1 : List Int) : Option Bool := if (a0.length : Int) = (a1.length : Int) then (((reticentref04_Same.l0_g k) a0 a1 0 >>= fun o => match o with | .inl r => some r | .inr () => some true)) else (some false)
theorem reticentref04_Same.f_le (k : Nat) (a0 : List Int) (a1 : List Int) : LeO (reticentref04_Same.f_g k a0 a1) (reticentref04_Same.f a0 a1) := by
  unfold reticentref04_Same.f_g reticentref04_Same.f
  exact (leI (leB (reticentref04_Same.l0_le k _ _ _) (fun o => (match o with | .inl r => leR | .inr () => leR))) leR)
def reticentlaw24_alive.f_g (k : Nat) : Option Bool := (mutant_Weaker.f_g k) ([9, 10, 12] : List Int) >>= fun y1 => ((if y1.2 = 0 then (if (y1.1.length : Int) = 3 then (lAt y1.1 0 >>= fun y15 => (reticentref04_Same.f_g k) y15 ([6] : List Int) >>= fun y16 => if y16 = true then (lAt y1.1 1 >>= fun y18 => (reticentref04_Same.f_g k) y18 ([9] : List Int) >>= fun y19 => if y19 = true then (lAt y1.1 2 >>= fun y21 => (reticentref04_Same.f_g k) y21 ([10] : List Int) >>= fun y22 => some y22) else (some false)) else (some false)) else (some false)) else (some false) : Option Bool) >>= fun x12 => some x12)
theorem reticentlaw24_alive.f_le (k : Nat) : LeO (reticentlaw24_alive.f_g k ) (reticentlaw24_alive.f ) := by
  unfold reticentlaw24_alive.f_g reticentlaw24_alive.f
  exact (leB (mutant_Weaker.f_le k _) (fun y1 => (leB (leI (leI (leB leR (fun y15 => (leB (reticentref04_Same.f_le k _ _) (fun y16 => (leI (leB leR (fun y18 => (leB (reticentref04_Same.f_le k _ _) (fun y19 => (leI (leB leR (fun y21 => (leB (reticentref04_Same.f_le k _ _) (fun y22 => leR)))) leR))))) leR))))) leR) leR) (fun x12 => leR))))
end Go.Proofs.YtkmobcaobmchpaaDoor.MD
