/- Pure functions with fuel: the kernel runs them. -/
import Derived.Test.YtkcpghpglhamfaaGreatDoorDSK
set_option linter.unusedVariables false
namespace Go.Proofs.YtkcpghpglhamfaaGreatDoor.SK
open Go Go.Proofs.YtkcpghpglhamfaaGreatDoor.Ab
def LeO {α : Type} (a b : Option α) : Prop := ∀ r, a = some r → b = some r
theorem leR {α : Type} {a : Option α} : LeO a a := fun _ h => h
theorem leN {α : Type} {a : Option α} : LeO none a := fun _ h => by cases h
theorem leB {α β : Type} {a b : Option α} {f g : α → Option β} (h : LeO a b) (k : ∀ y, LeO (f y) (g y)) : LeO (a >>= f) (b >>= g) := fun r e => by
  cases a with
  | none => cases e
  | some y => rw [h y rfl]; exact k y r e
theorem leI {α : Type} {p : Prop} [Decidable p] {a b c d : Option α} (h : LeO a b) (k : LeO c d) : LeO (if p then a else c) (if p then b else d) := by
  by_cases q : p
  · rw [if_pos q, if_pos q]; exact h
  · rw [if_neg q, if_neg q]; exact k

theorem leY {τ β γ : Type} {q p : τ → β → γ → Option (Bool × (τ × Nat))} (h : ∀ a b c, LeO (q a b c) (p a b c)) : ∀ a b c, LeO (yOf q a b c) (yOf p a b c) := fun a b c => by
  obtain ⟨s, n⟩ := a
  cases n with
  | zero => exact h _ _ _
  | succ n => exact leR
def lattice_name.l0_g : Nat → (a0 : Str) → (v19 : Int) → Option (Bool ⊕ Unit)
  | 0 => fun _ _ => none
  | k + 1 => fun a0 v19 => if v19 < (a0.length : Int) then (((if (0 : Int) ≤ v19 ∧ v19 < (a0.length : Int) then (if sAt a0 v19 < 97 then (some true) else (if (0 : Int) ≤ v19 ∧ v19 < (a0.length : Int) then (some (decide (sAt a0 v19 > 122))) else none)) else none : Option Bool) >>= fun x24 => if x24 = true then (some (.inl false)) else ((lattice_name.l0_g k) a0 (IntKind.i64.wrap (v19 + 1))))) else (some (.inr ()))
theorem lattice_name.l0_le : ∀ (k : Nat) (a0 : Str) (v19 : Int) , LeO (lattice_name.l0_g k a0 v19) (lattice_name.l0 a0 v19) := by
  intro k
  induction k with
  | zero => intros; exact leN
  | succ k ih =>
    intro a0 v19
    rw [lattice_name.l0]
    exact (leI (leB (leI (leI leR (leI leR leR)) leR) (fun x24 => (leI leR (ih _ _)))) leR)
def lattice_name.f_g (k : Nat) (a0 : Str) : Option Bool := ((lattice_name.l0_g k) a0 0 >>= fun o => match o with | .inl r => some r | .inr () => ((if a0 = ([] : Str) then (some false) else (some (decide ((a0.length : Int) ≤ 12))) : Option Bool) >>= fun x30 => some x30))
theorem lattice_name.f_le (k : Nat) (a0 : Str) : LeO (lattice_name.f_g k a0) (lattice_name.f a0) := by
  unfold lattice_name.f_g lattice_name.f
  exact (leB (lattice_name.l0_le k _ _) (fun o => (match o with | .inl r => leR | .inr () => (leB (leI leR leR) (fun x30 => leR)))))
def slices_Index_string_string.l0_g : Nat → (a0 : List Str) → (a1 : Str) → (v7 : Int) → Option (Int ⊕ Unit)
  | 0 => fun _ _ _ => none
  | k + 1 => fun a0 a1 v7 => if v7 < (a0.length : Int) then (lAt a0 v7 >>= fun y9 => if a1 = y9 then (some (.inl v7)) else ((slices_Index_string_string.l0_g k) a0 a1 (IntKind.i64.wrap (v7 + 1)))) else (some (.inr ()))
theorem slices_Index_string_string.l0_le : ∀ (k : Nat) (a0 : List Str) (a1 : Str) (v7 : Int) , LeO (slices_Index_string_string.l0_g k a0 a1 v7) (slices_Index_string_string.l0 a0 a1 v7) := by
  intro k
  induction k with
  | zero => intros; exact leN
  | succ k ih =>
    intro a0 a1 v7
    rw [slices_Index_string_string.l0]
    exact (leI (leB leR (fun y9 => (leI leR (ih _ _ _)))) leR)
def slices_Index_string_string.f_g (k : Nat) (a0 : List Str) (a1 : Str) : Option Int := ((slices_Index_string_string.l0_g k) a0 a1 0 >>= fun o => match o with | .inl r => some r | .inr () => some (-1))
theorem slices_Index_string_string.f_le (k : Nat) (a0 : List Str) (a1 : Str) : LeO (slices_Index_string_string.f_g k a0 a1) (slices_Index_string_string.f a0 a1) := by
  unfold slices_Index_string_string.f_g slices_Index_string_string.f
  exact (leB (slices_Index_string_string.l0_le k _ _ _) (fun o => (match o with | .inl r => leR | .inr () => leR)))
def slices_Contains_string_string.f_g (k : Nat) (a0 : List Str) (a1 : Str) : Option Bool := (slices_Index_string_string.f_g k) a0 a1 >>= fun y1 => some (decide (y1 ≥ 0))
theorem slices_Contains_string_string.f_le (k : Nat) (a0 : List Str) (a1 : Str) : LeO (slices_Contains_string_string.f_g k a0 a1) (slices_Contains_string_string.f a0 a1) := by
  unfold slices_Contains_string_string.f_g slices_Contains_string_string.f
  exact (leB (slices_Index_string_string.f_le k _ _) (fun y1 => leR))
def lattice_may.l0_g : Nat → (a0 : api_Lattice) → (v43 : Int) → Option (Bool ⊕ Unit)
  | 0 => fun _ _ => none
  | k + 1 => fun a0 v43 => if v43 < (a0.Names.length : Int) then (lAt a0.Names v43 >>= fun y45 => (((lattice_name.f_g k) y45 >>= fun y54 => if (!y54) = true then (some true) else (if (0 : Int) ≤ v43 ∧ v43 ≤ (a0.Names.length : Int) then ((slices_Contains_string_string.f_g k) (lCut a0.Names 0 v43) y45 >>= fun y57 => if y57 = true then (some true) else (lAt a0.Up v43 >>= fun y59 => if ¬ (a0.Up.length : Int) < 0 then (some (!decide (bShr .u32 y59 (a0.Up.length : Int) = 0))) else none)) else none) : Option Bool) >>= fun x53 => if x53 = true then (some (.inl false)) else ((lattice_may.l0_g k) a0 (IntKind.i64.wrap (v43 + 1))))) else (some (.inr ()))
theorem lattice_may.l0_le : ∀ (k : Nat) (a0 : api_Lattice) (v43 : Int) , LeO (lattice_may.l0_g k a0 v43) (lattice_may.l0 a0 v43) := by
  intro k
  induction k with
  | zero => intros; exact leN
  | succ k ih =>
    intro a0 v43
    rw [lattice_may.l0]
    exact (leI (leB leR (fun y45 => (leB (leB (lattice_name.f_le k _) (fun y54 => (leI leR (leI (leB (slices_Contains_string_string.f_le k _ _) (fun y57 => (leI leR (leB leR (fun y59 => (leI leR leR)))))) leR)))) (fun x53 => (leI leR (ih _ _)))))) leR)
def lattice_may.f_g (k : Nat) (a0 : api_Lattice) : Option Bool := ((if (a0.Up.length : Int) < 1 then (some true) else (if (a0.Up.length : Int) > 8 then (some true) else (some (!decide ((a0.Names.length : Int) = (a0.Up.length : Int))))) : Option Bool) >>= fun x3 => if x3 = true then (some false) else (((lattice_may.l0_g k) a0 0 >>= fun o => match o with | .inl r => some r | .inr () => some true)))
theorem lattice_may.f_le (k : Nat) (a0 : api_Lattice) : LeO (lattice_may.f_g k a0) (lattice_may.f a0) := by
  unfold lattice_may.f_g lattice_may.f
  exact (leB (leI leR (leI leR leR)) (fun x3 => (leI leR (leB (lattice_may.l0_le k _ _) (fun o => (match o with | .inl r => leR | .inr () => leR))))))
def lattice_pairs_1.l3_g {σ : Type} : Nat → (a_y : σ → Int → Int → Option (Bool × σ)) → (a1 : Int) → (v28 : Int) → (v37 : σ) → (v38 : Int) → Option (σ ⊕ σ)
  | 0 => fun _ _ _ _ _ => none
  | k + 1 => fun a_y a1 v28 v37 v38 => if v38 < a1 then (a_y v37 v28 v38 >>= fun y41 => if (!y41.1) = true then (some (.inl y41.2)) else ((lattice_pairs_1.l3_g k) a_y a1 v28 y41.2 (IntKind.i64.wrap (v38 + 1)))) else (some (.inr v37))
theorem lattice_pairs_1.l3_le {σ : Type} : ∀ (k : Nat) {a_y_ a_y : σ → Int → Int → Option (Bool × σ)} (h_a_y : ∀ q0 q1 q2, LeO (a_y_ q0 q1 q2) (a_y q0 q1 q2)) (a1 : Int) (v28 : Int) (v37 : σ) (v38 : Int) , LeO (lattice_pairs_1.l3_g k a_y_ a1 v28 v37 v38) (lattice_pairs_1.l3 a_y a1 v28 v37 v38) := by
  intro k
  induction k with
  | zero => intros; exact leN
  | succ k ih =>
    intro a_y_ a_y h_a_y a1 v28 v37 v38
    rw [lattice_pairs_1.l3]
    exact (leI (leB (h_a_y _ _ _) (fun y41 => (leI leR (ih h_a_y _ _ _ _)))) leR)
def lattice_pairs_1.l2_g {σ : Type} : Nat → (a_y : σ → Int → Int → Option (Bool × σ)) → (a1 : Int) → (v27 : σ) → (v28 : Int) → Option (σ ⊕ σ)
  | 0 => fun _ _ _ _ => none
  | k + 1 => fun a_y a1 v27 v28 => if v28 < a1 then (((lattice_pairs_1.l3_g k) a_y a1 v28 v27 0 >>= fun o => match o with | .inl r => some (.inl r) | .inr x39 => (lattice_pairs_1.l2_g k) a_y a1 x39 (IntKind.i64.wrap (v28 + 1)))) else (some (.inr v27))
theorem lattice_pairs_1.l2_le {σ : Type} : ∀ (k : Nat) {a_y_ a_y : σ → Int → Int → Option (Bool × σ)} (h_a_y : ∀ q0 q1 q2, LeO (a_y_ q0 q1 q2) (a_y q0 q1 q2)) (a1 : Int) (v27 : σ) (v28 : Int) , LeO (lattice_pairs_1.l2_g k a_y_ a1 v27 v28) (lattice_pairs_1.l2 a_y a1 v27 v28) := by
  intro k
  induction k with
  | zero => intros; exact leN
  | succ k ih =>
    intro a_y_ a_y h_a_y a1 v27 v28
    rw [lattice_pairs_1.l2]
    exact (leI (leB (lattice_pairs_1.l3_le k h_a_y _ _ _ _) (fun o => (match o with | .inl r => leR | .inr x39 => (ih h_a_y _ _ _)))) leR)
def lattice_pairs_1.f_g (k : Nat) {σ : Type} (a_y : σ → Int → Int → Option (Bool × σ)) (a_s : σ) (a1 : Int) : Option σ := ((lattice_pairs_1.l2_g k) a_y a1 a_s 0 >>= fun o => match o with | .inl r => some r | .inr x29 => some x29)
theorem lattice_pairs_1.f_le {σ : Type} (k : Nat) {a_y_ a_y : σ → Int → Int → Option (Bool × σ)} (h_a_y : ∀ q0 q1 q2, LeO (a_y_ q0 q1 q2) (a_y q0 q1 q2)) (a_s : σ) (a1 : Int) : LeO (lattice_pairs_1.f_g k a_y_ a_s a1) (lattice_pairs_1.f a_y a_s a1) := by
  unfold lattice_pairs_1.f_g lattice_pairs_1.f
  exact (leB (lattice_pairs_1.l2_le k h_a_y _ _ _) (fun o => (match o with | .inl r => leR | .inr x29 => leR)))
def lattice_order.f_g (k : Nat) (a0 : api_Lattice) : Option Bool := lattice_pairs.f (a0.Up.length : Int) >>= fun y1 => ((lattice_pairs_1.f_g k) (yOf (lattice_order.y0 a0)) ((), 0) y1 >>= fun y53 => if y53.2 = 0 then (some true) else if y53.2 = 1 then (some false) else none)
theorem lattice_order.f_le (k : Nat) (a0 : api_Lattice) : LeO (lattice_order.f_g k a0) (lattice_order.f a0) := by
  unfold lattice_order.f_g lattice_order.f
  exact (leB leR (fun y1 => (leB (lattice_pairs_1.f_le k (leY (fun _ _ _ => leR)) _ _) (fun y53 => (leI leR (leI leR leR))))))
def slices_IndexFunc_uint32_uint32.l0_g : Nat → (a0 : List Int) → (a1 : Int → Option Bool) → (v9 : Int) → Option (Int ⊕ Unit)
  | 0 => fun _ _ _ => none
  | k + 1 => fun a0 a1 v9 => if v9 < (a0.length : Int) then (lAt a0 v9 >>= fun y11 => a1 y11 >>= fun y12 => if y12 = true then (some (.inl v9)) else ((slices_IndexFunc_uint32_uint32.l0_g k) a0 a1 (IntKind.i64.wrap (v9 + 1)))) else (some (.inr ()))
theorem slices_IndexFunc_uint32_uint32.l0_le : ∀ (k : Nat) {a1_ a1 : Int → Option Bool} (h_a1 : ∀ q0, LeO (a1_ q0) (a1 q0)) (a0 : List Int) (v9 : Int) , LeO (slices_IndexFunc_uint32_uint32.l0_g k a0 a1_ v9) (slices_IndexFunc_uint32_uint32.l0 a0 a1 v9) := by
  intro k
  induction k with
  | zero => intros; exact leN
  | succ k ih =>
    intro a1_ a1 h_a1 a0 v9
    rw [slices_IndexFunc_uint32_uint32.l0]
    exact (leI (leB leR (fun y11 => (leB (h_a1 _) (fun y12 => (leI leR (ih h_a1 _ _)))))) leR)
def slices_IndexFunc_uint32_uint32.f_g (k : Nat) (a0 : List Int) (a1 : Int → Option Bool) : Option Int := ((slices_IndexFunc_uint32_uint32.l0_g k) a0 a1 0 >>= fun o => match o with | .inl r => some r | .inr () => some (-1))
theorem slices_IndexFunc_uint32_uint32.f_le (k : Nat) {a1_ a1 : Int → Option Bool} (h_a1 : ∀ q0, LeO (a1_ q0) (a1 q0)) (a0 : List Int) : LeO (slices_IndexFunc_uint32_uint32.f_g k a0 a1_) (slices_IndexFunc_uint32_uint32.f a0 a1) := by
  unfold slices_IndexFunc_uint32_uint32.f_g slices_IndexFunc_uint32_uint32.f
  exact (leB (slices_IndexFunc_uint32_uint32.l0_le k h_a1 _ _) (fun o => (match o with | .inl r => leR | .inr () => leR)))
def lattice_join.f_g (k : Nat) (a0 : api_Lattice) (a1 : Int) (a2 : Int) : Option Int := lAt a0.Up a1 >>= fun y1 => lAt a0.Up a2 >>= fun y2 => (slices_IndexFunc_uint32_uint32.f_g k) a0.Up (fun z0 => lattice_join_1.f z0 (bAnd .u32 y1 y2)) >>= fun y3 => some y3
theorem lattice_join.f_le (k : Nat) (a0 : api_Lattice) (a1 : Int) (a2 : Int) : LeO (lattice_join.f_g k a0 a1 a2) (lattice_join.f a0 a1 a2) := by
  unfold lattice_join.f_g lattice_join.f
  exact (leB leR (fun y1 => (leB leR (fun y2 => (leB (slices_IndexFunc_uint32_uint32.f_le k (fun z0 => leR) _) (fun y3 => leR))))))
def lattice_down.l0_g : Nat → (a0 : api_Lattice) → (a1 : Int) → (v8 : Int) → (v9 : Int) → Option Int
  | 0 => fun _ _ _ _ => none
  | k + 1 => fun a0 a1 v8 v9 => if v8 < (a0.Up.length : Int) then (lAt a0.Up v8 >>= fun y12 => if ¬ a1 < 0 then (if ¬ v8 < 0 then ((lattice_down.l0_g k) a0 a1 (IntKind.i64.wrap (v8 + 1)) (bOr .u32 v9 (bShl .u32 (bAnd .u32 (bShr .u32 y12 a1) 1) v8))) else none) else none) else (some v9)
theorem lattice_down.l0_le : ∀ (k : Nat) (a0 : api_Lattice) (a1 : Int) (v8 : Int) (v9 : Int) , LeO (lattice_down.l0_g k a0 a1 v8 v9) (lattice_down.l0 a0 a1 v8 v9) := by
  intro k
  induction k with
  | zero => intros; exact leN
  | succ k ih =>
    intro a0 a1 v8 v9
    rw [lattice_down.l0]
    exact (leI (leB leR (fun y12 => (leI (leI (ih _ _ _ _) leR) leR))) leR)
def lattice_down.f_g (k : Nat) (a0 : api_Lattice) (a1 : Int) : Option Int := ((lattice_down.l0_g k) a0 a1 0 0 >>= fun x10 => some x10)
theorem lattice_down.f_le (k : Nat) (a0 : api_Lattice) (a1 : Int) : LeO (lattice_down.f_g k a0 a1) (lattice_down.f a0 a1) := by
  unfold lattice_down.f_g lattice_down.f
  exact (leB (lattice_down.l0_le k _ _ _ _) (fun x10 => leR))
def lattice_meet.l0_g : Nat → (a0 : api_Lattice) → (y1 : Int) → (y2 : Int) → (v9 : Int) → Option (Int ⊕ Unit)
  | 0 => fun _ _ _ _ => none
  | k + 1 => fun a0 y1 y2 v9 => if v9 < (a0.Up.length : Int) then ((lattice_down.f_g k) a0 v9 >>= fun y11 => if y11 = bAnd .u32 y1 y2 then (some (.inl v9)) else ((lattice_meet.l0_g k) a0 y1 y2 (IntKind.i64.wrap (v9 + 1)))) else (some (.inr ()))
theorem lattice_meet.l0_le : ∀ (k : Nat) (a0 : api_Lattice) (y1 : Int) (y2 : Int) (v9 : Int) , LeO (lattice_meet.l0_g k a0 y1 y2 v9) (lattice_meet.l0 a0 y1 y2 v9) := by
  intro k
  induction k with
  | zero => intros; exact leN
  | succ k ih =>
    intro a0 y1 y2 v9
    rw [lattice_meet.l0]
    exact (leI (leB (lattice_down.f_le k _ _) (fun y11 => (leI leR (ih _ _ _ _)))) leR)
def lattice_meet.f_g (k : Nat) (a0 : api_Lattice) (a1 : Int) (a2 : Int) : Option Int := (lattice_down.f_g k) a0 a1 >>= fun y1 => (lattice_down.f_g k) a0 a2 >>= fun y2 => ((lattice_meet.l0_g k) a0 y1 y2 0 >>= fun o => match o with | .inl r => some r | .inr () => some (-1))
theorem lattice_meet.f_le (k : Nat) (a0 : api_Lattice) (a1 : Int) (a2 : Int) : LeO (lattice_meet.f_g k a0 a1 a2) (lattice_meet.f a0 a1 a2) := by
  unfold lattice_meet.f_g lattice_meet.f
  exact (leB (lattice_down.f_le k _ _) (fun y1 => (leB (lattice_down.f_le k _ _) (fun y2 => (leB (lattice_meet.l0_le k _ _ _ _) (fun o => (match o with | .inl r => leR | .inr () => leR)))))))
def lattice_Check.y0_g (k : Nat) (a0 : api_Lattice) (v22 : Int) (v23 : Int) (v24 : Int) : Option (Bool × ((Int) × Nat)) := (((lattice_join.f_g k) a0 v23 v24 >>= fun y29 => if y29 < 0 then (some true) else ((lattice_meet.f_g k) a0 v23 v24 >>= fun y31 => some (decide (y31 < 0))) : Option Bool) >>= fun x28 => if x28 = true then (some (false, (3, 1))) else (some (true, (v22, 0))))
theorem lattice_Check.y0_le (k : Nat) (a0 : api_Lattice) (v22 : Int) (v23 : Int) (v24 : Int) : LeO (lattice_Check.y0_g k a0 v22 v23 v24) (lattice_Check.y0 a0 v22 v23 v24) := by
  unfold lattice_Check.y0_g lattice_Check.y0
  exact (leB (leB (lattice_join.f_le k _ _ _) (fun y29 => (leI leR (leB (lattice_meet.f_le k _ _ _) (fun y31 => leR))))) (fun x28 => (leI leR leR)))
def lattice_Check.f_g (k : Nat) (a0 : api_Lattice) : Option Int := (lattice_may.f_g k) a0 >>= fun y1 => if (!y1) = true then (some 1) else ((lattice_order.f_g k) a0 >>= fun y3 => if (!y3) = true then (some 2) else (lattice_pairs.f (a0.Up.length : Int) >>= fun y5 => ((lattice_pairs_1.f_g k) (yOf ((lattice_Check.y0_g k) a0)) (0, 0) y5 >>= fun y33 => if y33.2 = 0 then (some 0) else if y33.2 = 1 then (some y33.1) else none)))
theorem lattice_Check.f_le (k : Nat) (a0 : api_Lattice) : LeO (lattice_Check.f_g k a0) (lattice_Check.f a0) := by
  unfold lattice_Check.f_g lattice_Check.f
  exact (leB (lattice_may.f_le k _) (fun y1 => (leI leR (leB (lattice_order.f_le k _) (fun y3 => (leI leR (leB leR (fun y5 => (leB (lattice_pairs_1.f_le k (leY (lattice_Check.y0_le k _)) _ _) (fun y33 => (leI leR (leI leR leR))))))))))))
def slices_IndexFunc_api_Instr_api_Instr.l0_g : Nat → (a0 : List api_Instr) → (a1 : api_Instr → Option Bool) → (v9 : Int) → Option (Int ⊕ Unit)
  | 0 => fun _ _ _ => none
  | k + 1 => fun a0 a1 v9 => if v9 < (a0.length : Int) then (lAt a0 v9 >>= fun y11 => a1 y11 >>= fun y12 => if y12 = true then (some (.inl v9)) else ((slices_IndexFunc_api_Instr_api_Instr.l0_g k) a0 a1 (IntKind.i64.wrap (v9 + 1)))) else (some (.inr ()))
theorem slices_IndexFunc_api_Instr_api_Instr.l0_le : ∀ (k : Nat) {a1_ a1 : api_Instr → Option Bool} (h_a1 : ∀ q0, LeO (a1_ q0) (a1 q0)) (a0 : List api_Instr) (v9 : Int) , LeO (slices_IndexFunc_api_Instr_api_Instr.l0_g k a0 a1_ v9) (slices_IndexFunc_api_Instr_api_Instr.l0 a0 a1 v9) := by
  intro k
  induction k with
  | zero => intros; exact leN
  | succ k ih =>
    intro a1_ a1 h_a1 a0 v9
    rw [slices_IndexFunc_api_Instr_api_Instr.l0]
    exact (leI (leB leR (fun y11 => (leB (h_a1 _) (fun y12 => (leI leR (ih h_a1 _ _)))))) leR)
def slices_IndexFunc_api_Instr_api_Instr.f_g (k : Nat) (a0 : List api_Instr) (a1 : api_Instr → Option Bool) : Option Int := ((slices_IndexFunc_api_Instr_api_Instr.l0_g k) a0 a1 0 >>= fun o => match o with | .inl r => some r | .inr () => some (-1))
theorem slices_IndexFunc_api_Instr_api_Instr.f_le (k : Nat) {a1_ a1 : api_Instr → Option Bool} (h_a1 : ∀ q0, LeO (a1_ q0) (a1 q0)) (a0 : List api_Instr) : LeO (slices_IndexFunc_api_Instr_api_Instr.f_g k a0 a1_) (slices_IndexFunc_api_Instr_api_Instr.f a0 a1) := by
  unfold slices_IndexFunc_api_Instr_api_Instr.f_g slices_IndexFunc_api_Instr_api_Instr.f
  exact (leB (slices_IndexFunc_api_Instr_api_Instr.l0_le k h_a1 _ _) (fun o => (match o with | .inl r => leR | .inr () => leR)))
def slices_ContainsFunc_api_Instr_api_Instr.f_g (k : Nat) (a0 : List api_Instr) (a1 : api_Instr → Option Bool) : Option Bool := (slices_IndexFunc_api_Instr_api_Instr.f_g k) a0 a1 >>= fun y1 => some (decide (y1 ≥ 0))
theorem slices_ContainsFunc_api_Instr_api_Instr.f_le (k : Nat) {a1_ a1 : api_Instr → Option Bool} (h_a1 : ∀ q0, LeO (a1_ q0) (a1 q0)) (a0 : List api_Instr) : LeO (slices_ContainsFunc_api_Instr_api_Instr.f_g k a0 a1_) (slices_ContainsFunc_api_Instr_api_Instr.f a0 a1) := by
  unfold slices_ContainsFunc_api_Instr_api_Instr.f_g slices_ContainsFunc_api_Instr_api_Instr.f
  exact (leB (slices_IndexFunc_api_Instr_api_Instr.f_le k h_a1 _) (fun y1 => leR))
def code_Right.f_g (k : Nat) (a0 : api_Lattice) (a1 : List api_Instr) : Option Bool := (((lattice_Check.f_g k) a0 >>= fun y6 => if y6 = 0 then (if (a1.length : Int) ≤ 12 then ((slices_ContainsFunc_api_Instr_api_Instr.f_g k) a1 (fun z0 => code_Right_1.f z0 a0) >>= fun y9 => some (!y9)) else (some false)) else (some false) : Option Bool) >>= fun x5 => some x5)
theorem code_Right.f_le (k : Nat) (a0 : api_Lattice) (a1 : List api_Instr) : LeO (code_Right.f_g k a0 a1) (code_Right.f a0 a1) := by
  unfold code_Right.f_g code_Right.f
  exact (leB (leB (lattice_Check.f_le k _) (fun y6 => (leI (leI (leB (slices_ContainsFunc_api_Instr_api_Instr.f_le k (fun z0 => leR) _) (fun y9 => leR)) leR) leR))) (fun x5 => leR))
def slices_IndexFunc_api_Atom_api_Atom.l0_g : Nat → (a0 : List api_Atom) → (a1 : api_Atom → Option Bool) → (v9 : Int) → Option (Int ⊕ Unit)
  | 0 => fun _ _ _ => none
  | k + 1 => fun a0 a1 v9 => if v9 < (a0.length : Int) then (lAt a0 v9 >>= fun y11 => a1 y11 >>= fun y12 => if y12 = true then (some (.inl v9)) else ((slices_IndexFunc_api_Atom_api_Atom.l0_g k) a0 a1 (IntKind.i64.wrap (v9 + 1)))) else (some (.inr ()))
theorem slices_IndexFunc_api_Atom_api_Atom.l0_le : ∀ (k : Nat) {a1_ a1 : api_Atom → Option Bool} (h_a1 : ∀ q0, LeO (a1_ q0) (a1 q0)) (a0 : List api_Atom) (v9 : Int) , LeO (slices_IndexFunc_api_Atom_api_Atom.l0_g k a0 a1_ v9) (slices_IndexFunc_api_Atom_api_Atom.l0 a0 a1 v9) := by
  intro k
  induction k with
  | zero => intros; exact leN
  | succ k ih =>
    intro a1_ a1 h_a1 a0 v9
    rw [slices_IndexFunc_api_Atom_api_Atom.l0]
    exact (leI (leB leR (fun y11 => (leB (h_a1 _) (fun y12 => (leI leR (ih h_a1 _ _)))))) leR)
def slices_IndexFunc_api_Atom_api_Atom.f_g (k : Nat) (a0 : List api_Atom) (a1 : api_Atom → Option Bool) : Option Int := ((slices_IndexFunc_api_Atom_api_Atom.l0_g k) a0 a1 0 >>= fun o => match o with | .inl r => some r | .inr () => some (-1))
theorem slices_IndexFunc_api_Atom_api_Atom.f_le (k : Nat) {a1_ a1 : api_Atom → Option Bool} (h_a1 : ∀ q0, LeO (a1_ q0) (a1 q0)) (a0 : List api_Atom) : LeO (slices_IndexFunc_api_Atom_api_Atom.f_g k a0 a1_) (slices_IndexFunc_api_Atom_api_Atom.f a0 a1) := by
  unfold slices_IndexFunc_api_Atom_api_Atom.f_g slices_IndexFunc_api_Atom_api_Atom.f
  exact (leB (slices_IndexFunc_api_Atom_api_Atom.l0_le k h_a1 _ _) (fun o => (match o with | .inl r => leR | .inr () => leR)))
def slices_ContainsFunc_api_Atom_api_Atom.f_g (k : Nat) (a0 : List api_Atom) (a1 : api_Atom → Option Bool) : Option Bool := (slices_IndexFunc_api_Atom_api_Atom.f_g k) a0 a1 >>= fun y1 => some (decide (y1 ≥ 0))
theorem slices_ContainsFunc_api_Atom_api_Atom.f_le (k : Nat) {a1_ a1 : api_Atom → Option Bool} (h_a1 : ∀ q0, LeO (a1_ q0) (a1 q0)) (a0 : List api_Atom) : LeO (slices_ContainsFunc_api_Atom_api_Atom.f_g k a0 a1_) (slices_ContainsFunc_api_Atom_api_Atom.f a0 a1) := by
  unfold slices_ContainsFunc_api_Atom_api_Atom.f_g slices_ContainsFunc_api_Atom_api_Atom.f
  exact (leB (slices_IndexFunc_api_Atom_api_Atom.f_le k h_a1 _) (fun y1 => leR))
def slices_IndexFunc_api_Slot_api_Slot.l0_g : Nat → (a0 : List api_Slot) → (a1 : api_Slot → Option Bool) → (v9 : Int) → Option (Int ⊕ Unit)
  | 0 => fun _ _ _ => none
  | k + 1 => fun a0 a1 v9 => if v9 < (a0.length : Int) then (lAt a0 v9 >>= fun y11 => a1 y11 >>= fun y12 => if y12 = true then (some (.inl v9)) else ((slices_IndexFunc_api_Slot_api_Slot.l0_g k) a0 a1 (IntKind.i64.wrap (v9 + 1)))) else (some (.inr ()))
theorem slices_IndexFunc_api_Slot_api_Slot.l0_le : ∀ (k : Nat) {a1_ a1 : api_Slot → Option Bool} (h_a1 : ∀ q0, LeO (a1_ q0) (a1 q0)) (a0 : List api_Slot) (v9 : Int) , LeO (slices_IndexFunc_api_Slot_api_Slot.l0_g k a0 a1_ v9) (slices_IndexFunc_api_Slot_api_Slot.l0 a0 a1 v9) := by
  intro k
  induction k with
  | zero => intros; exact leN
  | succ k ih =>
    intro a1_ a1 h_a1 a0 v9
    rw [slices_IndexFunc_api_Slot_api_Slot.l0]
    exact (leI (leB leR (fun y11 => (leB (h_a1 _) (fun y12 => (leI leR (ih h_a1 _ _)))))) leR)
def slices_IndexFunc_api_Slot_api_Slot.f_g (k : Nat) (a0 : List api_Slot) (a1 : api_Slot → Option Bool) : Option Int := ((slices_IndexFunc_api_Slot_api_Slot.l0_g k) a0 a1 0 >>= fun o => match o with | .inl r => some r | .inr () => some (-1))
theorem slices_IndexFunc_api_Slot_api_Slot.f_le (k : Nat) {a1_ a1 : api_Slot → Option Bool} (h_a1 : ∀ q0, LeO (a1_ q0) (a1 q0)) (a0 : List api_Slot) : LeO (slices_IndexFunc_api_Slot_api_Slot.f_g k a0 a1_) (slices_IndexFunc_api_Slot_api_Slot.f a0 a1) := by
  unfold slices_IndexFunc_api_Slot_api_Slot.f_g slices_IndexFunc_api_Slot_api_Slot.f
  exact (leB (slices_IndexFunc_api_Slot_api_Slot.l0_le k h_a1 _ _) (fun o => (match o with | .inl r => leR | .inr () => leR)))
def slices_ContainsFunc_api_Slot_api_Slot.f_g (k : Nat) (a0 : List api_Slot) (a1 : api_Slot → Option Bool) : Option Bool := (slices_IndexFunc_api_Slot_api_Slot.f_g k) a0 a1 >>= fun y1 => some (decide (y1 ≥ 0))
theorem slices_ContainsFunc_api_Slot_api_Slot.f_le (k : Nat) {a1_ a1 : api_Slot → Option Bool} (h_a1 : ∀ q0, LeO (a1_ q0) (a1 q0)) (a0 : List api_Slot) : LeO (slices_ContainsFunc_api_Slot_api_Slot.f_g k a0 a1_) (slices_ContainsFunc_api_Slot_api_Slot.f a0 a1) := by
  unfold slices_ContainsFunc_api_Slot_api_Slot.f_g slices_ContainsFunc_api_Slot_api_Slot.f
  exact (leB (slices_IndexFunc_api_Slot_api_Slot.f_le k h_a1 _) (fun y1 => leR))
def state_Right.f_g (k : Nat) (a0 : api_Lattice) (a1 : api_State) : Option Bool := ((if (a1.Mem.length : Int) ≤ 6 then (if (a1.Stack.length : Int) ≤ 12 then (some (decide ((a1.Out.length : Int) ≤ 8))) else (some false)) else (some false) : Option Bool) >>= fun x3 => (((code_Right.f_g k) a0 a1.Code >>= fun y20 => if y20 = true then (state_place.f a1.Pc.V >>= fun y22 => if y22 = true then ((some (fun z0 => state_Right_1.f z0 a0)) >>= fun y24 => y24 a1.Pc.L >>= fun y25 => if y25 = true then (if x3 = true then ((slices_ContainsFunc_api_Atom_api_Atom.f_g k) a1.Mem (fun z0 => state_Right_2.f z0 (some (fun z0 => state_Right_1.f z0 a0))) >>= fun y28 => if (!y28) = true then ((slices_ContainsFunc_api_Slot_api_Slot.f_g k) a1.Stack (fun z0 => state_Right_3.f z0 (some (fun z0 => state_Right_1.f z0 a0))) >>= fun y30 => if (!y30) = true then ((slices_ContainsFunc_api_Atom_api_Atom.f_g k) a1.Out (fun z0 => state_Right_2.f z0 (some (fun z0 => state_Right_1.f z0 a0))) >>= fun y32 => some (!y32)) else (some false)) else (some false)) else (some false)) else (some false)) else (some false)) else (some false) : Option Bool) >>= fun x19 => some x19))
theorem state_Right.f_le (k : Nat) (a0 : api_Lattice) (a1 : api_State) : LeO (state_Right.f_g k a0 a1) (state_Right.f a0 a1) := by
  unfold state_Right.f_g state_Right.f
  exact (leB (leI (leI leR leR) leR) (fun x3 => (leB (leB (code_Right.f_le k _ _) (fun y20 => (leI (leB leR (fun y22 => (leI (leB leR (fun y24 => (leB leR (fun y25 => (leI (leI (leB (slices_ContainsFunc_api_Atom_api_Atom.f_le k (fun z0 => leR) _) (fun y28 => (leI (leB (slices_ContainsFunc_api_Slot_api_Slot.f_le k (fun z0 => leR) _) (fun y30 => (leI (leB (slices_ContainsFunc_api_Atom_api_Atom.f_le k (fun z0 => leR) _) (fun y32 => leR)) leR))) leR))) leR) leR))))) leR))) leR))) (fun x19 => leR))))
def lex_while.l0_g : Nat → (a0 : Str) → (a1 : Int → Option Bool) → (v17 : Int) → Option Int
  | 0 => fun _ _ _ => none
  | k + 1 => fun a0 a1 v17 => ((if v17 < (a0.length : Int) then (if (0 : Int) ≤ v17 ∧ v17 < (a0.length : Int) then (a1 (sAt a0 v17) >>= fun y25 => some y25) else none) else (some false) : Option Bool) >>= fun x22 => if x22 = true then ((lex_while.l0_g k) a0 a1 (IntKind.i64.wrap (v17 + 1))) else (some v17))
theorem lex_while.l0_le : ∀ (k : Nat) {a1_ a1 : Int → Option Bool} (h_a1 : ∀ q0, LeO (a1_ q0) (a1 q0)) (a0 : Str) (v17 : Int) , LeO (lex_while.l0_g k a0 a1_ v17) (lex_while.l0 a0 a1 v17) := by
  intro k
  induction k with
  | zero => intros; exact leN
  | succ k ih =>
    intro a1_ a1 h_a1 a0 v17
    rw [lex_while.l0]
    exact (leB (leI (leI (leB (h_a1 _) (fun y25 => leR)) leR) leR) (fun x22 => (leI (ih h_a1 _ _) leR)))
def lex_while.f_g (k : Nat) (a0 : Str) (a1 : Int → Option Bool) : Option Int := ((lex_while.l0_g k) a0 a1 0 >>= fun x18 => some x18)
theorem lex_while.f_le (k : Nat) {a1_ a1 : Int → Option Bool} (h_a1 : ∀ q0, LeO (a1_ q0) (a1 q0)) (a0 : Str) : LeO (lex_while.f_g k a0 a1_) (lex_while.f a0 a1) := by
  unfold lex_while.f_g lex_while.f
  exact (leB (lex_while.l0_le k h_a1 _ _) (fun x18 => leR))
def lex_token.f_g (k : Nat) (a0 : Str) : Option (Int × Int) := if (0 : Int) ≤ 0 ∧ 0 < (a0.length : Int) then (((if sAt a0 0 = 32 then (some true) else (if sAt a0 0 = 9 then (some true) else (some (decide (sAt a0 0 = 10)))) : Option Bool) >>= fun x4 => if x4 = true then (some (0, 1)) else (if sAt a0 0 = 35 then ((lex_while.f_g k) a0 lex_token_1.f >>= fun y9 => some (0, y9)) else (lex_letter.f (sAt a0 0) >>= fun y10 => if y10 = true then ((lex_while.f_g k) a0 lex_letter.f >>= fun y12 => some (1, y12)) else (lex_digit.f (sAt a0 0) >>= fun y13 => if y13 = true then ((lex_while.f_g k) a0 lex_digit.f >>= fun y15 => some (2, y15)) else (strings_HasPrefix.f a0 ([60, 61] : Str) >>= fun y16 => if y16 = true then (some (3, 2)) else (lib_IndexByte ([40, 41, 91, 93, 59, 58, 44, 60, 62, 64, 45, 61] : Str) (sAt a0 0) >>= fun y18 => if y18 ≥ 0 then (some (3, 1)) else (some (0, 0))))))))) else none
theorem lex_token.f_le (k : Nat) (a0 : Str) : LeO (lex_token.f_g k a0) (lex_token.f a0) := by
  unfold lex_token.f_g lex_token.f
  exact (leI (leB (leI leR (leI leR leR)) (fun x4 => (leI leR (leI (leB (lex_while.f_le k (fun _ => leR) _) (fun y9 => leR)) (leB leR (fun y10 => (leI (leB (lex_while.f_le k (fun _ => leR) _) (fun y12 => leR)) (leB leR (fun y13 => (leI (leB (lex_while.f_le k (fun _ => leR) _) (fun y15 => leR)) (leB leR (fun y16 => (leI leR (leB leR (fun y18 => (leI leR leR)))))))))))))))) leR)
def lex_Lex.l0_g : Nat → (a0 : Str) → (v32 : List api_Tok) → (v33 : Int) → Option (((List api_Tok) × Int × Int) ⊕ (List api_Tok))
  | 0 => fun _ _ _ => none
  | k + 1 => fun a0 v32 v33 => if v33 < (a0.length : Int) then (((if (0 : Int) ≤ v33 ∧ v33 ≤ (a0.length : Int) then ((lex_token.f_g k) (sCut a0 v33 (a0.length : Int)) >>= fun y45 => if y45.2 = 0 then (some (.inl (([] : List api_Tok), v33, 4))) else (if y45.1 = 0 then (some (.inr (v32, IntKind.i64.wrap (v33 + y45.2)))) else (if (0 : Int) ≤ v33 ∧ v33 ≤ IntKind.i64.wrap (v33 + y45.2) ∧ IntKind.i64.wrap (v33 + y45.2) ≤ (a0.length : Int) then (if (v32.length + ([(⟨y45.1, sCut a0 v33 (IntKind.i64.wrap (v33 + y45.2)), v33⟩ : api_Tok)] : List api_Tok).length) * 32 ≤ big then (some (.inr (v32 ++ ([(⟨y45.1, sCut a0 v33 (IntKind.i64.wrap (v33 + y45.2)), v33⟩ : api_Tok)] : List api_Tok), IntKind.i64.wrap (v33 + y45.2)))) else none) else none))) else none : Option (((List api_Tok) × Int × Int) ⊕ ((List api_Tok) × Int))) >>= fun o => match o with | .inl r => some (.inl r) | .inr (x42, x43) => (lex_Lex.l0_g k) a0 x42 x43)) else (some (.inr v32))
theorem lex_Lex.l0_le : ∀ (k : Nat) (a0 : Str) (v32 : List api_Tok) (v33 : Int) , LeO (lex_Lex.l0_g k a0 v32 v33) (lex_Lex.l0 a0 v32 v33) := by
  intro k
  induction k with
  | zero => intros; exact leN
  | succ k ih =>
    intro a0 v32 v33
    rw [lex_Lex.l0]
    exact (leI (leB (leI (leB (lex_token.f_le k _) (fun y45 => (leI leR (leI leR (leI (leI leR leR) leR))))) leR) (fun o => (match o with | .inl r => leR | .inr (x42, x43) => (ih _ _ _)))) leR)
def lex_Lex.f_g (k : Nat) (a0 : Str) : Option ((List api_Tok) × Int × Int) := if (a0.length : Int) > 2000 then (some (([] : List api_Tok), 0, 8)) else (((lex_Lex.l0_g k) a0 ([] : List api_Tok) 0 >>= fun o => match o with | .inl r => some r | .inr x34 => if (x34.length + ([(⟨0, [], (a0.length : Int)⟩ : api_Tok)] : List api_Tok).length) * 32 ≤ big then (if ((x34 ++ ([(⟨0, [], (a0.length : Int)⟩ : api_Tok)] : List api_Tok)).length : Int) > 200 then (some (([] : List api_Tok), 0, 8)) else (some (x34 ++ ([(⟨0, [], (a0.length : Int)⟩ : api_Tok)] : List api_Tok), 0, 0))) else none))
theorem lex_Lex.f_le (k : Nat) (a0 : Str) : LeO (lex_Lex.f_g k a0) (lex_Lex.f a0) := by
  unfold lex_Lex.f_g lex_Lex.f
  exact (leI leR (leB (lex_Lex.l0_le k _ _ _) (fun o => (match o with | .inl r => leR | .inr x34 => (leI (leI leR leR) leR)))))
def state_reader_number.l0_g : Nat → (y6 : state_reader × Str) → (v12 : Int) → (v13 : Int) → Option Int
  | 0 => fun _ _ _ => none
  | k + 1 => fun y6 v12 v13 => if v12 < ((u8s y6.2).length : Int) then (lAt (u8s y6.2) v12 >>= fun y16 => (state_reader_number.l0_g k) y6 (IntKind.i64.wrap (v12 + 1)) (IntKind.i64.wrap ((IntKind.i64.wrap (10 * v13)) + (IntKind.i64.wrap (bAnd .u8 y16 15))))) else (some v13)
theorem state_reader_number.l0_le : ∀ (k : Nat) (y6 : state_reader × Str) (v12 : Int) (v13 : Int) , LeO (state_reader_number.l0_g k y6 v12 v13) (state_reader_number.l0 y6 v12 v13) := by
  intro k
  induction k with
  | zero => intros; exact leN
  | succ k ih =>
    intro y6 v12 v13
    rw [state_reader_number.l0]
    exact (leI (leB leR (fun y16 => (ih _ _ _))) leR)
def state_reader_number.l1_g : Nat → (y17 : state_reader × Str) → (v23 : Int) → (v24 : Int) → Option Int
  | 0 => fun _ _ _ => none
  | k + 1 => fun y17 v23 v24 => if v23 < ((u8s y17.2).length : Int) then (lAt (u8s y17.2) v23 >>= fun y27 => (state_reader_number.l1_g k) y17 (IntKind.i64.wrap (v23 + 1)) (IntKind.i64.wrap ((IntKind.i64.wrap (10 * v24)) + (IntKind.i64.wrap (bAnd .u8 y27 15))))) else (some v24)
theorem state_reader_number.l1_le : ∀ (k : Nat) (y17 : state_reader × Str) (v23 : Int) (v24 : Int) , LeO (state_reader_number.l1_g k y17 v23 v24) (state_reader_number.l1 y17 v23 v24) := by
  intro k
  induction k with
  | zero => intros; exact leN
  | succ k ih =>
    intro y17 v23 v24
    rw [state_reader_number.l1]
    exact (leI (leB leR (fun y27 => (ih _ _ _))) leR)
def state_reader_number.l2_g : Nat → (y31 : state_reader × Str) → (v37 : Int) → (v38 : Int) → Option Int
  | 0 => fun _ _ _ => none
  | k + 1 => fun y31 v37 v38 => if v37 < ((u8s y31.2).length : Int) then (lAt (u8s y31.2) v37 >>= fun y41 => (state_reader_number.l2_g k) y31 (IntKind.i64.wrap (v37 + 1)) (IntKind.i64.wrap ((IntKind.i64.wrap (10 * v38)) + (IntKind.i64.wrap (bAnd .u8 y41 15))))) else (some v38)
theorem state_reader_number.l2_le : ∀ (k : Nat) (y31 : state_reader × Str) (v37 : Int) (v38 : Int) , LeO (state_reader_number.l2_g k y31 v37 v38) (state_reader_number.l2 y31 v37 v38) := by
  intro k
  induction k with
  | zero => intros; exact leN
  | succ k ih =>
    intro y31 v37 v38
    rw [state_reader_number.l2]
    exact (leI (leB leR (fun y41 => (ih _ _ _))) leR)
def state_reader_number.l3_g : Nat → (y42 : state_reader × Str) → (v48 : Int) → (v49 : Int) → Option Int
  | 0 => fun _ _ _ => none
  | k + 1 => fun y42 v48 v49 => if v48 < ((u8s y42.2).length : Int) then (lAt (u8s y42.2) v48 >>= fun y52 => (state_reader_number.l3_g k) y42 (IntKind.i64.wrap (v48 + 1)) (IntKind.i64.wrap ((IntKind.i64.wrap (10 * v49)) + (IntKind.i64.wrap (bAnd .u8 y52 15))))) else (some v49)
theorem state_reader_number.l3_le : ∀ (k : Nat) (y42 : state_reader × Str) (v48 : Int) (v49 : Int) , LeO (state_reader_number.l3_g k y42 v48 v49) (state_reader_number.l3 y42 v48 v49) := by
  intro k
  induction k with
  | zero => intros; exact leN
  | succ k ih =>
    intro y42 v48 v49
    rw [state_reader_number.l3]
    exact (leI (leB leR (fun y52 => (ih _ _ _))) leR)
def state_reader_number.f_g (k : Nat) (a0 : state_reader) : Option (state_reader × Int) := state_reader_is.f a0 3 ([45] : Str) >>= fun y1 => if y1.2 = true then (lAt y1.1.toks_ (IntKind.i64.wrap (y1.1.i_ + 1)) >>= fun y3 => if (y3.Text.length : Int) > 4 then (state_reader_fail.f (⟨y1.1.l_, y1.1.toks_, IntKind.i64.wrap (y1.1.i_ + 1), y1.1.bad_⟩ : state_reader) 4 >>= fun y5 => state_reader_of.f y5 2 >>= fun y6 => if y6.2.length ≤ big then (((state_reader_number.l0_g k) y6 0 0 >>= fun x14 => some (y6.1, IntKind.i64.wrap ((-1) * x14)))) else none) else (state_reader_of.f (⟨y1.1.l_, y1.1.toks_, IntKind.i64.wrap (y1.1.i_ + 1), y1.1.bad_⟩ : state_reader) 2 >>= fun y17 => if y17.2.length ≤ big then (((state_reader_number.l1_g k) y17 0 0 >>= fun x25 => some (y17.1, IntKind.i64.wrap ((-1) * x25)))) else none)) else (lAt y1.1.toks_ y1.1.i_ >>= fun y28 => if (y28.Text.length : Int) > 4 then (state_reader_fail.f y1.1 4 >>= fun y30 => state_reader_of.f y30 2 >>= fun y31 => if y31.2.length ≤ big then (((state_reader_number.l2_g k) y31 0 0 >>= fun x39 => some (y31.1, IntKind.i64.wrap (1 * x39)))) else none) else (state_reader_of.f y1.1 2 >>= fun y42 => if y42.2.length ≤ big then (((state_reader_number.l3_g k) y42 0 0 >>= fun x50 => some (y42.1, IntKind.i64.wrap (1 * x50)))) else none))
theorem state_reader_number.f_le (k : Nat) (a0 : state_reader) : LeO (state_reader_number.f_g k a0) (state_reader_number.f a0) := by
  unfold state_reader_number.f_g state_reader_number.f
  exact (leB leR (fun y1 => (leI (leB leR (fun y3 => (leI (leB leR (fun y5 => (leB leR (fun y6 => (leI (leB (state_reader_number.l0_le k _ _ _) (fun x14 => leR)) leR))))) (leB leR (fun y17 => (leI (leB (state_reader_number.l1_le k _ _ _) (fun x25 => leR)) leR)))))) (leB leR (fun y28 => (leI (leB leR (fun y30 => (leB leR (fun y31 => (leI (leB (state_reader_number.l2_le k _ _ _) (fun x39 => leR)) leR))))) (leB leR (fun y42 => (leI (leB (state_reader_number.l3_le k _ _ _) (fun x50 => leR)) leR)))))))))
def order_Find.f_g (k : Nat) (a0 : api_Lattice) (a1 : Str) : Option (Int × Int) := (lattice_Check.f_g k) a0 >>= fun y1 => if y1 = 0 then ((slices_Index_string_string.f_g k) a0.Names a1 >>= fun y3 => if y3 < 0 then (some (0, 9)) else (some (y3, 0))) else (some (0, y1))
theorem order_Find.f_le (k : Nat) (a0 : api_Lattice) (a1 : Str) : LeO (order_Find.f_g k a0 a1) (order_Find.f a0 a1) := by
  unfold order_Find.f_g order_Find.f
  exact (leB (lattice_Check.f_le k _) (fun y1 => (leI (leB (slices_Index_string_string.f_le k _ _) (fun y3 => (leI leR leR))) leR)))
def state_reader_atom.f_g (k : Nat) (a0 : state_reader) : Option (state_reader × api_Atom) := (state_reader_number.f_g k) a0 >>= fun y1 => state_reader_must.f y1.1 3 ([64] : Str) >>= fun y2 => ((if y2.bad_ = 0 then (lAt y2.toks_ y2.i_ >>= fun y7 => some (!decide (y7.Kind = 1))) else (some true) : Option Bool) >>= fun x5 => if x5 = true then (state_reader_fail.f y2 4 >>= fun y9 => some (y9, (⟨0, 0⟩ : api_Atom))) else (lAt y2.toks_ y2.i_ >>= fun y10 => (order_Find.f_g k) y2.l_ y10.Text >>= fun y11 => if y11.2 = 0 then (some ((⟨y2.l_, y2.toks_, IntKind.i64.wrap (y2.i_ + 1), y2.bad_⟩ : state_reader), (⟨y1.2, y11.1⟩ : api_Atom))) else (state_reader_fail.f y2 6 >>= fun y13 => some (y13, (⟨0, 0⟩ : api_Atom)))))
theorem state_reader_atom.f_le (k : Nat) (a0 : state_reader) : LeO (state_reader_atom.f_g k a0) (state_reader_atom.f a0) := by
  unfold state_reader_atom.f_g state_reader_atom.f
  exact (leB (state_reader_number.f_le k _) (fun y1 => (leB leR (fun y2 => (leB (leI (leB leR (fun y7 => leR)) leR) (fun x5 => (leI (leB leR (fun y9 => leR)) (leB leR (fun y10 => (leB (order_Find.f_le k _ _) (fun y11 => (leI leR (leB leR (fun y13 => leR))))))))))))))
def code_instruction.l0_g : Nat → (a0 : api_Tok) → (v13 : Int) → Option (Int ⊕ Unit)
  | 0 => fun _ _ => none
  | k + 1 => fun a0 v13 => if v13 < 13 then (table_Name.f v13 >>= fun y15 => ((if a0.Kind = 1 then (some (decide (y15.1 = a0.Text))) else (some false) : Option Bool) >>= fun x17 => if x17 = true then (some (.inl v13)) else ((code_instruction.l0_g k) a0 (IntKind.i64.wrap (v13 + 1))))) else (some (.inr ()))
theorem code_instruction.l0_le : ∀ (k : Nat) (a0 : api_Tok) (v13 : Int) , LeO (code_instruction.l0_g k a0 v13) (code_instruction.l0 a0 v13) := by
  intro k
  induction k with
  | zero => intros; exact leN
  | succ k ih =>
    intro a0 v13
    rw [code_instruction.l0]
    exact (leI (leB leR (fun y15 => (leB (leI leR leR) (fun x17 => (leI leR (ih _ _)))))) leR)
def code_instruction.f_g (k : Nat) (a0 : api_Tok) : Option Int := ((code_instruction.l0_g k) a0 0 >>= fun o => match o with | .inl r => some r | .inr () => some (-1))
theorem code_instruction.f_le (k : Nat) (a0 : api_Tok) : LeO (code_instruction.f_g k a0) (code_instruction.f a0) := by
  unfold code_instruction.f_g code_instruction.f
  exact (leB (code_instruction.l0_le k _ _) (fun o => (match o with | .inl r => leR | .inr () => leR)))
def code_reader_number.l0_g : Nat → (y6 : code_reader × api_Tok) → (v16 : Int) → (v17 : Int) → Option Int
  | 0 => fun _ _ _ => none
  | k + 1 => fun y6 v16 v17 => if v16 < (y6.2.Text.length : Int) then (if (0 : Int) ≤ v16 ∧ v16 < (y6.2.Text.length : Int) then ((code_reader_number.l0_g k) y6 (IntKind.i64.wrap (v16 + 1)) (IntKind.i64.wrap ((IntKind.i64.wrap (10 * v17)) + (IntKind.i64.wrap (bAnd .u8 (sAt y6.2.Text v16) 15))))) else none) else (some v17)
theorem code_reader_number.l0_le : ∀ (k : Nat) (y6 : code_reader × api_Tok) (v16 : Int) (v17 : Int) , LeO (code_reader_number.l0_g k y6 v16 v17) (code_reader_number.l0 y6 v16 v17) := by
  intro k
  induction k with
  | zero => intros; exact leN
  | succ k ih =>
    intro y6 v16 v17
    rw [code_reader_number.l0]
    exact (leI (leI (ih _ _ _) leR) leR)
def code_reader_number.l1_g : Nat → (y21 : code_reader × api_Tok) → (v31 : Int) → (v32 : Int) → Option Int
  | 0 => fun _ _ _ => none
  | k + 1 => fun y21 v31 v32 => if v31 < (y21.2.Text.length : Int) then (if (0 : Int) ≤ v31 ∧ v31 < (y21.2.Text.length : Int) then ((code_reader_number.l1_g k) y21 (IntKind.i64.wrap (v31 + 1)) (IntKind.i64.wrap ((IntKind.i64.wrap (10 * v32)) + (IntKind.i64.wrap (bAnd .u8 (sAt y21.2.Text v31) 15))))) else none) else (some v32)
theorem code_reader_number.l1_le : ∀ (k : Nat) (y21 : code_reader × api_Tok) (v31 : Int) (v32 : Int) , LeO (code_reader_number.l1_g k y21 v31 v32) (code_reader_number.l1 y21 v31 v32) := by
  intro k
  induction k with
  | zero => intros; exact leN
  | succ k ih =>
    intro y21 v31 v32
    rw [code_reader_number.l1]
    exact (leI (leI (ih _ _ _) leR) leR)
def code_reader_number.f_g (k : Nat) (a0 : code_reader) : Option (code_reader × Int) := code_reader_tok.f a0 >>= fun y1 => ((if y1.2.Kind = 3 then (some (decide (y1.2.Text = ([45] : Str)))) else (some false) : Option Bool) >>= fun x3 => if x3 = true then (code_reader_tok.f (⟨y1.1.l_, y1.1.toks_, IntKind.i64.wrap (y1.1.i_ + 1), y1.1.bad_⟩ : code_reader) >>= fun y6 => ((if y6.2.Kind = 2 then (some (decide ((y6.2.Text.length : Int) > 4))) else (some true) : Option Bool) >>= fun x8 => if x8 = true then (code_reader_fail.f y6.1 4 >>= fun y11 => some (y11, 0)) else (((code_reader_number.l0_g k) y6 0 0 >>= fun x18 => some ((⟨y6.1.l_, y6.1.toks_, IntKind.i64.wrap (y6.1.i_ + 1), y6.1.bad_⟩ : code_reader), IntKind.i64.wrap ((-1) * x18)))))) else (code_reader_tok.f y1.1 >>= fun y21 => ((if y21.2.Kind = 2 then (some (decide ((y21.2.Text.length : Int) > 4))) else (some true) : Option Bool) >>= fun x23 => if x23 = true then (code_reader_fail.f y21.1 4 >>= fun y26 => some (y26, 0)) else (((code_reader_number.l1_g k) y21 0 0 >>= fun x33 => some ((⟨y21.1.l_, y21.1.toks_, IntKind.i64.wrap (y21.1.i_ + 1), y21.1.bad_⟩ : code_reader), IntKind.i64.wrap (1 * x33)))))))
theorem code_reader_number.f_le (k : Nat) (a0 : code_reader) : LeO (code_reader_number.f_g k a0) (code_reader_number.f a0) := by
  unfold code_reader_number.f_g code_reader_number.f
  exact (leB leR (fun y1 => (leB (leI leR leR) (fun x3 => (leI (leB leR (fun y6 => (leB (leI leR leR) (fun x8 => (leI (leB leR (fun y11 => leR)) (leB (code_reader_number.l0_le k _ _ _) (fun x18 => leR))))))) (leB leR (fun y21 => (leB (leI leR leR) (fun x23 => (leI (leB leR (fun y26 => leR)) (leB (code_reader_number.l1_le k _ _ _) (fun x33 => leR))))))))))))
def code_reader_label.f_g (k : Nat) (a0 : code_reader) : Option (code_reader × Int) := code_reader_mark.f a0 ([64] : Str) >>= fun y1 => code_reader_tok.f y1 >>= fun y2 => if y2.1.bad_ = 0 then (if y2.2.Kind = 1 then ((order_Find.f_g k) y2.1.l_ y2.2.Text >>= fun y5 => if y5.2 = 0 then (some ((⟨y2.1.l_, y2.1.toks_, IntKind.i64.wrap (y2.1.i_ + 1), y2.1.bad_⟩ : code_reader), y5.1)) else (code_reader_fail.f y2.1 6 >>= fun y7 => some (y7, 0))) else (code_reader_fail.f y2.1 4 >>= fun y8 => some (y8, 0))) else (some (y2.1, 0))
theorem code_reader_label.f_le (k : Nat) (a0 : code_reader) : LeO (code_reader_label.f_g k a0) (code_reader_label.f a0) := by
  unfold code_reader_label.f_g code_reader_label.f
  exact (leB leR (fun y1 => (leB leR (fun y2 => (leI (leI (leB (order_Find.f_le k _ _) (fun y5 => (leI leR (leB leR (fun y7 => leR))))) (leB leR (fun y8 => leR))) leR)))))
def code_reader_one.f_g (k : Nat) (a0 : code_reader) (a1 : Int) : Option (code_reader × api_Instr) := code_number.f a1 >>= fun y1 => if y1 = true then ((code_reader_number.f_g k) (⟨a0.l_, a0.toks_, IntKind.i64.wrap (a0.i_ + 1), a0.bad_⟩ : code_reader) >>= fun y3 => ((if a1 = 1 then (some (decide (y3.1.bad_ = 0))) else (some false) : Option Bool) >>= fun x5 => if x5 = true then ((code_reader_label.f_g k) y3.1 >>= fun y8 => code_reader_mark.f y8.1 ([59] : Str) >>= fun y9 => ((if y9.bad_ = 0 then (code_right.f (y9.l_.Up.length : Int) (⟨a1, y3.2, y8.2⟩ : api_Instr) >>= fun y14 => some (!y14)) else (some false) : Option Bool) >>= fun x12 => if x12 = true then (code_reader_fail.f (⟨y9.l_, y9.toks_, a0.i_, y9.bad_⟩ : code_reader) 1 >>= fun y16 => some (y16, (⟨a1, y3.2, y8.2⟩ : api_Instr))) else (some (y9, (⟨a1, y3.2, y8.2⟩ : api_Instr))))) else (code_reader_mark.f y3.1 ([59] : Str) >>= fun y17 => ((if y17.bad_ = 0 then (code_right.f (y17.l_.Up.length : Int) (⟨a1, y3.2, 0⟩ : api_Instr) >>= fun y22 => some (!y22)) else (some false) : Option Bool) >>= fun x20 => if x20 = true then (code_reader_fail.f (⟨y17.l_, y17.toks_, a0.i_, y17.bad_⟩ : code_reader) 1 >>= fun y24 => some (y24, (⟨a1, y3.2, 0⟩ : api_Instr))) else (some (y17, (⟨a1, y3.2, 0⟩ : api_Instr))))))) else (((if a1 = 1 then (some (decide (a0.bad_ = 0))) else (some false) : Option Bool) >>= fun x26 => if x26 = true then ((code_reader_label.f_g k) (⟨a0.l_, a0.toks_, IntKind.i64.wrap (a0.i_ + 1), a0.bad_⟩ : code_reader) >>= fun y29 => code_reader_mark.f y29.1 ([59] : Str) >>= fun y30 => ((if y30.bad_ = 0 then (code_right.f (y30.l_.Up.length : Int) (⟨a1, 0, y29.2⟩ : api_Instr) >>= fun y35 => some (!y35)) else (some false) : Option Bool) >>= fun x33 => if x33 = true then (code_reader_fail.f (⟨y30.l_, y30.toks_, a0.i_, y30.bad_⟩ : code_reader) 1 >>= fun y37 => some (y37, (⟨a1, 0, y29.2⟩ : api_Instr))) else (some (y30, (⟨a1, 0, y29.2⟩ : api_Instr))))) else (code_reader_mark.f (⟨a0.l_, a0.toks_, IntKind.i64.wrap (a0.i_ + 1), a0.bad_⟩ : code_reader) ([59] : Str) >>= fun y38 => ((if y38.bad_ = 0 then (code_right.f (y38.l_.Up.length : Int) (⟨a1, 0, 0⟩ : api_Instr) >>= fun y43 => some (!y43)) else (some false) : Option Bool) >>= fun x41 => if x41 = true then (code_reader_fail.f (⟨y38.l_, y38.toks_, a0.i_, y38.bad_⟩ : code_reader) 1 >>= fun y45 => some (y45, (⟨a1, 0, 0⟩ : api_Instr))) else (some (y38, (⟨a1, 0, 0⟩ : api_Instr)))))))
theorem code_reader_one.f_le (k : Nat) (a0 : code_reader) (a1 : Int) : LeO (code_reader_one.f_g k a0 a1) (code_reader_one.f a0 a1) := by
  unfold code_reader_one.f_g code_reader_one.f
  exact (leB leR (fun y1 => (leI (leB (code_reader_number.f_le k _) (fun y3 => (leB (leI leR leR) (fun x5 => (leI (leB (code_reader_label.f_le k _) (fun y8 => (leB leR (fun y9 => (leB (leI (leB leR (fun y14 => leR)) leR) (fun x12 => (leI (leB leR (fun y16 => leR)) leR))))))) (leB leR (fun y17 => (leB (leI (leB leR (fun y22 => leR)) leR) (fun x20 => (leI (leB leR (fun y24 => leR)) leR)))))))))) (leB (leI leR leR) (fun x26 => (leI (leB (code_reader_label.f_le k _) (fun y29 => (leB leR (fun y30 => (leB (leI (leB leR (fun y35 => leR)) leR) (fun x33 => (leI (leB leR (fun y37 => leR)) leR))))))) (leB leR (fun y38 => (leB (leI (leB leR (fun y43 => leR)) leR) (fun x41 => (leI (leB leR (fun y45 => leR)) leR)))))))))))
def code_From.l0_g : Nat → (v27 : List Str) → (v28 : List Int) → (v29 : List api_Tok) → (v30 : Int) → (v31 : Int) → (v32 : List api_Instr) → Option (((List api_Instr) × Int × Int) ⊕ ((List Str) × (List Int) × (List api_Tok) × Int × Int × (List api_Instr)))
  | 0 => fun _ _ _ _ _ _ => none
  | k + 1 => fun v27 v28 v29 v30 v31 v32 => if v31 = 0 then (code_reader_tok.f (⟨⟨v27, v28⟩, v29, v30, v31⟩ : code_reader) >>= fun y40 => (code_instruction.f_g k) y40.2 >>= fun y41 => if y41 < 0 then (some (.inl (v32, y40.1.i_, 0))) else (if (v32.length : Int) = 12 then (code_reader_fail.f y40.1 8 >>= fun y44 => some (.inr (y44.l_.Names, y44.l_.Up, y44.toks_, y44.i_, y44.bad_, v32))) else ((code_reader_one.f_g k) y40.1 y41 >>= fun y45 => if (v32.length + ([y45.2] : List api_Instr).length) * 24 ≤ big then ((code_From.l0_g k) y45.1.l_.Names y45.1.l_.Up y45.1.toks_ y45.1.i_ y45.1.bad_ (v32 ++ ([y45.2] : List api_Instr))) else none))) else (some (.inr (v27, v28, v29, v30, v31, v32)))
theorem code_From.l0_le : ∀ (k : Nat) (v27 : List Str) (v28 : List Int) (v29 : List api_Tok) (v30 : Int) (v31 : Int) (v32 : List api_Instr) , LeO (code_From.l0_g k v27 v28 v29 v30 v31 v32) (code_From.l0 v27 v28 v29 v30 v31 v32) := by
  intro k
  induction k with
  | zero => intros; exact leN
  | succ k ih =>
    intro v27 v28 v29 v30 v31 v32
    rw [code_From.l0]
    exact (leI (leB leR (fun y40 => (leB (code_instruction.f_le k _) (fun y41 => (leI leR (leI (leB leR (fun y44 => leR)) (leB (code_reader_one.f_le k _ _) (fun y45 => (leI (ih _ _ _ _ _ _) leR))))))))) leR)
def code_From.f_g (k : Nat) (a0 : api_Lattice) (a1 : List api_Tok) (a2 : Int) : Option ((List api_Instr) × Int × Int) := (lattice_Check.f_g k) a0 >>= fun y1 => if y1 = 0 then (((if a2 < 0 then (some true) else (if a2 ≥ (a1.length : Int) then (some true) else (lAt a1 (IntKind.i64.wrap ((a1.length : Int) - 1)) >>= fun y9 => some (!decide (y9.Kind = 0)))) : Option Bool) >>= fun x6 => if x6 = true then (some (([] : List api_Instr), 0, 1)) else (((code_From.l0_g k) a0.Names a0.Up a1 a2 0 ([] : List api_Instr) >>= fun o => match o with | .inl r => some r | .inr (x33, x34, x35, x36, x37, x38) => some (([] : List api_Instr), x36, x37))))) else (some (([] : List api_Instr), 0, y1))
theorem code_From.f_le (k : Nat) (a0 : api_Lattice) (a1 : List api_Tok) (a2 : Int) : LeO (code_From.f_g k a0 a1 a2) (code_From.f a0 a1 a2) := by
  unfold code_From.f_g code_From.f
  exact (leB (lattice_Check.f_le k _) (fun y1 => (leI (leB (leI leR (leI leR (leB leR (fun y9 => leR)))) (fun x6 => (leI leR (leB (code_From.l0_le k _ _ _ _ _ _) (fun o => (match o with | .inl r => leR | .inr (x33, x34, x35, x36, x37, x38) => leR)))))) leR)))
def state_reader_program.f_g (k : Nat) (a0 : state_reader) : Option (state_reader × (List api_Instr)) := state_reader_must.f a0 1 ([99, 111, 100, 101] : Str) >>= fun y1 => if y1.bad_ = 0 then ((code_From.f_g k) y1.l_ y1.toks_ y1.i_ >>= fun y3 => if y3.2.2 = 0 then (some ((⟨y1.l_, y1.toks_, y3.2.1, y1.bad_⟩ : state_reader), y3.1)) else (state_reader_fail.f (⟨y1.l_, y1.toks_, y3.2.1, y1.bad_⟩ : state_reader) y3.2.2 >>= fun y5 => some (y5, y3.1))) else (some (y1, ([] : List api_Instr)))
theorem state_reader_program.f_le (k : Nat) (a0 : state_reader) : LeO (state_reader_program.f_g k a0) (state_reader_program.f a0) := by
  unfold state_reader_program.f_g state_reader_program.f
  exact (leB leR (fun y1 => (leI (leB (code_From.f_le k _ _ _) (fun y3 => (leI leR (leB leR (fun y5 => leR))))) leR)))
def state_reader_slot.f_g (k : Nat) (a0 : state_reader) : Option (state_reader × api_Slot) := state_reader_is.f a0 1 ([114, 101, 116] : Str) >>= fun y1 => if y1.2 = true then ((state_reader_atom.f_g k) (⟨y1.1.l_, y1.1.toks_, IntKind.i64.wrap (y1.1.i_ + 1), y1.1.bad_⟩ : state_reader) >>= fun y3 => some (y3.1, (⟨y1.2, y3.2.V, y3.2.L⟩ : api_Slot))) else ((state_reader_atom.f_g k) y1.1 >>= fun y4 => some (y4.1, (⟨y1.2, y4.2.V, y4.2.L⟩ : api_Slot)))
theorem state_reader_slot.f_le (k : Nat) (a0 : state_reader) : LeO (state_reader_slot.f_g k a0) (state_reader_slot.f a0) := by
  unfold state_reader_slot.f_g state_reader_slot.f
  exact (leB leR (fun y1 => (leI (leB (state_reader_atom.f_le k _) (fun y3 => leR)) (leB (state_reader_atom.f_le k _) (fun y4 => leR)))))
def state_row_api_Atom_atom.l0_g : Nat → (a2 : Int) → (v20 : List Str) → (v21 : List Int) → (v22 : List api_Tok) → (v23 : Int) → (v24 : Int) → (v25 : List api_Atom) → Option ((List Str) × (List Int) × (List api_Tok) × Int × Int × (List api_Atom))
  | 0 => fun _ _ _ _ _ _ _ => none
  | k + 1 => fun a2 v20 v21 v22 v23 v24 v25 => if v24 = 0 then (if (v25.length : Int) = a2 then (state_reader_fail.f (⟨⟨v20, v21⟩, v22, v23, v24⟩ : state_reader) 8 >>= fun y34 => some (y34.l_.Names, y34.l_.Up, y34.toks_, y34.i_, y34.bad_, v25)) else ((state_reader_atom.f_g k) (⟨⟨v20, v21⟩, v22, v23, v24⟩ : state_reader) >>= fun y35 => if (v25.length + ([y35.2] : List api_Atom).length) * 16 ≤ big then (state_reader_is.f y35.1 3 ([44] : Str) >>= fun y37 => if (!y37.2) = true then (state_reader_must.f y37.1 3 ([59] : Str) >>= fun y39 => some (y39.l_.Names, y39.l_.Up, y39.toks_, y39.i_, y39.bad_, v25 ++ ([y35.2] : List api_Atom))) else ((state_row_api_Atom_atom.l0_g k) a2 y37.1.l_.Names y37.1.l_.Up y37.1.toks_ (IntKind.i64.wrap (y37.1.i_ + 1)) y37.1.bad_ (v25 ++ ([y35.2] : List api_Atom)))) else none)) else (some (v20, v21, v22, v23, v24, v25))
theorem state_row_api_Atom_atom.l0_le : ∀ (k : Nat) (a2 : Int) (v20 : List Str) (v21 : List Int) (v22 : List api_Tok) (v23 : Int) (v24 : Int) (v25 : List api_Atom) , LeO (state_row_api_Atom_atom.l0_g k a2 v20 v21 v22 v23 v24 v25) (state_row_api_Atom_atom.l0 a2 v20 v21 v22 v23 v24 v25) := by
  intro k
  induction k with
  | zero => intros; exact leN
  | succ k ih =>
    intro a2 v20 v21 v22 v23 v24 v25
    rw [state_row_api_Atom_atom.l0]
    exact (leI (leI (leB leR (fun y34 => leR)) (leB (state_reader_atom.f_le k _) (fun y35 => (leI (leB leR (fun y37 => (leI (leB leR (fun y39 => leR)) (ih _ _ _ _ _ _ _)))) leR)))) leR)
def state_row_api_Atom_atom.f_g (k : Nat) (a0 : state_reader) (a1 : Str) (a2 : Int) : Option (state_reader × (List api_Atom)) := state_reader_must.f a0 1 a1 >>= fun y1 => state_reader_is.f y1 3 ([59] : Str) >>= fun y2 => if y2.2 = true then (some ((⟨y2.1.l_, y2.1.toks_, IntKind.i64.wrap (y2.1.i_ + 1), y2.1.bad_⟩ : state_reader), ([] : List api_Atom))) else (((state_row_api_Atom_atom.l0_g k) a2 y2.1.l_.Names y2.1.l_.Up y2.1.toks_ y2.1.i_ y2.1.bad_ ([] : List api_Atom) >>= fun o => match o with | (x26, x27, x28, x29, x30, x31) => some ((⟨⟨x26, x27⟩, x28, x29, x30⟩ : state_reader), x31)))
theorem state_row_api_Atom_atom.f_le (k : Nat) (a0 : state_reader) (a1 : Str) (a2 : Int) : LeO (state_row_api_Atom_atom.f_g k a0 a1 a2) (state_row_api_Atom_atom.f a0 a1 a2) := by
  unfold state_row_api_Atom_atom.f_g state_row_api_Atom_atom.f
  exact (leB leR (fun y1 => (leB leR (fun y2 => (leI leR (leB (state_row_api_Atom_atom.l0_le k _ _ _ _ _ _ _) (fun o => (match o with | (x26, x27, x28, x29, x30, x31) => leR))))))))
def state_row_api_Slot_slot.l0_g : Nat → (a2 : Int) → (v20 : List Str) → (v21 : List Int) → (v22 : List api_Tok) → (v23 : Int) → (v24 : Int) → (v25 : List api_Slot) → Option ((List Str) × (List Int) × (List api_Tok) × Int × Int × (List api_Slot))
  | 0 => fun _ _ _ _ _ _ _ => none
  | k + 1 => fun a2 v20 v21 v22 v23 v24 v25 => if v24 = 0 then (if (v25.length : Int) = a2 then (state_reader_fail.f (⟨⟨v20, v21⟩, v22, v23, v24⟩ : state_reader) 8 >>= fun y34 => some (y34.l_.Names, y34.l_.Up, y34.toks_, y34.i_, y34.bad_, v25)) else ((state_reader_slot.f_g k) (⟨⟨v20, v21⟩, v22, v23, v24⟩ : state_reader) >>= fun y35 => if (v25.length + ([y35.2] : List api_Slot).length) * 24 ≤ big then (state_reader_is.f y35.1 3 ([44] : Str) >>= fun y37 => if (!y37.2) = true then (state_reader_must.f y37.1 3 ([59] : Str) >>= fun y39 => some (y39.l_.Names, y39.l_.Up, y39.toks_, y39.i_, y39.bad_, v25 ++ ([y35.2] : List api_Slot))) else ((state_row_api_Slot_slot.l0_g k) a2 y37.1.l_.Names y37.1.l_.Up y37.1.toks_ (IntKind.i64.wrap (y37.1.i_ + 1)) y37.1.bad_ (v25 ++ ([y35.2] : List api_Slot)))) else none)) else (some (v20, v21, v22, v23, v24, v25))
theorem state_row_api_Slot_slot.l0_le : ∀ (k : Nat) (a2 : Int) (v20 : List Str) (v21 : List Int) (v22 : List api_Tok) (v23 : Int) (v24 : Int) (v25 : List api_Slot) , LeO (state_row_api_Slot_slot.l0_g k a2 v20 v21 v22 v23 v24 v25) (state_row_api_Slot_slot.l0 a2 v20 v21 v22 v23 v24 v25) := by
  intro k
  induction k with
  | zero => intros; exact leN
  | succ k ih =>
    intro a2 v20 v21 v22 v23 v24 v25
    rw [state_row_api_Slot_slot.l0]
    exact (leI (leI (leB leR (fun y34 => leR)) (leB (state_reader_slot.f_le k _) (fun y35 => (leI (leB leR (fun y37 => (leI (leB leR (fun y39 => leR)) (ih _ _ _ _ _ _ _)))) leR)))) leR)
def state_row_api_Slot_slot.f_g (k : Nat) (a0 : state_reader) (a1 : Str) (a2 : Int) : Option (state_reader × (List api_Slot)) := state_reader_must.f a0 1 a1 >>= fun y1 => state_reader_is.f y1 3 ([59] : Str) >>= fun y2 => if y2.2 = true then (some ((⟨y2.1.l_, y2.1.toks_, IntKind.i64.wrap (y2.1.i_ + 1), y2.1.bad_⟩ : state_reader), ([] : List api_Slot))) else (((state_row_api_Slot_slot.l0_g k) a2 y2.1.l_.Names y2.1.l_.Up y2.1.toks_ y2.1.i_ y2.1.bad_ ([] : List api_Slot) >>= fun o => match o with | (x26, x27, x28, x29, x30, x31) => some ((⟨⟨x26, x27⟩, x28, x29, x30⟩ : state_reader), x31)))
theorem state_row_api_Slot_slot.f_le (k : Nat) (a0 : state_reader) (a1 : Str) (a2 : Int) : LeO (state_row_api_Slot_slot.f_g k a0 a1 a2) (state_row_api_Slot_slot.f a0 a1 a2) := by
  unfold state_row_api_Slot_slot.f_g state_row_api_Slot_slot.f
  exact (leB leR (fun y1 => (leB leR (fun y2 => (leI leR (leB (state_row_api_Slot_slot.l0_le k _ _ _ _ _ _ _) (fun o => (match o with | (x26, x27, x28, x29, x30, x31) => leR))))))))
def state_From.f_g (k : Nat) (a0 : api_Lattice) (a1 : List api_Tok) (a2 : Int) : Option (api_State × Int × Int) := (lattice_Check.f_g k) a0 >>= fun y1 => if y1 = 0 then (((if a2 < 0 then (some true) else (if a2 ≥ (a1.length : Int) then (some true) else (lAt a1 (IntKind.i64.wrap ((a1.length : Int) - 1)) >>= fun y9 => some (!decide (y9.Kind = 0)))) : Option Bool) >>= fun x6 => if x6 = true then (some ((⟨⟨0, 0⟩, [], [], [], []⟩ : api_State), 0, 1)) else (state_reader_must.f (⟨a0, a1, a2, 0⟩ : state_reader) 1 ([112, 99] : Str) >>= fun y11 => (state_reader_atom.f_g k) y11 >>= fun y12 => state_reader_must.f y12.1 3 ([59] : Str) >>= fun y13 => (state_reader_program.f_g k) y13 >>= fun y14 => (state_row_api_Atom_atom.f_g k) y14.1 ([109, 101, 109] : Str) 6 >>= fun y15 => (state_row_api_Slot_slot.f_g k) y15.1 ([115, 116, 97, 99, 107] : Str) 12 >>= fun y16 => (state_row_api_Atom_atom.f_g k) y16.1 ([111, 117, 116] : Str) 8 >>= fun y17 => if y17.1.bad_ = 0 then ((state_Right.f_g k) a0 (⟨y12.2, y14.2, y15.2, y16.2, y17.2⟩ : api_State) >>= fun y19 => if (!y19) = true then (some ((⟨⟨0, 0⟩, [], [], [], []⟩ : api_State), a2, 1)) else (some ((⟨y12.2, y14.2, y15.2, y16.2, y17.2⟩ : api_State), y17.1.i_, 0))) else (some ((⟨⟨0, 0⟩, [], [], [], []⟩ : api_State), y17.1.i_, y17.1.bad_))))) else (some ((⟨⟨0, 0⟩, [], [], [], []⟩ : api_State), 0, y1))
theorem state_From.f_le (k : Nat) (a0 : api_Lattice) (a1 : List api_Tok) (a2 : Int) : LeO (state_From.f_g k a0 a1 a2) (state_From.f a0 a1 a2) := by
  unfold state_From.f_g state_From.f
  exact (leB (lattice_Check.f_le k _) (fun y1 => (leI (leB (leI leR (leI leR (leB leR (fun y9 => leR)))) (fun x6 => (leI leR (leB leR (fun y11 => (leB (state_reader_atom.f_le k _) (fun y12 => (leB leR (fun y13 => (leB (state_reader_program.f_le k _) (fun y14 => (leB (state_row_api_Atom_atom.f_le k _ _ _) (fun y15 => (leB (state_row_api_Slot_slot.f_le k _ _ _) (fun y16 => (leB (state_row_api_Atom_atom.f_le k _ _ _) (fun y17 => (leI (leB (state_Right.f_le k _ _) (fun y19 => (leI leR leR))) leR)))))))))))))))))) leR)))
def state_Parse.f_g (k : Nat) (a0 : api_Lattice) (a1 : Str) : Option (api_State × Int × Int) := (lattice_Check.f_g k) a0 >>= fun y1 => if y1 = 0 then ((lex_Lex.f_g k) a1 >>= fun y3 => if y3.2.2 = 0 then ((state_From.f_g k) a0 y3.1 0 >>= fun y5 => if y5.2.2 = 0 then (lAt y3.1 y5.2.1 >>= fun y7 => if y7.Kind = 0 then (some (y5.1, 0, 0)) else (lAt y3.1 y5.2.1 >>= fun y9 => some ((⟨⟨0, 0⟩, [], [], [], []⟩ : api_State), y9.At, 4))) else (lAt y3.1 y5.2.1 >>= fun y10 => some ((⟨⟨0, 0⟩, [], [], [], []⟩ : api_State), y10.At, y5.2.2))) else (some ((⟨⟨0, 0⟩, [], [], [], []⟩ : api_State), y3.2.1, y3.2.2))) else (some ((⟨⟨0, 0⟩, [], [], [], []⟩ : api_State), 0, y1))
theorem state_Parse.f_le (k : Nat) (a0 : api_Lattice) (a1 : Str) : LeO (state_Parse.f_g k a0 a1) (state_Parse.f a0 a1) := by
  unfold state_Parse.f_g state_Parse.f
  exact (leB (lattice_Check.f_le k _) (fun y1 => (leI (leB (lex_Lex.f_le k _) (fun y3 => (leI (leB (state_From.f_le k _ _ _) (fun y5 => (leI (leB leR (fun y7 => (leI leR (leB leR (fun y9 => leR))))) (leB leR (fun y10 => leR))))) leR))) leR)))
def reticentlaw09_alive.f_g (k : Nat) : Option Bool := (state_Parse.f_g k) (⟨([([97] : Str), ([98] : Str)] : List Str), ([3, 2] : List Int)⟩ : api_Lattice) ks0 >>= fun y1 => ((if y1.2.2 = 0 then (if (y1.1.Stack.length : Int) = 1 then (lAt y1.1.Stack 0 >>= fun y10 => if y10 = (⟨true, 1, 1⟩ : api_Slot) then ((state_Right.f_g k) (⟨([([97] : Str), ([98] : Str)] : List Str), ([3, 2] : List Int)⟩ : api_Lattice) y1.1 >>= fun y12 => some y12) else (some false)) else (some false)) else (some false) : Option Bool) >>= fun x7 => some x7)
theorem reticentlaw09_alive.f_le (k : Nat) : LeO (reticentlaw09_alive.f_g k ) (reticentlaw09_alive.f ) := by
  unfold reticentlaw09_alive.f_g reticentlaw09_alive.f
  exact (leB (state_Parse.f_le k _ _) (fun y1 => (leB (leI (leI (leB leR (fun y10 => (leI (leB (state_Right.f_le k _ _) (fun y12 => leR)) leR))) leR) leR) (fun x7 => leR))))
end Go.Proofs.YtkcpghpglhamfaaGreatDoor.SK
