import Derived.Test.YtmegdednaimgcaaGreatDoorDTT
set_option linter.unusedVariables false
namespace Go.Proofs.YtmegdednaimgcaaGreatDoor.TT
open Go Go.Proofs.YtmegdednaimgcaaGreatDoor.Ab
def LeO {α : Type} (a b : Option α) : Prop := ∀ r, a = some r -> b = some r
theorem leR {α : Type} {a : Option α} : LeO a a := fun _ h => h
theorem leN {α : Type} {a : Option α} : LeO none a := fun _ h => by cases h
theorem leB {α β : Type} {a b : Option α} {f g : α -> Option β} (h : LeO a b) (k : ∀ y, LeO (f y) (g y)) : LeO (a >>= f) (b >>= g) := fun r e => by
 cases a with
 | none => cases e
 | some y => rw [h y rfl]; exact k y r e
theorem leI {α : Type} {p : Prop} [Decidable p] {a b c d : Option α} (h : LeO a b) (k : LeO c d) : LeO (if p then a else c) (if p then b else d) := by
 by_cases q : p
 ·rw [if_pos q, if_pos q]; exact h
 ·rw [if_neg q, if_neg q]; exact k
theorem leY {τ β γ : Type} {q p : τ -> β -> γ -> Option (Bool × (τ × Nat))} (h : ∀ a b c, LeO (q a b c) (p a b c)) : ∀ a b c, LeO (yOf q a b c) (yOf p a b c) := fun a b c => by
 obtain ⟨s, n⟩ := a
 cases n with
 | zero => exact h _ _ _
 | succ n => exact leR
def lattice_name.l0_g : Nat -> (a0 : Str) -> (v19 : Int) -> Option (Bool ⊕ Unit)
 | 0 => fun _ _ => none
 | k + 1 => fun a0 v19 => if v19 < (a0.length : Int) then (((if (0 : Int) <= v19 /\ v19 < (a0.length : Int) then (if sAt a0 v19 < 97 then (some true) else (if (0 : Int) <= v19 /\ v19 < (a0.length : Int) then (some (decide (sAt a0 v19 > 122))) else none)) else none : Option Bool) >>= fun x24 => if x24 = true then (some (.inl false)) else ((lattice_name.l0_g k) a0 (IntKind.i64.wrap (v19 + 1))))) else (some (.inr ()))
theorem lattice_name.l0_le : ∀ k a0 v19, LeO (lattice_name.l0_g k a0 v19) (lattice_name.l0 a0 v19) := by
 intro k
 induction k with
 | zero => intros; exact leN
 | succ k ih =>
  intro a0 v19
  rw [lattice_name.l0]
  exact (leI (leB leR (fun x24 => (leI leR (ih _ _)))) leR)
def lattice_name.f_g (k : Nat) (a0 : Str) : Option Bool := ((lattice_name.l0_g k) a0 0 >>= fun o => match o with | .inl r => some r | .inr () => ((if a0 = ([] : Str) then (some false) else (some (decide ((a0.length : Int) <= 12))) : Option Bool) >>= fun x30 => some x30))
theorem lattice_name.f_le (k a0) : LeO (lattice_name.f_g k a0) (lattice_name.f a0) := by
 unfold lattice_name.f_g lattice_name.f
 exact (leB (lattice_name.l0_le k _ _) (fun o => leR))
def slices_Index_string_string.l0_g : Nat -> (a0 : List Str) -> (a1 : Str) -> (v7 : Int) -> Option (Int ⊕ Unit)
 | 0 => fun _ _ _ => none
 | k + 1 => fun a0 a1 v7 => if v7 < (a0.length : Int) then (lAt a0 v7 >>= fun y9 => if a1 = y9 then (some (.inl v7)) else ((slices_Index_string_string.l0_g k) a0 a1 (IntKind.i64.wrap (v7 + 1)))) else (some (.inr ()))
theorem slices_Index_string_string.l0_le : ∀ k a0 a1 v7, LeO (slices_Index_string_string.l0_g k a0 a1 v7) (slices_Index_string_string.l0 a0 a1 v7) := by
 intro k
 induction k with
 | zero => intros; exact leN
 | succ k ih =>
  intro a0 a1 v7
  rw [slices_Index_string_string.l0]
  exact (leI (leB leR (fun y9 => (leI leR (ih _ _ _)))) leR)
def slices_Index_string_string.f_g (k : Nat) (a0 : List Str) (a1 : Str) : Option Int := ((slices_Index_string_string.l0_g k) a0 a1 0 >>= fun o => match o with | .inl r => some r | .inr () => some (-1))
theorem slices_Index_string_string.f_le (k a0 a1) : LeO (slices_Index_string_string.f_g k a0 a1) (slices_Index_string_string.f a0 a1) := by
 unfold slices_Index_string_string.f_g slices_Index_string_string.f
 exact (leB (slices_Index_string_string.l0_le k _ _ _) (fun o => leR))
def slices_Contains_string_string.f_g (k : Nat) (a0 : List Str) (a1 : Str) : Option Bool := (slices_Index_string_string.f_g k) a0 a1 >>= fun y1 => some (decide (y1 >= 0))
theorem slices_Contains_string_string.f_le (k a0 a1) : LeO (slices_Contains_string_string.f_g k a0 a1) (slices_Contains_string_string.f a0 a1) := by
 unfold slices_Contains_string_string.f_g slices_Contains_string_string.f
 exact (leB (slices_Index_string_string.f_le k _ _) (fun y1 => leR))
def lattice_may.l0_g : Nat -> (a0 : api_Lattice) -> (v43 : Int) -> Option (Bool ⊕ Unit)
 | 0 => fun _ _ => none
 | k + 1 => fun a0 v43 => if v43 < (a0.Names.length : Int) then (lAt a0.Names v43 >>= fun y45 => (((lattice_name.f_g k) y45 >>= fun y54 => if (!y54) = true then (some true) else (if (0 : Int) <= v43 /\ v43 <= (a0.Names.length : Int) then ((slices_Contains_string_string.f_g k) (lCut a0.Names 0 v43) y45 >>= fun y57 => if y57 = true then (some true) else (lAt a0.Up v43 >>= fun y59 => if ¬ (a0.Up.length : Int) < 0 then (some (!decide (bShr .u32 y59 (a0.Up.length : Int) = 0))) else none)) else none) : Option Bool) >>= fun x53 => if x53 = true then (some (.inl false)) else ((lattice_may.l0_g k) a0 (IntKind.i64.wrap (v43 + 1))))) else (some (.inr ()))
theorem lattice_may.l0_le : ∀ k a0 v43, LeO (lattice_may.l0_g k a0 v43) (lattice_may.l0 a0 v43) := by
 intro k
 induction k with
 | zero => intros; exact leN
 | succ k ih =>
  intro a0 v43
  rw [lattice_may.l0]
  exact (leI (leB leR (fun y45 => (leB (leB (lattice_name.f_le k _) (fun y54 => (leI leR (leI (leB (slices_Contains_string_string.f_le k _ _) (fun y57 => leR)) leR)))) (fun x53 => (leI leR (ih _ _)))))) leR)
def lattice_may.f_g (k : Nat) (a0 : api_Lattice) : Option Bool := ((if (a0.Up.length : Int) < 1 then (some true) else (if (a0.Up.length : Int) > 8 then (some true) else (some (!decide ((a0.Names.length : Int) = (a0.Up.length : Int))))) : Option Bool) >>= fun x3 => if x3 = true then (some false) else (((lattice_may.l0_g k) a0 0 >>= fun o => match o with | .inl r => some r | .inr () => some true)))
theorem lattice_may.f_le (k a0) : LeO (lattice_may.f_g k a0) (lattice_may.f a0) := by
 unfold lattice_may.f_g lattice_may.f
 exact (leB leR (fun x3 => (leI leR (leB (lattice_may.l0_le k _ _) (fun o => leR)))))
def lattice_pairs_1.l3_g {σ : Type} : Nat -> (a_y : σ -> Int -> Int -> Option (Bool × σ)) -> (a1 : Int) -> (v28 : Int) -> (v37 : σ) -> (v38 : Int) -> Option (σ ⊕ σ)
 | 0 => fun _ _ _ _ _ => none
 | k + 1 => fun a_y a1 v28 v37 v38 => if v38 < a1 then (a_y v37 v28 v38 >>= fun y41 => if (!y41.1) = true then (some (.inl y41.2)) else ((lattice_pairs_1.l3_g k) a_y a1 v28 y41.2 (IntKind.i64.wrap (v38 + 1)))) else (some (.inr v37))
theorem lattice_pairs_1.l3_le {σ : Type} : ∀ (k : Nat) {a_y_ a_y : σ -> Int -> Int -> Option (Bool × σ)} (h_a_y : ∀ q0 q1 q2, LeO (a_y_ q0 q1 q2) (a_y q0 q1 q2)) (a1 : Int) (v28 : Int) (v37 : σ) (v38 : Int), LeO (lattice_pairs_1.l3_g k a_y_ a1 v28 v37 v38) (lattice_pairs_1.l3 a_y a1 v28 v37 v38) := by
 intro k
 induction k with
 | zero => intros; exact leN
 | succ k ih =>
  intro a_y_ a_y h_a_y a1 v28 v37 v38
  rw [lattice_pairs_1.l3]
  exact (leI (leB (h_a_y _ _ _) (fun y41 => (leI leR (ih h_a_y _ _ _ _)))) leR)
def lattice_pairs_1.l2_g {σ : Type} : Nat -> (a_y : σ -> Int -> Int -> Option (Bool × σ)) -> (a1 : Int) -> (v27 : σ) -> (v28 : Int) -> Option (σ ⊕ σ)
 | 0 => fun _ _ _ _ => none
 | k + 1 => fun a_y a1 v27 v28 => if v28 < a1 then (((lattice_pairs_1.l3_g k) a_y a1 v28 v27 0 >>= fun o => match o with | .inl r => some (.inl r) | .inr x39 => (lattice_pairs_1.l2_g k) a_y a1 x39 (IntKind.i64.wrap (v28 + 1)))) else (some (.inr v27))
theorem lattice_pairs_1.l2_le {σ : Type} : ∀ (k : Nat) {a_y_ a_y : σ -> Int -> Int -> Option (Bool × σ)} (h_a_y : ∀ q0 q1 q2, LeO (a_y_ q0 q1 q2) (a_y q0 q1 q2)) (a1 : Int) (v27 : σ) (v28 : Int), LeO (lattice_pairs_1.l2_g k a_y_ a1 v27 v28) (lattice_pairs_1.l2 a_y a1 v27 v28) := by
 intro k
 induction k with
 | zero => intros; exact leN
 | succ k ih =>
  intro a_y_ a_y h_a_y a1 v27 v28
  rw [lattice_pairs_1.l2]
  exact (leI (leB (lattice_pairs_1.l3_le k h_a_y _ _ _ _) (fun o => (match o with | .inl r => leR | .inr x39 => (ih h_a_y _ _ _)))) leR)
def lattice_pairs_1.f_g (k : Nat) {σ : Type} (a_y : σ -> Int -> Int -> Option (Bool × σ)) (a_s : σ) (a1 : Int) : Option σ := ((lattice_pairs_1.l2_g k) a_y a1 a_s 0 >>= fun o => match o with | .inl r => some r | .inr x29 => some x29)
theorem lattice_pairs_1.f_le {σ : Type} (k : Nat) {a_y_ a_y : σ -> Int -> Int -> Option (Bool × σ)} (h_a_y : ∀ q0 q1 q2, LeO (a_y_ q0 q1 q2) (a_y q0 q1 q2)) (a_s : σ) (a1 : Int) : LeO (lattice_pairs_1.f_g k a_y_ a_s a1) (lattice_pairs_1.f a_y a_s a1) := by
 unfold lattice_pairs_1.f_g lattice_pairs_1.f
 exact (leB (lattice_pairs_1.l2_le k h_a_y _ _ _) (fun o => (match o with | .inl r => leR | .inr x29 => leR)))
def lattice_order.f_g (k : Nat) (a0 : api_Lattice) : Option Bool := lattice_pairs.f (a0.Up.length : Int) >>= fun y1 => ((lattice_pairs_1.f_g k) (yOf (lattice_order.y0 a0)) ((), 0) y1 >>= fun y53 => if y53.2 = 0 then (some true) else if y53.2 = 1 then (some false) else none)
theorem lattice_order.f_le (k a0) : LeO (lattice_order.f_g k a0) (lattice_order.f a0) := by
 unfold lattice_order.f_g lattice_order.f
 exact (leB leR (fun y1 => (leB (lattice_pairs_1.f_le k (leY (fun _ _ _ => leR)) _ _) (fun y53 => leR))))
def slices_IndexFunc_uint32_uint32.l0_g : Nat -> (a0 : List Int) -> (a1 : Int -> Option Bool) -> (v9 : Int) -> Option (Int ⊕ Unit)
 | 0 => fun _ _ _ => none
 | k + 1 => fun a0 a1 v9 => if v9 < (a0.length : Int) then (lAt a0 v9 >>= fun y11 => a1 y11 >>= fun y12 => if y12 = true then (some (.inl v9)) else ((slices_IndexFunc_uint32_uint32.l0_g k) a0 a1 (IntKind.i64.wrap (v9 + 1)))) else (some (.inr ()))
theorem slices_IndexFunc_uint32_uint32.l0_le : ∀ (k : Nat) {a1_ a1 : Int -> Option Bool} (h_a1 : ∀ q0, LeO (a1_ q0) (a1 q0)) (a0 : List Int) (v9 : Int), LeO (slices_IndexFunc_uint32_uint32.l0_g k a0 a1_ v9) (slices_IndexFunc_uint32_uint32.l0 a0 a1 v9) := by
 intro k
 induction k with
 | zero => intros; exact leN
 | succ k ih =>
  intro a1_ a1 h_a1 a0 v9
  rw [slices_IndexFunc_uint32_uint32.l0]
  exact (leI (leB leR (fun y11 => (leB (h_a1 _) (fun y12 => (leI leR (ih h_a1 _ _)))))) leR)
def slices_IndexFunc_uint32_uint32.f_g (k : Nat) (a0 : List Int) (a1 : Int -> Option Bool) : Option Int := ((slices_IndexFunc_uint32_uint32.l0_g k) a0 a1 0 >>= fun o => match o with | .inl r => some r | .inr () => some (-1))
theorem slices_IndexFunc_uint32_uint32.f_le (k : Nat) {a1_ a1 : Int -> Option Bool} (h_a1 : ∀ q0, LeO (a1_ q0) (a1 q0)) (a0 : List Int) : LeO (slices_IndexFunc_uint32_uint32.f_g k a0 a1_) (slices_IndexFunc_uint32_uint32.f a0 a1) := by
 unfold slices_IndexFunc_uint32_uint32.f_g slices_IndexFunc_uint32_uint32.f
 exact (leB (slices_IndexFunc_uint32_uint32.l0_le k h_a1 _ _) (fun o => leR))
def lattice_join.f_g (k : Nat) (a0 : api_Lattice) (a1 : Int) (a2 : Int) : Option Int := lAt a0.Up a1 >>= fun y1 => lAt a0.Up a2 >>= fun y2 => (slices_IndexFunc_uint32_uint32.f_g k) a0.Up (fun z0 => lattice_join_1.f z0 (bAnd .u32 y1 y2)) >>= fun y3 => some y3
theorem lattice_join.f_le (k a0 a1 a2) : LeO (lattice_join.f_g k a0 a1 a2) (lattice_join.f a0 a1 a2) := by
 unfold lattice_join.f_g lattice_join.f
 exact (leB leR (fun y1 => (leB leR (fun y2 => (leB (slices_IndexFunc_uint32_uint32.f_le k (fun z0 => leR) _) (fun y3 => leR))))))
def lattice_down.l0_g : Nat -> (a0 : api_Lattice) -> (a1 : Int) -> (v8 : Int) -> (v9 : Int) -> Option Int
 | 0 => fun _ _ _ _ => none
 | k + 1 => fun a0 a1 v8 v9 => if v8 < (a0.Up.length : Int) then (lAt a0.Up v8 >>= fun y12 => if ¬ a1 < 0 then (if ¬ v8 < 0 then ((lattice_down.l0_g k) a0 a1 (IntKind.i64.wrap (v8 + 1)) (bOr .u32 v9 (bShl .u32 (bAnd .u32 (bShr .u32 y12 a1) 1) v8))) else none) else none) else (some v9)
theorem lattice_down.l0_le : ∀ k a0 a1 v8 v9, LeO (lattice_down.l0_g k a0 a1 v8 v9) (lattice_down.l0 a0 a1 v8 v9) := by
 intro k
 induction k with
 | zero => intros; exact leN
 | succ k ih =>
  intro a0 a1 v8 v9
  rw [lattice_down.l0]
  exact (leI (leB leR (fun y12 => (leI (leI (ih _ _ _ _) leR) leR))) leR)
def lattice_down.f_g (k : Nat) (a0 : api_Lattice) (a1 : Int) : Option Int := ((lattice_down.l0_g k) a0 a1 0 0 >>= fun x10 => some x10)
theorem lattice_down.f_le (k a0 a1) : LeO (lattice_down.f_g k a0 a1) (lattice_down.f a0 a1) := by
 unfold lattice_down.f_g lattice_down.f
 exact (leB (lattice_down.l0_le k _ _ _ _) (fun x10 => leR))
def lattice_meet.l0_g : Nat -> (a0 : api_Lattice) -> (y1 : Int) -> (y2 : Int) -> (v9 : Int) -> Option (Int ⊕ Unit)
 | 0 => fun _ _ _ _ => none
 | k + 1 => fun a0 y1 y2 v9 => if v9 < (a0.Up.length : Int) then ((lattice_down.f_g k) a0 v9 >>= fun y11 => if y11 = bAnd .u32 y1 y2 then (some (.inl v9)) else ((lattice_meet.l0_g k) a0 y1 y2 (IntKind.i64.wrap (v9 + 1)))) else (some (.inr ()))
theorem lattice_meet.l0_le : ∀ k a0 y1 y2 v9, LeO (lattice_meet.l0_g k a0 y1 y2 v9) (lattice_meet.l0 a0 y1 y2 v9) := by
 intro k
 induction k with
 | zero => intros; exact leN
 | succ k ih =>
  intro a0 y1 y2 v9
  rw [lattice_meet.l0]
  exact (leI (leB (lattice_down.f_le k _ _) (fun y11 => (leI leR (ih _ _ _ _)))) leR)
def lattice_meet.f_g (k : Nat) (a0 : api_Lattice) (a1 : Int) (a2 : Int) : Option Int := (lattice_down.f_g k) a0 a1 >>= fun y1 => (lattice_down.f_g k) a0 a2 >>= fun y2 => ((lattice_meet.l0_g k) a0 y1 y2 0 >>= fun o => match o with | .inl r => some r | .inr () => some (-1))
theorem lattice_meet.f_le (k a0 a1 a2) : LeO (lattice_meet.f_g k a0 a1 a2) (lattice_meet.f a0 a1 a2) := by
 unfold lattice_meet.f_g lattice_meet.f
 exact (leB (lattice_down.f_le k _ _) (fun y1 => (leB (lattice_down.f_le k _ _) (fun y2 => (leB (lattice_meet.l0_le k _ _ _ _) (fun o => leR))))))
def lattice_Check.y0_g (k : Nat) (a0 : api_Lattice) (v22 : Int) (v23 : Int) (v24 : Int) : Option (Bool × ((Int) × Nat)) := (((lattice_join.f_g k) a0 v23 v24 >>= fun y29 => if y29 < 0 then (some true) else ((lattice_meet.f_g k) a0 v23 v24 >>= fun y31 => some (decide (y31 < 0))) : Option Bool) >>= fun x28 => if x28 = true then (some (false, (3, 1))) else (some (true, (v22, 0))))
theorem lattice_Check.y0_le (k a0 v22 v23 v24) : LeO (lattice_Check.y0_g k a0 v22 v23 v24) (lattice_Check.y0 a0 v22 v23 v24) := by
 unfold lattice_Check.y0_g lattice_Check.y0
 exact (leB (leB (lattice_join.f_le k _ _ _) (fun y29 => (leI leR (leB (lattice_meet.f_le k _ _ _) (fun y31 => leR))))) (fun x28 => leR))
def lattice_Check.f_g (k : Nat) (a0 : api_Lattice) : Option Int := (lattice_may.f_g k) a0 >>= fun y1 => if (!y1) = true then (some 1) else ((lattice_order.f_g k) a0 >>= fun y3 => if (!y3) = true then (some 2) else (lattice_pairs.f (a0.Up.length : Int) >>= fun y5 => ((lattice_pairs_1.f_g k) (yOf ((lattice_Check.y0_g k) a0)) (0, 0) y5 >>= fun y33 => if y33.2 = 0 then (some 0) else if y33.2 = 1 then (some y33.1) else none)))
theorem lattice_Check.f_le (k a0) : LeO (lattice_Check.f_g k a0) (lattice_Check.f a0) := by
 unfold lattice_Check.f_g lattice_Check.f
 exact (leB (lattice_may.f_le k _) (fun y1 => (leI leR (leB (lattice_order.f_le k _) (fun y3 => (leI leR (leB leR (fun y5 => (leB (lattice_pairs_1.f_le k (leY (lattice_Check.y0_le k _)) _ _) (fun y33 => leR))))))))))
def rule_made.l0_g : Nat -> (a0 : List Int) -> (v269 : List Bool) -> (v270 : Int) -> Option ((Bool × Bool) ⊕ (List Bool))
 | 0 => fun _ _ _ => none
 | k + 1 => fun a0 v269 v270 => if v270 < (a0.length : Int) then (((lAt a0 v270 >>= fun y340 => ((if y340 = 1 then (if (v269.length + ([false] : List Bool).length) * 1 <= big then (some (v269 ++ ([false] : List Bool), true)) else none) else (if y340 = 2 then (if (v269.length + ([false] : List Bool).length) * 1 <= big then (some (v269 ++ ([false] : List Bool), true)) else none) else (if y340 = 6 then (if (v269.length + ([true] : List Bool).length) * 1 <= big then (some (v269 ++ ([true] : List Bool), true)) else none) else (if y340 = 7 then (if (v269.length + ([true] : List Bool).length) * 1 <= big then (some (v269 ++ ([true] : List Bool), true)) else none) else (if y340 = 8 then (if (v269.length + ([true] : List Bool).length) * 1 <= big then (some (v269 ++ ([true] : List Bool), true)) else none) else (if y340 = 9 then (if (v269.length + ([true] : List Bool).length) * 1 <= big then (some (v269 ++ ([true] : List Bool), true)) else none) else (if y340 = 10 then (if (v269.length + ([true] : List Bool).length) * 1 <= big then (some (v269 ++ ([true] : List Bool), true)) else none) else (if y340 = 11 then (if (v269.length + ([true] : List Bool).length) * 1 <= big then (some (v269 ++ ([true] : List Bool), true)) else none) else (if y340 = 3 then (rule_made_1.f false v269 >>= fun y391 => if (y391.1.length + ([false] : List Bool).length) * 1 <= big then (some (y391.1 ++ ([false] : List Bool), y391.2)) else none) else (if y340 = 4 then (rule_made_1.f false v269 >>= fun y394 => if (y394.1.length + ([false] : List Bool).length) * 1 <= big then (some (y394.1 ++ ([false] : List Bool), y394.2)) else none) else (if y340 = 5 then (rule_made_1.f true v269 >>= fun y397 => if (y397.1.length + ([false] : List Bool).length) * 1 <= big then (some (y397.1 ++ ([false] : List Bool), y397.2)) else none) else (if y340 = 12 then (rule_made_1.f true v269 >>= fun y400 => if (y400.1.length + ([true] : List Bool).length) * 1 <= big then (some (y400.1 ++ ([true] : List Bool), y400.2)) else none) else (if y340 = 13 then (rule_made_1.f true v269 >>= fun y403 => if (y403.1.length + ([true] : List Bool).length) * 1 <= big then (some (y403.1 ++ ([true] : List Bool), y403.2)) else none) else (some (v269, false)))))))))))))) : Option ((List Bool) × Bool)) >>= fun o => match o with | (x372, x373) => if (!x373) = true then (some (.inl (false, false))) else (some (.inr x372))) : Option ((Bool × Bool) ⊕ (List Bool))) >>= fun o => match o with | .inl r => some (.inl r) | .inr x339 => (rule_made.l0_g k) a0 x339 (IntKind.i64.wrap (v270 + 1)))) else (some (.inr v269))
theorem rule_made.l0_le : ∀ k a0 v269 v270, LeO (rule_made.l0_g k a0 v269 v270) (rule_made.l0 a0 v269 v270) := by
 intro k
 induction k with
 | zero => intros; exact leN
 | succ k ih =>
  intro a0 v269 v270
  rw [rule_made.l0]
  exact (leI (leB (leB leR (fun y340 => (leB leR (fun o => (match o with | (x372, x373) => leR))))) (fun o => (match o with | .inl r => leR | .inr x339 => (ih _ _ _)))) leR)
def rule_made.f_g (k : Nat) (a0 : List Int) : Option (Bool × Bool) := ((rule_made.l0_g k) a0 ([] : List Bool) 0 >>= fun o => match o with | .inl r => some r | .inr x271 => ((if (x271.length : Int) = 1 then (some (decide ((a0.length : Int) > 40))) else (some true) : Option Bool) >>= fun x407 => if x407 = true then (some (false, false)) else (lAt x271 0 >>= fun y410 => some (y410, true))))
theorem rule_made.f_le (k a0) : LeO (rule_made.f_g k a0) (rule_made.f a0) := by
 unfold rule_made.f_g rule_made.f
 exact (leB (rule_made.l0_le k _ _ _) (fun o => (match o with | .inl r => leR | .inr x271 => leR)))
def rule_Right.f_g (k : Nat) (a0 : List Int) (a1 : Bool) : Option Bool := (rule_made.f_g k) a0 >>= fun y1 => ((if y1.2 = true then (some (decide (y1.1 = a1))) else (some false) : Option Bool) >>= fun x3 => some x3)
theorem rule_Right.f_le (k a0 a1) : LeO (rule_Right.f_g k a0 a1) (rule_Right.f a0 a1) := by
 unfold rule_Right.f_g rule_Right.f
 exact (leB (rule_made.f_le k _) (fun y1 => leR))
def table_right.f_g (k : Nat) (a0 : api_Row) : Option Bool := (((rule_Right.f_g k) a0.May false >>= fun y7 => if y7 = true then ((rule_Right.f_g k) a0.Res true >>= fun y9 => if y9 = true then ((rule_Right.f_g k) a0.Pc true >>= fun y11 => some y11) else (some false)) else (some false) : Option Bool) >>= fun x6 => some x6)
theorem table_right.f_le (k a0) : LeO (table_right.f_g k a0) (table_right.f a0) := by
 unfold table_right.f_g table_right.f
 exact (leB (leB (rule_Right.f_le k _ _) (fun y7 => (leI (leB (rule_Right.f_le k _ _) (fun y9 => (leI (leB (rule_Right.f_le k _ _) (fun y11 => leR)) leR))) leR))) (fun x6 => leR))
def rule_Uses.l0_g : Nat -> (a0 : List Int) -> (v31 : Int) -> (v32 : Int) -> Option Int
 | 0 => fun _ _ _ => none
 | k + 1 => fun a0 v31 v32 => if v31 < (a0.length : Int) then (((lAt a0 v31 >>= fun y42 => ((if y42 >= 8 then (some (decide (y42 <= 11))) else (some false) : Option Bool) >>= fun x44 => if x44 = true then (if ¬ IntKind.i64.wrap (y42 - 8) < 0 then (some (bOr .u32 v32 (bShl .u32 1 (IntKind.i64.wrap (y42 - 8))))) else none) else (some v32)) : Option Int) >>= fun x41 => (rule_Uses.l0_g k) a0 (IntKind.i64.wrap (v31 + 1)) x41)) else (some v32)
theorem rule_Uses.l0_le : ∀ k a0 v31 v32, LeO (rule_Uses.l0_g k a0 v31 v32) (rule_Uses.l0 a0 v31 v32) := by
 intro k
 induction k with
 | zero => intros; exact leN
 | succ k ih =>
  intro a0 v31 v32
  rw [rule_Uses.l0]
  exact (leI (leB leR (fun x41 => (ih _ _ _))) leR)
def rule_Uses.f_g (k : Nat) (a0 : List Int) : Option (Int × Int) := (rule_made.f_g k) a0 >>= fun y1 => if (!y1.2) = true then (some (0, 1)) else (((rule_Uses.l0_g k) a0 0 0 >>= fun x33 => some (x33, 0)))
theorem rule_Uses.f_le (k a0) : LeO (rule_Uses.f_g k a0) (rule_Uses.f a0) := by
 unfold rule_Uses.f_g rule_Uses.f
 exact (leB (rule_made.f_le k _) (fun y1 => (leI leR (leB (rule_Uses.l0_le k _ _ _) (fun x33 => leR)))))
def table_has.f_g (k : Nat) (a0 : Int) (a1 : List Int) : Option Bool := (rule_Uses.f_g k) a1 >>= fun y1 => ((if y1.2 = 0 then (lAt gl0 a0 >>= fun y7 => if ¬ IntKind.i64.wrap (y7 + 1) < 0 then (some (decide (bShr .u32 y1.1 (IntKind.i64.wrap (y7 + 1)) = 0))) else none) else (some false) : Option Bool) >>= fun x5 => some x5)
theorem table_has.f_le (k a0 a1) : LeO (table_has.f_g k a0 a1) (table_has.f a0 a1) := by
 unfold table_has.f_g table_has.f
 exact (leB (rule_Uses.f_le k _) (fun y1 => leR))
def table_suits.f_g (k : Nat) (a0 : Int) (a1 : api_Row) : Option Bool := (((table_has.f_g k) a0 a1.May >>= fun y7 => if y7 = true then ((table_has.f_g k) a0 a1.Res >>= fun y9 => if y9 = true then ((table_has.f_g k) a0 a1.Pc >>= fun y11 => some y11) else (some false)) else (some false) : Option Bool) >>= fun x6 => some x6)
theorem table_suits.f_le (k a0 a1) : LeO (table_suits.f_g k a0 a1) (table_suits.f a0 a1) := by
 unfold table_suits.f_g table_suits.f
 exact (leB (leB (table_has.f_le k _ _) (fun y7 => (leI (leB (table_has.f_le k _ _) (fun y9 => (leI (leB (table_has.f_le k _ _) (fun y11 => leR)) leR))) leR))) (fun x6 => leR))
def table_Check.l0_g : Nat -> (a0 : api_Table) -> (v14 : Int) -> Option ((Int × Int) ⊕ Unit)
 | 0 => fun _ _ => none
 | k + 1 => fun a0 v14 => if v14 < (a0.Rows.length : Int) then (lAt a0.Rows v14 >>= fun y16 => (table_right.f_g k) y16 >>= fun y17 => if (!y17) = true then (some (.inl (v14, 1))) else ((table_suits.f_g k) v14 y16 >>= fun y19 => if (!y19) = true then (some (.inl (v14, 7))) else ((table_Check.l0_g k) a0 (IntKind.i64.wrap (v14 + 1))))) else (some (.inr ()))
theorem table_Check.l0_le : ∀ k a0 v14, LeO (table_Check.l0_g k a0 v14) (table_Check.l0 a0 v14) := by
 intro k
 induction k with
 | zero => intros; exact leN
 | succ k ih =>
  intro a0 v14
  rw [table_Check.l0]
  exact (leI (leB leR (fun y16 => (leB (table_right.f_le k _) (fun y17 => (leI leR (leB (table_suits.f_le k _ _) (fun y19 => (leI leR (ih _ _))))))))) leR)
def table_Check.f_g (k : Nat) (a0 : api_Table) : Option (Int × Int) := if (a0.Rows.length : Int) = 13 then (((table_Check.l0_g k) a0 0 >>= fun o => match o with | .inl r => some r | .inr () => some (0, 0))) else (some (0, 1))
theorem table_Check.f_le (k a0) : LeO (table_Check.f_g k a0) (table_Check.f a0) := by
 unfold table_Check.f_g table_Check.f
 exact (leI (leB (table_Check.l0_le k _ _) (fun o => leR)) leR)
def slices_IndexFunc_api_Instr_api_Instr.l0_g : Nat -> (a0 : List api_Instr) -> (a1 : api_Instr -> Option Bool) -> (v9 : Int) -> Option (Int ⊕ Unit)
 | 0 => fun _ _ _ => none
 | k + 1 => fun a0 a1 v9 => if v9 < (a0.length : Int) then (lAt a0 v9 >>= fun y11 => a1 y11 >>= fun y12 => if y12 = true then (some (.inl v9)) else ((slices_IndexFunc_api_Instr_api_Instr.l0_g k) a0 a1 (IntKind.i64.wrap (v9 + 1)))) else (some (.inr ()))
theorem slices_IndexFunc_api_Instr_api_Instr.l0_le : ∀ (k : Nat) {a1_ a1 : api_Instr -> Option Bool} (h_a1 : ∀ q0, LeO (a1_ q0) (a1 q0)) (a0 : List api_Instr) (v9 : Int), LeO (slices_IndexFunc_api_Instr_api_Instr.l0_g k a0 a1_ v9) (slices_IndexFunc_api_Instr_api_Instr.l0 a0 a1 v9) := by
 intro k
 induction k with
 | zero => intros; exact leN
 | succ k ih =>
  intro a1_ a1 h_a1 a0 v9
  rw [slices_IndexFunc_api_Instr_api_Instr.l0]
  exact (leI (leB leR (fun y11 => (leB (h_a1 _) (fun y12 => (leI leR (ih h_a1 _ _)))))) leR)
def slices_IndexFunc_api_Instr_api_Instr.f_g (k : Nat) (a0 : List api_Instr) (a1 : api_Instr -> Option Bool) : Option Int := ((slices_IndexFunc_api_Instr_api_Instr.l0_g k) a0 a1 0 >>= fun o => match o with | .inl r => some r | .inr () => some (-1))
theorem slices_IndexFunc_api_Instr_api_Instr.f_le (k : Nat) {a1_ a1 : api_Instr -> Option Bool} (h_a1 : ∀ q0, LeO (a1_ q0) (a1 q0)) (a0 : List api_Instr) : LeO (slices_IndexFunc_api_Instr_api_Instr.f_g k a0 a1_) (slices_IndexFunc_api_Instr_api_Instr.f a0 a1) := by
 unfold slices_IndexFunc_api_Instr_api_Instr.f_g slices_IndexFunc_api_Instr_api_Instr.f
 exact (leB (slices_IndexFunc_api_Instr_api_Instr.l0_le k h_a1 _ _) (fun o => leR))
def slices_ContainsFunc_api_Instr_api_Instr.f_g (k : Nat) (a0 : List api_Instr) (a1 : api_Instr -> Option Bool) : Option Bool := (slices_IndexFunc_api_Instr_api_Instr.f_g k) a0 a1 >>= fun y1 => some (decide (y1 >= 0))
theorem slices_ContainsFunc_api_Instr_api_Instr.f_le (k : Nat) {a1_ a1 : api_Instr -> Option Bool} (h_a1 : ∀ q0, LeO (a1_ q0) (a1 q0)) (a0 : List api_Instr) : LeO (slices_ContainsFunc_api_Instr_api_Instr.f_g k a0 a1_) (slices_ContainsFunc_api_Instr_api_Instr.f a0 a1) := by
 unfold slices_ContainsFunc_api_Instr_api_Instr.f_g slices_ContainsFunc_api_Instr_api_Instr.f
 exact (leB (slices_IndexFunc_api_Instr_api_Instr.f_le k h_a1 _) (fun y1 => leR))
def code_Right.f_g (k : Nat) (a0 : api_Lattice) (a1 : List api_Instr) : Option Bool := (((lattice_Check.f_g k) a0 >>= fun y6 => if y6 = 0 then (if (a1.length : Int) <= 12 then ((slices_ContainsFunc_api_Instr_api_Instr.f_g k) a1 (fun z0 => code_Right_1.f z0 a0) >>= fun y9 => some (!y9)) else (some false)) else (some false) : Option Bool) >>= fun x5 => some x5)
theorem code_Right.f_le (k a0 a1) : LeO (code_Right.f_g k a0 a1) (code_Right.f a0 a1) := by
 unfold code_Right.f_g code_Right.f
 exact (leB (leB (lattice_Check.f_le k _) (fun y6 => (leI (leI (leB (slices_ContainsFunc_api_Instr_api_Instr.f_le k (fun z0 => leR) _) (fun y9 => leR)) leR) leR))) (fun x5 => leR))
def slices_IndexFunc_api_Atom_api_Atom.l0_g : Nat -> (a0 : List api_Atom) -> (a1 : api_Atom -> Option Bool) -> (v9 : Int) -> Option (Int ⊕ Unit)
 | 0 => fun _ _ _ => none
 | k + 1 => fun a0 a1 v9 => if v9 < (a0.length : Int) then (lAt a0 v9 >>= fun y11 => a1 y11 >>= fun y12 => if y12 = true then (some (.inl v9)) else ((slices_IndexFunc_api_Atom_api_Atom.l0_g k) a0 a1 (IntKind.i64.wrap (v9 + 1)))) else (some (.inr ()))
theorem slices_IndexFunc_api_Atom_api_Atom.l0_le : ∀ (k : Nat) {a1_ a1 : api_Atom -> Option Bool} (h_a1 : ∀ q0, LeO (a1_ q0) (a1 q0)) (a0 : List api_Atom) (v9 : Int), LeO (slices_IndexFunc_api_Atom_api_Atom.l0_g k a0 a1_ v9) (slices_IndexFunc_api_Atom_api_Atom.l0 a0 a1 v9) := by
 intro k
 induction k with
 | zero => intros; exact leN
 | succ k ih =>
  intro a1_ a1 h_a1 a0 v9
  rw [slices_IndexFunc_api_Atom_api_Atom.l0]
  exact (leI (leB leR (fun y11 => (leB (h_a1 _) (fun y12 => (leI leR (ih h_a1 _ _)))))) leR)
def slices_IndexFunc_api_Atom_api_Atom.f_g (k : Nat) (a0 : List api_Atom) (a1 : api_Atom -> Option Bool) : Option Int := ((slices_IndexFunc_api_Atom_api_Atom.l0_g k) a0 a1 0 >>= fun o => match o with | .inl r => some r | .inr () => some (-1))
theorem slices_IndexFunc_api_Atom_api_Atom.f_le (k : Nat) {a1_ a1 : api_Atom -> Option Bool} (h_a1 : ∀ q0, LeO (a1_ q0) (a1 q0)) (a0 : List api_Atom) : LeO (slices_IndexFunc_api_Atom_api_Atom.f_g k a0 a1_) (slices_IndexFunc_api_Atom_api_Atom.f a0 a1) := by
 unfold slices_IndexFunc_api_Atom_api_Atom.f_g slices_IndexFunc_api_Atom_api_Atom.f
 exact (leB (slices_IndexFunc_api_Atom_api_Atom.l0_le k h_a1 _ _) (fun o => leR))
def slices_ContainsFunc_api_Atom_api_Atom.f_g (k : Nat) (a0 : List api_Atom) (a1 : api_Atom -> Option Bool) : Option Bool := (slices_IndexFunc_api_Atom_api_Atom.f_g k) a0 a1 >>= fun y1 => some (decide (y1 >= 0))
theorem slices_ContainsFunc_api_Atom_api_Atom.f_le (k : Nat) {a1_ a1 : api_Atom -> Option Bool} (h_a1 : ∀ q0, LeO (a1_ q0) (a1 q0)) (a0 : List api_Atom) : LeO (slices_ContainsFunc_api_Atom_api_Atom.f_g k a0 a1_) (slices_ContainsFunc_api_Atom_api_Atom.f a0 a1) := by
 unfold slices_ContainsFunc_api_Atom_api_Atom.f_g slices_ContainsFunc_api_Atom_api_Atom.f
 exact (leB (slices_IndexFunc_api_Atom_api_Atom.f_le k h_a1 _) (fun y1 => leR))
def slices_IndexFunc_api_Slot_api_Slot.l0_g : Nat -> (a0 : List api_Slot) -> (a1 : api_Slot -> Option Bool) -> (v9 : Int) -> Option (Int ⊕ Unit)
 | 0 => fun _ _ _ => none
 | k + 1 => fun a0 a1 v9 => if v9 < (a0.length : Int) then (lAt a0 v9 >>= fun y11 => a1 y11 >>= fun y12 => if y12 = true then (some (.inl v9)) else ((slices_IndexFunc_api_Slot_api_Slot.l0_g k) a0 a1 (IntKind.i64.wrap (v9 + 1)))) else (some (.inr ()))
theorem slices_IndexFunc_api_Slot_api_Slot.l0_le : ∀ (k : Nat) {a1_ a1 : api_Slot -> Option Bool} (h_a1 : ∀ q0, LeO (a1_ q0) (a1 q0)) (a0 : List api_Slot) (v9 : Int), LeO (slices_IndexFunc_api_Slot_api_Slot.l0_g k a0 a1_ v9) (slices_IndexFunc_api_Slot_api_Slot.l0 a0 a1 v9) := by
 intro k
 induction k with
 | zero => intros; exact leN
 | succ k ih =>
  intro a1_ a1 h_a1 a0 v9
  rw [slices_IndexFunc_api_Slot_api_Slot.l0]
  exact (leI (leB leR (fun y11 => (leB (h_a1 _) (fun y12 => (leI leR (ih h_a1 _ _)))))) leR)
def slices_IndexFunc_api_Slot_api_Slot.f_g (k : Nat) (a0 : List api_Slot) (a1 : api_Slot -> Option Bool) : Option Int := ((slices_IndexFunc_api_Slot_api_Slot.l0_g k) a0 a1 0 >>= fun o => match o with | .inl r => some r | .inr () => some (-1))
theorem slices_IndexFunc_api_Slot_api_Slot.f_le (k : Nat) {a1_ a1 : api_Slot -> Option Bool} (h_a1 : ∀ q0, LeO (a1_ q0) (a1 q0)) (a0 : List api_Slot) : LeO (slices_IndexFunc_api_Slot_api_Slot.f_g k a0 a1_) (slices_IndexFunc_api_Slot_api_Slot.f a0 a1) := by
 unfold slices_IndexFunc_api_Slot_api_Slot.f_g slices_IndexFunc_api_Slot_api_Slot.f
 exact (leB (slices_IndexFunc_api_Slot_api_Slot.l0_le k h_a1 _ _) (fun o => leR))
def slices_ContainsFunc_api_Slot_api_Slot.f_g (k : Nat) (a0 : List api_Slot) (a1 : api_Slot -> Option Bool) : Option Bool := (slices_IndexFunc_api_Slot_api_Slot.f_g k) a0 a1 >>= fun y1 => some (decide (y1 >= 0))
theorem slices_ContainsFunc_api_Slot_api_Slot.f_le (k : Nat) {a1_ a1 : api_Slot -> Option Bool} (h_a1 : ∀ q0, LeO (a1_ q0) (a1 q0)) (a0 : List api_Slot) : LeO (slices_ContainsFunc_api_Slot_api_Slot.f_g k a0 a1_) (slices_ContainsFunc_api_Slot_api_Slot.f a0 a1) := by
 unfold slices_ContainsFunc_api_Slot_api_Slot.f_g slices_ContainsFunc_api_Slot_api_Slot.f
 exact (leB (slices_IndexFunc_api_Slot_api_Slot.f_le k h_a1 _) (fun y1 => leR))
def state_Right.f_g (k : Nat) (a0 : api_Lattice) (a1 : api_State) : Option Bool := ((if (a1.Mem.length : Int) <= 6 then (if (a1.Stack.length : Int) <= 12 then (some (decide ((a1.Out.length : Int) <= 8))) else (some false)) else (some false) : Option Bool) >>= fun x3 => (((code_Right.f_g k) a0 a1.Code >>= fun y20 => if y20 = true then (state_place.f a1.Pc.V >>= fun y22 => if y22 = true then ((some (fun z0 => state_Right_1.f z0 a0)) >>= fun y24 => y24 a1.Pc.L >>= fun y25 => if y25 = true then (if x3 = true then ((slices_ContainsFunc_api_Atom_api_Atom.f_g k) a1.Mem (fun z0 => state_Right_2.f z0 (some (fun z0 => state_Right_1.f z0 a0))) >>= fun y28 => if (!y28) = true then ((slices_ContainsFunc_api_Slot_api_Slot.f_g k) a1.Stack (fun z0 => state_Right_3.f z0 (some (fun z0 => state_Right_1.f z0 a0))) >>= fun y30 => if (!y30) = true then ((slices_ContainsFunc_api_Atom_api_Atom.f_g k) a1.Out (fun z0 => state_Right_2.f z0 (some (fun z0 => state_Right_1.f z0 a0))) >>= fun y32 => some (!y32)) else (some false)) else (some false)) else (some false)) else (some false)) else (some false)) else (some false) : Option Bool) >>= fun x19 => some x19))
theorem state_Right.f_le (k a0 a1) : LeO (state_Right.f_g k a0 a1) (state_Right.f a0 a1) := by
 unfold state_Right.f_g state_Right.f
 exact (leB leR (fun x3 => (leB (leB (code_Right.f_le k _ _) (fun y20 => (leI (leB leR (fun y22 => (leI (leB leR (fun y24 => (leB leR (fun y25 => (leI (leI (leB (slices_ContainsFunc_api_Atom_api_Atom.f_le k (fun z0 => leR) _) (fun y28 => (leI (leB (slices_ContainsFunc_api_Slot_api_Slot.f_le k (fun z0 => leR) _) (fun y30 => (leI (leB (slices_ContainsFunc_api_Atom_api_Atom.f_le k (fun z0 => leR) _) (fun y32 => leR)) leR))) leR))) leR) leR))))) leR))) leR))) (fun x19 => leR))))
def slices_IndexFunc_int_int.l0_g : Nat -> (a0 : List Int) -> (a1 : Int -> Option Bool) -> (v9 : Int) -> Option (Int ⊕ Unit)
 | 0 => fun _ _ _ => none
 | k + 1 => fun a0 a1 v9 => if v9 < (a0.length : Int) then (lAt a0 v9 >>= fun y11 => a1 y11 >>= fun y12 => if y12 = true then (some (.inl v9)) else ((slices_IndexFunc_int_int.l0_g k) a0 a1 (IntKind.i64.wrap (v9 + 1)))) else (some (.inr ()))
theorem slices_IndexFunc_int_int.l0_le : ∀ (k : Nat) {a1_ a1 : Int -> Option Bool} (h_a1 : ∀ q0, LeO (a1_ q0) (a1 q0)) (a0 : List Int) (v9 : Int), LeO (slices_IndexFunc_int_int.l0_g k a0 a1_ v9) (slices_IndexFunc_int_int.l0 a0 a1 v9) := by
 intro k
 induction k with
 | zero => intros; exact leN
 | succ k ih =>
  intro a1_ a1 h_a1 a0 v9
  rw [slices_IndexFunc_int_int.l0]
  exact (leI (leB leR (fun y11 => (leB (h_a1 _) (fun y12 => (leI leR (ih h_a1 _ _)))))) leR)
def slices_IndexFunc_int_int.f_g (k : Nat) (a0 : List Int) (a1 : Int -> Option Bool) : Option Int := ((slices_IndexFunc_int_int.l0_g k) a0 a1 0 >>= fun o => match o with | .inl r => some r | .inr () => some (-1))
theorem slices_IndexFunc_int_int.f_le (k : Nat) {a1_ a1 : Int -> Option Bool} (h_a1 : ∀ q0, LeO (a1_ q0) (a1 q0)) (a0 : List Int) : LeO (slices_IndexFunc_int_int.f_g k a0 a1_) (slices_IndexFunc_int_int.f a0 a1) := by
 unfold slices_IndexFunc_int_int.f_g slices_IndexFunc_int_int.f
 exact (leB (slices_IndexFunc_int_int.l0_le k h_a1 _ _) (fun o => leR))
def slices_ContainsFunc_int_int.f_g (k : Nat) (a0 : List Int) (a1 : Int -> Option Bool) : Option Bool := (slices_IndexFunc_int_int.f_g k) a0 a1 >>= fun y1 => some (decide (y1 >= 0))
theorem slices_ContainsFunc_int_int.f_le (k : Nat) {a1_ a1 : Int -> Option Bool} (h_a1 : ∀ q0, LeO (a1_ q0) (a1 q0)) (a0 : List Int) : LeO (slices_ContainsFunc_int_int.f_g k a0 a1_) (slices_ContainsFunc_int_int.f a0 a1) := by
 unfold slices_ContainsFunc_int_int.f_g slices_ContainsFunc_int_int.f
 exact (leB (slices_IndexFunc_int_int.f_le k h_a1 _) (fun y1 => leR))
def lattice_there.f_g (k : Nat) (a0 : api_Lattice) (a1 : List Int) : Option Int := (lattice_Check.f_g k) a0 >>= fun y1 => if y1 = 0 then ((slices_ContainsFunc_int_int.f_g k) a1 (fun z0 => lattice_there_1.f z0 a0) >>= fun y3 => if y3 = true then (some 9) else (some 0)) else (some y1)
theorem lattice_there.f_le (k a0 a1) : LeO (lattice_there.f_g k a0 a1) (lattice_there.f a0 a1) := by
 unfold lattice_there.f_g lattice_there.f
 exact (leB (lattice_Check.f_le k _) (fun y1 => (leI (leB (slices_ContainsFunc_int_int.f_le k (fun z0 => leR) _) (fun y3 => leR)) leR)))
def slices_Index_uint32_uint32.l0_g : Nat -> (a0 : List Int) -> (a1 : Int) -> (v7 : Int) -> Option (Int ⊕ Unit)
 | 0 => fun _ _ _ => none
 | k + 1 => fun a0 a1 v7 => if v7 < (a0.length : Int) then (lAt a0 v7 >>= fun y9 => if a1 = y9 then (some (.inl v7)) else ((slices_Index_uint32_uint32.l0_g k) a0 a1 (IntKind.i64.wrap (v7 + 1)))) else (some (.inr ()))
theorem slices_Index_uint32_uint32.l0_le : ∀ k a0 a1 v7, LeO (slices_Index_uint32_uint32.l0_g k a0 a1 v7) (slices_Index_uint32_uint32.l0 a0 a1 v7) := by
 intro k
 induction k with
 | zero => intros; exact leN
 | succ k ih =>
  intro a0 a1 v7
  rw [slices_Index_uint32_uint32.l0]
  exact (leI (leB leR (fun y9 => (leI leR (ih _ _ _)))) leR)
def slices_Index_uint32_uint32.f_g (k : Nat) (a0 : List Int) (a1 : Int) : Option Int := ((slices_Index_uint32_uint32.l0_g k) a0 a1 0 >>= fun o => match o with | .inl r => some r | .inr () => some (-1))
theorem slices_Index_uint32_uint32.f_le (k a0 a1) : LeO (slices_Index_uint32_uint32.f_g k a0 a1) (slices_Index_uint32_uint32.f a0 a1) := by
 unfold slices_Index_uint32_uint32.f_g slices_Index_uint32_uint32.f
 exact (leB (slices_Index_uint32_uint32.l0_le k _ _ _) (fun o => leR))
def lattice_Bottom.f_g (k : Nat) (a0 : api_Lattice) : Option (Int × Int) := (lattice_there.f_g k) a0 [] >>= fun y1 => if y1 = 0 then (if ¬ (a0.Up.length : Int) < 0 then ((slices_Index_uint32_uint32.f_g k) a0.Up (IntKind.u32.wrap ((bShl .u32 1 (a0.Up.length : Int)) - 1)) >>= fun y4 => some (y4, 0)) else none) else (some (0, y1))
theorem lattice_Bottom.f_le (k a0) : LeO (lattice_Bottom.f_g k a0) (lattice_Bottom.f a0) := by
 unfold lattice_Bottom.f_g lattice_Bottom.f
 exact (leB (lattice_there.f_le k _ _) (fun y1 => (leI (leI (leB (slices_Index_uint32_uint32.f_le k _ _) (fun y4 => leR)) leR) leR)))
def step_machine_calls.l0_g : Nat -> (y3 : step_machine) -> (v12 : step_machine) -> (v13 : Int) -> Option ((Pn ⊕ step_machine) ⊕ step_machine)
 | 0 => fun _ _ _ => none
 | k + 1 => fun y3 v12 v13 => if v13 < y3.x_.N then (step_machine_atom.f v12 (IntKind.i64.wrap (1 + v13)) >>= fun z16 => match z16 with | .inl p17 => some (.inl (.inl p17)) | .inr y18 => (step_machine_calls.l0_g k) y3 y18.1 (IntKind.i64.wrap (v13 + 1))) else (some (.inr v12))
theorem step_machine_calls.l0_le : ∀ k y3 v12 v13, LeO (step_machine_calls.l0_g k y3 v12 v13) (step_machine_calls.l0 y3 v12 v13) := by
 intro k
 induction k with
 | zero => intros; exact leN
 | succ k ih =>
  intro y3 v12 v13
  rw [step_machine_calls.l0]
  exact (leI (leB leR (fun z16 => (match z16 with | .inl p17 => leR | .inr y18 => (ih _ _ _)))) leR)
def step_machine_calls.f_g (k : Nat) (a0 : step_machine) : Option (Pn ⊕ step_machine) := step_machine_goes.f a0 >>= fun z1 => match z1 with | .inl p2 => some (.inl p2) | .inr y3 => ((step_machine_calls.l0_g k) y3 y3 0 >>= fun o => match o with | .inl r => some r | .inr x14 => some (.inr x14))
theorem step_machine_calls.f_le (k a0) : LeO (step_machine_calls.f_g k a0) (step_machine_calls.f a0) := by
 unfold step_machine_calls.f_g step_machine_calls.f
 exact (leB leR (fun z1 => (match z1 with | .inl p2 => leR | .inr y3 => (leB (step_machine_calls.l0_le k _ _ _) (fun o => (match o with | .inl r => leR | .inr x14 => leR))))))
def step_machine_returns.l0_g : Nat -> (y4 : step_machine) -> (v17 : Int) -> Option Int
 | 0 => fun _ _ => none
 | k + 1 => fun y4 v17 => ((if v17 > 0 then (lAt y4.s_.Stack (IntKind.i64.wrap (v17 - 1)) >>= fun y23 => some (!y23.Ret)) else (some false) : Option Bool) >>= fun x21 => if x21 = true then ((step_machine_returns.l0_g k) y4 (IntKind.i64.wrap (v17 - 1))) else (some v17))
theorem step_machine_returns.l0_le : ∀ k y4 v17, LeO (step_machine_returns.l0_g k y4 v17) (step_machine_returns.l0 y4 v17) := by
 intro k
 induction k with
 | zero => intros; exact leN
 | succ k ih =>
  intro y4 v17
  rw [step_machine_returns.l0]
  exact (leB leR (fun x21 => (leI (ih _ _) leR)))
def step_machine_returns.l1_g : Nat -> (a0 : step_machine) -> (v41 : Int) -> Option Int
 | 0 => fun _ _ => none
 | k + 1 => fun a0 v41 => ((if v41 > 0 then (lAt a0.s_.Stack (IntKind.i64.wrap (v41 - 1)) >>= fun y47 => some (!y47.Ret)) else (some false) : Option Bool) >>= fun x45 => if x45 = true then ((step_machine_returns.l1_g k) a0 (IntKind.i64.wrap (v41 - 1))) else (some v41))
theorem step_machine_returns.l1_le : ∀ k a0 v41, LeO (step_machine_returns.l1_g k a0 v41) (step_machine_returns.l1 a0 v41) := by
 intro k
 induction k with
 | zero => intros; exact leN
 | succ k ih =>
  intro a0 v41
  rw [step_machine_returns.l1]
  exact (leB leR (fun x45 => (leI (ih _ _) leR)))
def step_machine_returns.f_g (k : Nat) (a0 : step_machine) : Option (Pn ⊕ step_machine) := if a0.x_.N = 1 then (step_machine_first.f (⟨a0.l_, a0.s_, a0.x_, a0.a_, a0.b_, a0.r_, (a0.s_.Stack.length : Int), a0.one_⟩ : step_machine) >>= fun z2 => match z2 with | .inl p3 => some (.inl p3) | .inr y4 => ((step_machine_returns.l0_g k) y4 y4.below_ >>= fun x18 => step_need.f (decide (x18 > 0)) >>= fun z25 => match z25 with | .inl p26 => some (.inl p26) | .inr y27 => lAt y4.s_.Stack (IntKind.i64.wrap (x18 - 1)) >>= fun y28 => some (.inr (⟨y4.l_, y4.s_, y4.x_, y4.a_, y4.b_, y28, IntKind.i64.wrap (x18 - 1), ⟨y4.one_.x0_, y28.L, y4.one_.x2_⟩⟩ : step_machine)))) else (((step_machine_returns.l1_g k) a0 (a0.s_.Stack.length : Int) >>= fun x42 => step_need.f (decide (x42 > 0)) >>= fun z49 => match z49 with | .inl p50 => some (.inl p50) | .inr y51 => lAt a0.s_.Stack (IntKind.i64.wrap (x42 - 1)) >>= fun y52 => some (.inr (⟨a0.l_, a0.s_, a0.x_, a0.a_, a0.b_, y52, IntKind.i64.wrap (x42 - 1), ⟨a0.one_.x0_, y52.L, a0.one_.x2_⟩⟩ : step_machine))))
theorem step_machine_returns.f_le (k a0) : LeO (step_machine_returns.f_g k a0) (step_machine_returns.f a0) := by
 unfold step_machine_returns.f_g step_machine_returns.f
 exact (leI (leB leR (fun z2 => (match z2 with | .inl p3 => leR | .inr y4 => (leB (step_machine_returns.l0_le k _ _) (fun x18 => (leB leR (fun z25 => (match z25 with | .inl p26 => leR | .inr y27 => leR)))))))) (leB (step_machine_returns.l1_le k _ _) (fun x42 => (leB leR (fun z49 => (match z49 with | .inl p50 => leR | .inr y51 => leR))))))
def step_machine_needs.f_g (k : Nat) (a0 : step_machine) : Option (Pn ⊕ step_machine) := if a0.x_.Op = 0 then (step_machine_nothing.f (⟨a0.l_, a0.s_, a0.x_, a0.a_, a0.b_, a0.r_, (a0.s_.Stack.length : Int), a0.one_⟩ : step_machine) >>= fun y2 => some (.inr y2)) else (if a0.x_.Op = 12 then (step_machine_nothing.f (⟨a0.l_, a0.s_, a0.x_, a0.a_, a0.b_, a0.r_, (a0.s_.Stack.length : Int), a0.one_⟩ : step_machine) >>= fun y4 => some (.inr y4)) else (if a0.x_.Op = 1 then (step_machine_pushes.f (⟨a0.l_, a0.s_, a0.x_, a0.a_, a0.b_, a0.r_, (a0.s_.Stack.length : Int), a0.one_⟩ : step_machine) >>= fun y6 => some (.inr y6)) else (if a0.x_.Op = 2 then (step_machine_first.f (⟨a0.l_, a0.s_, a0.x_, a0.a_, a0.b_, a0.r_, (a0.s_.Stack.length : Int), a0.one_⟩ : step_machine) >>= fun z8 => match z8 with | .inl p9 => some (.inl p9) | .inr y10 => some (.inr y10)) else (if a0.x_.Op = 11 then (step_machine_first.f (⟨a0.l_, a0.s_, a0.x_, a0.a_, a0.b_, a0.r_, (a0.s_.Stack.length : Int), a0.one_⟩ : step_machine) >>= fun z12 => match z12 with | .inl p13 => some (.inl p13) | .inr y14 => some (.inr y14)) else (if a0.x_.Op = 3 then (step_machine_both.f (⟨a0.l_, a0.s_, a0.x_, a0.a_, a0.b_, a0.r_, (a0.s_.Stack.length : Int), a0.one_⟩ : step_machine) >>= fun z16 => match z16 with | .inl p17 => some (.inl p17) | .inr y18 => some (.inr y18)) else (if a0.x_.Op = 4 then (step_machine_both.f (⟨a0.l_, a0.s_, a0.x_, a0.a_, a0.b_, a0.r_, (a0.s_.Stack.length : Int), a0.one_⟩ : step_machine) >>= fun z20 => match z20 with | .inl p21 => some (.inl p21) | .inr y22 => some (.inr y22)) else (if a0.x_.Op = 5 then (step_machine_loads.f (⟨a0.l_, a0.s_, a0.x_, a0.a_, a0.b_, a0.r_, (a0.s_.Stack.length : Int), a0.one_⟩ : step_machine) >>= fun z24 => match z24 with | .inl p25 => some (.inl p25) | .inr y26 => some (.inr y26)) else (if a0.x_.Op = 6 then (step_machine_stores.f (⟨a0.l_, a0.s_, a0.x_, a0.a_, a0.b_, a0.r_, (a0.s_.Stack.length : Int), a0.one_⟩ : step_machine) >>= fun z28 => match z28 with | .inl p29 => some (.inl p29) | .inr y30 => some (.inr y30)) else (if a0.x_.Op = 7 then (step_machine_goes.f (⟨a0.l_, a0.s_, a0.x_, a0.a_, a0.b_, a0.r_, (a0.s_.Stack.length : Int), a0.one_⟩ : step_machine) >>= fun z32 => match z32 with | .inl p33 => some (.inl p33) | .inr y34 => some (.inr y34)) else (if a0.x_.Op = 8 then (step_machine_first.f (⟨a0.l_, a0.s_, a0.x_, a0.a_, a0.b_, a0.r_, (a0.s_.Stack.length : Int), a0.one_⟩ : step_machine) >>= fun z36 => match z36 with | .inl p37 => some (.inl p37) | .inr y38 => some (.inr y38)) else (if a0.x_.Op = 9 then ((step_machine_calls.f_g k) (⟨a0.l_, a0.s_, a0.x_, a0.a_, a0.b_, a0.r_, (a0.s_.Stack.length : Int), a0.one_⟩ : step_machine) >>= fun z40 => match z40 with | .inl p41 => some (.inl p41) | .inr y42 => some (.inr y42)) else (if a0.x_.Op = 10 then ((step_machine_returns.f_g k) (⟨a0.l_, a0.s_, a0.x_, a0.a_, a0.b_, a0.r_, (a0.s_.Stack.length : Int), a0.one_⟩ : step_machine) >>= fun z44 => match z44 with | .inl p45 => some (.inl p45) | .inr y46 => some (.inr y46)) else (none)))))))))))))
theorem step_machine_needs.f_le (k a0) : LeO (step_machine_needs.f_g k a0) (step_machine_needs.f a0) := by
 unfold step_machine_needs.f_g step_machine_needs.f
 exact (leI leR (leI leR (leI leR (leI (leB leR (fun z8 => (match z8 with | .inl p9 => leR | .inr y10 => leR))) (leI (leB leR (fun z12 => (match z12 with | .inl p13 => leR | .inr y14 => leR))) (leI (leB leR (fun z16 => (match z16 with | .inl p17 => leR | .inr y18 => leR))) (leI (leB leR (fun z20 => (match z20 with | .inl p21 => leR | .inr y22 => leR))) (leI (leB leR (fun z24 => (match z24 with | .inl p25 => leR | .inr y26 => leR))) (leI (leB leR (fun z28 => (match z28 with | .inl p29 => leR | .inr y30 => leR))) (leI (leB leR (fun z32 => (match z32 with | .inl p33 => leR | .inr y34 => leR))) (leI (leB leR (fun z36 => (match z36 with | .inl p37 => leR | .inr y38 => leR))) (leI (leB (step_machine_calls.f_le k _) (fun z40 => (match z40 with | .inl p41 => leR | .inr y42 => leR))) (leI (leB (step_machine_returns.f_le k _) (fun z44 => (match z44 with | .inl p45 => leR | .inr y46 => leR))) leR)))))))))))))
def judge_may.f_g (k : Nat) (a0 : api_Lattice) (a1 : List Int) (a2 : List Int) (a3 : Bool) : Option Int := (lattice_Check.f_g k) a0 >>= fun y1 => if y1 = 0 then ((rule_Right.f_g k) a1 a3 >>= fun y3 => if (!y3) = true then (some 1) else (((if (a2.length : Int) = 4 then ((slices_ContainsFunc_int_int.f_g k) a2 (fun z0 => judge_may_1.f z0 a0) >>= fun y9 => some y9) else (some true) : Option Bool) >>= fun x7 => if x7 = true then (some 9) else (some 0)))) else (some y1)
theorem judge_may.f_le (k a0 a1 a2 a3) : LeO (judge_may.f_g k a0 a1 a2 a3) (judge_may.f a0 a1 a2 a3) := by
 unfold judge_may.f_g judge_may.f
 exact (leB (lattice_Check.f_le k _) (fun y1 => (leI (leB (rule_Right.f_le k _ _) (fun y3 => (leI leR (leB (leI (leB (slices_ContainsFunc_int_int.f_le k (fun z0 => leR) _) (fun y9 => leR)) leR) (fun x7 => leR))))) leR)))
def lattice_Top.f_g (k : Nat) (a0 : api_Lattice) : Option (Int × Int) := (lattice_there.f_g k) a0 [] >>= fun y1 => if y1 = 0 then ((slices_IndexFunc_uint32_uint32.f_g k) a0.Up lattice_Top_1.f >>= fun y3 => some (y3, 0)) else (some (0, y1))
theorem lattice_Top.f_le (k a0) : LeO (lattice_Top.f_g k a0) (lattice_Top.f a0) := by
 unfold lattice_Top.f_g lattice_Top.f
 exact (leB (lattice_there.f_le k _ _) (fun y1 => (leI (leB (slices_IndexFunc_uint32_uint32.f_le k (fun _ => leR) _) (fun y3 => leR)) leR)))
def lattice_Flows.f_g (k : Nat) (a0 : api_Lattice) (a1 : Int) (a2 : Int) : Option (Bool × Int) := (lattice_there.f_g k) a0 ([a1, a2] : List Int) >>= fun y1 => if y1 = 0 then (lattice_flows.f a0 a1 a2 >>= fun y3 => some (y3, 0)) else (some (false, y1))
theorem lattice_Flows.f_le (k a0 a1 a2) : LeO (lattice_Flows.f_g k a0 a1 a2) (lattice_Flows.f a0 a1 a2) := by
 unfold lattice_Flows.f_g lattice_Flows.f
 exact (leB (lattice_there.f_le k _ _) (fun y1 => leR))
def lattice_Join.f_g (k : Nat) (a0 : api_Lattice) (a1 : Int) (a2 : Int) : Option (Int × Int) := (lattice_there.f_g k) a0 ([a1, a2] : List Int) >>= fun y1 => if y1 = 0 then ((lattice_join.f_g k) a0 a1 a2 >>= fun y3 => some (y3, 0)) else (some (0, y1))
theorem lattice_Join.f_le (k a0 a1 a2) : LeO (lattice_Join.f_g k a0 a1 a2) (lattice_Join.f a0 a1 a2) := by
 unfold lattice_Join.f_g lattice_Join.f
 exact (leB (lattice_there.f_le k _ _) (fun y1 => (leI (leB (lattice_join.f_le k _ _ _) (fun y3 => leR)) leR)))
def lattice_Meet.f_g (k : Nat) (a0 : api_Lattice) (a1 : Int) (a2 : Int) : Option (Int × Int) := (lattice_there.f_g k) a0 ([a1, a2] : List Int) >>= fun y1 => if y1 = 0 then ((lattice_meet.f_g k) a0 a1 a2 >>= fun y3 => some (y3, 0)) else (some (0, y1))
theorem lattice_Meet.f_le (k a0 a1 a2) : LeO (lattice_Meet.f_g k a0 a1 a2) (lattice_Meet.f a0 a1 a2) := by
 unfold lattice_Meet.f_g lattice_Meet.f
 exact (leB (lattice_there.f_le k _ _) (fun y1 => (leI (leB (lattice_meet.f_le k _ _ _) (fun y3 => leR)) leR)))
def judge_judge_both.f_g (k : Nat) (a0 : judge_judge) (a1 : Int) (a2 : If147) (a3 : If147) : Option (judge_judge × If147) := if ((as147_144 a2).2) = true then (if a1 = 3 then (((if ((as147_144 a2).1) = true then (some (If147.c144 ((as147_144 a3).1))) else (some (If147.c144 false)) : Option If147) >>= fun x4 => some (a0, x4))) else (((if ((as147_144 a2).1) = true then (some (If147.c144 true)) else (some (If147.c144 ((as147_144 a3).1))) : Option If147) >>= fun x7 => some (a0, x7)))) else (if ((as147_153 a2).2) = true then (if a1 = 5 then ((lattice_Flows.f_g k) a0.l_ ((as147_153 a2).1) ((as147_153 a3).1) >>= fun y11 => some (a0, If147.c144 y11.1)) else (if a1 = 12 then ((lattice_Join.f_g k) a0.l_ ((as147_153 a2).1) ((as147_153 a3).1) >>= fun y13 => some (a0, If147.c153 y13.1)) else ((lattice_Meet.f_g k) a0.l_ ((as147_153 a2).1) ((as147_153 a3).1) >>= fun y14 => some (a0, If147.c153 y14.1)))) else (some (a0, a2)))
theorem judge_judge_both.f_le (k a0 a1 a2 a3) : LeO (judge_judge_both.f_g k a0 a1 a2 a3) (judge_judge_both.f a0 a1 a2 a3) := by
 unfold judge_judge_both.f_g judge_judge_both.f
 exact (leI leR (leI (leI (leB (lattice_Flows.f_le k _ _ _) (fun y11 => leR)) (leI (leB (lattice_Join.f_le k _ _ _) (fun y13 => leR)) (leB (lattice_Meet.f_le k _ _ _) (fun y14 => leR)))) leR))
def judge_judge_comes.l0_g : Nat -> (a1 : List Int) -> (v231 : List Str) -> (v232 : List Int) -> (v233 : List Int) -> (v234 : List If147) -> (v235 : Int) -> Option ((List Str) × (List Int) × (List Int) × (List If147))
 | 0 => fun _ _ _ _ _ _ => none
 | k + 1 => fun a1 v231 v232 v233 v234 v235 => if v235 < (a1.length : Int) then (((lAt a1 v235 >>= fun y300 => ((if y300 = 1 then (judge_judge_put.f (⟨⟨v231, v232⟩, v233, v234⟩ : judge_judge) (If147.c144 (decide (y300 = 1))) >>= fun y331 => some (y331.l_.Names, y331.l_.Up, y331.labels_, y331.pile_)) else (if y300 = 2 then (judge_judge_put.f (⟨⟨v231, v232⟩, v233, v234⟩ : judge_judge) (If147.c144 (decide (y300 = 1))) >>= fun y333 => some (y333.l_.Names, y333.l_.Up, y333.labels_, y333.pile_)) else (if y300 = 6 then ((lattice_Bottom.f_g k) (⟨v231, v232⟩ : api_Lattice) >>= fun y335 => judge_judge_put.f (⟨⟨v231, v232⟩, v233, v234⟩ : judge_judge) (If147.c153 y335.1) >>= fun y336 => some (y336.l_.Names, y336.l_.Up, y336.labels_, y336.pile_)) else (if y300 = 7 then ((lattice_Top.f_g k) (⟨v231, v232⟩ : api_Lattice) >>= fun y338 => judge_judge_put.f (⟨⟨v231, v232⟩, v233, v234⟩ : judge_judge) (If147.c153 y338.1) >>= fun y339 => some (y339.l_.Names, y339.l_.Up, y339.labels_, y339.pile_)) else (if y300 = 8 then (lAt v233 (IntKind.i64.wrap (y300 - 8)) >>= fun y341 => judge_judge_put.f (⟨⟨v231, v232⟩, v233, v234⟩ : judge_judge) (If147.c153 y341) >>= fun y342 => some (y342.l_.Names, y342.l_.Up, y342.labels_, y342.pile_)) else (if y300 = 9 then (lAt v233 (IntKind.i64.wrap (y300 - 8)) >>= fun y344 => judge_judge_put.f (⟨⟨v231, v232⟩, v233, v234⟩ : judge_judge) (If147.c153 y344) >>= fun y345 => some (y345.l_.Names, y345.l_.Up, y345.labels_, y345.pile_)) else (if y300 = 10 then (lAt v233 (IntKind.i64.wrap (y300 - 8)) >>= fun y347 => judge_judge_put.f (⟨⟨v231, v232⟩, v233, v234⟩ : judge_judge) (If147.c153 y347) >>= fun y348 => some (y348.l_.Names, y348.l_.Up, y348.labels_, y348.pile_)) else (if y300 = 11 then (lAt v233 (IntKind.i64.wrap (y300 - 8)) >>= fun y350 => judge_judge_put.f (⟨⟨v231, v232⟩, v233, v234⟩ : judge_judge) (If147.c153 y350) >>= fun y351 => some (y351.l_.Names, y351.l_.Up, y351.labels_, y351.pile_)) else (judge_judge_two.f (⟨⟨v231, v232⟩, v233, v234⟩ : judge_judge) >>= fun y352 => (judge_judge_both.f_g k) y352.1 y300 y352.2.1 y352.2.2 >>= fun y353 => judge_judge_put.f y353.1 y353.2 >>= fun y354 => some (y354.l_.Names, y354.l_.Up, y354.labels_, y354.pile_))))))))) : Option ((List Str) × (List Int) × (List Int) × (List If147))) >>= fun o => match o with | (x326, x327, x328, x329) => some (x326, x327, x328, x329)) : Option ((List Str) × (List Int) × (List Int) × (List If147))) >>= fun o => match o with | (x296, x297, x298, x299) => (judge_judge_comes.l0_g k) a1 x296 x297 x298 x299 (IntKind.i64.wrap (v235 + 1)))) else (some (v231, v232, v233, v234))
theorem judge_judge_comes.l0_le : ∀ k a1 v231 v232 v233 v234 v235, LeO (judge_judge_comes.l0_g k a1 v231 v232 v233 v234 v235) (judge_judge_comes.l0 a1 v231 v232 v233 v234 v235) := by
 intro k
 induction k with
 | zero => intros; exact leN
 | succ k ih =>
  intro a1 v231 v232 v233 v234 v235
  rw [judge_judge_comes.l0]
  exact (leI (leB (leB leR (fun y300 => (leB (leI leR (leI leR (leI (leB (lattice_Bottom.f_le k _) (fun y335 => leR)) (leI (leB (lattice_Top.f_le k _) (fun y338 => leR)) (leI leR (leI leR (leI leR (leI leR (leB leR (fun y352 => (leB (judge_judge_both.f_le k _ _ _ _) (fun y353 => leR)))))))))))) (fun o => (match o with | (x326, x327, x328, x329) => leR))))) (fun o => (match o with | (x296, x297, x298, x299) => (ih _ _ _ _ _ _)))) leR)
def judge_judge_comes.f_g (k : Nat) (a0 : judge_judge) (a1 : List Int) : Option (judge_judge × If147) := ((judge_judge_comes.l0_g k) a1 a0.l_.Names a0.l_.Up a0.labels_ a0.pile_ 0 >>= fun o => match o with | (x236, x237, x238, x239) => lAt x239 0 >>= fun y355 => some ((⟨⟨x236, x237⟩, x238, x239⟩ : judge_judge), y355))
theorem judge_judge_comes.f_le (k a0 a1) : LeO (judge_judge_comes.f_g k a0 a1) (judge_judge_comes.f a0 a1) := by
 unfold judge_judge_comes.f_g judge_judge_comes.f
 exact (leB (judge_judge_comes.l0_le k _ _ _ _ _ _) (fun o => (match o with | (x236, x237, x238, x239) => leR)))
def judge_Cond.f_g (k : Nat) (a0 : api_Lattice) (a1 : List Int) (a2 : List Int) : Option (Bool × Int) := (judge_may.f_g k) a0 a1 a2 false >>= fun y1 => if y1 = 0 then ((judge_judge_comes.f_g k) (⟨a0, a2, ([] : List If147)⟩ : judge_judge) a1 >>= fun y3 => some ((as147_144 y3.2).1, 0)) else (some (false, y1))
theorem judge_Cond.f_le (k a0 a1 a2) : LeO (judge_Cond.f_g k a0 a1 a2) (judge_Cond.f a0 a1 a2) := by
 unfold judge_Cond.f_g judge_Cond.f
 exact (leB (judge_may.f_le k _ _ _ _) (fun y1 => (leI (leB (judge_judge_comes.f_le k _ _) (fun y3 => leR)) leR)))
def judge_Label.f_g (k : Nat) (a0 : api_Lattice) (a1 : List Int) (a2 : List Int) : Option (Int × Int) := (judge_may.f_g k) a0 a1 a2 true >>= fun y1 => if y1 = 0 then ((judge_judge_comes.f_g k) (⟨a0, a2, ([] : List If147)⟩ : judge_judge) a1 >>= fun y3 => some ((as147_153 y3.2).1, 0)) else (some (0, y1))
theorem judge_Label.f_le (k a0 a1 a2) : LeO (judge_Label.f_g k a0 a1 a2) (judge_Label.f a0 a1 a2) := by
 unfold judge_Label.f_g judge_Label.f
 exact (leB (judge_may.f_le k _ _ _ _) (fun y1 => (leI (leB (judge_judge_comes.f_le k _ _) (fun y3 => leR)) leR)))
def slices_Concat_api_Slot_api_Slot.l0_g : Nat -> (a0 : List (List api_Slot)) -> (v13 : Int) -> (v14 : Int) -> Option Int
 | 0 => fun _ _ _ => none
 | k + 1 => fun a0 v13 v14 => if v13 < (a0.length : Int) then (((lAt a0 v13 >>= fun y20 => if IntKind.i64.wrap (v14 + (y20.length : Int)) < 0 then (none) else (some (IntKind.i64.wrap (v14 + (y20.length : Int)))) : Option Int) >>= fun x19 => (slices_Concat_api_Slot_api_Slot.l0_g k) a0 (IntKind.i64.wrap (v13 + 1)) x19)) else (some v14)
theorem slices_Concat_api_Slot_api_Slot.l0_le : ∀ k a0 v13 v14, LeO (slices_Concat_api_Slot_api_Slot.l0_g k a0 v13 v14) (slices_Concat_api_Slot_api_Slot.l0 a0 v13 v14) := by
 intro k
 induction k with
 | zero => intros; exact leN
 | succ k ih =>
  intro a0 v13 v14
  rw [slices_Concat_api_Slot_api_Slot.l0]
  exact (leI (leB leR (fun x19 => (ih _ _ _))) leR)
def slices_Concat_api_Slot_api_Slot.l1_g : Nat -> (a0 : List (List api_Slot)) -> (v29 : List api_Slot) -> (v30 : Int) -> Option (List api_Slot)
 | 0 => fun _ _ _ => none
 | k + 1 => fun a0 v29 v30 => if v30 < (a0.length : Int) then (lAt a0 v30 >>= fun y33 => if (v29.length + y33.length) * 24 <= big then ((slices_Concat_api_Slot_api_Slot.l1_g k) a0 (v29 ++ y33) (IntKind.i64.wrap (v30 + 1))) else none) else (some v29)
theorem slices_Concat_api_Slot_api_Slot.l1_le : ∀ k a0 v29 v30, LeO (slices_Concat_api_Slot_api_Slot.l1_g k a0 v29 v30) (slices_Concat_api_Slot_api_Slot.l1 a0 v29 v30) := by
 intro k
 induction k with
 | zero => intros; exact leN
 | succ k ih =>
  intro a0 v29 v30
  rw [slices_Concat_api_Slot_api_Slot.l1]
  exact (leI (leB leR (fun y33 => (leI (ih _ _ _) leR))) leR)
def slices_Concat_api_Slot_api_Slot.f_g (k : Nat) (a0 : List (List api_Slot)) : Option (List api_Slot) := ((slices_Concat_api_Slot_api_Slot.l0_g k) a0 0 0 >>= fun x15 => slices_Grow_api_Slot_api_Slot_nil.f x15 >>= fun y22 => ((slices_Concat_api_Slot_api_Slot.l1_g k) a0 y22 0 >>= fun x31 => some x31))
theorem slices_Concat_api_Slot_api_Slot.f_le (k a0) : LeO (slices_Concat_api_Slot_api_Slot.f_g k a0) (slices_Concat_api_Slot_api_Slot.f a0) := by
 unfold slices_Concat_api_Slot_api_Slot.f_g slices_Concat_api_Slot_api_Slot.f
 exact (leB (slices_Concat_api_Slot_api_Slot.l0_le k _ _ _) (fun x15 => (leB leR (fun y22 => (leB (slices_Concat_api_Slot_api_Slot.l1_le k _ _ _) (fun x31 => leR))))))
def step_machine_does.f_g (k : Nat) (a0 : step_machine) (a1 : Int) : Option step_machine := if (0 : Int) <= a0.below_ /\ a0.below_ <= (a0.s_.Stack.length : Int) then (slices_Clone_api_Slot_api_Slot_nn.f (lCut a0.s_.Stack 0 a0.below_) >>= fun y2 => ((if a0.x_.Op = 1 then (step_machine_put.f (⟨a0.l_, ⟨a0.s_.Pc, a0.s_.Code, a0.s_.Mem, y2, a0.s_.Out⟩, a0.x_, a0.a_, a0.b_, a0.r_, a0.below_, a0.one_⟩ : step_machine) a0.x_.N a1 >>= fun y31 => some (y31, IntKind.i64.wrap (a0.s_.Pc.V + 1))) else (if a0.x_.Op = 3 then (step_machine_put.f (⟨a0.l_, ⟨a0.s_.Pc, a0.s_.Code, a0.s_.Mem, y2, a0.s_.Out⟩, a0.x_, a0.a_, a0.b_, a0.r_, a0.below_, a0.one_⟩ : step_machine) (IntKind.i64.wrap (a0.b_.V + a0.a_.V)) a1 >>= fun y33 => some (y33, IntKind.i64.wrap (a0.s_.Pc.V + 1))) else (if a0.x_.Op = 4 then (step_machine_put.f (⟨a0.l_, ⟨a0.s_.Pc, a0.s_.Code, a0.s_.Mem, y2, a0.s_.Out⟩, a0.x_, a0.a_, a0.b_, a0.r_, a0.below_, a0.one_⟩ : step_machine) (IntKind.i64.wrap (a0.b_.V - a0.a_.V)) a1 >>= fun y35 => some (y35, IntKind.i64.wrap (a0.s_.Pc.V + 1))) else (if a0.x_.Op = 5 then (lAt a0.s_.Mem a0.a_.V >>= fun y37 => step_machine_put.f (⟨a0.l_, ⟨a0.s_.Pc, a0.s_.Code, a0.s_.Mem, y2, a0.s_.Out⟩, a0.x_, a0.a_, a0.b_, a0.r_, a0.below_, a0.one_⟩ : step_machine) y37.V a1 >>= fun y38 => some (y38, IntKind.i64.wrap (a0.s_.Pc.V + 1))) else (if a0.x_.Op = 6 then (slices_Clone_api_Atom_api_Atom_nn.f a0.s_.Mem >>= fun y40 => lAt y40 a0.a_.V >>= fun y41 => some ((⟨a0.l_, ⟨a0.s_.Pc, a0.s_.Code, y40.set a0.a_.V.toNat (⟨a0.b_.V, a1⟩ : api_Atom), y2, a0.s_.Out⟩, a0.x_, a0.a_, a0.b_, a0.r_, a0.below_, a0.one_⟩ : step_machine), IntKind.i64.wrap (a0.s_.Pc.V + 1))) else (if a0.x_.Op = 11 then (slices_Clone_api_Atom_api_Atom_nn.f a0.s_.Out >>= fun y43 => if (y43.length + ([(⟨a0.a_.V, a1⟩ : api_Atom)] : List api_Atom).length) * 16 <= big then (some ((⟨a0.l_, ⟨a0.s_.Pc, a0.s_.Code, a0.s_.Mem, y2, y43 ++ ([(⟨a0.a_.V, a1⟩ : api_Atom)] : List api_Atom)⟩, a0.x_, a0.a_, a0.b_, a0.r_, a0.below_, a0.one_⟩ : step_machine), IntKind.i64.wrap (a0.s_.Pc.V + 1))) else none) else (if a0.x_.Op = 7 then (some ((⟨a0.l_, ⟨a0.s_.Pc, a0.s_.Code, a0.s_.Mem, y2, a0.s_.Out⟩, a0.x_, a0.a_, a0.b_, a0.r_, a0.below_, a0.one_⟩ : step_machine), a0.a_.V)) else (if a0.x_.Op = 8 then (if a0.a_.V = 0 then (some ((⟨a0.l_, ⟨a0.s_.Pc, a0.s_.Code, a0.s_.Mem, y2, a0.s_.Out⟩, a0.x_, a0.a_, a0.b_, a0.r_, a0.below_, a0.one_⟩ : step_machine), IntKind.i64.wrap (a0.s_.Pc.V + 1))) else (some ((⟨a0.l_, ⟨a0.s_.Pc, a0.s_.Code, a0.s_.Mem, y2, a0.s_.Out⟩, a0.x_, a0.a_, a0.b_, a0.r_, a0.below_, a0.one_⟩ : step_machine), a0.x_.N))) else (if a0.x_.Op = 9 then (if (0 : Int) <= IntKind.i64.wrap (a0.below_ - a0.x_.N) /\ IntKind.i64.wrap (a0.below_ - a0.x_.N) <= a0.below_ /\ a0.below_ <= (a0.s_.Stack.length : Int) then (if (0 : Int) <= IntKind.i64.wrap (a0.below_ - a0.x_.N) /\ IntKind.i64.wrap (a0.below_ - a0.x_.N) <= (a0.s_.Stack.length : Int) then ((slices_Concat_api_Slot_api_Slot.f_g k) ([lCut a0.s_.Stack 0 (IntKind.i64.wrap (a0.below_ - a0.x_.N)), ([(⟨true, IntKind.i64.wrap (a0.s_.Pc.V + 1), a0.s_.Pc.L⟩ : api_Slot)] : List api_Slot), lCut a0.s_.Stack (IntKind.i64.wrap (a0.below_ - a0.x_.N)) a0.below_] : List (List api_Slot)) >>= fun y51 => some ((⟨a0.l_, ⟨a0.s_.Pc, a0.s_.Code, a0.s_.Mem, y51, a0.s_.Out⟩, a0.x_, a0.a_, a0.b_, a0.r_, a0.below_, a0.one_⟩ : step_machine), a0.a_.V)) else none) else none) else (if a0.x_.Op = 10 then (if a0.x_.N = 1 then (step_machine_put.f (⟨a0.l_, ⟨a0.s_.Pc, a0.s_.Code, a0.s_.Mem, y2, a0.s_.Out⟩, a0.x_, a0.a_, a0.b_, a0.r_, a0.below_, a0.one_⟩ : step_machine) a0.a_.V a1 >>= fun y54 => some (y54, y54.r_.V)) else (some ((⟨a0.l_, ⟨a0.s_.Pc, a0.s_.Code, a0.s_.Mem, y2, a0.s_.Out⟩, a0.x_, a0.a_, a0.b_, a0.r_, a0.below_, a0.one_⟩ : step_machine), a0.r_.V))) else (some ((⟨a0.l_, ⟨a0.s_.Pc, a0.s_.Code, a0.s_.Mem, y2, a0.s_.Out⟩, a0.x_, a0.a_, a0.b_, a0.r_, a0.below_, a0.one_⟩ : step_machine), IntKind.i64.wrap (a0.s_.Pc.V + 1)))))))))))) : Option (step_machine × Int)) >>= fun o => match o with | (x28, x29) => some (⟨x28.l_, ⟨⟨x29, x28.s_.Pc.L⟩, x28.s_.Code, x28.s_.Mem, x28.s_.Stack, x28.s_.Out⟩, x28.x_, x28.a_, x28.b_, x28.r_, x28.below_, x28.one_⟩ : step_machine))) else none
theorem step_machine_does.f_le (k a0 a1) : LeO (step_machine_does.f_g k a0 a1) (step_machine_does.f a0 a1) := by
 unfold step_machine_does.f_g step_machine_does.f
 exact (leI (leB leR (fun y2 => (leB (leI leR (leI leR (leI leR (leI leR (leI leR (leI leR (leI leR (leI leR (leI (leI (leI (leB (slices_Concat_api_Slot_api_Slot.f_le k _) (fun y51 => leR)) leR) leR) leR))))))))) (fun o => (match o with | (x28, x29) => leR))))) leR)
def step_step.B_g (k : Nat) (a0 : api_Lattice) (a1 : api_Table) (a2 : api_State) : Option (Pn ⊕ (api_State × Int)) := step_need.f (decide (a2.Pc.V < (a2.Code.length : Int))) >>= fun z1 => match z1 with | .inl p2 => some (.inl p2) | .inr y3 => (lattice_Bottom.f_g k) a0 >>= fun y4 => lAt a2.Code a2.Pc.V >>= fun y5 => (step_machine_needs.f_g k) (⟨a0, a2, y5, ⟨false, 0, 0⟩, ⟨false, 0, 0⟩, ⟨false, 0, 0⟩, 0, ⟨y4.1, y4.1, y4.1⟩⟩ : step_machine) >>= fun z6 => match z6 with | .inl p7 => some (.inl p7) | .inr y8 => if y8.x_.Op = 12 then (some (.inl 1)) else (lAt a1.Rows y8.x_.Op >>= fun y10 => (judge_Cond.f_g k) a0 y10.May ([a2.Pc.L, y8.one_.x0_, y8.one_.x1_, y8.one_.x2_] : List Int) >>= fun y11 => if (!y11.1) = true then (some (.inl 2)) else ((judge_Label.f_g k) a0 y10.Res ([a2.Pc.L, y8.one_.x0_, y8.one_.x1_, y8.one_.x2_] : List Int) >>= fun y13 => (judge_Label.f_g k) a0 y10.Pc ([a2.Pc.L, y8.one_.x0_, y8.one_.x1_, y8.one_.x2_] : List Int) >>= fun y14 => (step_machine_does.f_g k) y8 y13.1 >>= fun y15 => (state_Right.f_g k) a0 (⟨⟨y15.s_.Pc.V, y14.1⟩, y15.s_.Code, y15.s_.Mem, y15.s_.Stack, y15.s_.Out⟩ : api_State) >>= fun y16 => step_need.f y16 >>= fun z17 => match z17 with | .inl p18 => some (.inl p18) | .inr y19 => some (.inr ((⟨⟨y15.s_.Pc.V, y14.1⟩, y15.s_.Code, y15.s_.Mem, y15.s_.Stack, y15.s_.Out⟩ : api_State), 0))))
theorem step_step.B_le (k a0 a1 a2) : LeO (step_step.B_g k a0 a1 a2) (step_step.B a0 a1 a2) := by
 unfold step_step.B_g step_step.B
 exact (leB leR (fun z1 => (match z1 with | .inl p2 => leR | .inr y3 => (leB (lattice_Bottom.f_le k _) (fun y4 => (leB leR (fun y5 => (leB (step_machine_needs.f_le k _) (fun z6 => (match z6 with | .inl p7 => leR | .inr y8 => (leI leR (leB leR (fun y10 => (leB (judge_Cond.f_le k _ _ _) (fun y11 => (leI leR (leB (judge_Label.f_le k _ _ _) (fun y13 => (leB (judge_Label.f_le k _ _ _) (fun y14 => (leB (step_machine_does.f_le k _ _) (fun y15 => (leB (state_Right.f_le k _ _) (fun y16 => (leB leR (fun z17 => (match z17 with | .inl p18 => leR | .inr y19 => leR)))))))))))))))))))))))))))
def step_step.f_g (k : Nat) (a0 : api_Lattice) (a1 : api_Table) (a2 : api_State) : Option (api_State × Int) := (step_step.B_g k) a0 a1 a2 >>= fun z => some (finD a2 z)
theorem step_step.f_le (k a0 a1 a2) : LeO (step_step.f_g k a0 a1 a2) (step_step.f a0 a1 a2) := by
 unfold step_step.f_g step_step.f
 exact (leB (step_step.B_le k _ _ _) (fun z => leR))
def step_One.f_g (k : Nat) (a0 : api_Lattice) (a1 : api_Table) (a2 : api_State) : Option (api_State × Int × Int) := (lattice_Check.f_g k) a0 >>= fun y1 => if y1 = 0 then ((table_Check.f_g k) a1 >>= fun y3 => if y3.2 = 0 then ((state_Right.f_g k) a0 a2 >>= fun y5 => if (!y5) = true then (some ((⟨⟨0, 0⟩, [], [], [], []⟩ : api_State), 0, 1)) else ((step_step.f_g k) a0 a1 a2 >>= fun y7 => some (y7.1, y7.2, 0))) else (some ((⟨⟨0, 0⟩, [], [], [], []⟩ : api_State), 0, y3.2))) else (some ((⟨⟨0, 0⟩, [], [], [], []⟩ : api_State), 0, y1))
theorem step_One.f_le (k a0 a1 a2) : LeO (step_One.f_g k a0 a1 a2) (step_One.f a0 a1 a2) := by
 unfold step_One.f_g step_One.f
 exact (leB (lattice_Check.f_le k _) (fun y1 => (leI (leB (table_Check.f_le k _) (fun y3 => (leI (leB (state_Right.f_le k _ _) (fun y5 => (leI leR (leB (step_step.f_le k _ _ _) (fun y7 => leR))))) leR))) leR)))
def run_may.f_g (k : Nat) (a0 : api_Lattice) (a1 : api_Table) (a2 : api_State) (a3 : Int) : Option Int := (step_One.f_g k) a0 a1 a2 >>= fun y1 => if y1.2.2 = 0 then (((if a3 < 0 then (some true) else (some (decide (a3 > 40))) : Option Bool) >>= fun x4 => if x4 = true then (some 1) else (some 0))) else (some y1.2.2)
theorem run_may.f_le (k a0 a1 a2 a3) : LeO (run_may.f_g k a0 a1 a2 a3) (run_may.f a0 a1 a2 a3) := by
 unfold run_may.f_g run_may.f
 exact (leB (step_One.f_le k _ _ _) (fun y1 => leR))
def run_states_1.l0_g {σ : Type} : Nat -> (a_y : σ -> api_State -> Int -> Option (Bool × σ)) -> (a1 : Int) -> (a2 : api_Lattice) -> (a3 : api_Table) -> (v19 : api_State) -> (v20 : σ) -> (v21 : Int) -> Option (σ ⊕ (api_State × σ))
 | 0 => fun _ _ _ _ _ _ _ => none
 | k + 1 => fun a_y a1 a2 a3 v19 v20 v21 => if v21 < a1 then ((step_One.f_g k) a2 a3 v19 >>= fun y25 => ((a_y v20 v19 y25.2.1 >>= fun y30 => if (!y30.1) = true then (some (y30.2, true)) else (some (y30.2, !decide (y25.2.1 = 0))) : Option (σ × Bool)) >>= fun o => match o with | (x28, x29) => if x29 = true then (some (.inl x28)) else ((run_states_1.l0_g k) a_y a1 a2 a3 y25.1 x28 (IntKind.i64.wrap (v21 + 1))))) else (some (.inr (v19, v20)))
theorem run_states_1.l0_le {σ : Type} : ∀ (k : Nat) {a_y_ a_y : σ -> api_State -> Int -> Option (Bool × σ)} (h_a_y : ∀ q0 q1 q2, LeO (a_y_ q0 q1 q2) (a_y q0 q1 q2)) (a1 : Int) (a2 : api_Lattice) (a3 : api_Table) (v19 : api_State) (v20 : σ) (v21 : Int), LeO (run_states_1.l0_g k a_y_ a1 a2 a3 v19 v20 v21) (run_states_1.l0 a_y a1 a2 a3 v19 v20 v21) := by
 intro k
 induction k with
 | zero => intros; exact leN
 | succ k ih =>
  intro a_y_ a_y h_a_y a1 a2 a3 v19 v20 v21
  rw [run_states_1.l0]
  exact (leI (leB (step_One.f_le k _ _ _) (fun y25 => (leB (leB (h_a_y _ _ _) (fun y30 => leR)) (fun o => (match o with | (x28, x29) => (leI leR (ih h_a_y _ _ _ _ _ _))))))) leR)
def run_states_1.f_g (k : Nat) {σ : Type} (a_y : σ -> api_State -> Int -> Option (Bool × σ)) (a_s : σ) (a1 : Int) (a2 : api_Lattice) (a3 : api_Table) (a4 : api_State) : Option σ := ((run_states_1.l0_g k) a_y a1 a2 a3 a4 a_s 0 >>= fun o => match o with | .inl r => some r | .inr (x22, x23) => a_y x23 x22 0 >>= fun y33 => some y33.2)
theorem run_states_1.f_le {σ : Type} (k : Nat) {a_y_ a_y : σ -> api_State -> Int -> Option (Bool × σ)} (h_a_y : ∀ q0 q1 q2, LeO (a_y_ q0 q1 q2) (a_y q0 q1 q2)) (a_s : σ) (a1 : Int) (a2 : api_Lattice) (a3 : api_Table) (a4 : api_State) : LeO (run_states_1.f_g k a_y_ a_s a1 a2 a3 a4) (run_states_1.f a_y a_s a1 a2 a3 a4) := by
 unfold run_states_1.f_g run_states_1.f
 exact (leB (run_states_1.l0_le k h_a_y _ _ _ _ _ _) (fun o => (match o with | .inl r => leR | .inr (x22, x23) => (leB (h_a_y _ _ _) (fun y33 => leR)))))
def run_Run.f_g (k : Nat) (a0 : api_Lattice) (a1 : api_Table) (a2 : api_State) (a3 : Int) : Option ((List api_State) × Int × Int) := (run_may.f_g k) a0 a1 a2 a3 >>= fun y1 => if y1 = 0 then (run_states.f a0 a1 a2 a3 >>= fun y3 => ((run_states_1.f_g k) (yOf (run_Run.y0)) ((0, ([] : List api_State)), 0) y3.1 y3.2.1 y3.2.2.1 y3.2.2.2 >>= fun y10 => if y10.2 = 0 then (some (y10.1.2, y10.1.1, 0)) else none)) else (some (([] : List api_State), 0, y1))
theorem run_Run.f_le (k a0 a1 a2 a3) : LeO (run_Run.f_g k a0 a1 a2 a3) (run_Run.f a0 a1 a2 a3) := by
 unfold run_Run.f_g run_Run.f
 exact (leB (run_may.f_le k _ _ _ _) (fun y1 => (leI (leB leR (fun y3 => (leB (run_states_1.f_le k (leY (fun _ _ _ => leR)) _ _ _ _ _) (fun y10 => leR)))) leR)))
def reticentlaw11_alive.f_g (k : Nat) : Option Bool := table_Usual.f >>= fun y1 => (run_Run.f_g k) (⟨([([97] : Str), ([98] : Str)] : List Str), ([3, 2] : List Int)⟩ : api_Lattice) y1 (⟨⟨0, 0⟩, ([(⟨1, 1, 0⟩ : api_Instr), (⟨1, 2, 0⟩ : api_Instr), (⟨12, 0, 0⟩ : api_Instr)] : List api_Instr), [], [], []⟩ : api_State) 9 >>= fun y2 => ((if y2.2.2 = 0 then (if y2.2.1 = 1 then (if (y2.1.length : Int) = 3 then (lAt y2.1 2 >>= fun y11 => some (decide ((y11.Stack.length : Int) = 2))) else (some false)) else (some false)) else (some false) : Option Bool) >>= fun x7 => some x7)
theorem reticentlaw11_alive.f_le (k) : LeO (reticentlaw11_alive.f_g k ) (reticentlaw11_alive.f ) := by
 unfold reticentlaw11_alive.f_g reticentlaw11_alive.f
 exact (leB leR (fun y1 => (leB (run_Run.f_le k _ _ _ _) (fun y2 => leR))))
end Go.Proofs.YtmegdednaimgcaaGreatDoor.TT
