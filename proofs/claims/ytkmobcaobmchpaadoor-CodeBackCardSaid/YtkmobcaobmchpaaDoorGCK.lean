/- Pure functions with fuel: the kernel runs them. -/
import Derived.Test.YtkmobcaobmchpaaDoorDCK
set_option linter.unusedVariables false
namespace Go.Proofs.YtkmobcaobmchpaaDoor.CK
open Go Go.Proofs.YtkmobcaobmchpaaDoor.Ab
def LeO {α : Type} (a b : Option α) : Prop := ∀ r, a = some r → b = some r
theorem leR {α : Type} {a : Option α} : LeO a a := fun _ h => h
theorem leN {α : Type} {a : Option α} : LeO none a := fun _ h => by cases h
theorem leB {α β : Type} {a b : Option α} {f g : α → Option β} (h : LeO a b) (k : ∀ y, LeO (f y) (g y)) : LeO (a >>= f) (b >>= g) := fun r e => by
  cases a with
  | none => cases e
  | some y => rw [h y rfl]; exact k y r e
theorem leI {α : Type} {p : Prop} [Decidable p] {a b c d : Option α} (h : LeO a b) (k : LeO c d) : LeO (if p then a else c) (if p then b else d) := by
  by_cases q : p
  · rw [if_pos q, if_pos q]; exact h
  · rw [if_neg q, if_neg q]; exact k

theorem leY {τ β γ : Type} {q p : τ → β → γ → Option (Bool × (τ × Nat))} (h : ∀ a b c, LeO (q a b c) (p a b c)) : ∀ a b c, LeO (yOf q a b c) (yOf p a b c) := fun a b c => by
  obtain ⟨s, n⟩ := a
  cases n with
  | zero => exact h _ _ _
  | succ n => exact leR
def lattice_name.l0_g : Nat → (a0 : Str) → (v19 : Int) → Option (Bool ⊕ Unit)
  | 0 => fun _ _ => none
  | k + 1 => fun a0 v19 => if v19 < (a0.length : Int) then (((if (0 : Int) ≤ v19 ∧ v19 < (a0.length : Int) then (if sAt a0 v19 < 97 then (some true) else (if (0 : Int) ≤ v19 ∧ v19 < (a0.length : Int) then (some (decide (sAt a0 v19 > 122))) else none)) else none : Option Bool) >>= fun x24 => if x24 = true then (some (.inl false)) else ((lattice_name.l0_g k) a0 (IntKind.i64.wrap (v19 + 1))))) else (some (.inr ()))
theorem lattice_name.l0_le : ∀ (k : Nat) (a0 : Str) (v19 : Int) , LeO (lattice_name.l0_g k a0 v19) (lattice_name.l0 a0 v19) := by
  intro k
  induction k with
  | zero => intros; exact leN
  | succ k ih =>
    intro a0 v19
    rw [lattice_name.l0]
    exact (leI (leB (leI (leI leR (leI leR leR)) leR) (fun x24 => (leI leR (ih _ _)))) leR)
def lattice_name.f_g (k : Nat) (a0 : Str) : Option Bool := ((lattice_name.l0_g k) a0 0 >>= fun o => match o with | .inl r => some r | .inr () => ((if a0 = ([] : Str) then (some false) else (some (decide ((a0.length : Int) ≤ 12))) : Option Bool) >>= fun x30 => some x30))
theorem lattice_name.f_le (k : Nat) (a0 : Str) : LeO (lattice_name.f_g k a0) (lattice_name.f a0) := by
  unfold lattice_name.f_g lattice_name.f
  exact (leB (lattice_name.l0_le k _ _) (fun o => (match o with | .inl r => leR | .inr () => (leB (leI leR leR) (fun x30 => leR)))))
def slices_Index_string_string.l0_g : Nat → (a0 : List Str) → (a1 : Str) → (v7 : Int) → Option (Int ⊕ Unit)
  | 0 => fun _ _ _ => none
  | k + 1 => fun a0 a1 v7 => if v7 < (a0.length : Int) then (lAt a0 v7 >>= fun y9 => if a1 = y9 then (some (.inl v7)) else ((slices_Index_string_string.l0_g k) a0 a1 (IntKind.i64.wrap (v7 + 1)))) else (some (.inr ()))
theorem slices_Index_string_string.l0_le : ∀ (k : Nat) (a0 : List Str) (a1 : Str) (v7 : Int) , LeO (slices_Index_string_string.l0_g k a0 a1 v7) (slices_Index_string_string.l0 a0 a1 v7) := by
  intro k
  induction k with
  | zero => intros; exact leN
  | succ k ih =>
    intro a0 a1 v7
    rw [slices_Index_string_string.l0]
    exact (leI (leB leR (fun y9 => (leI leR (ih _ _ _)))) leR)
def slices_Index_string_string.f_g (k : Nat) (a0 : List Str) (a1 : Str) : Option Int := ((slices_Index_string_string.l0_g k) a0 a1 0 >>= fun o => match o with | .inl r => some r | .inr () => some (-1))
theorem slices_Index_string_string.f_le (k : Nat) (a0 : List Str) (a1 : Str) : LeO (slices_Index_string_string.f_g k a0 a1) (slices_Index_string_string.f a0 a1) := by
  unfold slices_Index_string_string.f_g slices_Index_string_string.f
  exact (leB (slices_Index_string_string.l0_le k _ _ _) (fun o => (match o with | .inl r => leR | .inr () => leR)))
def slices_Contains_string_string.f_g (k : Nat) (a0 : List Str) (a1 : Str) : Option Bool := (slices_Index_string_string.f_g k) a0 a1 >>= fun y1 => some (decide (y1 ≥ 0))
theorem slices_Contains_string_string.f_le (k : Nat) (a0 : List Str) (a1 : Str) : LeO (slices_Contains_string_string.f_g k a0 a1) (slices_Contains_string_string.f a0 a1) := by
  unfold slices_Contains_string_string.f_g slices_Contains_string_string.f
  exact (leB (slices_Index_string_string.f_le k _ _) (fun y1 => leR))
def lattice_may.l0_g : Nat → (a0 : api_Lattice) → (v43 : Int) → Option (Bool ⊕ Unit)
  | 0 => fun _ _ => none
  | k + 1 => fun a0 v43 => if v43 < (a0.Names.length : Int) then (lAt a0.Names v43 >>= fun y45 => (((lattice_name.f_g k) y45 >>= fun y54 => if (!y54) = true then (some true) else (if (0 : Int) ≤ v43 ∧ v43 ≤ (a0.Names.length : Int) then ((slices_Contains_string_string.f_g k) (lCut a0.Names 0 v43) y45 >>= fun y57 => if y57 = true then (some true) else (lAt a0.Up v43 >>= fun y59 => if ¬ (a0.Up.length : Int) < 0 then (some (!decide (bShr .u32 y59 (a0.Up.length : Int) = 0))) else none)) else none) : Option Bool) >>= fun x53 => if x53 = true then (some (.inl false)) else ((lattice_may.l0_g k) a0 (IntKind.i64.wrap (v43 + 1))))) else (some (.inr ()))
theorem lattice_may.l0_le : ∀ (k : Nat) (a0 : api_Lattice) (v43 : Int) , LeO (lattice_may.l0_g k a0 v43) (lattice_may.l0 a0 v43) := by
  intro k
  induction k with
  | zero => intros; exact leN
  | succ k ih =>
    intro a0 v43
    rw [lattice_may.l0]
    exact (leI (leB leR (fun y45 => (leB (leB (lattice_name.f_le k _) (fun y54 => (leI leR (leI (leB (slices_Contains_string_string.f_le k _ _) (fun y57 => (leI leR (leB leR (fun y59 => (leI leR leR)))))) leR)))) (fun x53 => (leI leR (ih _ _)))))) leR)
def lattice_may.f_g (k : Nat) (a0 : api_Lattice) : Option Bool := ((if (a0.Up.length : Int) < 1 then (some true) else (if (a0.Up.length : Int) > 8 then (some true) else (some (!decide ((a0.Names.length : Int) = (a0.Up.length : Int))))) : Option Bool) >>= fun x3 => if x3 = true then (some false) else (((lattice_may.l0_g k) a0 0 >>= fun o => match o with | .inl r => some r | .inr () => some true)))
theorem lattice_may.f_le (k : Nat) (a0 : api_Lattice) : LeO (lattice_may.f_g k a0) (lattice_may.f a0) := by
  unfold lattice_may.f_g lattice_may.f
  exact (leB (leI leR (leI leR leR)) (fun x3 => (leI leR (leB (lattice_may.l0_le k _ _) (fun o => (match o with | .inl r => leR | .inr () => leR))))))
def lattice_pairs_1.l3_g {σ : Type} : Nat → (a_y : σ → Int → Int → Option (Bool × σ)) → (a1 : Int) → (v28 : Int) → (v37 : σ) → (v38 : Int) → Option (σ ⊕ σ)
  | 0 => fun _ _ _ _ _ => none
  | k + 1 => fun a_y a1 v28 v37 v38 => if v38 < a1 then (a_y v37 v28 v38 >>= fun y41 => if (!y41.1) = true then (some (.inl y41.2)) else ((lattice_pairs_1.l3_g k) a_y a1 v28 y41.2 (IntKind.i64.wrap (v38 + 1)))) else (some (.inr v37))
theorem lattice_pairs_1.l3_le {σ : Type} : ∀ (k : Nat) {a_y_ a_y : σ → Int → Int → Option (Bool × σ)} (h_a_y : ∀ q0 q1 q2, LeO (a_y_ q0 q1 q2) (a_y q0 q1 q2)) (a1 : Int) (v28 : Int) (v37 : σ) (v38 : Int) , LeO (lattice_pairs_1.l3_g k a_y_ a1 v28 v37 v38) (lattice_pairs_1.l3 a_y a1 v28 v37 v38) := by
  intro k
  induction k with
  | zero => intros; exact leN
  | succ k ih =>
    intro a_y_ a_y h_a_y a1 v28 v37 v38
    rw [lattice_pairs_1.l3]
    exact (leI (leB (h_a_y _ _ _) (fun y41 => (leI leR (ih h_a_y _ _ _ _)))) leR)
def lattice_pairs_1.l2_g {σ : Type} : Nat → (a_y : σ → Int → Int → Option (Bool × σ)) → (a1 : Int) → (v27 : σ) → (v28 : Int) → Option (σ ⊕ σ)
  | 0 => fun _ _ _ _ => none
  | k + 1 => fun a_y a1 v27 v28 => if v28 < a1 then (((lattice_pairs_1.l3_g k) a_y a1 v28 v27 0 >>= fun o => match o with | .inl r => some (.inl r) | .inr x39 => (lattice_pairs_1.l2_g k) a_y a1 x39 (IntKind.i64.wrap (v28 + 1)))) else (some (.inr v27))
theorem lattice_pairs_1.l2_le {σ : Type} : ∀ (k : Nat) {a_y_ a_y : σ → Int → Int → Option (Bool × σ)} (h_a_y : ∀ q0 q1 q2, LeO (a_y_ q0 q1 q2) (a_y q0 q1 q2)) (a1 : Int) (v27 : σ) (v28 : Int) , LeO (lattice_pairs_1.l2_g k a_y_ a1 v27 v28) (lattice_pairs_1.l2 a_y a1 v27 v28) := by
  intro k
  induction k with
  | zero => intros; exact leN
  | succ k ih =>
    intro a_y_ a_y h_a_y a1 v27 v28
    rw [lattice_pairs_1.l2]
    exact (leI (leB (lattice_pairs_1.l3_le k h_a_y _ _ _ _) (fun o => (match o with | .inl r => leR | .inr x39 => (ih h_a_y _ _ _)))) leR)
def lattice_pairs_1.f_g (k : Nat) {σ : Type} (a_y : σ → Int → Int → Option (Bool × σ)) (a_s : σ) (a1 : Int) : Option σ := ((lattice_pairs_1.l2_g k) a_y a1 a_s 0 >>= fun o => match o with | .inl r => some r | .inr x29 => some x29)
theorem lattice_pairs_1.f_le {σ : Type} (k : Nat) {a_y_ a_y : σ → Int → Int → Option (Bool × σ)} (h_a_y : ∀ q0 q1 q2, LeO (a_y_ q0 q1 q2) (a_y q0 q1 q2)) (a_s : σ) (a1 : Int) : LeO (lattice_pairs_1.f_g k a_y_ a_s a1) (lattice_pairs_1.f a_y a_s a1) := by
  unfold lattice_pairs_1.f_g lattice_pairs_1.f
  exact (leB (lattice_pairs_1.l2_le k h_a_y _ _ _) (fun o => (match o with | .inl r => leR | .inr x29 => leR)))
def lattice_pairs.f_g (k : Nat) (a0 : Int) : Option Int := some a0
theorem lattice_pairs.f_le (k : Nat) (a0 : Int) : LeO (lattice_pairs.f_g k a0) (lattice_pairs.f a0) := by
  unfold lattice_pairs.f_g lattice_pairs.f
  exact leR
def lattice_flows.f_g (k : Nat) (a0 : api_Lattice) (a1 : Int) (a2 : Int) : Option Bool := lAt a0.Up a1 >>= fun y1 => if ¬ a2 < 0 then (some (decide (bAnd .u32 (bShr .u32 y1 a2) 1 = 1))) else none
theorem lattice_flows.f_le (k : Nat) (a0 : api_Lattice) (a1 : Int) (a2 : Int) : LeO (lattice_flows.f_g k a0 a1 a2) (lattice_flows.f a0 a1 a2) := by
  unfold lattice_flows.f_g lattice_flows.f
  exact (leB leR (fun y1 => (leI leR leR)))
def lattice_order.y0_g (k : Nat) (a0 : api_Lattice) (v26 : Unit) (v27 : Int) (v28 : Int) : Option (Bool × ((Unit) × Nat)) := ((if v27 = v28 then ((lattice_flows.f_g k) a0 v27 v28 >>= fun y37 => if (!y37) = true then (some true) else (some false)) else ((lattice_flows.f_g k) a0 v27 v28 >>= fun y39 => if y39 = true then ((lattice_flows.f_g k) a0 v28 v27 >>= fun y41 => some y41) else (some false)) : Option Bool) >>= fun x35 => if x35 = true then (some (false, ((), 1))) else ((((lattice_flows.f_g k) a0 v27 v28 >>= fun y48 => if y48 = true then (lAt a0.Up v28 >>= fun y50 => lAt a0.Up v27 >>= fun y51 => some (!decide (bAndNot .u32 y50 y51 = 0))) else (some false) : Option Bool) >>= fun x47 => if x47 = true then (some (false, ((), 1))) else (some (true, ((), 0))))))
theorem lattice_order.y0_le (k : Nat) (a0 : api_Lattice) (v26 : Unit) (v27 : Int) (v28 : Int) : LeO (lattice_order.y0_g k a0 v26 v27 v28) (lattice_order.y0 a0 v26 v27 v28) := by
  unfold lattice_order.y0_g lattice_order.y0
  exact (leB (leI (leB (lattice_flows.f_le k _ _ _) (fun y37 => (leI leR leR))) (leB (lattice_flows.f_le k _ _ _) (fun y39 => (leI (leB (lattice_flows.f_le k _ _ _) (fun y41 => leR)) leR)))) (fun x35 => (leI leR (leB (leB (lattice_flows.f_le k _ _ _) (fun y48 => (leI (leB leR (fun y50 => (leB leR (fun y51 => leR)))) leR))) (fun x47 => (leI leR leR))))))
def lattice_order.f_g (k : Nat) (a0 : api_Lattice) : Option Bool := (lattice_pairs.f_g k) (a0.Up.length : Int) >>= fun y1 => ((lattice_pairs_1.f_g k) (yOf ((lattice_order.y0_g k) a0)) ((), 0) y1 >>= fun y53 => if y53.2 = 0 then (some true) else if y53.2 = 1 then (some false) else none)
theorem lattice_order.f_le (k : Nat) (a0 : api_Lattice) : LeO (lattice_order.f_g k a0) (lattice_order.f a0) := by
  unfold lattice_order.f_g lattice_order.f
  exact (leB (lattice_pairs.f_le k _) (fun y1 => (leB (lattice_pairs_1.f_le k (leY (lattice_order.y0_le k _)) _ _) (fun y53 => (leI leR (leI leR leR))))))
def slices_IndexFunc_uint32_uint32.l0_g : Nat → (a0 : List Int) → (a1 : Int → Option Bool) → (v9 : Int) → Option (Int ⊕ Unit)
  | 0 => fun _ _ _ => none
  | k + 1 => fun a0 a1 v9 => if v9 < (a0.length : Int) then (lAt a0 v9 >>= fun y11 => a1 y11 >>= fun y12 => if y12 = true then (some (.inl v9)) else ((slices_IndexFunc_uint32_uint32.l0_g k) a0 a1 (IntKind.i64.wrap (v9 + 1)))) else (some (.inr ()))
theorem slices_IndexFunc_uint32_uint32.l0_le : ∀ (k : Nat) {a1_ a1 : Int → Option Bool} (h_a1 : ∀ q0, LeO (a1_ q0) (a1 q0)) (a0 : List Int) (v9 : Int) , LeO (slices_IndexFunc_uint32_uint32.l0_g k a0 a1_ v9) (slices_IndexFunc_uint32_uint32.l0 a0 a1 v9) := by
  intro k
  induction k with
  | zero => intros; exact leN
  | succ k ih =>
    intro a1_ a1 h_a1 a0 v9
    rw [slices_IndexFunc_uint32_uint32.l0]
    exact (leI (leB leR (fun y11 => (leB (h_a1 _) (fun y12 => (leI leR (ih h_a1 _ _)))))) leR)
def slices_IndexFunc_uint32_uint32.f_g (k : Nat) (a0 : List Int) (a1 : Int → Option Bool) : Option Int := ((slices_IndexFunc_uint32_uint32.l0_g k) a0 a1 0 >>= fun o => match o with | .inl r => some r | .inr () => some (-1))
theorem slices_IndexFunc_uint32_uint32.f_le (k : Nat) {a1_ a1 : Int → Option Bool} (h_a1 : ∀ q0, LeO (a1_ q0) (a1 q0)) (a0 : List Int) : LeO (slices_IndexFunc_uint32_uint32.f_g k a0 a1_) (slices_IndexFunc_uint32_uint32.f a0 a1) := by
  unfold slices_IndexFunc_uint32_uint32.f_g slices_IndexFunc_uint32_uint32.f
  exact (leB (slices_IndexFunc_uint32_uint32.l0_le k h_a1 _ _) (fun o => (match o with | .inl r => leR | .inr () => leR)))
def lattice_join_1.f_g (k : Nat) (a0 : Int) (a1 : Int) : Option Bool := some (decide (a0 = a1))
theorem lattice_join_1.f_le (k : Nat) (a0 : Int) (a1 : Int) : LeO (lattice_join_1.f_g k a0 a1) (lattice_join_1.f a0 a1) := by
  unfold lattice_join_1.f_g lattice_join_1.f
  exact leR
def lattice_join.f_g (k : Nat) (a0 : api_Lattice) (a1 : Int) (a2 : Int) : Option Int := lAt a0.Up a1 >>= fun y1 => lAt a0.Up a2 >>= fun y2 => (slices_IndexFunc_uint32_uint32.f_g k) a0.Up (fun z0 => (lattice_join_1.f_g k) z0 (bAnd .u32 y1 y2)) >>= fun y3 => some y3
theorem lattice_join.f_le (k : Nat) (a0 : api_Lattice) (a1 : Int) (a2 : Int) : LeO (lattice_join.f_g k a0 a1 a2) (lattice_join.f a0 a1 a2) := by
  unfold lattice_join.f_g lattice_join.f
  exact (leB leR (fun y1 => (leB leR (fun y2 => (leB (slices_IndexFunc_uint32_uint32.f_le k (fun z0 => (lattice_join_1.f_le k _ _)) _) (fun y3 => leR))))))
def lattice_down.l0_g : Nat → (a0 : api_Lattice) → (a1 : Int) → (v8 : Int) → (v9 : Int) → Option Int
  | 0 => fun _ _ _ _ => none
  | k + 1 => fun a0 a1 v8 v9 => if v8 < (a0.Up.length : Int) then (lAt a0.Up v8 >>= fun y12 => if ¬ a1 < 0 then (if ¬ v8 < 0 then ((lattice_down.l0_g k) a0 a1 (IntKind.i64.wrap (v8 + 1)) (bOr .u32 v9 (bShl .u32 (bAnd .u32 (bShr .u32 y12 a1) 1) v8))) else none) else none) else (some v9)
theorem lattice_down.l0_le : ∀ (k : Nat) (a0 : api_Lattice) (a1 : Int) (v8 : Int) (v9 : Int) , LeO (lattice_down.l0_g k a0 a1 v8 v9) (lattice_down.l0 a0 a1 v8 v9) := by
  intro k
  induction k with
  | zero => intros; exact leN
  | succ k ih =>
    intro a0 a1 v8 v9
    rw [lattice_down.l0]
    exact (leI (leB leR (fun y12 => (leI (leI (ih _ _ _ _) leR) leR))) leR)
def lattice_down.f_g (k : Nat) (a0 : api_Lattice) (a1 : Int) : Option Int := ((lattice_down.l0_g k) a0 a1 0 0 >>= fun x10 => some x10)
theorem lattice_down.f_le (k : Nat) (a0 : api_Lattice) (a1 : Int) : LeO (lattice_down.f_g k a0 a1) (lattice_down.f a0 a1) := by
  unfold lattice_down.f_g lattice_down.f
  exact (leB (lattice_down.l0_le k _ _ _ _) (fun x10 => leR))
def lattice_meet.l0_g : Nat → (a0 : api_Lattice) → (y1 : Int) → (y2 : Int) → (v9 : Int) → Option (Int ⊕ Unit)
  | 0 => fun _ _ _ _ => none
  | k + 1 => fun a0 y1 y2 v9 => if v9 < (a0.Up.length : Int) then ((lattice_down.f_g k) a0 v9 >>= fun y11 => if y11 = bAnd .u32 y1 y2 then (some (.inl v9)) else ((lattice_meet.l0_g k) a0 y1 y2 (IntKind.i64.wrap (v9 + 1)))) else (some (.inr ()))
theorem lattice_meet.l0_le : ∀ (k : Nat) (a0 : api_Lattice) (y1 : Int) (y2 : Int) (v9 : Int) , LeO (lattice_meet.l0_g k a0 y1 y2 v9) (lattice_meet.l0 a0 y1 y2 v9) := by
  intro k
  induction k with
  | zero => intros; exact leN
  | succ k ih =>
    intro a0 y1 y2 v9
    rw [lattice_meet.l0]
    exact (leI (leB (lattice_down.f_le k _ _) (fun y11 => (leI leR (ih _ _ _ _)))) leR)
def lattice_meet.f_g (k : Nat) (a0 : api_Lattice) (a1 : Int) (a2 : Int) : Option Int := (lattice_down.f_g k) a0 a1 >>= fun y1 => (lattice_down.f_g k) a0 a2 >>= fun y2 => ((lattice_meet.l0_g k) a0 y1 y2 0 >>= fun o => match o with | .inl r => some r | .inr () => some (-1))
theorem lattice_meet.f_le (k : Nat) (a0 : api_Lattice) (a1 : Int) (a2 : Int) : LeO (lattice_meet.f_g k a0 a1 a2) (lattice_meet.f a0 a1 a2) := by
  unfold lattice_meet.f_g lattice_meet.f
  exact (leB (lattice_down.f_le k _ _) (fun y1 => (leB (lattice_down.f_le k _ _) (fun y2 => (leB (lattice_meet.l0_le k _ _ _ _) (fun o => (match o with | .inl r => leR | .inr () => leR)))))))
def lattice_Check.y0_g (k : Nat) (a0 : api_Lattice) (v22 : Int) (v23 : Int) (v24 : Int) : Option (Bool × ((Int) × Nat)) := (((lattice_join.f_g k) a0 v23 v24 >>= fun y29 => if y29 < 0 then (some true) else ((lattice_meet.f_g k) a0 v23 v24 >>= fun y31 => some (decide (y31 < 0))) : Option Bool) >>= fun x28 => if x28 = true then (some (false, (3, 1))) else (some (true, (v22, 0))))
theorem lattice_Check.y0_le (k : Nat) (a0 : api_Lattice) (v22 : Int) (v23 : Int) (v24 : Int) : LeO (lattice_Check.y0_g k a0 v22 v23 v24) (lattice_Check.y0 a0 v22 v23 v24) := by
  unfold lattice_Check.y0_g lattice_Check.y0
  exact (leB (leB (lattice_join.f_le k _ _ _) (fun y29 => (leI leR (leB (lattice_meet.f_le k _ _ _) (fun y31 => leR))))) (fun x28 => (leI leR leR)))
def lattice_Check.f_g (k : Nat) (a0 : api_Lattice) : Option Int := (lattice_may.f_g k) a0 >>= fun y1 => if (!y1) = true then (some 1) else ((lattice_order.f_g k) a0 >>= fun y3 => if (!y3) = true then (some 2) else ((lattice_pairs.f_g k) (a0.Up.length : Int) >>= fun y5 => ((lattice_pairs_1.f_g k) (yOf ((lattice_Check.y0_g k) a0)) (0, 0) y5 >>= fun y33 => if y33.2 = 0 then (some 0) else if y33.2 = 1 then (some y33.1) else none)))
theorem lattice_Check.f_le (k : Nat) (a0 : api_Lattice) : LeO (lattice_Check.f_g k a0) (lattice_Check.f a0) := by
  unfold lattice_Check.f_g lattice_Check.f
  exact (leB (lattice_may.f_le k _) (fun y1 => (leI leR (leB (lattice_order.f_le k _) (fun y3 => (leI leR (leB (lattice_pairs.f_le k _) (fun y5 => (leB (lattice_pairs_1.f_le k (leY (lattice_Check.y0_le k _)) _ _) (fun y33 => (leI leR (leI leR leR))))))))))))
def code_spans_1_1.f_g (k : Nat) (a0 : Int) (a1 : Int) (a2 : Int) : Option Bool := ((if a0 ≥ a1 then (some (decide (a0 ≤ a2))) else (some false) : Option Bool) >>= fun x2 => some x2)
theorem code_spans_1_1.f_le (k : Nat) (a0 : Int) (a1 : Int) (a2 : Int) : LeO (code_spans_1_1.f_g k a0 a1 a2) (code_spans_1_1.f a0 a1 a2) := by
  unfold code_spans_1_1.f_g code_spans_1_1.f
  exact (leB (leI leR leR) (fun x2 => leR))
def code_spans_1.f_g (k : Nat) (a0 : Int) (a1 : Int) : Option (Int → Option Bool) := some (fun z0 => (code_spans_1_1.f_g k) z0 a0 a1)
theorem code_spans_1.f_le (k : Nat) (a0 : Int) (a1 : Int) : LeO (code_spans_1.f_g k a0 a1) (code_spans_1.f a0 a1) := by
  unfold code_spans_1.f_g code_spans_1.f
  exact leR
def code_spans.f_g (k : Nat) : Option (List (Int × (Option (Int → Option Bool)))) := (code_spans_1.f_g k) (-20) 20 >>= fun y1 => (code_spans_1.f_g k) 0 12 >>= fun y2 => (code_spans_1.f_g k) 0 3 >>= fun y3 => (code_spans_1.f_g k) 0 1 >>= fun y4 => some ([(1, (some y1)), (8, (some y2)), (9, (some y3)), (10, (some y4))] : List (Int × (Option (Int → Option Bool))))
theorem code_spans.f_le (k : Nat) : LeO (code_spans.f_g k ) (code_spans.f ) := by
  unfold code_spans.f_g code_spans.f
  exact (leB (code_spans_1.f_le k _ _) (fun y1 => (leB (code_spans_1.f_le k _ _) (fun y2 => (leB (code_spans_1.f_le k _ _) (fun y3 => (leB (code_spans_1.f_le k _ _) (fun y4 => leR))))))))
def code_right.f_g (k : Nat) (a0 : Int) (a1 : api_Instr) : Option Bool := ((if a1.Op < 0 then (some true) else (some (decide (a1.Op ≥ 13))) : Option Bool) >>= fun x2 => if x2 = true then (some false) else ((code_spans.f_g k) >>= fun y5 => ((if ((mGet y5 none a1.Op).2) = true then ((mGet y5 none a1.Op).1 >>= fun y14 => y14 a1.N >>= fun y15 => if (!y15) = true then (some true) else (if (!((mGet y5 none a1.Op).2)) = true then (some (!decide (a1.N = 0))) else (some false))) else (if (!((mGet y5 none a1.Op).2)) = true then (some (!decide (a1.N = 0))) else (some false)) : Option Bool) >>= fun x12 => if x12 = true then (some false) else (if a1.Op = 1 then (((if a1.L ≥ 0 then (some (decide (a1.L < a0))) else (some false) : Option Bool) >>= fun x22 => some x22)) else (some (decide (a1.L = 0)))))))
theorem code_right.f_le (k : Nat) (a0 : Int) (a1 : api_Instr) : LeO (code_right.f_g k a0 a1) (code_right.f a0 a1) := by
  unfold code_right.f_g code_right.f
  exact (leB (leI leR leR) (fun x2 => (leI leR (leB (code_spans.f_le k) (fun y5 => (leB (leI (leB leR (fun y14 => (leB leR (fun y15 => (leI leR (leI leR leR)))))) (leI leR leR)) (fun x12 => (leI leR (leI (leB (leI leR leR) (fun x22 => leR)) leR)))))))))
def slices_IndexFunc_api_Instr_api_Instr.l0_g : Nat → (a0 : List api_Instr) → (a1 : api_Instr → Option Bool) → (v9 : Int) → Option (Int ⊕ Unit)
  | 0 => fun _ _ _ => none
  | k + 1 => fun a0 a1 v9 => if v9 < (a0.length : Int) then (lAt a0 v9 >>= fun y11 => a1 y11 >>= fun y12 => if y12 = true then (some (.inl v9)) else ((slices_IndexFunc_api_Instr_api_Instr.l0_g k) a0 a1 (IntKind.i64.wrap (v9 + 1)))) else (some (.inr ()))
theorem slices_IndexFunc_api_Instr_api_Instr.l0_le : ∀ (k : Nat) {a1_ a1 : api_Instr → Option Bool} (h_a1 : ∀ q0, LeO (a1_ q0) (a1 q0)) (a0 : List api_Instr) (v9 : Int) , LeO (slices_IndexFunc_api_Instr_api_Instr.l0_g k a0 a1_ v9) (slices_IndexFunc_api_Instr_api_Instr.l0 a0 a1 v9) := by
  intro k
  induction k with
  | zero => intros; exact leN
  | succ k ih =>
    intro a1_ a1 h_a1 a0 v9
    rw [slices_IndexFunc_api_Instr_api_Instr.l0]
    exact (leI (leB leR (fun y11 => (leB (h_a1 _) (fun y12 => (leI leR (ih h_a1 _ _)))))) leR)
def slices_IndexFunc_api_Instr_api_Instr.f_g (k : Nat) (a0 : List api_Instr) (a1 : api_Instr → Option Bool) : Option Int := ((slices_IndexFunc_api_Instr_api_Instr.l0_g k) a0 a1 0 >>= fun o => match o with | .inl r => some r | .inr () => some (-1))
theorem slices_IndexFunc_api_Instr_api_Instr.f_le (k : Nat) {a1_ a1 : api_Instr → Option Bool} (h_a1 : ∀ q0, LeO (a1_ q0) (a1 q0)) (a0 : List api_Instr) : LeO (slices_IndexFunc_api_Instr_api_Instr.f_g k a0 a1_) (slices_IndexFunc_api_Instr_api_Instr.f a0 a1) := by
  unfold slices_IndexFunc_api_Instr_api_Instr.f_g slices_IndexFunc_api_Instr_api_Instr.f
  exact (leB (slices_IndexFunc_api_Instr_api_Instr.l0_le k h_a1 _ _) (fun o => (match o with | .inl r => leR | .inr () => leR)))
def slices_ContainsFunc_api_Instr_api_Instr.f_g (k : Nat) (a0 : List api_Instr) (a1 : api_Instr → Option Bool) : Option Bool := (slices_IndexFunc_api_Instr_api_Instr.f_g k) a0 a1 >>= fun y1 => some (decide (y1 ≥ 0))
theorem slices_ContainsFunc_api_Instr_api_Instr.f_le (k : Nat) {a1_ a1 : api_Instr → Option Bool} (h_a1 : ∀ q0, LeO (a1_ q0) (a1 q0)) (a0 : List api_Instr) : LeO (slices_ContainsFunc_api_Instr_api_Instr.f_g k a0 a1_) (slices_ContainsFunc_api_Instr_api_Instr.f a0 a1) := by
  unfold slices_ContainsFunc_api_Instr_api_Instr.f_g slices_ContainsFunc_api_Instr_api_Instr.f
  exact (leB (slices_IndexFunc_api_Instr_api_Instr.f_le k h_a1 _) (fun y1 => leR))
def code_Right_1.f_g (k : Nat) (a0 : api_Instr) (a1 : api_Lattice) : Option Bool := (code_right.f_g k) (a1.Up.length : Int) a0 >>= fun y1 => some (!y1)
theorem code_Right_1.f_le (k : Nat) (a0 : api_Instr) (a1 : api_Lattice) : LeO (code_Right_1.f_g k a0 a1) (code_Right_1.f a0 a1) := by
  unfold code_Right_1.f_g code_Right_1.f
  exact (leB (code_right.f_le k _ _) (fun y1 => leR))
def code_Right.f_g (k : Nat) (a0 : api_Lattice) (a1 : List api_Instr) : Option Bool := (((lattice_Check.f_g k) a0 >>= fun y6 => if y6 = 0 then (if (a1.length : Int) ≤ 12 then ((slices_ContainsFunc_api_Instr_api_Instr.f_g k) a1 (fun z0 => (code_Right_1.f_g k) z0 a0) >>= fun y9 => some (!y9)) else (some false)) else (some false) : Option Bool) >>= fun x5 => some x5)
theorem code_Right.f_le (k : Nat) (a0 : api_Lattice) (a1 : List api_Instr) : LeO (code_Right.f_g k a0 a1) (code_Right.f a0 a1) := by
  unfold code_Right.f_g code_Right.f
  exact (leB (leB (lattice_Check.f_le k _) (fun y6 => (leI (leI (leB (slices_ContainsFunc_api_Instr_api_Instr.f_le k (fun z0 => (code_Right_1.f_le k _ _)) _) (fun y9 => leR)) leR) leR))) (fun x5 => leR))
def table_Name.f_g (k : Nat) (a0 : Int) : Option (Str × Int) := ((if a0 < 0 then (some true) else (some (decide (a0 ≥ 13))) : Option Bool) >>= fun x2 => if x2 = true then (some (([] : Str), 9)) else (lAt gl0 a0 >>= fun y5 => some (y5, 0)))
theorem table_Name.f_le (k : Nat) (a0 : Int) : LeO (table_Name.f_g k a0) (table_Name.f a0) := by
  unfold table_Name.f_g table_Name.f
  exact (leB (leI leR leR) (fun x2 => (leI leR (leB leR (fun y5 => leR)))))
def code_number.f_g (k : Nat) (a0 : Int) : Option Bool := (code_spans.f_g k) >>= fun y1 => some ((mGet y1 none a0).2)
theorem code_number.f_le (k : Nat) (a0 : Int) : LeO (code_number.f_g k a0) (code_number.f a0) := by
  unfold code_number.f_g code_number.f
  exact (leB (code_spans.f_le k) (fun y1 => leR))
def lex_while.l0_g : Nat → (a0 : Str) → (a1 : Int → Option Bool) → (v17 : Int) → Option Int
  | 0 => fun _ _ _ => none
  | k + 1 => fun a0 a1 v17 => ((if v17 < (a0.length : Int) then (if (0 : Int) ≤ v17 ∧ v17 < (a0.length : Int) then (a1 (sAt a0 v17) >>= fun y25 => some y25) else none) else (some false) : Option Bool) >>= fun x22 => if x22 = true then ((lex_while.l0_g k) a0 a1 (IntKind.i64.wrap (v17 + 1))) else (some v17))
theorem lex_while.l0_le : ∀ (k : Nat) {a1_ a1 : Int → Option Bool} (h_a1 : ∀ q0, LeO (a1_ q0) (a1 q0)) (a0 : Str) (v17 : Int) , LeO (lex_while.l0_g k a0 a1_ v17) (lex_while.l0 a0 a1 v17) := by
  intro k
  induction k with
  | zero => intros; exact leN
  | succ k ih =>
    intro a1_ a1 h_a1 a0 v17
    rw [lex_while.l0]
    exact (leB (leI (leI (leB (h_a1 _) (fun y25 => leR)) leR) leR) (fun x22 => (leI (ih h_a1 _ _) leR)))
def lex_while.f_g (k : Nat) (a0 : Str) (a1 : Int → Option Bool) : Option Int := ((lex_while.l0_g k) a0 a1 0 >>= fun x18 => some x18)
theorem lex_while.f_le (k : Nat) {a1_ a1 : Int → Option Bool} (h_a1 : ∀ q0, LeO (a1_ q0) (a1 q0)) (a0 : Str) : LeO (lex_while.f_g k a0 a1_) (lex_while.f a0 a1) := by
  unfold lex_while.f_g lex_while.f
  exact (leB (lex_while.l0_le k h_a1 _ _) (fun x18 => leR))
def lex_token_1.f_g (k : Nat) (a0 : Int) : Option Bool := some (!decide (a0 = 10))
theorem lex_token_1.f_le (k : Nat) (a0 : Int) : LeO (lex_token_1.f_g k a0) (lex_token_1.f a0) := by
  unfold lex_token_1.f_g lex_token_1.f
  exact leR
def lex_letter.f_g (k : Nat) (a0 : Int) : Option Bool := ((if a0 ≥ 97 then (some (decide (a0 ≤ 122))) else (some false) : Option Bool) >>= fun x2 => some x2)
theorem lex_letter.f_le (k : Nat) (a0 : Int) : LeO (lex_letter.f_g k a0) (lex_letter.f a0) := by
  unfold lex_letter.f_g lex_letter.f
  exact (leB (leI leR leR) (fun x2 => leR))
def lex_digit.f_g (k : Nat) (a0 : Int) : Option Bool := ((if a0 ≥ 48 then (some (decide (a0 ≤ 57))) else (some false) : Option Bool) >>= fun x2 => some x2)
theorem lex_digit.f_le (k : Nat) (a0 : Int) : LeO (lex_digit.f_g k a0) (lex_digit.f a0) := by
  unfold lex_digit.f_g lex_digit.f
  exact (leB (leI leR leR) (fun x2 => leR))
def stringslite_HasPrefix.f_g (k : Nat) (a0 : Str) (a1 : Str) : Option Bool := ((if (a0.length : Int) ≥ (a1.length : Int) then (if (0 : Int) ≤ (a1.length : Int) ∧ (a1.length : Int) ≤ (a0.length : Int) then (some (decide (sCut a0 0 (a1.length : Int) = a1))) else none) else (some false) : Option Bool) >>= fun x3 => some x3)
theorem stringslite_HasPrefix.f_le (k : Nat) (a0 : Str) (a1 : Str) : LeO (stringslite_HasPrefix.f_g k a0 a1) (stringslite_HasPrefix.f a0 a1) := by
  unfold stringslite_HasPrefix.f_g stringslite_HasPrefix.f
  exact (leB (leI (leI leR leR) leR) (fun x3 => leR))
def strings_HasPrefix.f_g (k : Nat) (a0 : Str) (a1 : Str) : Option Bool := (stringslite_HasPrefix.f_g k) a0 a1 >>= fun y1 => some y1
theorem strings_HasPrefix.f_le (k : Nat) (a0 : Str) (a1 : Str) : LeO (strings_HasPrefix.f_g k a0 a1) (strings_HasPrefix.f a0 a1) := by
  unfold strings_HasPrefix.f_g strings_HasPrefix.f
  exact (leB (stringslite_HasPrefix.f_le k _ _) (fun y1 => leR))
def lex_token.f_g (k : Nat) (a0 : Str) : Option (Int × Int) := if (0 : Int) ≤ 0 ∧ 0 < (a0.length : Int) then (((if sAt a0 0 = 32 then (some true) else (if sAt a0 0 = 9 then (some true) else (some (decide (sAt a0 0 = 10)))) : Option Bool) >>= fun x4 => if x4 = true then (some (0, 1)) else (if sAt a0 0 = 35 then ((lex_while.f_g k) a0 (lex_token_1.f_g k) >>= fun y9 => some (0, y9)) else ((lex_letter.f_g k) (sAt a0 0) >>= fun y10 => if y10 = true then ((lex_while.f_g k) a0 (lex_letter.f_g k) >>= fun y12 => some (1, y12)) else ((lex_digit.f_g k) (sAt a0 0) >>= fun y13 => if y13 = true then ((lex_while.f_g k) a0 (lex_digit.f_g k) >>= fun y15 => some (2, y15)) else ((strings_HasPrefix.f_g k) a0 ([60, 61] : Str) >>= fun y16 => if y16 = true then (some (3, 2)) else (lib_IndexByte ([40, 41, 91, 93, 59, 58, 44, 60, 62, 64, 45, 61] : Str) (sAt a0 0) >>= fun y18 => if y18 ≥ 0 then (some (3, 1)) else (some (0, 0))))))))) else none
theorem lex_token.f_le (k : Nat) (a0 : Str) : LeO (lex_token.f_g k a0) (lex_token.f a0) := by
  unfold lex_token.f_g lex_token.f
  exact (leI (leB (leI leR (leI leR leR)) (fun x4 => (leI leR (leI (leB (lex_while.f_le k (lex_token_1.f_le k) _) (fun y9 => leR)) (leB (lex_letter.f_le k _) (fun y10 => (leI (leB (lex_while.f_le k (lex_letter.f_le k) _) (fun y12 => leR)) (leB (lex_digit.f_le k _) (fun y13 => (leI (leB (lex_while.f_le k (lex_digit.f_le k) _) (fun y15 => leR)) (leB (strings_HasPrefix.f_le k _ _) (fun y16 => (leI leR (leB leR (fun y18 => (leI leR leR)))))))))))))))) leR)
def lex_Lex.l0_g : Nat → (a0 : Str) → (v32 : List api_Tok) → (v33 : Int) → Option (((List api_Tok) × Int × Int) ⊕ (List api_Tok))
  | 0 => fun _ _ _ => none
  | k + 1 => fun a0 v32 v33 => if v33 < (a0.length : Int) then (((if (0 : Int) ≤ v33 ∧ v33 ≤ (a0.length : Int) then ((lex_token.f_g k) (sCut a0 v33 (a0.length : Int)) >>= fun y45 => if y45.2 = 0 then (some (.inl (([] : List api_Tok), v33, 4))) else (if y45.1 = 0 then (some (.inr (v32, IntKind.i64.wrap (v33 + y45.2)))) else (if (0 : Int) ≤ v33 ∧ v33 ≤ IntKind.i64.wrap (v33 + y45.2) ∧ IntKind.i64.wrap (v33 + y45.2) ≤ (a0.length : Int) then (if (v32.length + ([(⟨y45.1, sCut a0 v33 (IntKind.i64.wrap (v33 + y45.2)), v33⟩ : api_Tok)] : List api_Tok).length) * 32 ≤ big then (some (.inr (v32 ++ ([(⟨y45.1, sCut a0 v33 (IntKind.i64.wrap (v33 + y45.2)), v33⟩ : api_Tok)] : List api_Tok), IntKind.i64.wrap (v33 + y45.2)))) else none) else none))) else none : Option (((List api_Tok) × Int × Int) ⊕ ((List api_Tok) × Int))) >>= fun o => match o with | .inl r => some (.inl r) | .inr (x42, x43) => (lex_Lex.l0_g k) a0 x42 x43)) else (some (.inr v32))
theorem lex_Lex.l0_le : ∀ (k : Nat) (a0 : Str) (v32 : List api_Tok) (v33 : Int) , LeO (lex_Lex.l0_g k a0 v32 v33) (lex_Lex.l0 a0 v32 v33) := by
  intro k
  induction k with
  | zero => intros; exact leN
  | succ k ih =>
    intro a0 v32 v33
    rw [lex_Lex.l0]
    exact (leI (leB (leI (leB (lex_token.f_le k _) (fun y45 => (leI leR (leI leR (leI (leI leR leR) leR))))) leR) (fun o => (match o with | .inl r => leR | .inr (x42, x43) => (ih _ _ _)))) leR)
def lex_Lex.f_g (k : Nat) (a0 : Str) : Option ((List api_Tok) × Int × Int) := if (a0.length : Int) > 2000 then (some (([] : List api_Tok), 0, 8)) else (((lex_Lex.l0_g k) a0 ([] : List api_Tok) 0 >>= fun o => match o with | .inl r => some r | .inr x34 => if (x34.length + ([(⟨0, [], (a0.length : Int)⟩ : api_Tok)] : List api_Tok).length) * 32 ≤ big then (if ((x34 ++ ([(⟨0, [], (a0.length : Int)⟩ : api_Tok)] : List api_Tok)).length : Int) > 200 then (some (([] : List api_Tok), 0, 8)) else (some (x34 ++ ([(⟨0, [], (a0.length : Int)⟩ : api_Tok)] : List api_Tok), 0, 0))) else none))
theorem lex_Lex.f_le (k : Nat) (a0 : Str) : LeO (lex_Lex.f_g k a0) (lex_Lex.f a0) := by
  unfold lex_Lex.f_g lex_Lex.f
  exact (leI leR (leB (lex_Lex.l0_le k _ _ _) (fun o => (match o with | .inl r => leR | .inr x34 => (leI (leI leR leR) leR)))))
def code_reader_tok.f_g (k : Nat) (a0 : code_reader) : Option (code_reader × api_Tok) := lAt a0.toks_ a0.i_ >>= fun y1 => some (a0, y1)
theorem code_reader_tok.f_le (k : Nat) (a0 : code_reader) : LeO (code_reader_tok.f_g k a0) (code_reader_tok.f a0) := by
  unfold code_reader_tok.f_g code_reader_tok.f
  exact (leB leR (fun y1 => leR))
def code_instruction.l0_g : Nat → (a0 : api_Tok) → (v13 : Int) → Option (Int ⊕ Unit)
  | 0 => fun _ _ => none
  | k + 1 => fun a0 v13 => if v13 < 13 then ((table_Name.f_g k) v13 >>= fun y15 => ((if a0.Kind = 1 then (some (decide (y15.1 = a0.Text))) else (some false) : Option Bool) >>= fun x17 => if x17 = true then (some (.inl v13)) else ((code_instruction.l0_g k) a0 (IntKind.i64.wrap (v13 + 1))))) else (some (.inr ()))
theorem code_instruction.l0_le : ∀ (k : Nat) (a0 : api_Tok) (v13 : Int) , LeO (code_instruction.l0_g k a0 v13) (code_instruction.l0 a0 v13) := by
  intro k
  induction k with
  | zero => intros; exact leN
  | succ k ih =>
    intro a0 v13
    rw [code_instruction.l0]
    exact (leI (leB (table_Name.f_le k _) (fun y15 => (leB (leI leR leR) (fun x17 => (leI leR (ih _ _)))))) leR)
def code_instruction.f_g (k : Nat) (a0 : api_Tok) : Option Int := ((code_instruction.l0_g k) a0 0 >>= fun o => match o with | .inl r => some r | .inr () => some (-1))
theorem code_instruction.f_le (k : Nat) (a0 : api_Tok) : LeO (code_instruction.f_g k a0) (code_instruction.f a0) := by
  unfold code_instruction.f_g code_instruction.f
  exact (leB (code_instruction.l0_le k _ _) (fun o => (match o with | .inl r => leR | .inr () => leR)))
def code_reader_fail.f_g (k : Nat) (a0 : code_reader) (a1 : Int) : Option code_reader := if a0.bad_ = 0 then (some (⟨a0.l_, a0.toks_, a0.i_, a1⟩ : code_reader)) else (some a0)
theorem code_reader_fail.f_le (k : Nat) (a0 : code_reader) (a1 : Int) : LeO (code_reader_fail.f_g k a0 a1) (code_reader_fail.f a0 a1) := by
  unfold code_reader_fail.f_g code_reader_fail.f
  exact (leI leR leR)
def code_reader_number.l0_g : Nat → (y6 : code_reader × api_Tok) → (v16 : Int) → (v17 : Int) → Option Int
  | 0 => fun _ _ _ => none
  | k + 1 => fun y6 v16 v17 => if v16 < (y6.2.Text.length : Int) then (if (0 : Int) ≤ v16 ∧ v16 < (y6.2.Text.length : Int) then ((code_reader_number.l0_g k) y6 (IntKind.i64.wrap (v16 + 1)) (IntKind.i64.wrap ((IntKind.i64.wrap (10 * v17)) + (IntKind.i64.wrap (bAnd .u8 (sAt y6.2.Text v16) 15))))) else none) else (some v17)
theorem code_reader_number.l0_le : ∀ (k : Nat) (y6 : code_reader × api_Tok) (v16 : Int) (v17 : Int) , LeO (code_reader_number.l0_g k y6 v16 v17) (code_reader_number.l0 y6 v16 v17) := by
  intro k
  induction k with
  | zero => intros; exact leN
  | succ k ih =>
    intro y6 v16 v17
    rw [code_reader_number.l0]
    exact (leI (leI (ih _ _ _) leR) leR)
def code_reader_number.l1_g : Nat → (y21 : code_reader × api_Tok) → (v31 : Int) → (v32 : Int) → Option Int
  | 0 => fun _ _ _ => none
  | k + 1 => fun y21 v31 v32 => if v31 < (y21.2.Text.length : Int) then (if (0 : Int) ≤ v31 ∧ v31 < (y21.2.Text.length : Int) then ((code_reader_number.l1_g k) y21 (IntKind.i64.wrap (v31 + 1)) (IntKind.i64.wrap ((IntKind.i64.wrap (10 * v32)) + (IntKind.i64.wrap (bAnd .u8 (sAt y21.2.Text v31) 15))))) else none) else (some v32)
theorem code_reader_number.l1_le : ∀ (k : Nat) (y21 : code_reader × api_Tok) (v31 : Int) (v32 : Int) , LeO (code_reader_number.l1_g k y21 v31 v32) (code_reader_number.l1 y21 v31 v32) := by
  intro k
  induction k with
  | zero => intros; exact leN
  | succ k ih =>
    intro y21 v31 v32
    rw [code_reader_number.l1]
    exact (leI (leI (ih _ _ _) leR) leR)
def code_reader_number.f_g (k : Nat) (a0 : code_reader) : Option (code_reader × Int) := (code_reader_tok.f_g k) a0 >>= fun y1 => ((if y1.2.Kind = 3 then (some (decide (y1.2.Text = ([45] : Str)))) else (some false) : Option Bool) >>= fun x3 => if x3 = true then ((code_reader_tok.f_g k) (⟨y1.1.l_, y1.1.toks_, IntKind.i64.wrap (y1.1.i_ + 1), y1.1.bad_⟩ : code_reader) >>= fun y6 => ((if y6.2.Kind = 2 then (some (decide ((y6.2.Text.length : Int) > 4))) else (some true) : Option Bool) >>= fun x8 => if x8 = true then ((code_reader_fail.f_g k) y6.1 4 >>= fun y11 => some (y11, 0)) else (((code_reader_number.l0_g k) y6 0 0 >>= fun x18 => some ((⟨y6.1.l_, y6.1.toks_, IntKind.i64.wrap (y6.1.i_ + 1), y6.1.bad_⟩ : code_reader), IntKind.i64.wrap ((-1) * x18)))))) else ((code_reader_tok.f_g k) y1.1 >>= fun y21 => ((if y21.2.Kind = 2 then (some (decide ((y21.2.Text.length : Int) > 4))) else (some true) : Option Bool) >>= fun x23 => if x23 = true then ((code_reader_fail.f_g k) y21.1 4 >>= fun y26 => some (y26, 0)) else (((code_reader_number.l1_g k) y21 0 0 >>= fun x33 => some ((⟨y21.1.l_, y21.1.toks_, IntKind.i64.wrap (y21.1.i_ + 1), y21.1.bad_⟩ : code_reader), IntKind.i64.wrap (1 * x33)))))))
theorem code_reader_number.f_le (k : Nat) (a0 : code_reader) : LeO (code_reader_number.f_g k a0) (code_reader_number.f a0) := by
  unfold code_reader_number.f_g code_reader_number.f
  exact (leB (code_reader_tok.f_le k _) (fun y1 => (leB (leI leR leR) (fun x3 => (leI (leB (code_reader_tok.f_le k _) (fun y6 => (leB (leI leR leR) (fun x8 => (leI (leB (code_reader_fail.f_le k _ _) (fun y11 => leR)) (leB (code_reader_number.l0_le k _ _ _) (fun x18 => leR))))))) (leB (code_reader_tok.f_le k _) (fun y21 => (leB (leI leR leR) (fun x23 => (leI (leB (code_reader_fail.f_le k _ _) (fun y26 => leR)) (leB (code_reader_number.l1_le k _ _ _) (fun x33 => leR))))))))))))
def code_reader_mark.f_g (k : Nat) (a0 : code_reader) (a1 : Str) : Option code_reader := (code_reader_tok.f_g k) a0 >>= fun y1 => ((if y1.1.bad_ = 0 then (((if y1.2.Kind = 3 then (some (!decide (y1.2.Text = a1))) else (some true) : Option Bool) >>= fun x15 => if x15 = true then ((code_reader_fail.f_g k) y1.1 4 >>= fun y18 => some (y18.l_.Names, y18.l_.Up, y18.toks_, y18.i_, y18.bad_)) else (some (y1.1.l_.Names, y1.1.l_.Up, y1.1.toks_, IntKind.i64.wrap (y1.1.i_ + 1), y1.1.bad_)))) else (some (y1.1.l_.Names, y1.1.l_.Up, y1.1.toks_, y1.1.i_, y1.1.bad_)) : Option ((List Str) × (List Int) × (List api_Tok) × Int × Int)) >>= fun o => match o with | (x8, x9, x10, x11, x12) => some (⟨⟨x8, x9⟩, x10, x11, x12⟩ : code_reader))
theorem code_reader_mark.f_le (k : Nat) (a0 : code_reader) (a1 : Str) : LeO (code_reader_mark.f_g k a0 a1) (code_reader_mark.f a0 a1) := by
  unfold code_reader_mark.f_g code_reader_mark.f
  exact (leB (code_reader_tok.f_le k _) (fun y1 => (leB (leI (leB (leI leR leR) (fun x15 => (leI (leB (code_reader_fail.f_le k _ _) (fun y18 => leR)) leR))) leR) (fun o => (match o with | (x8, x9, x10, x11, x12) => leR)))))
def order_Find.f_g (k : Nat) (a0 : api_Lattice) (a1 : Str) : Option (Int × Int) := (lattice_Check.f_g k) a0 >>= fun y1 => if y1 = 0 then ((slices_Index_string_string.f_g k) a0.Names a1 >>= fun y3 => if y3 < 0 then (some (0, 9)) else (some (y3, 0))) else (some (0, y1))
theorem order_Find.f_le (k : Nat) (a0 : api_Lattice) (a1 : Str) : LeO (order_Find.f_g k a0 a1) (order_Find.f a0 a1) := by
  unfold order_Find.f_g order_Find.f
  exact (leB (lattice_Check.f_le k _) (fun y1 => (leI (leB (slices_Index_string_string.f_le k _ _) (fun y3 => (leI leR leR))) leR)))
def code_reader_label.f_g (k : Nat) (a0 : code_reader) : Option (code_reader × Int) := (code_reader_mark.f_g k) a0 ([64] : Str) >>= fun y1 => (code_reader_tok.f_g k) y1 >>= fun y2 => if y2.1.bad_ = 0 then (if y2.2.Kind = 1 then ((order_Find.f_g k) y2.1.l_ y2.2.Text >>= fun y5 => if y5.2 = 0 then (some ((⟨y2.1.l_, y2.1.toks_, IntKind.i64.wrap (y2.1.i_ + 1), y2.1.bad_⟩ : code_reader), y5.1)) else ((code_reader_fail.f_g k) y2.1 6 >>= fun y7 => some (y7, 0))) else ((code_reader_fail.f_g k) y2.1 4 >>= fun y8 => some (y8, 0))) else (some (y2.1, 0))
theorem code_reader_label.f_le (k : Nat) (a0 : code_reader) : LeO (code_reader_label.f_g k a0) (code_reader_label.f a0) := by
  unfold code_reader_label.f_g code_reader_label.f
  exact (leB (code_reader_mark.f_le k _ _) (fun y1 => (leB (code_reader_tok.f_le k _) (fun y2 => (leI (leI (leB (order_Find.f_le k _ _) (fun y5 => (leI leR (leB (code_reader_fail.f_le k _ _) (fun y7 => leR))))) (leB (code_reader_fail.f_le k _ _) (fun y8 => leR))) leR)))))
def code_reader_one.f_g (k : Nat) (a0 : code_reader) (a1 : Int) : Option (code_reader × api_Instr) := (code_number.f_g k) a1 >>= fun y1 => if y1 = true then ((code_reader_number.f_g k) (⟨a0.l_, a0.toks_, IntKind.i64.wrap (a0.i_ + 1), a0.bad_⟩ : code_reader) >>= fun y3 => ((if a1 = 1 then (some (decide (y3.1.bad_ = 0))) else (some false) : Option Bool) >>= fun x5 => if x5 = true then ((code_reader_label.f_g k) y3.1 >>= fun y8 => (code_reader_mark.f_g k) y8.1 ([59] : Str) >>= fun y9 => ((if y9.bad_ = 0 then ((code_right.f_g k) (y9.l_.Up.length : Int) (⟨a1, y3.2, y8.2⟩ : api_Instr) >>= fun y14 => some (!y14)) else (some false) : Option Bool) >>= fun x12 => if x12 = true then ((code_reader_fail.f_g k) (⟨y9.l_, y9.toks_, a0.i_, y9.bad_⟩ : code_reader) 1 >>= fun y16 => some (y16, (⟨a1, y3.2, y8.2⟩ : api_Instr))) else (some (y9, (⟨a1, y3.2, y8.2⟩ : api_Instr))))) else ((code_reader_mark.f_g k) y3.1 ([59] : Str) >>= fun y17 => ((if y17.bad_ = 0 then ((code_right.f_g k) (y17.l_.Up.length : Int) (⟨a1, y3.2, 0⟩ : api_Instr) >>= fun y22 => some (!y22)) else (some false) : Option Bool) >>= fun x20 => if x20 = true then ((code_reader_fail.f_g k) (⟨y17.l_, y17.toks_, a0.i_, y17.bad_⟩ : code_reader) 1 >>= fun y24 => some (y24, (⟨a1, y3.2, 0⟩ : api_Instr))) else (some (y17, (⟨a1, y3.2, 0⟩ : api_Instr))))))) else (((if a1 = 1 then (some (decide (a0.bad_ = 0))) else (some false) : Option Bool) >>= fun x26 => if x26 = true then ((code_reader_label.f_g k) (⟨a0.l_, a0.toks_, IntKind.i64.wrap (a0.i_ + 1), a0.bad_⟩ : code_reader) >>= fun y29 => (code_reader_mark.f_g k) y29.1 ([59] : Str) >>= fun y30 => ((if y30.bad_ = 0 then ((code_right.f_g k) (y30.l_.Up.length : Int) (⟨a1, 0, y29.2⟩ : api_Instr) >>= fun y35 => some (!y35)) else (some false) : Option Bool) >>= fun x33 => if x33 = true then ((code_reader_fail.f_g k) (⟨y30.l_, y30.toks_, a0.i_, y30.bad_⟩ : code_reader) 1 >>= fun y37 => some (y37, (⟨a1, 0, y29.2⟩ : api_Instr))) else (some (y30, (⟨a1, 0, y29.2⟩ : api_Instr))))) else ((code_reader_mark.f_g k) (⟨a0.l_, a0.toks_, IntKind.i64.wrap (a0.i_ + 1), a0.bad_⟩ : code_reader) ([59] : Str) >>= fun y38 => ((if y38.bad_ = 0 then ((code_right.f_g k) (y38.l_.Up.length : Int) (⟨a1, 0, 0⟩ : api_Instr) >>= fun y43 => some (!y43)) else (some false) : Option Bool) >>= fun x41 => if x41 = true then ((code_reader_fail.f_g k) (⟨y38.l_, y38.toks_, a0.i_, y38.bad_⟩ : code_reader) 1 >>= fun y45 => some (y45, (⟨a1, 0, 0⟩ : api_Instr))) else (some (y38, (⟨a1, 0, 0⟩ : api_Instr)))))))
theorem code_reader_one.f_le (k : Nat) (a0 : code_reader) (a1 : Int) : LeO (code_reader_one.f_g k a0 a1) (code_reader_one.f a0 a1) := by
  unfold code_reader_one.f_g code_reader_one.f
  exact (leB (code_number.f_le k _) (fun y1 => (leI (leB (code_reader_number.f_le k _) (fun y3 => (leB (leI leR leR) (fun x5 => (leI (leB (code_reader_label.f_le k _) (fun y8 => (leB (code_reader_mark.f_le k _ _) (fun y9 => (leB (leI (leB (code_right.f_le k _ _) (fun y14 => leR)) leR) (fun x12 => (leI (leB (code_reader_fail.f_le k _ _) (fun y16 => leR)) leR))))))) (leB (code_reader_mark.f_le k _ _) (fun y17 => (leB (leI (leB (code_right.f_le k _ _) (fun y22 => leR)) leR) (fun x20 => (leI (leB (code_reader_fail.f_le k _ _) (fun y24 => leR)) leR)))))))))) (leB (leI leR leR) (fun x26 => (leI (leB (code_reader_label.f_le k _) (fun y29 => (leB (code_reader_mark.f_le k _ _) (fun y30 => (leB (leI (leB (code_right.f_le k _ _) (fun y35 => leR)) leR) (fun x33 => (leI (leB (code_reader_fail.f_le k _ _) (fun y37 => leR)) leR))))))) (leB (code_reader_mark.f_le k _ _) (fun y38 => (leB (leI (leB (code_right.f_le k _ _) (fun y43 => leR)) leR) (fun x41 => (leI (leB (code_reader_fail.f_le k _ _) (fun y45 => leR)) leR)))))))))))
def code_From.l0_g : Nat → (v27 : List Str) → (v28 : List Int) → (v29 : List api_Tok) → (v30 : Int) → (v31 : Int) → (v32 : List api_Instr) → Option (((List api_Instr) × Int × Int) ⊕ ((List Str) × (List Int) × (List api_Tok) × Int × Int × (List api_Instr)))
  | 0 => fun _ _ _ _ _ _ => none
  | k + 1 => fun v27 v28 v29 v30 v31 v32 => if v31 = 0 then ((code_reader_tok.f_g k) (⟨⟨v27, v28⟩, v29, v30, v31⟩ : code_reader) >>= fun y40 => (code_instruction.f_g k) y40.2 >>= fun y41 => if y41 < 0 then (some (.inl (v32, y40.1.i_, 0))) else (if (v32.length : Int) = 12 then ((code_reader_fail.f_g k) y40.1 8 >>= fun y44 => some (.inr (y44.l_.Names, y44.l_.Up, y44.toks_, y44.i_, y44.bad_, v32))) else ((code_reader_one.f_g k) y40.1 y41 >>= fun y45 => if (v32.length + ([y45.2] : List api_Instr).length) * 24 ≤ big then ((code_From.l0_g k) y45.1.l_.Names y45.1.l_.Up y45.1.toks_ y45.1.i_ y45.1.bad_ (v32 ++ ([y45.2] : List api_Instr))) else none))) else (some (.inr (v27, v28, v29, v30, v31, v32)))
theorem code_From.l0_le : ∀ (k : Nat) (v27 : List Str) (v28 : List Int) (v29 : List api_Tok) (v30 : Int) (v31 : Int) (v32 : List api_Instr) , LeO (code_From.l0_g k v27 v28 v29 v30 v31 v32) (code_From.l0 v27 v28 v29 v30 v31 v32) := by
  intro k
  induction k with
  | zero => intros; exact leN
  | succ k ih =>
    intro v27 v28 v29 v30 v31 v32
    rw [code_From.l0]
    exact (leI (leB (code_reader_tok.f_le k _) (fun y40 => (leB (code_instruction.f_le k _) (fun y41 => (leI leR (leI (leB (code_reader_fail.f_le k _ _) (fun y44 => leR)) (leB (code_reader_one.f_le k _ _) (fun y45 => (leI (ih _ _ _ _ _ _) leR))))))))) leR)
def code_From.f_g (k : Nat) (a0 : api_Lattice) (a1 : List api_Tok) (a2 : Int) : Option ((List api_Instr) × Int × Int) := (lattice_Check.f_g k) a0 >>= fun y1 => if y1 = 0 then (((if a2 < 0 then (some true) else (if a2 ≥ (a1.length : Int) then (some true) else (lAt a1 (IntKind.i64.wrap ((a1.length : Int) - 1)) >>= fun y9 => some (!decide (y9.Kind = 0)))) : Option Bool) >>= fun x6 => if x6 = true then (some (([] : List api_Instr), 0, 1)) else (((code_From.l0_g k) a0.Names a0.Up a1 a2 0 ([] : List api_Instr) >>= fun o => match o with | .inl r => some r | .inr (x33, x34, x35, x36, x37, x38) => some (([] : List api_Instr), x36, x37))))) else (some (([] : List api_Instr), 0, y1))
theorem code_From.f_le (k : Nat) (a0 : api_Lattice) (a1 : List api_Tok) (a2 : Int) : LeO (code_From.f_g k a0 a1 a2) (code_From.f a0 a1 a2) := by
  unfold code_From.f_g code_From.f
  exact (leB (lattice_Check.f_le k _) (fun y1 => (leI (leB (leI leR (leI leR (leB leR (fun y9 => leR)))) (fun x6 => (leI leR (leB (code_From.l0_le k _ _ _ _ _ _) (fun o => (match o with | .inl r => leR | .inr (x33, x34, x35, x36, x37, x38) => leR)))))) leR)))
def code_Parse.f_g (k : Nat) (a0 : api_Lattice) (a1 : Str) : Option ((List api_Instr) × Int × Int) := (lattice_Check.f_g k) a0 >>= fun y1 => if y1 = 0 then ((lex_Lex.f_g k) a1 >>= fun y3 => if y3.2.2 = 0 then ((code_From.f_g k) a0 y3.1 0 >>= fun y5 => if y5.2.2 = 0 then (lAt y3.1 y5.2.1 >>= fun y7 => if y7.Kind = 0 then (some (y5.1, 0, 0)) else (lAt y3.1 y5.2.1 >>= fun y9 => some (([] : List api_Instr), y9.At, 4))) else (lAt y3.1 y5.2.1 >>= fun y10 => some (([] : List api_Instr), y10.At, y5.2.2))) else (some (([] : List api_Instr), y3.2.1, y3.2.2))) else (some (([] : List api_Instr), 0, y1))
theorem code_Parse.f_le (k : Nat) (a0 : api_Lattice) (a1 : Str) : LeO (code_Parse.f_g k a0 a1) (code_Parse.f a0 a1) := by
  unfold code_Parse.f_g code_Parse.f
  exact (leB (lattice_Check.f_le k _) (fun y1 => (leI (leB (lex_Lex.f_le k _) (fun y3 => (leI (leB (code_From.f_le k _ _ _) (fun y5 => (leI (leB leR (fun y7 => (leI leR (leB leR (fun y9 => leR))))) (leB leR (fun y10 => leR))))) leR))) leR)))
def reticentlaw08_alive.f_g (k : Nat) : Option Bool := (code_Parse.f_g k) (⟨([([97] : Str), ([98] : Str)] : List Str), ([3, 2] : List Int)⟩ : api_Lattice) ([112, 117, 115, 104, 32, 45, 32, 51, 32, 64, 32, 98, 32, 59, 32, 104, 97, 108, 116, 32, 59] : Str) >>= fun y1 => ((if y1.2.2 = 0 then (if (y1.1.length : Int) = 2 then (lAt y1.1 0 >>= fun y10 => if y10 = (⟨1, (-3), 1⟩ : api_Instr) then ((code_Right.f_g k) (⟨([([97] : Str), ([98] : Str)] : List Str), ([3, 2] : List Int)⟩ : api_Lattice) y1.1 >>= fun y12 => some y12) else (some false)) else (some false)) else (some false) : Option Bool) >>= fun x7 => some x7)
theorem reticentlaw08_alive.f_le (k : Nat) : LeO (reticentlaw08_alive.f_g k ) (reticentlaw08_alive.f ) := by
  unfold reticentlaw08_alive.f_g reticentlaw08_alive.f
  exact (leB (code_Parse.f_le k _ _) (fun y1 => (leB (leI (leI (leB leR (fun y10 => (leI (leB (code_Right.f_le k _ _) (fun y12 => leR)) leR))) leR) leR) (fun x7 => leR))))
end Go.Proofs.YtkmobcaobmchpaaDoor.CK
