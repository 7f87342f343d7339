import Derived.Test.YthpmbokenhpakaaAb23
set_option linter.unusedVariables false
namespace Go.Proofs.Ythpmbokenhpakaa.LE
open Go Go.Proofs.Ythpmbokenhpakaa.Ab

structure api_Lattice where
  Names : List Str
  Up : List Int
inductive If113 where
  | nil
  | c110 (x : Bool)
  | c119 (x : Int)
def vIf113 : If113 → Option (TypeId × Sig)
  | .nil => none
  | .c110 x => some (110, kB.sig x)
  | .c119 x => some (119, (kI .i64).sig x)
def as113_110 : If113 → Bool × Bool
  | .c110 x => (x, true)
  | _ => (false, false)
theorem asOk113_110 : AsOk vIf113 110 kB false as113_110 := fun x => by
  cases x <;> simp [vIf113, as113_110]
def as113_119 : If113 → Int × Bool
  | .c119 x => (x, true)
  | _ => (0, false)
theorem asOk113_119 : AsOk vIf113 119 (kI .i64) 0 as113_119 := fun x => by
  cases x <;> simp [vIf113, as113_119]
structure judge_judge where
  l_ : api_Lattice
  labels_ : List Int
  pile_ : List If113
structure reticentref07_V where
  Is : Bool
  A : Int
  From : Int
def ks0 : Str := [0, 1, 1, 2, 1, 2, 2, 3, 1, 2, 2, 3, 2, 3, 3, 4, 1, 2, 2, 3, 2, 3, 3, 4, 2, 3, 3, 4, 3, 4, 4, 5, 1, 2, 2, 3, 2, 3, 3, 4, 2, 3, 3, 4, 3, 4, 4, 5, 2, 3, 3, 4, 3, 4, 4, 5, 3, 4, 4, 5, 4, 5, 5, 6, 1, 2, 2, 3, 2, 3, 3, 4, 2, 3, 3, 4, 3, 4, 4, 5, 2, 3, 3, 4, 3, 4, 4, 5, 3, 4, 4, 5, 4, 5, 5, 6, 2, 3, 3, 4, 3, 4, 4, 5, 3, 4, 4, 5, 4, 5, 5, 6, 3, 4, 4, 5, 4, 5, 5, 6, 4, 5, 5, 6, 5, 6, 6, 7, 1, 2, 2, 3, 2, 3, 3, 4, 2, 3, 3, 4, 3, 4, 4, 5, 2, 3, 3, 4, 3, 4, 4, 5, 3, 4, 4, 5, 4, 5, 5, 6, 2, 3, 3, 4, 3, 4, 4, 5, 3, 4, 4, 5, 4, 5, 5, 6, 3, 4, 4, 5, 4, 5, 5, 6, 4, 5, 5, 6, 5, 6, 6, 7, 2, 3, 3, 4, 3, 4, 4, 5, 3, 4, 4, 5, 4, 5, 5, 6, 3, 4, 4, 5, 4, 5, 5, 6, 4, 5, 5, 6, 5, 6, 6, 7, 3, 4, 4, 5, 4, 5, 5, 6, 4, 5, 5, 6, 5, 6, 6, 7, 4, 5, 5, 6, 5, 6, 6, 7, 5, 6, 6, 7, 6, 7, 7, 8]
def f_api_Lattice : List (Fld api_Lattice) := [⟨(kL kS), api_Lattice.Names⟩, ⟨(kL (kI .u32)), api_Lattice.Up⟩]
def f_judge_judge : List (Fld judge_judge) := [⟨(kR f_api_Lattice), judge_judge.l_⟩, ⟨(kL (kI .i64)), judge_judge.labels_⟩, ⟨(kL (kF vIf113)), judge_judge.pile_⟩]
def f_reticentref07_V : List (Fld reticentref07_V) := [⟨kB, reticentref07_V.Is⟩, ⟨(kI .i64), reticentref07_V.A⟩, ⟨(kI .i64), reticentref07_V.From⟩]
def f_api_Lattice_n0 : List (Fld api_Lattice) := [⟨(kN Str), api_Lattice.Names⟩, ⟨(kL (kI .u32)), api_Lattice.Up⟩]
def f_judge_judge_n2 : List (Fld judge_judge) := [⟨(kR f_api_Lattice), judge_judge.l_⟩, ⟨(kL (kI .i64)), judge_judge.labels_⟩, ⟨(kN If113), judge_judge.pile_⟩]
def reticentlaw07_few.l0 (a0 : api_Lattice) (v11 : List Str) (v12 : Int) : Option (List Str) :=
  if v12 < ((lCut a0.Names 0 (if 10 < (a0.Names.length : Int) then 10 else (a0.Names.length : Int))).length : Int) then (lAt (lCut a0.Names 0 (if 10 < (a0.Names.length : Int) then 10 else (a0.Names.length : Int))) v12 >>= fun y15 => if (0 : Int) ≤ (if 15 < (y15.length : Int) then 15 else (y15.length : Int)) ∧ (if 15 < (y15.length : Int) then 15 else (y15.length : Int)) ≤ (y15.length : Int) then (if (v11.length + ([sCut y15 0 (if 15 < (y15.length : Int) then 15 else (y15.length : Int))] : List Str).length) * 16 ≤ big then (reticentlaw07_few.l0 a0 (v11 ++ ([sCut y15 0 (if 15 < (y15.length : Int) then 15 else (y15.length : Int))] : List Str)) (IntKind.i64.wrap (v12 + 1))) else none) else none) else (some v11)
partial_fixpoint
def reticentlaw07_few.f (a0 : api_Lattice) : Option api_Lattice :=
  if (0 : Int) ≤ (if 10 < (a0.Up.length : Int) then 10 else (a0.Up.length : Int)) ∧ (if 10 < (a0.Up.length : Int) then 10 else (a0.Up.length : Int)) ≤ (a0.Up.length : Int) then (if (0 : Int) ≤ (if 10 < (a0.Names.length : Int) then 10 else (a0.Names.length : Int)) ∧ (if 10 < (a0.Names.length : Int) then 10 else (a0.Names.length : Int)) ≤ (a0.Names.length : Int) then ((reticentlaw07_few.l0 a0 ([] : List Str) 0 >>= fun x13 => some (⟨(⟨x13, (⟨[], lCut a0.Up 0 (if 10 < (a0.Up.length : Int) then 10 else (a0.Up.length : Int))⟩ : api_Lattice).Up⟩ : api_Lattice).Names, (⟨x13, (⟨[], lCut a0.Up 0 (if 10 < (a0.Up.length : Int) then 10 else (a0.Up.length : Int))⟩ : api_Lattice).Up⟩ : api_Lattice).Up⟩ : api_Lattice))) else none) else none
def lattice_name.l0 (a0 : Str) (v19 : Int) : Option (Bool ⊕ Unit) :=
  if v19 < (a0.length : Int) then (((if (0 : Int) ≤ v19 ∧ v19 < (a0.length : Int) then (if sAt a0 v19 < 97 then (some true) else (if (0 : Int) ≤ v19 ∧ v19 < (a0.length : Int) then (some (decide (sAt a0 v19 > 122))) else none)) else none : Option Bool) >>= fun x24 => if x24 = true then (some (.inl false)) else (lattice_name.l0 a0 (IntKind.i64.wrap (v19 + 1))))) else (some (.inr ()))
partial_fixpoint
def lattice_name.f (a0 : Str) : Option Bool :=
  (lattice_name.l0 a0 0 >>= fun o => match o with | .inl r => some r | .inr () => ((if a0 = ([] : Str) then (some false) else (some (decide ((a0.length : Int) ≤ 12))) : Option Bool) >>= fun x30 => some x30))
def slices_Index_string_string.l0 (a0 : List Str) (a1 : Str) (v7 : Int) : Option (Int ⊕ Unit) :=
  if v7 < (a0.length : Int) then (lAt a0 v7 >>= fun y9 => if a1 = y9 then (some (.inl v7)) else (slices_Index_string_string.l0 a0 a1 (IntKind.i64.wrap (v7 + 1)))) else (some (.inr ()))
partial_fixpoint
def slices_Index_string_string.f (a0 : List Str) (a1 : Str) : Option Int :=
  (slices_Index_string_string.l0 a0 a1 0 >>= fun o => match o with | .inl r => some r | .inr () => some (-1))
def slices_Contains_string_string.f (a0 : List Str) (a1 : Str) : Option Bool :=
  slices_Index_string_string.f a0 a1 >>= fun y1 => some (decide (y1 ≥ 0))
def lattice_may.l0 (a0 : api_Lattice) (v43 : Int) : Option (Bool ⊕ Unit) :=
  if v43 < (a0.Names.length : Int) then (lAt a0.Names v43 >>= fun y45 => ((lattice_name.f y45 >>= fun y54 => if (!y54) = true then (some true) else (if (0 : Int) ≤ v43 ∧ v43 ≤ (a0.Names.length : Int) then (slices_Contains_string_string.f (lCut a0.Names 0 v43) y45 >>= fun y57 => if y57 = true then (some true) else (lAt a0.Up v43 >>= fun y59 => if ¬ (a0.Up.length : Int) < 0 then (some (!decide (bShr .u32 y59 (a0.Up.length : Int) = 0))) else none)) else none) : Option Bool) >>= fun x53 => if x53 = true then (some (.inl false)) else (lattice_may.l0 a0 (IntKind.i64.wrap (v43 + 1))))) else (some (.inr ()))
partial_fixpoint
def lattice_may.f (a0 : api_Lattice) : Option Bool :=
  ((if (a0.Up.length : Int) < 1 then (some true) else (if (a0.Up.length : Int) > 8 then (some true) else (some (!decide ((a0.Names.length : Int) = (a0.Up.length : Int))))) : Option Bool) >>= fun x3 => if x3 = true then (some false) else ((lattice_may.l0 a0 0 >>= fun o => match o with | .inl r => some r | .inr () => some true)))
def lattice_pairs_1.l3 {σ : Type} (a_y : σ → Int → Int → Option (Bool × σ)) (a1 : Int) (v28 : Int) (v37 : σ) (v38 : Int) : Option (σ ⊕ σ) :=
  if v38 < a1 then (a_y v37 v28 v38 >>= fun y41 => if (!y41.1) = true then (some (.inl y41.2)) else (lattice_pairs_1.l3 a_y a1 v28 y41.2 (IntKind.i64.wrap (v38 + 1)))) else (some (.inr v37))
partial_fixpoint
def lattice_pairs_1.l2 {σ : Type} (a_y : σ → Int → Int → Option (Bool × σ)) (a1 : Int) (v27 : σ) (v28 : Int) : Option (σ ⊕ σ) :=
  if v28 < a1 then ((lattice_pairs_1.l3 a_y a1 v28 v27 0 >>= fun o => match o with | .inl r => some (.inl r) | .inr x39 => lattice_pairs_1.l2 a_y a1 x39 (IntKind.i64.wrap (v28 + 1)))) else (some (.inr v27))
partial_fixpoint
def lattice_pairs_1.f {σ : Type} (a_y : σ → Int → Int → Option (Bool × σ)) (a_s : σ) (a1 : Int) : Option σ :=
  (lattice_pairs_1.l2 a_y a1 a_s 0 >>= fun o => match o with | .inl r => some r | .inr x29 => some x29)
def lattice_pairs.f (a0 : Int) : Option Int :=
  some a0
def lattice_flows.f (a0 : api_Lattice) (a1 : Int) (a2 : Int) : Option Bool :=
  lAt a0.Up a1 >>= fun y1 => if ¬ a2 < 0 then (some (decide (bAnd .u32 (bShr .u32 y1 a2) 1 = 1))) else none
def lattice_order.y0 (a0 : api_Lattice) (v26 : Unit) (v27 : Int) (v28 : Int) : Option (Bool × ((Unit) × Nat)) :=
  ((if v27 = v28 then (lattice_flows.f a0 v27 v28 >>= fun y37 => if (!y37) = true then (some true) else (some false)) else (lattice_flows.f a0 v27 v28 >>= fun y39 => if y39 = true then (lattice_flows.f a0 v28 v27 >>= fun y41 => some y41) else (some false)) : Option Bool) >>= fun x35 => if x35 = true then (some (false, ((), 1))) else (((lattice_flows.f a0 v27 v28 >>= fun y48 => if y48 = true then (lAt a0.Up v28 >>= fun y50 => lAt a0.Up v27 >>= fun y51 => some (!decide (bAndNot .u32 y50 y51 = 0))) else (some false) : Option Bool) >>= fun x47 => if x47 = true then (some (false, ((), 1))) else (some (true, ((), 0))))))
def lattice_order.f (a0 : api_Lattice) : Option Bool :=
  lattice_pairs.f (a0.Up.length : Int) >>= fun y1 => (lattice_pairs_1.f (yOf (lattice_order.y0 a0)) ((), 0) y1 >>= fun y53 => if y53.2 = 0 then (some true) else if y53.2 = 1 then (some false) else none)
def slices_IndexFunc_uint32_uint32.l0 (a0 : List Int) (a1 : Int → Option Bool) (v9 : Int) : Option (Int ⊕ Unit) :=
  if v9 < (a0.length : Int) then (lAt a0 v9 >>= fun y11 => a1 y11 >>= fun y12 => if y12 = true then (some (.inl v9)) else (slices_IndexFunc_uint32_uint32.l0 a0 a1 (IntKind.i64.wrap (v9 + 1)))) else (some (.inr ()))
partial_fixpoint
def slices_IndexFunc_uint32_uint32.f (a0 : List Int) (a1 : Int → Option Bool) : Option Int :=
  (slices_IndexFunc_uint32_uint32.l0 a0 a1 0 >>= fun o => match o with | .inl r => some r | .inr () => some (-1))
def lattice_join_1.f (a0 : Int) (a1 : Int) : Option Bool :=
  some (decide (a0 = a1))
def lattice_join.f (a0 : api_Lattice) (a1 : Int) (a2 : Int) : Option Int :=
  lAt a0.Up a1 >>= fun y1 => lAt a0.Up a2 >>= fun y2 => slices_IndexFunc_uint32_uint32.f a0.Up (fun z0 => lattice_join_1.f z0 (bAnd .u32 y1 y2)) >>= fun y3 => some y3
def lattice_down.l0 (a0 : api_Lattice) (a1 : Int) (v8 : Int) (v9 : Int) : Option Int :=
  if v8 < (a0.Up.length : Int) then (lAt a0.Up v8 >>= fun y12 => if ¬ a1 < 0 then (if ¬ v8 < 0 then (lattice_down.l0 a0 a1 (IntKind.i64.wrap (v8 + 1)) (bOr .u32 v9 (bShl .u32 (bAnd .u32 (bShr .u32 y12 a1) 1) v8))) else none) else none) else (some v9)
partial_fixpoint
def lattice_down.f (a0 : api_Lattice) (a1 : Int) : Option Int :=
  (lattice_down.l0 a0 a1 0 0 >>= fun x10 => some x10)
def lattice_meet.l0 (a0 : api_Lattice) (y1 : Int) (y2 : Int) (v9 : Int) : Option (Int ⊕ Unit) :=
  if v9 < (a0.Up.length : Int) then (lattice_down.f a0 v9 >>= fun y11 => if y11 = bAnd .u32 y1 y2 then (some (.inl v9)) else (lattice_meet.l0 a0 y1 y2 (IntKind.i64.wrap (v9 + 1)))) else (some (.inr ()))
partial_fixpoint
def lattice_meet.f (a0 : api_Lattice) (a1 : Int) (a2 : Int) : Option Int :=
  lattice_down.f a0 a1 >>= fun y1 => lattice_down.f a0 a2 >>= fun y2 => (lattice_meet.l0 a0 y1 y2 0 >>= fun o => match o with | .inl r => some r | .inr () => some (-1))
def lattice_Check.y0 (a0 : api_Lattice) (v22 : Int) (v23 : Int) (v24 : Int) : Option (Bool × ((Int) × Nat)) :=
  ((lattice_join.f a0 v23 v24 >>= fun y29 => if y29 < 0 then (some true) else (lattice_meet.f a0 v23 v24 >>= fun y31 => some (decide (y31 < 0))) : Option Bool) >>= fun x28 => if x28 = true then (some (false, (3, 1))) else (some (true, (v22, 0))))
def lattice_Check.f (a0 : api_Lattice) : Option Int :=
  lattice_may.f a0 >>= fun y1 => if (!y1) = true then (some 1) else (lattice_order.f a0 >>= fun y3 => if (!y3) = true then (some 2) else (lattice_pairs.f (a0.Up.length : Int) >>= fun y5 => (lattice_pairs_1.f (yOf (lattice_Check.y0 a0)) (0, 0) y5 >>= fun y33 => if y33.2 = 0 then (some 0) else if y33.2 = 1 then (some y33.1) else none)))
def rule_made_1.f (a0 : Bool) (a1 : List Bool) : Option ((List Bool) × Bool) :=
  ((if IntKind.i64.wrap ((a1.length : Int) - 1) < 1 then (some true) else (lAt a1 (IntKind.i64.wrap ((a1.length : Int) - 1)) >>= fun y7 => if y7 = a0 then (lAt a1 (IntKind.i64.wrap ((IntKind.i64.wrap ((a1.length : Int) - 1)) - 1)) >>= fun y9 => some (!decide (y9 = a0))) else (some true)) : Option Bool) >>= fun x5 => if x5 = true then (some (a1, false)) else (if (0 : Int) ≤ IntKind.i64.wrap ((IntKind.i64.wrap ((a1.length : Int) - 1)) - 1) ∧ IntKind.i64.wrap ((IntKind.i64.wrap ((a1.length : Int) - 1)) - 1) ≤ (a1.length : Int) then (some (a1.take (IntKind.i64.wrap ((IntKind.i64.wrap ((a1.length : Int) - 1)) - 1)).toNat, true)) else none))
def rule_made.l0 (a0 : List Int) (v269 : List Bool) (v270 : Int) : Option ((Bool × Bool) ⊕ (List Bool)) :=
  if v270 < (a0.length : Int) then (((lAt a0 v270 >>= fun y340 => ((if y340 = 1 then (if (v269.length + ([false] : List Bool).length) * 1 ≤ big then (some (v269 ++ ([false] : List Bool), true)) else none) else (if y340 = 2 then (if (v269.length + ([false] : List Bool).length) * 1 ≤ big then (some (v269 ++ ([false] : List Bool), true)) else none) else (if y340 = 6 then (if (v269.length + ([true] : List Bool).length) * 1 ≤ big then (some (v269 ++ ([true] : List Bool), true)) else none) else (if y340 = 7 then (if (v269.length + ([true] : List Bool).length) * 1 ≤ big then (some (v269 ++ ([true] : List Bool), true)) else none) else (if y340 = 8 then (if (v269.length + ([true] : List Bool).length) * 1 ≤ big then (some (v269 ++ ([true] : List Bool), true)) else none) else (if y340 = 9 then (if (v269.length + ([true] : List Bool).length) * 1 ≤ big then (some (v269 ++ ([true] : List Bool), true)) else none) else (if y340 = 10 then (if (v269.length + ([true] : List Bool).length) * 1 ≤ big then (some (v269 ++ ([true] : List Bool), true)) else none) else (if y340 = 11 then (if (v269.length + ([true] : List Bool).length) * 1 ≤ big then (some (v269 ++ ([true] : List Bool), true)) else none) else (if y340 = 3 then (rule_made_1.f false v269 >>= fun y391 => if (y391.1.length + ([false] : List Bool).length) * 1 ≤ big then (some (y391.1 ++ ([false] : List Bool), y391.2)) else none) else (if y340 = 4 then (rule_made_1.f false v269 >>= fun y394 => if (y394.1.length + ([false] : List Bool).length) * 1 ≤ big then (some (y394.1 ++ ([false] : List Bool), y394.2)) else none) else (if y340 = 5 then (rule_made_1.f true v269 >>= fun y397 => if (y397.1.length + ([false] : List Bool).length) * 1 ≤ big then (some (y397.1 ++ ([false] : List Bool), y397.2)) else none) else (if y340 = 12 then (rule_made_1.f true v269 >>= fun y400 => if (y400.1.length + ([true] : List Bool).length) * 1 ≤ big then (some (y400.1 ++ ([true] : List Bool), y400.2)) else none) else (if y340 = 13 then (rule_made_1.f true v269 >>= fun y403 => if (y403.1.length + ([true] : List Bool).length) * 1 ≤ big then (some (y403.1 ++ ([true] : List Bool), y403.2)) else none) else (some (v269, false)))))))))))))) : Option ((List Bool) × Bool)) >>= fun o => match o with | (x372, x373) => if (!x373) = true then (some (.inl (false, false))) else (some (.inr x372))) : Option ((Bool × Bool) ⊕ (List Bool))) >>= fun o => match o with | .inl r => some (.inl r) | .inr x339 => rule_made.l0 a0 x339 (IntKind.i64.wrap (v270 + 1)))) else (some (.inr v269))
partial_fixpoint
def rule_made.f (a0 : List Int) : Option (Bool × Bool) :=
  (rule_made.l0 a0 ([] : List Bool) 0 >>= fun o => match o with | .inl r => some r | .inr x271 => ((if (x271.length : Int) = 1 then (some (decide ((a0.length : Int) > 40))) else (some true) : Option Bool) >>= fun x407 => if x407 = true then (some (false, false)) else (lAt x271 0 >>= fun y410 => some (y410, true))))
def rule_Right.f (a0 : List Int) (a1 : Bool) : Option Bool :=
  rule_made.f a0 >>= fun y1 => ((if y1.2 = true then (some (decide (y1.1 = a1))) else (some false) : Option Bool) >>= fun x3 => some x3)
def slices_IndexFunc_int_int.l0 (a0 : List Int) (a1 : Int → Option Bool) (v9 : Int) : Option (Int ⊕ Unit) :=
  if v9 < (a0.length : Int) then (lAt a0 v9 >>= fun y11 => a1 y11 >>= fun y12 => if y12 = true then (some (.inl v9)) else (slices_IndexFunc_int_int.l0 a0 a1 (IntKind.i64.wrap (v9 + 1)))) else (some (.inr ()))
partial_fixpoint
def slices_IndexFunc_int_int.f (a0 : List Int) (a1 : Int → Option Bool) : Option Int :=
  (slices_IndexFunc_int_int.l0 a0 a1 0 >>= fun o => match o with | .inl r => some r | .inr () => some (-1))
def slices_ContainsFunc_int_int.f (a0 : List Int) (a1 : Int → Option Bool) : Option Bool :=
  slices_IndexFunc_int_int.f a0 a1 >>= fun y1 => some (decide (y1 ≥ 0))
def judge_may_1.f (a0 : Int) (a1 : api_Lattice) : Option Bool :=
  ((if a0 < 0 then (some true) else (some (decide (a0 ≥ (a1.Up.length : Int)))) : Option Bool) >>= fun x2 => some x2)
def judge_may.f (a0 : api_Lattice) (a1 : List Int) (a2 : List Int) (a3 : Bool) : Option Int :=
  lattice_Check.f a0 >>= fun y1 => if y1 = 0 then (rule_Right.f a1 a3 >>= fun y3 => if (!y3) = true then (some 1) else (((if (a2.length : Int) = 4 then (slices_ContainsFunc_int_int.f a2 (fun z0 => judge_may_1.f z0 a0) >>= fun y9 => some y9) else (some true) : Option Bool) >>= fun x7 => if x7 = true then (some 9) else (some 0)))) else (some y1)
def judge_judge_put.f (a0 : judge_judge) (a1 : If113) : Option judge_judge :=
  if (a0.pile_.length + ([a1] : List If113).length) * 16 ≤ big then (some (⟨a0.l_, a0.labels_, a0.pile_ ++ ([a1] : List If113)⟩ : judge_judge)) else none
def lattice_there_1.f (a0 : Int) (a1 : api_Lattice) : Option Bool :=
  ((if a0 < 0 then (some true) else (some (decide (a0 ≥ (a1.Up.length : Int)))) : Option Bool) >>= fun x2 => some x2)
def lattice_there.f (a0 : api_Lattice) (a1 : List Int) : Option Int :=
  lattice_Check.f a0 >>= fun y1 => if y1 = 0 then (slices_ContainsFunc_int_int.f a1 (fun z0 => lattice_there_1.f z0 a0) >>= fun y3 => if y3 = true then (some 9) else (some 0)) else (some y1)
def slices_Index_uint32_uint32.l0 (a0 : List Int) (a1 : Int) (v7 : Int) : Option (Int ⊕ Unit) :=
  if v7 < (a0.length : Int) then (lAt a0 v7 >>= fun y9 => if a1 = y9 then (some (.inl v7)) else (slices_Index_uint32_uint32.l0 a0 a1 (IntKind.i64.wrap (v7 + 1)))) else (some (.inr ()))
partial_fixpoint
def slices_Index_uint32_uint32.f (a0 : List Int) (a1 : Int) : Option Int :=
  (slices_Index_uint32_uint32.l0 a0 a1 0 >>= fun o => match o with | .inl r => some r | .inr () => some (-1))
def lattice_Bottom.f (a0 : api_Lattice) : Option (Int × Int) :=
  lattice_there.f a0 [] >>= fun y1 => if y1 = 0 then (if ¬ (a0.Up.length : Int) < 0 then (slices_Index_uint32_uint32.f a0.Up (IntKind.u32.wrap ((bShl .u32 1 (a0.Up.length : Int)) - 1)) >>= fun y4 => some (y4, 0)) else none) else (some (0, y1))
def bits_OnesCount32.f (a0 : Int) : Option Int :=
  if (0 : Int) ≤ bShr .u32 a0 24 ∧ bShr .u32 a0 24 < (ks0.length : Int) then (if (0 : Int) ≤ bAnd .u32 (bShr .u32 a0 16) 255 ∧ bAnd .u32 (bShr .u32 a0 16) 255 < (ks0.length : Int) then (if (0 : Int) ≤ bAnd .u32 (bShr .u32 a0 8) 255 ∧ bAnd .u32 (bShr .u32 a0 8) 255 < (ks0.length : Int) then (if (0 : Int) ≤ bAnd .u32 a0 255 ∧ bAnd .u32 a0 255 < (ks0.length : Int) then (some (IntKind.i64.wrap (IntKind.u8.wrap ((IntKind.u8.wrap ((IntKind.u8.wrap ((sAt ks0 (bShr .u32 a0 24)) + (sAt ks0 (bAnd .u32 (bShr .u32 a0 16) 255)))) + (sAt ks0 (bAnd .u32 (bShr .u32 a0 8) 255)))) + (sAt ks0 (bAnd .u32 a0 255)))))) else none) else none) else none) else none
def lattice_Top_1.f (a0 : Int) : Option Bool :=
  bits_OnesCount32.f a0 >>= fun y1 => some (decide (y1 = 1))
def lattice_Top.f (a0 : api_Lattice) : Option (Int × Int) :=
  lattice_there.f a0 [] >>= fun y1 => if y1 = 0 then (slices_IndexFunc_uint32_uint32.f a0.Up lattice_Top_1.f >>= fun y3 => some (y3, 0)) else (some (0, y1))
def judge_judge_two.f (a0 : judge_judge) : Option (judge_judge × If113 × If113) :=
  lAt a0.pile_ (IntKind.i64.wrap ((a0.pile_.length : Int) - 2)) >>= fun y1 => lAt a0.pile_ (IntKind.i64.wrap ((IntKind.i64.wrap ((a0.pile_.length : Int) - 2)) + 1)) >>= fun y2 => if (0 : Int) ≤ IntKind.i64.wrap ((a0.pile_.length : Int) - 2) ∧ IntKind.i64.wrap ((a0.pile_.length : Int) - 2) ≤ (a0.pile_.length : Int) then (some ((⟨a0.l_, a0.labels_, a0.pile_.take (IntKind.i64.wrap ((a0.pile_.length : Int) - 2)).toNat⟩ : judge_judge), y1, y2)) else none
def lattice_Flows.f (a0 : api_Lattice) (a1 : Int) (a2 : Int) : Option (Bool × Int) :=
  lattice_there.f a0 ([a1, a2] : List Int) >>= fun y1 => if y1 = 0 then (lattice_flows.f a0 a1 a2 >>= fun y3 => some (y3, 0)) else (some (false, y1))
def lattice_Join.f (a0 : api_Lattice) (a1 : Int) (a2 : Int) : Option (Int × Int) :=
  lattice_there.f a0 ([a1, a2] : List Int) >>= fun y1 => if y1 = 0 then (lattice_join.f a0 a1 a2 >>= fun y3 => some (y3, 0)) else (some (0, y1))
def lattice_Meet.f (a0 : api_Lattice) (a1 : Int) (a2 : Int) : Option (Int × Int) :=
  lattice_there.f a0 ([a1, a2] : List Int) >>= fun y1 => if y1 = 0 then (lattice_meet.f a0 a1 a2 >>= fun y3 => some (y3, 0)) else (some (0, y1))
def judge_judge_both.f (a0 : judge_judge) (a1 : Int) (a2 : If113) (a3 : If113) : Option (judge_judge × If113) :=
  if ((as113_110 a2).2) = true then (if a1 = 3 then (((if ((as113_110 a2).1) = true then (some (If113.c110 ((as113_110 a3).1))) else (some (If113.c110 false)) : Option If113) >>= fun x4 => some ((⟨a0.l_, a0.labels_, a0.pile_⟩ : judge_judge), x4))) else (((if ((as113_110 a2).1) = true then (some (If113.c110 true)) else (some (If113.c110 ((as113_110 a3).1))) : Option If113) >>= fun x7 => some ((⟨a0.l_, a0.labels_, a0.pile_⟩ : judge_judge), x7)))) else (if ((as113_119 a2).2) = true then (if a1 = 5 then (lattice_Flows.f a0.l_ ((as113_119 a2).1) ((as113_119 a3).1) >>= fun y11 => some ((⟨a0.l_, a0.labels_, a0.pile_⟩ : judge_judge), If113.c110 y11.1)) else (if a1 = 12 then (lattice_Join.f a0.l_ ((as113_119 a2).1) ((as113_119 a3).1) >>= fun y13 => some ((⟨a0.l_, a0.labels_, a0.pile_⟩ : judge_judge), If113.c119 y13.1)) else (lattice_Meet.f a0.l_ ((as113_119 a2).1) ((as113_119 a3).1) >>= fun y14 => some ((⟨a0.l_, a0.labels_, a0.pile_⟩ : judge_judge), If113.c119 y14.1)))) else (some ((⟨a0.l_, a0.labels_, a0.pile_⟩ : judge_judge), a2)))
def judge_judge_comes.l0 (a1 : List Int) (v225 : api_Lattice) (v226 : List Int) (v227 : List If113) (v228 : Int) : Option (api_Lattice × (List Int) × (List If113)) :=
  if v228 < (a1.length : Int) then (((lAt a1 v228 >>= fun y290 => ((if y290 = 1 then (judge_judge_put.f (⟨v225, v226, v227⟩ : judge_judge) (If113.c110 (decide (y290 = 1))) >>= fun y320 => some (y320.l_, y320.labels_, y320.pile_)) else (if y290 = 2 then (judge_judge_put.f (⟨v225, v226, v227⟩ : judge_judge) (If113.c110 (decide (y290 = 1))) >>= fun y322 => some (y322.l_, y322.labels_, y322.pile_)) else (if y290 = 6 then (lattice_Bottom.f v225 >>= fun y324 => judge_judge_put.f (⟨v225, v226, v227⟩ : judge_judge) (If113.c119 y324.1) >>= fun y325 => some (y325.l_, y325.labels_, y325.pile_)) else (if y290 = 7 then (lattice_Top.f v225 >>= fun y327 => judge_judge_put.f (⟨v225, v226, v227⟩ : judge_judge) (If113.c119 y327.1) >>= fun y328 => some (y328.l_, y328.labels_, y328.pile_)) else (if y290 = 8 then (lAt v226 (IntKind.i64.wrap (y290 - 8)) >>= fun y330 => judge_judge_put.f (⟨v225, v226, v227⟩ : judge_judge) (If113.c119 y330) >>= fun y331 => some (y331.l_, y331.labels_, y331.pile_)) else (if y290 = 9 then (lAt v226 (IntKind.i64.wrap (y290 - 8)) >>= fun y333 => judge_judge_put.f (⟨v225, v226, v227⟩ : judge_judge) (If113.c119 y333) >>= fun y334 => some (y334.l_, y334.labels_, y334.pile_)) else (if y290 = 10 then (lAt v226 (IntKind.i64.wrap (y290 - 8)) >>= fun y336 => judge_judge_put.f (⟨v225, v226, v227⟩ : judge_judge) (If113.c119 y336) >>= fun y337 => some (y337.l_, y337.labels_, y337.pile_)) else (if y290 = 11 then (lAt v226 (IntKind.i64.wrap (y290 - 8)) >>= fun y339 => judge_judge_put.f (⟨v225, v226, v227⟩ : judge_judge) (If113.c119 y339) >>= fun y340 => some (y340.l_, y340.labels_, y340.pile_)) else (judge_judge_two.f (⟨v225, v226, v227⟩ : judge_judge) >>= fun y341 => judge_judge_both.f (⟨y341.1.l_, y341.1.labels_, y341.1.pile_⟩ : judge_judge) y290 y341.2.1 y341.2.2 >>= fun y342 => judge_judge_put.f (⟨y342.1.l_, y342.1.labels_, y342.1.pile_⟩ : judge_judge) y342.2 >>= fun y343 => some (y343.l_, y343.labels_, y343.pile_))))))))) : Option (api_Lattice × (List Int) × (List If113))) >>= fun o => match o with | (x316, x317, x318) => some (x316, x317, x318)) : Option (api_Lattice × (List Int) × (List If113))) >>= fun o => match o with | (x287, x288, x289) => judge_judge_comes.l0 a1 x287 x288 x289 (IntKind.i64.wrap (v228 + 1)))) else (some (v225, v226, v227))
partial_fixpoint
def judge_judge_comes.f (a0 : judge_judge) (a1 : List Int) : Option (judge_judge × If113) :=
  (judge_judge_comes.l0 a1 a0.l_ a0.labels_ a0.pile_ 0 >>= fun o => match o with | (x229, x230, x231) => lAt x231 0 >>= fun y344 => some ((⟨x229, x230, x231⟩ : judge_judge), y344))
def judge_Cond.f (a0 : api_Lattice) (a1 : List Int) (a2 : List Int) : Option (Bool × Int) :=
  judge_may.f a0 a1 a2 false >>= fun y1 => if y1 = 0 then (judge_judge_comes.f (⟨(⟨a0, a2, []⟩ : judge_judge).l_, (⟨a0, a2, []⟩ : judge_judge).labels_, ([] : List If113)⟩ : judge_judge) a1 >>= fun y3 => some ((as113_110 y3.2).1, 0)) else (some (false, y1))
def judge_Label.f (a0 : api_Lattice) (a1 : List Int) (a2 : List Int) : Option (Int × Int) :=
  judge_may.f a0 a1 a2 true >>= fun y1 => if y1 = 0 then (judge_judge_comes.f (⟨(⟨a0, a2, []⟩ : judge_judge).l_, (⟨a0, a2, []⟩ : judge_judge).labels_, ([] : List If113)⟩ : judge_judge) a1 >>= fun y3 => some ((as113_119 y3.2).1, 0)) else (some (0, y1))
def reticentref01_Name.l0 (a0 : Str) (v19 : Int) : Option (Bool ⊕ Unit) :=
  if v19 < (a0.length : Int) then (((if (0 : Int) ≤ v19 ∧ v19 < (a0.length : Int) then (if sAt a0 v19 < 97 then (some true) else (if (0 : Int) ≤ v19 ∧ v19 < (a0.length : Int) then (some (decide (sAt a0 v19 > 122))) else none)) else none : Option Bool) >>= fun x24 => if x24 = true then (some (.inl false)) else (reticentref01_Name.l0 a0 (IntKind.i64.wrap (v19 + 1))))) else (some (.inr ()))
partial_fixpoint
def reticentref01_Name.f (a0 : Str) : Option Bool :=
  (reticentref01_Name.l0 a0 0 >>= fun o => match o with | .inl r => some r | .inr () => ((if (a0.length : Int) > 0 then (some (decide ((a0.length : Int) ≤ 12))) else (some false) : Option Bool) >>= fun x30 => some x30))
def reticentref01_high.l0 (a1 : Int) (v3 : Int) (v4 : Int) : Option Int :=
  if v4 < a1 then (reticentref01_high.l0 a1 (IntKind.u32.wrap (v3.tdiv 2)) (IntKind.i64.wrap (v4 + 1))) else (some v3)
partial_fixpoint
def reticentref01_high.f (a0 : Int) (a1 : Int) : Option Bool :=
  (reticentref01_high.l0 a1 a0 0 >>= fun x5 => some (decide (x5 > 0)))
def reticentref01_may.l3 (a0 : api_Lattice) (v53 : Int) (y55 : Str) (v73 : Int) : Option (Bool ⊕ Unit) :=
  if v73 < ((lCut a0.Names 0 v53).length : Int) then (lAt (lCut a0.Names 0 v53) v73 >>= fun y75 => if y75 = y55 then (some (.inl false)) else (reticentref01_may.l3 a0 v53 y55 (IntKind.i64.wrap (v73 + 1)))) else (some (.inr ()))
partial_fixpoint
def reticentref01_may.l2 (a0 : api_Lattice) (v53 : Int) : Option (Bool ⊕ Unit) :=
  if v53 < (a0.Names.length : Int) then (lAt a0.Names v53 >>= fun y55 => ((reticentref01_Name.f y55 >>= fun y61 => if (!y61) = true then (some true) else (lAt a0.Up v53 >>= fun y63 => reticentref01_high.f y63 (a0.Up.length : Int) >>= fun y64 => some y64) : Option Bool) >>= fun x60 => if x60 = true then (some (.inl false)) else (if (0 : Int) ≤ v53 ∧ v53 ≤ (a0.Names.length : Int) then ((reticentref01_may.l3 a0 v53 y55 0 >>= fun o => match o with | .inl r => some (.inl r) | .inr () => reticentref01_may.l2 a0 (IntKind.i64.wrap (v53 + 1)))) else none))) else (some (.inr ()))
partial_fixpoint
def reticentref01_may.f (a0 : api_Lattice) : Option Bool :=
  ((if (a0.Up.length : Int) < 1 then (some true) else (if (a0.Up.length : Int) > 8 then (some true) else (some (!decide ((a0.Names.length : Int) = (a0.Up.length : Int))))) : Option Bool) >>= fun x3 => if x3 = true then (some false) else ((reticentref01_may.l2 a0 0 >>= fun o => match o with | .inl r => some r | .inr () => some true)))
def reticentref01_Flows.l0 (a2 : Int) (v4 : Int) (v5 : Int) : Option Int :=
  if v5 < a2 then (reticentref01_Flows.l0 a2 (IntKind.u32.wrap (v4.tdiv 2)) (IntKind.i64.wrap (v5 + 1))) else (some v4)
partial_fixpoint
def reticentref01_Flows.f (a0 : api_Lattice) (a1 : Int) (a2 : Int) : Option Bool :=
  lAt a0.Up a1 >>= fun y1 => (reticentref01_Flows.l0 a2 y1 0 >>= fun x6 => some (decide (x6.tmod 2 = 1)))
def reticentref01_order.l12 (a0 : api_Lattice) (v315 : Int) (v421 : Int) (v459 : Int) : Option (Bool ⊕ Unit) :=
  if v459 < (a0.Up.length : Int) then (((reticentref01_Flows.f a0 v315 v421 >>= fun y467 => if y467 = true then (reticentref01_Flows.f a0 v421 v459 >>= fun y469 => if y469 = true then (reticentref01_Flows.f a0 v315 v459 >>= fun y471 => some (!y471)) else (some false)) else (some false) : Option Bool) >>= fun x466 => if x466 = true then (some (.inl false)) else (reticentref01_order.l12 a0 v315 v421 (IntKind.i64.wrap (v459 + 1))))) else (some (.inr ()))
partial_fixpoint
def reticentref01_order.l11 (a0 : api_Lattice) (v315 : Int) (v421 : Int) : Option (Bool ⊕ Unit) :=
  if v421 < (a0.Up.length : Int) then (((if v315 = v421 then (some false) else (reticentref01_Flows.f a0 v315 v421 >>= fun y429 => if y429 = true then (reticentref01_Flows.f a0 v421 v315 >>= fun y431 => some y431) else (some false)) : Option Bool) >>= fun x427 => if x427 = true then (some (.inl false)) else ((reticentref01_order.l12 a0 v315 v421 0 >>= fun o => match o with | .inl r => some (.inl r) | .inr () => reticentref01_order.l11 a0 v315 (IntKind.i64.wrap (v421 + 1)))))) else (some (.inr ()))
partial_fixpoint
def reticentref01_order.l8 (a0 : api_Lattice) (v315 : Int) : Option (Bool ⊕ Unit) :=
  if v315 < (a0.Up.length : Int) then (reticentref01_Flows.f a0 v315 v315 >>= fun y317 => if (!y317) = true then (some (.inl false)) else ((reticentref01_order.l11 a0 v315 0 >>= fun o => match o with | .inl r => some (.inl r) | .inr () => reticentref01_order.l8 a0 (IntKind.i64.wrap (v315 + 1))))) else (some (.inr ()))
partial_fixpoint
def reticentref01_order.f (a0 : api_Lattice) : Option Bool :=
  (reticentref01_order.l8 a0 0 >>= fun o => match o with | .inl r => some r | .inr () => some true)
def reticentref01_Join.l3 (a0 : api_Lattice) (a1 : Int) (a2 : Int) (v181 : Int) (v242 : Int) (v243 : Bool) : Option Bool :=
  if v242 < (a0.Up.length : Int) then (((((reticentref01_Flows.f a0 a1 v242 >>= fun y265 => if y265 = true then (reticentref01_Flows.f a0 a2 v242 >>= fun y267 => if y267 = true then (reticentref01_Flows.f a0 v181 v242 >>= fun y269 => some (!y269)) else (some false)) else (some false) : Option Bool) >>= fun x264 => if x264 = true then (some false) else (some v243)) : Option Bool) >>= fun x258 => reticentref01_Join.l3 a0 a1 a2 v181 (IntKind.i64.wrap (v242 + 1)) x258)) else (some v243)
partial_fixpoint
def reticentref01_Join.l2 (a0 : api_Lattice) (a1 : Int) (a2 : Int) (v181 : Int) : Option (Int ⊕ Unit) :=
  if v181 < (a0.Up.length : Int) then (((reticentref01_Flows.f a0 a1 v181 >>= fun y187 => if y187 = true then (reticentref01_Flows.f a0 a2 v181 >>= fun y189 => some y189) else (some false) : Option Bool) >>= fun x186 => (reticentref01_Join.l3 a0 a1 a2 v181 0 x186 >>= fun x244 => if x244 = true then (some (.inl v181)) else (reticentref01_Join.l2 a0 a1 a2 (IntKind.i64.wrap (v181 + 1)))))) else (some (.inr ()))
partial_fixpoint
def reticentref01_Join.f (a0 : api_Lattice) (a1 : Int) (a2 : Int) : Option Int :=
  (reticentref01_Join.l2 a0 a1 a2 0 >>= fun o => match o with | .inl r => some r | .inr () => some (-1))
def reticentref01_Meet.l3 (a0 : api_Lattice) (a1 : Int) (a2 : Int) (v181 : Int) (v242 : Int) (v243 : Bool) : Option Bool :=
  if v242 < (a0.Up.length : Int) then (((((reticentref01_Flows.f a0 v242 a1 >>= fun y265 => if y265 = true then (reticentref01_Flows.f a0 v242 a2 >>= fun y267 => if y267 = true then (reticentref01_Flows.f a0 v242 v181 >>= fun y269 => some (!y269)) else (some false)) else (some false) : Option Bool) >>= fun x264 => if x264 = true then (some false) else (some v243)) : Option Bool) >>= fun x258 => reticentref01_Meet.l3 a0 a1 a2 v181 (IntKind.i64.wrap (v242 + 1)) x258)) else (some v243)
partial_fixpoint
def reticentref01_Meet.l2 (a0 : api_Lattice) (a1 : Int) (a2 : Int) (v181 : Int) : Option (Int ⊕ Unit) :=
  if v181 < (a0.Up.length : Int) then (((reticentref01_Flows.f a0 v181 a1 >>= fun y187 => if y187 = true then (reticentref01_Flows.f a0 v181 a2 >>= fun y189 => some y189) else (some false) : Option Bool) >>= fun x186 => (reticentref01_Meet.l3 a0 a1 a2 v181 0 x186 >>= fun x244 => if x244 = true then (some (.inl v181)) else (reticentref01_Meet.l2 a0 a1 a2 (IntKind.i64.wrap (v181 + 1)))))) else (some (.inr ()))
partial_fixpoint
def reticentref01_Meet.f (a0 : api_Lattice) (a1 : Int) (a2 : Int) : Option Int :=
  (reticentref01_Meet.l2 a0 a1 a2 0 >>= fun o => match o with | .inl r => some r | .inr () => some (-1))
def reticentref01_Check.l3 (a0 : api_Lattice) (v63 : Int) (v83 : Int) : Option (Int ⊕ Unit) :=
  if v83 < (a0.Up.length : Int) then (((reticentref01_Join.f a0 v63 v83 >>= fun y89 => if y89 < 0 then (some true) else (reticentref01_Meet.f a0 v63 v83 >>= fun y91 => some (decide (y91 < 0))) : Option Bool) >>= fun x88 => if x88 = true then (some (.inl 3)) else (reticentref01_Check.l3 a0 v63 (IntKind.i64.wrap (v83 + 1))))) else (some (.inr ()))
partial_fixpoint
def reticentref01_Check.l2 (a0 : api_Lattice) (v63 : Int) : Option (Int ⊕ Unit) :=
  if v63 < (a0.Up.length : Int) then ((reticentref01_Check.l3 a0 v63 0 >>= fun o => match o with | .inl r => some (.inl r) | .inr () => reticentref01_Check.l2 a0 (IntKind.i64.wrap (v63 + 1)))) else (some (.inr ()))
partial_fixpoint
def reticentref01_Check.f (a0 : api_Lattice) : Option Int :=
  reticentref01_may.f a0 >>= fun y1 => if (!y1) = true then (some 1) else (reticentref01_order.f a0 >>= fun y3 => if (!y3) = true then (some 2) else ((reticentref01_Check.l2 a0 0 >>= fun o => match o with | .inl r => some r | .inr () => some 0)))
def reticentref04_two.f (a0 : List Int) (a1 : Int) : Option Bool :=
  ((if (a0.length : Int) ≥ 2 then (lAt a0 (IntKind.i64.wrap ((a0.length : Int) - 1)) >>= fun y7 => if y7 = a1 then (lAt a0 (IntKind.i64.wrap ((a0.length : Int) - 2)) >>= fun y9 => some (decide (y9 = a1))) else (some false)) else (some false) : Option Bool) >>= fun x5 => some x5)
def reticentref04_Made.l0 (a0 : List Int) (v169 : List Int) (v170 : Int) : Option (Int ⊕ (List Int)) :=
  if v170 < (a0.length : Int) then (((lAt a0 v170 >>= fun y215 => ((if y215 = 1 then (some true) else (some (decide (y215 = 2))) : Option Bool) >>= fun x217 => if x217 = true then (if (v169.length + ([1] : List Int).length) * 8 ≤ big then (some (.inr (v169 ++ ([1] : List Int)))) else none) else (((if y215 ≥ 6 then (some (decide (y215 ≤ 11))) else (some false) : Option Bool) >>= fun x222 => if x222 = true then (if (v169.length + ([2] : List Int).length) * 8 ≤ big then (some (.inr (v169 ++ ([2] : List Int)))) else none) else (((if y215 = 3 then (reticentref04_two.f v169 1 >>= fun y232 => some y232) else (if y215 = 4 then (reticentref04_two.f v169 1 >>= fun y234 => some y234) else (some false)) : Option Bool) >>= fun x230 => if x230 = true then (if (0 : Int) ≤ IntKind.i64.wrap ((v169.length : Int) - 1) ∧ IntKind.i64.wrap ((v169.length : Int) - 1) ≤ (v169.length : Int) then (some (.inr (v169.take (IntKind.i64.wrap ((v169.length : Int) - 1)).toNat))) else none) else (((if y215 = 5 then (reticentref04_two.f v169 2 >>= fun y241 => some y241) else (some false) : Option Bool) >>= fun x239 => if x239 = true then (if (0 : Int) ≤ IntKind.i64.wrap ((v169.length : Int) - 2) ∧ IntKind.i64.wrap ((v169.length : Int) - 2) ≤ (v169.length : Int) then (if ((v169.take (IntKind.i64.wrap ((v169.length : Int) - 2)).toNat).length + ([1] : List Int).length) * 8 ≤ big then (some (.inr ((v169.take (IntKind.i64.wrap ((v169.length : Int) - 2)).toNat) ++ ([1] : List Int)))) else none) else none) else (((if y215 = 12 then (reticentref04_two.f v169 2 >>= fun y251 => some y251) else (if y215 = 13 then (reticentref04_two.f v169 2 >>= fun y253 => some y253) else (some false)) : Option Bool) >>= fun x249 => if x249 = true then (if (0 : Int) ≤ IntKind.i64.wrap ((v169.length : Int) - 1) ∧ IntKind.i64.wrap ((v169.length : Int) - 1) ≤ (v169.length : Int) then (some (.inr (v169.take (IntKind.i64.wrap ((v169.length : Int) - 1)).toNat))) else none) else (some (.inl 0))))))))))) : Option (Int ⊕ (List Int))) >>= fun o => match o with | .inl r => some (.inl r) | .inr x214 => reticentref04_Made.l0 a0 x214 (IntKind.i64.wrap (v170 + 1)))) else (some (.inr v169))
partial_fixpoint
def reticentref04_Made.f (a0 : List Int) : Option Int :=
  (reticentref04_Made.l0 a0 ([] : List Int) 0 >>= fun o => match o with | .inl r => some r | .inr x171 => ((if (x171.length : Int) = 1 then (some (decide ((a0.length : Int) > 40))) else (some true) : Option Bool) >>= fun x257 => if x257 = true then (some 0) else (lAt x171 0 >>= fun y260 => some y260)))
def reticentref04_Right.f (a0 : List Int) (a1 : Bool) : Option Bool :=
  if a1 = true then (reticentref04_Made.f a0 >>= fun y2 => some (decide (y2 = 2))) else (reticentref04_Made.f a0 >>= fun y3 => some (decide (y3 = 1)))
def reticentref07_May.l0 (a0 : api_Lattice) (a2 : List Int) (v17 : Int) : Option (Int ⊕ Unit) :=
  if v17 < (a2.length : Int) then (lAt a2 v17 >>= fun y19 => ((if y19 < 0 then (some true) else (some (decide (y19 ≥ (a0.Up.length : Int)))) : Option Bool) >>= fun x21 => if x21 = true then (some (.inl 9)) else (reticentref07_May.l0 a0 a2 (IntKind.i64.wrap (v17 + 1))))) else (some (.inr ()))
partial_fixpoint
def reticentref07_May.f (a0 : api_Lattice) (a1 : List Int) (a2 : List Int) (a3 : Bool) : Option Int :=
  reticentref01_Check.f a0 >>= fun y1 => if y1 = 0 then (reticentref04_Right.f a1 a3 >>= fun y3 => if (!y3) = true then (some 1) else ((reticentref07_May.l0 a0 a2 0 >>= fun o => match o with | .inl r => some r | .inr () => if (a2.length : Int) = 4 then (some 0) else (some 9)))) else (some y1)
def reticentlaw07_alive.f : Option Bool :=
  judge_Label.f (⟨(⟨([([97] : Str), ([98] : Str), ([99] : Str), ([100] : Str)] : List Str), ([15, 10, 12, 8] : List Int)⟩ : api_Lattice).Names, (⟨([([97] : Str), ([98] : Str), ([99] : Str), ([100] : Str)] : List Str), ([15, 10, 12, 8] : List Int)⟩ : api_Lattice).Up⟩ : api_Lattice) ([9, 10, 12] : List Int) ([0, 1, 2, 0] : List Int) >>= fun y1 => ((if y1.2 = 0 then (some (decide (y1.1 = 3))) else (some false) : Option Bool) >>= fun x3 => some x3)
def reticentref01_Bottom.l0 (a0 : api_Lattice) (v5 : Int) (v6 : Int) : Option Int :=
  if v6 < (a0.Up.length : Int) then (reticentref01_Meet.f a0 v5 v6 >>= fun y9 => reticentref01_Bottom.l0 a0 y9 (IntKind.i64.wrap (v6 + 1))) else (some v5)
partial_fixpoint
def reticentref01_Bottom.f (a0 : api_Lattice) : Option Int :=
  (reticentref01_Bottom.l0 a0 0 0 >>= fun x7 => some x7)
def reticentref01_Top.l0 (a0 : api_Lattice) (v5 : Int) (v6 : Int) : Option Int :=
  if v6 < (a0.Up.length : Int) then (reticentref01_Join.f a0 v5 v6 >>= fun y9 => reticentref01_Top.l0 a0 y9 (IntKind.i64.wrap (v6 + 1))) else (some v5)
partial_fixpoint
def reticentref01_Top.f (a0 : api_Lattice) : Option Int :=
  (reticentref01_Top.l0 a0 0 0 >>= fun x7 => some x7)
def reticentref07_Thing.B (rc : api_Lattice → (List Int) → (List Int) → Int → Option reticentref07_V) (a0 : api_Lattice) (a1 : List Int) (a2 : List Int) (a3 : Int) : Option reticentref07_V :=
  lAt a1 a3 >>= fun y1 => if y1 ≤ 2 then (some (⟨(⟨decide (y1 = 1), 0, a3⟩ : reticentref07_V).Is, (⟨decide (y1 = 1), 0, a3⟩ : reticentref07_V).A, (⟨decide (y1 = 1), 0, a3⟩ : reticentref07_V).From⟩ : reticentref07_V)) else (if y1 = 6 then (reticentref01_Bottom.f a0 >>= fun y4 => some (⟨(⟨false, y4, a3⟩ : reticentref07_V).Is, (⟨false, y4, a3⟩ : reticentref07_V).A, (⟨false, y4, a3⟩ : reticentref07_V).From⟩ : reticentref07_V)) else (if y1 = 7 then (reticentref01_Top.f a0 >>= fun y6 => some (⟨(⟨false, y6, a3⟩ : reticentref07_V).Is, (⟨false, y6, a3⟩ : reticentref07_V).A, (⟨false, y6, a3⟩ : reticentref07_V).From⟩ : reticentref07_V)) else (((if y1 ≥ 8 then (some (decide (y1 ≤ 11))) else (some false) : Option Bool) >>= fun x8 => if x8 = true then (lAt a2 (IntKind.i64.wrap (y1 - 8)) >>= fun y11 => some (⟨(⟨false, y11, a3⟩ : reticentref07_V).Is, (⟨false, y11, a3⟩ : reticentref07_V).A, (⟨false, y11, a3⟩ : reticentref07_V).From⟩ : reticentref07_V)) else (rc a0 a1 a2 (IntKind.i64.wrap (a3 - 1)) >>= fun y12 => rc a0 a1 a2 (IntKind.i64.wrap (y12.From - 1)) >>= fun y13 => ((if y1 = 3 then (((if y13.Is = true then (some y12.Is) else (some false) : Option Bool) >>= fun x32 => some (x32, (⟨false, 0, y13.From⟩ : reticentref07_V).A))) else (if y1 = 4 then (((if y13.Is = true then (some true) else (some y12.Is) : Option Bool) >>= fun x36 => some (x36, (⟨false, 0, y13.From⟩ : reticentref07_V).A))) else (if y1 = 5 then (reticentref01_Flows.f a0 y13.A y12.A >>= fun y39 => some (y39, (⟨false, 0, y13.From⟩ : reticentref07_V).A)) else (if y1 = 12 then (reticentref01_Join.f a0 y13.A y12.A >>= fun y41 => some ((⟨false, 0, y13.From⟩ : reticentref07_V).Is, y41)) else (if y1 = 13 then (reticentref01_Meet.f a0 y13.A y12.A >>= fun y43 => some ((⟨false, 0, y13.From⟩ : reticentref07_V).Is, y43)) else (some ((⟨false, 0, y13.From⟩ : reticentref07_V).Is, (⟨false, 0, y13.From⟩ : reticentref07_V).A)))))) : Option (Bool × Int)) >>= fun o => match o with | (x28, x29) => some (⟨(⟨x28, x29, (⟨false, 0, y13.From⟩ : reticentref07_V).From⟩ : reticentref07_V).Is, (⟨x28, x29, (⟨false, 0, y13.From⟩ : reticentref07_V).From⟩ : reticentref07_V).A, (⟨x28, x29, (⟨false, 0, y13.From⟩ : reticentref07_V).From⟩ : reticentref07_V).From⟩ : reticentref07_V)))))))
def reticentref07_Thing.F : Nat → api_Lattice → (List Int) → (List Int) → Int → Option reticentref07_V
  | 0 => fun _ _ _ _ => none
  | k + 1 => reticentref07_Thing.B (reticentref07_Thing.F k)
def reticentref07_Thing.f (a0 : api_Lattice) (a1 : List Int) (a2 : List Int) (a3 : Int) : Option reticentref07_V := reticentref07_Thing.F 1000 a0 a1 a2 a3 
def reticentref07_Judge.f (a0 : api_Lattice) (a1 : List Int) (a2 : List Int) : Option reticentref07_V :=
  reticentref07_Thing.f a0 a1 a2 (IntKind.i64.wrap ((a1.length : Int) - 1)) >>= fun y1 => some (⟨y1.Is, y1.A, y1.From⟩ : reticentref07_V)
def reticentlaw07_JudgeComes.f (a0 : api_Lattice) (a1 : List Int) (a2 : List Int) : Option Bool :=
  reticentlaw07_few.f (⟨a0.Names, a0.Up⟩ : api_Lattice) >>= fun y1 => if (0 : Int) ≤ (if 45 < (a1.length : Int) then 45 else (a1.length : Int)) ∧ (if 45 < (a1.length : Int) then 45 else (a1.length : Int)) ≤ (a1.length : Int) then (if (0 : Int) ≤ (if 6 < (a2.length : Int) then 6 else (a2.length : Int)) ∧ (if 6 < (a2.length : Int) then 6 else (a2.length : Int)) ≤ (a2.length : Int) then (judge_Cond.f (⟨y1.Names, y1.Up⟩ : api_Lattice) (lCut a1 0 (if 45 < (a1.length : Int) then 45 else (a1.length : Int))) (lCut a2 0 (if 6 < (a2.length : Int) then 6 else (a2.length : Int))) >>= fun y4 => judge_Label.f (⟨y1.Names, y1.Up⟩ : api_Lattice) (lCut a1 0 (if 45 < (a1.length : Int) then 45 else (a1.length : Int))) (lCut a2 0 (if 6 < (a2.length : Int) then 6 else (a2.length : Int))) >>= fun y5 => reticentref07_May.f (⟨y1.Names, y1.Up⟩ : api_Lattice) (lCut a1 0 (if 45 < (a1.length : Int) then 45 else (a1.length : Int))) (lCut a2 0 (if 6 < (a2.length : Int) then 6 else (a2.length : Int))) false >>= fun y6 => reticentref07_May.f (⟨y1.Names, y1.Up⟩ : api_Lattice) (lCut a1 0 (if 45 < (a1.length : Int) then 45 else (a1.length : Int))) (lCut a2 0 (if 6 < (a2.length : Int) then 6 else (a2.length : Int))) true >>= fun y7 => ((if y4.2 = y6 then (if y5.2 = y7 then (reticentlaw07_alive.f >>= fun y14 => some (!y14)) else (some true)) else (some true) : Option Bool) >>= fun x11 => if x11 = true then (some false) else (((if y6 = 0 then (reticentref07_Judge.f (⟨y1.Names, y1.Up⟩ : api_Lattice) (lCut a1 0 (if 45 < (a1.length : Int) then 45 else (a1.length : Int))) (lCut a2 0 (if 6 < (a2.length : Int) then 6 else (a2.length : Int))) >>= fun y21 => if y4.1 = y21.Is then (some false) else (some true)) else (some y4.1) : Option Bool) >>= fun x19 => if x19 = true then (some false) else (((if y7 = 0 then (reticentref07_Judge.f (⟨y1.Names, y1.Up⟩ : api_Lattice) (lCut a1 0 (if 45 < (a1.length : Int) then 45 else (a1.length : Int))) (lCut a2 0 (if 6 < (a2.length : Int) then 6 else (a2.length : Int))) >>= fun y29 => if y5.1 = y29.A then (some true) else (some false)) else (some (decide (y5.1 = 0))) : Option Bool) >>= fun x27 => some x27)))))) else none) else none
def rule_Uses.l0 (a0 : List Int) (v31 : Int) (v32 : Int) : Option Int :=
  if v31 < (a0.length : Int) then (((lAt a0 v31 >>= fun y42 => ((if y42 ≥ 8 then (some (decide (y42 ≤ 11))) else (some false) : Option Bool) >>= fun x44 => if x44 = true then (if ¬ IntKind.i64.wrap (y42 - 8) < 0 then (some (bOr .u32 v32 (bShl .u32 1 (IntKind.i64.wrap (y42 - 8))))) else none) else (some v32)) : Option Int) >>= fun x41 => rule_Uses.l0 a0 (IntKind.i64.wrap (v31 + 1)) x41)) else (some v32)
partial_fixpoint
def rule_Uses.f (a0 : List Int) : Option (Int × Int) :=
  rule_made.f a0 >>= fun y1 => if (!y1.2) = true then (some (0, 1)) else ((rule_Uses.l0 a0 0 0 >>= fun x33 => some (x33, 0)))
def slices_Clone_int_int_nn.f (a0 : List Int) : Option (List Int) :=
  if (([] : List Int).length + a0.length) * 8 ≤ big then (some (([] : List Int) ++ a0)) else none
def reticentlaw07_JudgeRises.f (a0 : api_Lattice) (a1 : List Int) (a2 : List Int) (a3 : Int) (a4 : Int) : Option Bool :=
  reticentlaw07_few.f (⟨a0.Names, a0.Up⟩ : api_Lattice) >>= fun y1 => if (0 : Int) ≤ (if 45 < (a1.length : Int) then 45 else (a1.length : Int)) ∧ (if 45 < (a1.length : Int) then 45 else (a1.length : Int)) ≤ (a1.length : Int) then (if (0 : Int) ≤ (if 4 < (a2.length : Int) then 4 else (a2.length : Int)) ∧ (if 4 < (a2.length : Int) then 4 else (a2.length : Int)) ≤ (a2.length : Int) then (slices_Clone_int_int_nn.f (lCut a2 0 (if 4 < (a2.length : Int) then 4 else (a2.length : Int))) >>= fun y4 => if (y4.length : Int) = 4 then (lAt y4 ((IntKind.i64.wrap ((a3.tmod 4) + 4)).tmod 4) >>= fun y6 => rule_Uses.f (lCut a1 0 (if 45 < (a1.length : Int) then 45 else (a1.length : Int))) >>= fun y7 => if y7.2 = 0 then (judge_Cond.f (⟨y1.Names, y1.Up⟩ : api_Lattice) (lCut a1 0 (if 45 < (a1.length : Int) then 45 else (a1.length : Int))) (lCut a2 0 (if 4 < (a2.length : Int) then 4 else (a2.length : Int))) >>= fun y9 => judge_Cond.f (⟨y1.Names, y1.Up⟩ : api_Lattice) (lCut a1 0 (if 45 < (a1.length : Int) then 45 else (a1.length : Int))) (y4.set ((IntKind.i64.wrap ((a3.tmod 4) + 4)).tmod 4).toNat a4) >>= fun y10 => ((if y9.2 = 0 then (if y10.2 = 0 then (if ¬ (IntKind.i64.wrap ((a3.tmod 4) + 4)).tmod 4 < 0 then (if bAnd .u32 (bShr .u32 y7.1 ((IntKind.i64.wrap ((a3.tmod 4) + 4)).tmod 4)) 1 = 0 then (some (!decide (y9.1 = y10.1))) else (some false)) else none) else (some false)) else (some false) : Option Bool) >>= fun x15 => if x15 = true then (some false) else (judge_Label.f (⟨y1.Names, y1.Up⟩ : api_Lattice) (lCut a1 0 (if 45 < (a1.length : Int) then 45 else (a1.length : Int))) (lCut a2 0 (if 4 < (a2.length : Int) then 4 else (a2.length : Int))) >>= fun y21 => judge_Label.f (⟨y1.Names, y1.Up⟩ : api_Lattice) (lCut a1 0 (if 45 < (a1.length : Int) then 45 else (a1.length : Int))) (y4.set ((IntKind.i64.wrap ((a3.tmod 4) + 4)).tmod 4).toNat a4) >>= fun y22 => ((if y21.2 = 0 then (some (!decide (y22.2 = 0))) else (some true) : Option Bool) >>= fun x24 => if x24 = true then (reticentlaw07_alive.f >>= fun y27 => some y27) else (lAt (lCut a2 0 (if 4 < (a2.length : Int) then 4 else (a2.length : Int))) ((IntKind.i64.wrap ((a3.tmod 4) + 4)).tmod 4) >>= fun y28 => lattice_Flows.f (⟨y1.Names, y1.Up⟩ : api_Lattice) y28 a4 >>= fun y29 => lattice_Flows.f (⟨y1.Names, y1.Up⟩ : api_Lattice) y21.1 y22.1 >>= fun y30 => ((reticentlaw07_alive.f >>= fun y41 => if y41 = true then (if y29.2 = 0 then (if y30.2 = 0 then (if ¬ (IntKind.i64.wrap ((a3.tmod 4) + 4)).tmod 4 < 0 then (if bAnd .u32 (bShr .u32 y7.1 ((IntKind.i64.wrap ((a3.tmod 4) + 4)).tmod 4)) 1 = 1 then (if (!y29.1) = true then (some true) else (some y30.1)) else (if y21.1 = y22.1 then (if (!y29.1) = true then (some true) else (some y30.1)) else (some false))) else none) else (some false)) else (some false)) else (some false) : Option Bool) >>= fun x40 => some x40)))))) else (reticentlaw07_alive.f >>= fun y50 => some y50)) else (rule_Uses.f (lCut a1 0 (if 45 < (a1.length : Int) then 45 else (a1.length : Int))) >>= fun y51 => if y51.2 = 0 then (judge_Cond.f (⟨y1.Names, y1.Up⟩ : api_Lattice) (lCut a1 0 (if 45 < (a1.length : Int) then 45 else (a1.length : Int))) (lCut a2 0 (if 4 < (a2.length : Int) then 4 else (a2.length : Int))) >>= fun y53 => judge_Cond.f (⟨y1.Names, y1.Up⟩ : api_Lattice) (lCut a1 0 (if 45 < (a1.length : Int) then 45 else (a1.length : Int))) y4 >>= fun y54 => ((if y53.2 = 0 then (if y54.2 = 0 then (if ¬ (IntKind.i64.wrap ((a3.tmod 4) + 4)).tmod 4 < 0 then (if bAnd .u32 (bShr .u32 y51.1 ((IntKind.i64.wrap ((a3.tmod 4) + 4)).tmod 4)) 1 = 0 then (some (!decide (y53.1 = y54.1))) else (some false)) else none) else (some false)) else (some false) : Option Bool) >>= fun x59 => if x59 = true then (some false) else (judge_Label.f (⟨y1.Names, y1.Up⟩ : api_Lattice) (lCut a1 0 (if 45 < (a1.length : Int) then 45 else (a1.length : Int))) (lCut a2 0 (if 4 < (a2.length : Int) then 4 else (a2.length : Int))) >>= fun y65 => judge_Label.f (⟨y1.Names, y1.Up⟩ : api_Lattice) (lCut a1 0 (if 45 < (a1.length : Int) then 45 else (a1.length : Int))) y4 >>= fun y66 => ((if y65.2 = 0 then (some (!decide (y66.2 = 0))) else (some true) : Option Bool) >>= fun x68 => if x68 = true then (reticentlaw07_alive.f >>= fun y71 => some y71) else (lAt (lCut a2 0 (if 4 < (a2.length : Int) then 4 else (a2.length : Int))) ((IntKind.i64.wrap ((a3.tmod 4) + 4)).tmod 4) >>= fun y72 => lattice_Flows.f (⟨y1.Names, y1.Up⟩ : api_Lattice) y72 a4 >>= fun y73 => lattice_Flows.f (⟨y1.Names, y1.Up⟩ : api_Lattice) y65.1 y66.1 >>= fun y74 => ((reticentlaw07_alive.f >>= fun y85 => if y85 = true then (if y73.2 = 0 then (if y74.2 = 0 then (if ¬ (IntKind.i64.wrap ((a3.tmod 4) + 4)).tmod 4 < 0 then (if bAnd .u32 (bShr .u32 y51.1 ((IntKind.i64.wrap ((a3.tmod 4) + 4)).tmod 4)) 1 = 1 then (if (!y73.1) = true then (some true) else (some y74.1)) else (if y65.1 = y66.1 then (if (!y73.1) = true then (some true) else (some y74.1)) else (some false))) else none) else (some false)) else (some false)) else (some false) : Option Bool) >>= fun x84 => some x84)))))) else (reticentlaw07_alive.f >>= fun y94 => some y94))) else none) else none

end Go.Proofs.Ythpmbokenhpakaa.LE
