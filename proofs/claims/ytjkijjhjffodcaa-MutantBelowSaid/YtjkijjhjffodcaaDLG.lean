import Derived.Test.YtjkijjhjffodcaaAb24
set_option linter.unusedVariables false
namespace Go.Proofs.Ytjkijjhjffodcaa.LG
open Go Go.Proofs.Ytjkijjhjffodcaa.Ab

structure api_Lattice where
  Names : List Str
  Up : List Int
inductive If57 where
  | nil
  | c54 (x : Int)
  | c63 (x : Bool)
def vIf57 : If57 → Option (TypeId × Sig)
  | .nil => none
  | .c54 x => some (54, (kI .i64).sig x)
  | .c63 x => some (63, kB.sig x)
def as57_54 : If57 → Int × Bool
  | .c54 x => (x, true)
  | _ => (0, false)
theorem asOk57_54 : AsOk vIf57 54 (kI .i64) 0 as57_54 := fun x => by
  cases x <;> simp [vIf57, as57_54]
def as57_63 : If57 → Bool × Bool
  | .c63 x => (x, true)
  | _ => (false, false)
theorem asOk57_63 : AsOk vIf57 63 kB false as57_63 := fun x => by
  cases x <;> simp [vIf57, as57_63]
structure judge_judge where
  l_ : api_Lattice
  labels_ : List Int
  pile_ : List If57
def ks0 : Str := [0, 1, 1, 2, 1, 2, 2, 3, 1, 2, 2, 3, 2, 3, 3, 4, 1, 2, 2, 3, 2, 3, 3, 4, 2, 3, 3, 4, 3, 4, 4, 5, 1, 2, 2, 3, 2, 3, 3, 4, 2, 3, 3, 4, 3, 4, 4, 5, 2, 3, 3, 4, 3, 4, 4, 5, 3, 4, 4, 5, 4, 5, 5, 6, 1, 2, 2, 3, 2, 3, 3, 4, 2, 3, 3, 4, 3, 4, 4, 5, 2, 3, 3, 4, 3, 4, 4, 5, 3, 4, 4, 5, 4, 5, 5, 6, 2, 3, 3, 4, 3, 4, 4, 5, 3, 4, 4, 5, 4, 5, 5, 6, 3, 4, 4, 5, 4, 5, 5, 6, 4, 5, 5, 6, 5, 6, 6, 7, 1, 2, 2, 3, 2, 3, 3, 4, 2, 3, 3, 4, 3, 4, 4, 5, 2, 3, 3, 4, 3, 4, 4, 5, 3, 4, 4, 5, 4, 5, 5, 6, 2, 3, 3, 4, 3, 4, 4, 5, 3, 4, 4, 5, 4, 5, 5, 6, 3, 4, 4, 5, 4, 5, 5, 6, 4, 5, 5, 6, 5, 6, 6, 7, 2, 3, 3, 4, 3, 4, 4, 5, 3, 4, 4, 5, 4, 5, 5, 6, 3, 4, 4, 5, 4, 5, 5, 6, 4, 5, 5, 6, 5, 6, 6, 7, 3, 4, 4, 5, 4, 5, 5, 6, 4, 5, 5, 6, 5, 6, 6, 7, 4, 5, 5, 6, 5, 6, 6, 7, 5, 6, 6, 7, 6, 7, 7, 8]
def f_api_Lattice : List (Fld api_Lattice) := [⟨(kL kS), api_Lattice.Names⟩, ⟨(kL (kI .u32)), api_Lattice.Up⟩]
def f_judge_judge : List (Fld judge_judge) := [⟨(kR f_api_Lattice), judge_judge.l_⟩, ⟨(kL (kI .i64)), judge_judge.labels_⟩, ⟨(kL (kF vIf57)), judge_judge.pile_⟩]
def f_judge_judge_n2 : List (Fld judge_judge) := [⟨(kR f_api_Lattice), judge_judge.l_⟩, ⟨(kL (kI .i64)), judge_judge.labels_⟩, ⟨(kN If57), judge_judge.pile_⟩]
def rule_made_1.f (a0 : Bool) (a1 : List Bool) : Option ((List Bool) × Bool) :=
  ((if IntKind.i64.wrap ((a1.length : Int) - 1) < 1 then (some true) else (lAt a1 (IntKind.i64.wrap ((a1.length : Int) - 1)) >>= fun y7 => if y7 = a0 then (lAt a1 (IntKind.i64.wrap ((IntKind.i64.wrap ((a1.length : Int) - 1)) - 1)) >>= fun y9 => some (!decide (y9 = a0))) else (some true)) : Option Bool) >>= fun x5 => if x5 = true then (some (a1, false)) else (if (0 : Int) ≤ IntKind.i64.wrap ((IntKind.i64.wrap ((a1.length : Int) - 1)) - 1) ∧ IntKind.i64.wrap ((IntKind.i64.wrap ((a1.length : Int) - 1)) - 1) ≤ (a1.length : Int) then (some (a1.take (IntKind.i64.wrap ((IntKind.i64.wrap ((a1.length : Int) - 1)) - 1)).toNat, true)) else none))
def rule_made.l0 (a0 : List Int) (v269 : List Bool) (v270 : Int) : Option ((Bool × Bool) ⊕ (List Bool)) :=
  if v270 < (a0.length : Int) then (((lAt a0 v270 >>= fun y340 => ((if y340 = 1 then (if (v269.length + ([false] : List Bool).length) * 1 ≤ big then (some (v269 ++ ([false] : List Bool), true)) else none) else (if y340 = 2 then (if (v269.length + ([false] : List Bool).length) * 1 ≤ big then (some (v269 ++ ([false] : List Bool), true)) else none) else (if y340 = 6 then (if (v269.length + ([true] : List Bool).length) * 1 ≤ big then (some (v269 ++ ([true] : List Bool), true)) else none) else (if y340 = 7 then (if (v269.length + ([true] : List Bool).length) * 1 ≤ big then (some (v269 ++ ([true] : List Bool), true)) else none) else (if y340 = 8 then (if (v269.length + ([true] : List Bool).length) * 1 ≤ big then (some (v269 ++ ([true] : List Bool), true)) else none) else (if y340 = 9 then (if (v269.length + ([true] : List Bool).length) * 1 ≤ big then (some (v269 ++ ([true] : List Bool), true)) else none) else (if y340 = 10 then (if (v269.length + ([true] : List Bool).length) * 1 ≤ big then (some (v269 ++ ([true] : List Bool), true)) else none) else (if y340 = 11 then (if (v269.length + ([true] : List Bool).length) * 1 ≤ big then (some (v269 ++ ([true] : List Bool), true)) else none) else (if y340 = 3 then (rule_made_1.f false v269 >>= fun y391 => if (y391.1.length + ([false] : List Bool).length) * 1 ≤ big then (some (y391.1 ++ ([false] : List Bool), y391.2)) else none) else (if y340 = 4 then (rule_made_1.f false v269 >>= fun y394 => if (y394.1.length + ([false] : List Bool).length) * 1 ≤ big then (some (y394.1 ++ ([false] : List Bool), y394.2)) else none) else (if y340 = 5 then (rule_made_1.f true v269 >>= fun y397 => if (y397.1.length + ([false] : List Bool).length) * 1 ≤ big then (some (y397.1 ++ ([false] : List Bool), y397.2)) else none) else (if y340 = 12 then (rule_made_1.f true v269 >>= fun y400 => if (y400.1.length + ([true] : List Bool).length) * 1 ≤ big then (some (y400.1 ++ ([true] : List Bool), y400.2)) else none) else (if y340 = 13 then (rule_made_1.f true v269 >>= fun y403 => if (y403.1.length + ([true] : List Bool).length) * 1 ≤ big then (some (y403.1 ++ ([true] : List Bool), y403.2)) else none) else (some (v269, false)))))))))))))) : Option ((List Bool) × Bool)) >>= fun o => match o with | (x372, x373) => if (!x373) = true then (some (.inl (false, false))) else (some (.inr x372))) : Option ((Bool × Bool) ⊕ (List Bool))) >>= fun o => match o with | .inl r => some (.inl r) | .inr x339 => rule_made.l0 a0 x339 (IntKind.i64.wrap (v270 + 1)))) else (some (.inr v269))
partial_fixpoint
def rule_made.f (a0 : List Int) : Option (Bool × Bool) :=
  (rule_made.l0 a0 ([] : List Bool) 0 >>= fun o => match o with | .inl r => some r | .inr x271 => ((if (x271.length : Int) = 1 then (some (decide ((a0.length : Int) > 40))) else (some true) : Option Bool) >>= fun x407 => if x407 = true then (some (false, false)) else (lAt x271 0 >>= fun y410 => some (y410, true))))
def rule_Right.f (a0 : List Int) (a1 : Bool) : Option Bool :=
  rule_made.f a0 >>= fun y1 => ((if y1.2 = true then (some (decide (y1.1 = a1))) else (some false) : Option Bool) >>= fun x3 => some x3)
def slices_Equal_int_int.l0 (a0 : List Int) (a1 : List Int) (v10 : Int) : Option (Bool ⊕ Unit) :=
  if v10 < (a0.length : Int) then (lAt a0 v10 >>= fun y12 => lAt a1 v10 >>= fun y13 => if y12 = y13 then (slices_Equal_int_int.l0 a0 a1 (IntKind.i64.wrap (v10 + 1))) else (some (.inl false))) else (some (.inr ()))
partial_fixpoint
def slices_Equal_int_int.f (a0 : List Int) (a1 : List Int) : Option Bool :=
  if (a0.length : Int) = (a1.length : Int) then ((slices_Equal_int_int.l0 a0 a1 0 >>= fun o => match o with | .inl r => some r | .inr () => some true)) else (some false)
def mutant_start.l0 (a0 : List Int) (v55 : Int) (v56 : Int) : Option Int :=
  ((lAt a0 v56 >>= fun y71 => ((if y71 = 3 then (some (IntKind.i64.wrap ((IntKind.i64.wrap (v55 - 1)) + 2))) else (if y71 = 4 then (some (IntKind.i64.wrap ((IntKind.i64.wrap (v55 - 1)) + 2))) else (if y71 = 5 then (some (IntKind.i64.wrap ((IntKind.i64.wrap (v55 - 1)) + 2))) else (if y71 = 12 then (some (IntKind.i64.wrap ((IntKind.i64.wrap (v55 - 1)) + 2))) else (if y71 = 13 then (some (IntKind.i64.wrap ((IntKind.i64.wrap (v55 - 1)) + 2))) else (some (IntKind.i64.wrap (v55 - 1))))))) : Option Int) >>= fun x77 => if x77 = 0 then (some (.inl v56)) else (some (.inr x77))) : Option (Int ⊕ Int)) >>= fun o => match o with | .inl r => some r | .inr x70 => mutant_start.l0 a0 x70 (IntKind.i64.wrap (v56 - 1)))
partial_fixpoint
def mutant_start.f (a0 : List Int) (a1 : Int) : Option Int :=
  (mutant_start.l0 a0 1 a1 >>= fun r => some r)
def slices_Grow_int_int_nil.f (a1 : Int) : Option (List Int) :=
  if a1 < 0 then (none) else (if IntKind.i64.wrap (a1 - (IntKind.i64.wrap (0 - (([] : List Int).length : Int)))) > 0 then (if 0 < IntKind.i64.wrap (a1 - (IntKind.i64.wrap (0 - (([] : List Int).length : Int)))) ∧ (IntKind.i64.wrap (a1 - (IntKind.i64.wrap (0 - (([] : List Int).length : Int))))).toNat * 8 ≤ big then (if (0 : Int) ≤ (([] : List Int).length : Int) ∧ (([] : List Int).length : Int) ≤ ((List.replicate (IntKind.i64.wrap (a1 - (IntKind.i64.wrap (0 - (([] : List Int).length : Int))))).toNat (0 : Int)).length : Int) then (some ((List.replicate (IntKind.i64.wrap (a1 - (IntKind.i64.wrap (0 - (([] : List Int).length : Int))))).toNat (0 : Int)).take (([] : List Int).length : Int).toNat)) else none) else none) else (some ([] : List Int)))
def slices_Concat_int_int.l0 (a0 : List (List Int)) (v13 : Int) (v14 : Int) : Option Int :=
  if v13 < (a0.length : Int) then (((lAt a0 v13 >>= fun y20 => if IntKind.i64.wrap (v14 + (y20.length : Int)) < 0 then (none) else (some (IntKind.i64.wrap (v14 + (y20.length : Int)))) : Option Int) >>= fun x19 => slices_Concat_int_int.l0 a0 (IntKind.i64.wrap (v13 + 1)) x19)) else (some v14)
partial_fixpoint
def slices_Concat_int_int.l1 (a0 : List (List Int)) (v29 : List Int) (v30 : Int) : Option (List Int) :=
  if v30 < (a0.length : Int) then (lAt a0 v30 >>= fun y33 => if (v29.length + y33.length) * 8 ≤ big then (slices_Concat_int_int.l1 a0 (v29 ++ y33) (IntKind.i64.wrap (v30 + 1))) else none) else (some v29)
partial_fixpoint
def slices_Concat_int_int.f (a0 : List (List Int)) : Option (List Int) :=
  (slices_Concat_int_int.l0 a0 0 0 >>= fun x15 => slices_Grow_int_int_nil.f x15 >>= fun y22 => (slices_Concat_int_int.l1 a0 y22 0 >>= fun x31 => some x31))
def mutant_less.f (a0 : List Int) (a1 : Int) : Option (List (List Int)) :=
  mutant_start.f a0 (IntKind.i64.wrap (a1 - 1)) >>= fun y1 => mutant_start.f a0 (IntKind.i64.wrap (y1 - 1)) >>= fun y2 => if (0 : Int) ≤ y1 ∧ y1 ≤ (a0.length : Int) then (if (0 : Int) ≤ IntKind.i64.wrap (a1 + 1) ∧ IntKind.i64.wrap (a1 + 1) ≤ (a0.length : Int) then (slices_Concat_int_int.f ([lCut a0 0 y1, lCut a0 (IntKind.i64.wrap (a1 + 1)) (a0.length : Int)] : List (List Int)) >>= fun y5 => if (0 : Int) ≤ y2 ∧ y2 ≤ (a0.length : Int) then (if (0 : Int) ≤ y1 ∧ y1 ≤ a1 ∧ a1 ≤ (a0.length : Int) then (if (0 : Int) ≤ IntKind.i64.wrap (a1 + 1) ∧ IntKind.i64.wrap (a1 + 1) ≤ (a0.length : Int) then (slices_Concat_int_int.f ([lCut a0 0 y2, lCut a0 y1 a1, lCut a0 (IntKind.i64.wrap (a1 + 1)) (a0.length : Int)] : List (List Int)) >>= fun y9 => some ([y5, y9] : List (List Int))) else none) else none) else none) else none) else none
def mutant_weaker.l0 (a0 : List Int) (v26 : List (List Int)) (v27 : Int) : Option (List (List Int)) :=
  if v27 < (a0.length : Int) then (((lAt a0 v27 >>= fun y35 => if y35 = 12 then (mutant_less.f a0 v27 >>= fun y37 => if (v26.length + y37.length) * 24 ≤ big then (some (v26 ++ y37)) else none) else (some v26) : Option (List (List Int))) >>= fun x34 => mutant_weaker.l0 a0 x34 (IntKind.i64.wrap (v27 + 1)))) else (some v26)
partial_fixpoint
def mutant_weaker.l1 (a0 : List Int) (v59 : List (List Int)) (v60 : Int) : Option (List (List Int)) :=
  if v60 < (a0.length : Int) then (((lAt a0 v60 >>= fun y68 => if y68 = 12 then (mutant_less.f a0 v60 >>= fun y70 => if (v59.length + y70.length) * 24 ≤ big then (some (v59 ++ y70)) else none) else (some v59) : Option (List (List Int))) >>= fun x67 => mutant_weaker.l1 a0 x67 (IntKind.i64.wrap (v60 + 1)))) else (some v59)
partial_fixpoint
def mutant_weaker.l2 (a0 : List Int) (v95 : List (List Int)) (v96 : Int) : Option (List (List Int)) :=
  if v96 < (a0.length : Int) then (((lAt a0 v96 >>= fun y104 => if y104 = 3 then (mutant_less.f a0 v96 >>= fun y106 => if (v95.length + y106.length) * 24 ≤ big then (some (v95 ++ y106)) else none) else (some v95) : Option (List (List Int))) >>= fun x103 => mutant_weaker.l2 a0 x103 (IntKind.i64.wrap (v96 + 1)))) else (some v95)
partial_fixpoint
def mutant_weaker.l3 (a0 : List Int) (v128 : List (List Int)) (v129 : Int) : Option (List (List Int)) :=
  if v129 < (a0.length : Int) then (((lAt a0 v129 >>= fun y137 => if y137 = 3 then (mutant_less.f a0 v129 >>= fun y139 => if (v128.length + y139.length) * 24 ≤ big then (some (v128 ++ y139)) else none) else (some v128) : Option (List (List Int))) >>= fun x136 => mutant_weaker.l3 a0 x136 (IntKind.i64.wrap (v129 + 1)))) else (some v128)
partial_fixpoint
def mutant_weaker.f (a0 : List Int) : Option (List (List Int)) :=
  rule_Right.f a0 true >>= fun y1 => if y1 = true then (slices_Equal_int_int.f a0 ([6] : List Int) >>= fun y3 => if (!y3) = true then (if (([] : List (List Int)).length + ([([6] : List Int)] : List (List Int)).length) * 24 ≤ big then ((mutant_weaker.l0 a0 (([] : List (List Int)) ++ ([([6] : List Int)] : List (List Int))) 0 >>= fun x28 => some x28)) else none) else ((mutant_weaker.l1 a0 ([] : List (List Int)) 0 >>= fun x61 => some x61))) else (slices_Equal_int_int.f a0 ([1] : List Int) >>= fun y72 => if (!y72) = true then (if (([] : List (List Int)).length + ([([1] : List Int)] : List (List Int)).length) * 24 ≤ big then ((mutant_weaker.l2 a0 (([] : List (List Int)) ++ ([([1] : List Int)] : List (List Int))) 0 >>= fun x97 => some x97)) else none) else ((mutant_weaker.l3 a0 ([] : List (List Int)) 0 >>= fun x130 => some x130)))
def mutant_Weaker.f (a0 : List Int) : Option ((List (List Int)) × Int) :=
  ((rule_Right.f a0 false >>= fun y5 => if (!y5) = true then (rule_Right.f a0 true >>= fun y7 => some (!y7)) else (some false) : Option Bool) >>= fun x4 => if x4 = true then (some (([] : List (List Int)), 1)) else (mutant_weaker.f a0 >>= fun y9 => some (y9, 0)))
def reticentref04_Same.l0 (a0 : List Int) (a1 : List Int) (v10 : Int) : Option (Bool ⊕ Unit) :=
  if v10 < (a0.length : Int) then (lAt a0 v10 >>= fun y12 => lAt a1 v10 >>= fun y13 => if y12 = y13 then (reticentref04_Same.l0 a0 a1 (IntKind.i64.wrap (v10 + 1))) else (some (.inl false))) else (some (.inr ()))
partial_fixpoint
def reticentref04_Same.f (a0 : List Int) (a1 : List Int) : Option Bool :=
  if (a0.length : Int) = (a1.length : Int) then ((reticentref04_Same.l0 a0 a1 0 >>= fun o => match o with | .inl r => some r | .inr () => some true)) else (some false)
def reticentlaw24_alive.f : Option Bool :=
  mutant_Weaker.f ([9, 10, 12] : List Int) >>= fun y1 => ((if y1.2 = 0 then (if (y1.1.length : Int) = 3 then (lAt y1.1 0 >>= fun y15 => reticentref04_Same.f y15 ([6] : List Int) >>= fun y16 => if y16 = true then (lAt y1.1 1 >>= fun y18 => reticentref04_Same.f y18 ([9] : List Int) >>= fun y19 => if y19 = true then (lAt y1.1 2 >>= fun y21 => reticentref04_Same.f y21 ([10] : List Int) >>= fun y22 => some y22) else (some false)) else (some false)) else (some false)) else (some false) : Option Bool) >>= fun x12 => some x12)
def lattice_name.l0 (a0 : Str) (v19 : Int) : Option (Bool ⊕ Unit) :=
  if v19 < (a0.length : Int) then (((if (0 : Int) ≤ v19 ∧ v19 < (a0.length : Int) then (if sAt a0 v19 < 97 then (some true) else (if (0 : Int) ≤ v19 ∧ v19 < (a0.length : Int) then (some (decide (sAt a0 v19 > 122))) else none)) else none : Option Bool) >>= fun x24 => if x24 = true then (some (.inl false)) else (lattice_name.l0 a0 (IntKind.i64.wrap (v19 + 1))))) else (some (.inr ()))
partial_fixpoint
def lattice_name.f (a0 : Str) : Option Bool :=
  (lattice_name.l0 a0 0 >>= fun o => match o with | .inl r => some r | .inr () => ((if a0 = ([] : Str) then (some false) else (some (decide ((a0.length : Int) ≤ 12))) : Option Bool) >>= fun x30 => some x30))
def slices_Index_string_string.l0 (a0 : List Str) (a1 : Str) (v7 : Int) : Option (Int ⊕ Unit) :=
  if v7 < (a0.length : Int) then (lAt a0 v7 >>= fun y9 => if a1 = y9 then (some (.inl v7)) else (slices_Index_string_string.l0 a0 a1 (IntKind.i64.wrap (v7 + 1)))) else (some (.inr ()))
partial_fixpoint
def slices_Index_string_string.f (a0 : List Str) (a1 : Str) : Option Int :=
  (slices_Index_string_string.l0 a0 a1 0 >>= fun o => match o with | .inl r => some r | .inr () => some (-1))
def slices_Contains_string_string.f (a0 : List Str) (a1 : Str) : Option Bool :=
  slices_Index_string_string.f a0 a1 >>= fun y1 => some (decide (y1 ≥ 0))
def lattice_may.l0 (a0 : api_Lattice) (v43 : Int) : Option (Bool ⊕ Unit) :=
  if v43 < (a0.Names.length : Int) then (lAt a0.Names v43 >>= fun y45 => ((lattice_name.f y45 >>= fun y54 => if (!y54) = true then (some true) else (if (0 : Int) ≤ v43 ∧ v43 ≤ (a0.Names.length : Int) then (slices_Contains_string_string.f (lCut a0.Names 0 v43) y45 >>= fun y57 => if y57 = true then (some true) else (lAt a0.Up v43 >>= fun y59 => if ¬ (a0.Up.length : Int) < 0 then (some (!decide (bShr .u32 y59 (a0.Up.length : Int) = 0))) else none)) else none) : Option Bool) >>= fun x53 => if x53 = true then (some (.inl false)) else (lattice_may.l0 a0 (IntKind.i64.wrap (v43 + 1))))) else (some (.inr ()))
partial_fixpoint
def lattice_may.f (a0 : api_Lattice) : Option Bool :=
  ((if (a0.Up.length : Int) < 1 then (some true) else (if (a0.Up.length : Int) > 8 then (some true) else (some (!decide ((a0.Names.length : Int) = (a0.Up.length : Int))))) : Option Bool) >>= fun x3 => if x3 = true then (some false) else ((lattice_may.l0 a0 0 >>= fun o => match o with | .inl r => some r | .inr () => some true)))
def lattice_pairs_1.l3 {σ : Type} (a_y : σ → Int → Int → Option (Bool × σ)) (a1 : Int) (v28 : Int) (v37 : σ) (v38 : Int) : Option (σ ⊕ σ) :=
  if v38 < a1 then (a_y v37 v28 v38 >>= fun y41 => if (!y41.1) = true then (some (.inl y41.2)) else (lattice_pairs_1.l3 a_y a1 v28 y41.2 (IntKind.i64.wrap (v38 + 1)))) else (some (.inr v37))
partial_fixpoint
def lattice_pairs_1.l2 {σ : Type} (a_y : σ → Int → Int → Option (Bool × σ)) (a1 : Int) (v27 : σ) (v28 : Int) : Option (σ ⊕ σ) :=
  if v28 < a1 then ((lattice_pairs_1.l3 a_y a1 v28 v27 0 >>= fun o => match o with | .inl r => some (.inl r) | .inr x39 => lattice_pairs_1.l2 a_y a1 x39 (IntKind.i64.wrap (v28 + 1)))) else (some (.inr v27))
partial_fixpoint
def lattice_pairs_1.f {σ : Type} (a_y : σ → Int → Int → Option (Bool × σ)) (a_s : σ) (a1 : Int) : Option σ :=
  (lattice_pairs_1.l2 a_y a1 a_s 0 >>= fun o => match o with | .inl r => some r | .inr x29 => some x29)
def lattice_pairs.f (a0 : Int) : Option Int :=
  some a0
def lattice_flows.f (a0 : api_Lattice) (a1 : Int) (a2 : Int) : Option Bool :=
  lAt a0.Up a1 >>= fun y1 => if ¬ a2 < 0 then (some (decide (bAnd .u32 (bShr .u32 y1 a2) 1 = 1))) else none
def lattice_order.y0 (a0 : api_Lattice) (v26 : Unit) (v27 : Int) (v28 : Int) : Option (Bool × ((Unit) × Nat)) :=
  ((if v27 = v28 then (lattice_flows.f a0 v27 v28 >>= fun y37 => if (!y37) = true then (some true) else (some false)) else (lattice_flows.f a0 v27 v28 >>= fun y39 => if y39 = true then (lattice_flows.f a0 v28 v27 >>= fun y41 => some y41) else (some false)) : Option Bool) >>= fun x35 => if x35 = true then (some (false, ((), 1))) else (((lattice_flows.f a0 v27 v28 >>= fun y48 => if y48 = true then (lAt a0.Up v28 >>= fun y50 => lAt a0.Up v27 >>= fun y51 => some (!decide (bAndNot .u32 y50 y51 = 0))) else (some false) : Option Bool) >>= fun x47 => if x47 = true then (some (false, ((), 1))) else (some (true, ((), 0))))))
def lattice_order.f (a0 : api_Lattice) : Option Bool :=
  lattice_pairs.f (a0.Up.length : Int) >>= fun y1 => (lattice_pairs_1.f (yOf (lattice_order.y0 a0)) ((), 0) y1 >>= fun y53 => if y53.2 = 0 then (some true) else if y53.2 = 1 then (some false) else none)
def slices_IndexFunc_uint32_uint32.l0 (a0 : List Int) (a1 : Int → Option Bool) (v9 : Int) : Option (Int ⊕ Unit) :=
  if v9 < (a0.length : Int) then (lAt a0 v9 >>= fun y11 => a1 y11 >>= fun y12 => if y12 = true then (some (.inl v9)) else (slices_IndexFunc_uint32_uint32.l0 a0 a1 (IntKind.i64.wrap (v9 + 1)))) else (some (.inr ()))
partial_fixpoint
def slices_IndexFunc_uint32_uint32.f (a0 : List Int) (a1 : Int → Option Bool) : Option Int :=
  (slices_IndexFunc_uint32_uint32.l0 a0 a1 0 >>= fun o => match o with | .inl r => some r | .inr () => some (-1))
def lattice_join_1.f (a0 : Int) (a1 : Int) : Option Bool :=
  some (decide (a0 = a1))
def lattice_join.f (a0 : api_Lattice) (a1 : Int) (a2 : Int) : Option Int :=
  lAt a0.Up a1 >>= fun y1 => lAt a0.Up a2 >>= fun y2 => slices_IndexFunc_uint32_uint32.f a0.Up (fun z0 => lattice_join_1.f z0 (bAnd .u32 y1 y2)) >>= fun y3 => some y3
def lattice_down.l0 (a0 : api_Lattice) (a1 : Int) (v8 : Int) (v9 : Int) : Option Int :=
  if v8 < (a0.Up.length : Int) then (lAt a0.Up v8 >>= fun y12 => if ¬ a1 < 0 then (if ¬ v8 < 0 then (lattice_down.l0 a0 a1 (IntKind.i64.wrap (v8 + 1)) (bOr .u32 v9 (bShl .u32 (bAnd .u32 (bShr .u32 y12 a1) 1) v8))) else none) else none) else (some v9)
partial_fixpoint
def lattice_down.f (a0 : api_Lattice) (a1 : Int) : Option Int :=
  (lattice_down.l0 a0 a1 0 0 >>= fun x10 => some x10)
def lattice_meet.l0 (a0 : api_Lattice) (y1 : Int) (y2 : Int) (v9 : Int) : Option (Int ⊕ Unit) :=
  if v9 < (a0.Up.length : Int) then (lattice_down.f a0 v9 >>= fun y11 => if y11 = bAnd .u32 y1 y2 then (some (.inl v9)) else (lattice_meet.l0 a0 y1 y2 (IntKind.i64.wrap (v9 + 1)))) else (some (.inr ()))
partial_fixpoint
def lattice_meet.f (a0 : api_Lattice) (a1 : Int) (a2 : Int) : Option Int :=
  lattice_down.f a0 a1 >>= fun y1 => lattice_down.f a0 a2 >>= fun y2 => (lattice_meet.l0 a0 y1 y2 0 >>= fun o => match o with | .inl r => some r | .inr () => some (-1))
def lattice_Check.y0 (a0 : api_Lattice) (v22 : Int) (v23 : Int) (v24 : Int) : Option (Bool × ((Int) × Nat)) :=
  ((lattice_join.f a0 v23 v24 >>= fun y29 => if y29 < 0 then (some true) else (lattice_meet.f a0 v23 v24 >>= fun y31 => some (decide (y31 < 0))) : Option Bool) >>= fun x28 => if x28 = true then (some (false, (3, 1))) else (some (true, (v22, 0))))
def lattice_Check.f (a0 : api_Lattice) : Option Int :=
  lattice_may.f a0 >>= fun y1 => if (!y1) = true then (some 1) else (lattice_order.f a0 >>= fun y3 => if (!y3) = true then (some 2) else (lattice_pairs.f (a0.Up.length : Int) >>= fun y5 => (lattice_pairs_1.f (yOf (lattice_Check.y0 a0)) (0, 0) y5 >>= fun y33 => if y33.2 = 0 then (some 0) else if y33.2 = 1 then (some y33.1) else none)))
def slices_IndexFunc_int_int.l0 (a0 : List Int) (a1 : Int → Option Bool) (v9 : Int) : Option (Int ⊕ Unit) :=
  if v9 < (a0.length : Int) then (lAt a0 v9 >>= fun y11 => a1 y11 >>= fun y12 => if y12 = true then (some (.inl v9)) else (slices_IndexFunc_int_int.l0 a0 a1 (IntKind.i64.wrap (v9 + 1)))) else (some (.inr ()))
partial_fixpoint
def slices_IndexFunc_int_int.f (a0 : List Int) (a1 : Int → Option Bool) : Option Int :=
  (slices_IndexFunc_int_int.l0 a0 a1 0 >>= fun o => match o with | .inl r => some r | .inr () => some (-1))
def slices_ContainsFunc_int_int.f (a0 : List Int) (a1 : Int → Option Bool) : Option Bool :=
  slices_IndexFunc_int_int.f a0 a1 >>= fun y1 => some (decide (y1 ≥ 0))
def judge_may_1.f (a0 : Int) (a1 : api_Lattice) : Option Bool :=
  ((if a0 < 0 then (some true) else (some (decide (a0 ≥ (a1.Up.length : Int)))) : Option Bool) >>= fun x2 => some x2)
def judge_may.f (a0 : api_Lattice) (a1 : List Int) (a2 : List Int) (a3 : Bool) : Option Int :=
  lattice_Check.f a0 >>= fun y1 => if y1 = 0 then (rule_Right.f a1 a3 >>= fun y3 => if (!y3) = true then (some 1) else (((if (a2.length : Int) = 4 then (slices_ContainsFunc_int_int.f a2 (fun z0 => judge_may_1.f z0 a0) >>= fun y9 => some y9) else (some true) : Option Bool) >>= fun x7 => if x7 = true then (some 9) else (some 0)))) else (some y1)
def judge_judge_put.f (a0 : judge_judge) (a1 : If57) : Option judge_judge :=
  if (a0.pile_.length + ([a1] : List If57).length) * 16 ≤ big then (some (⟨a0.l_, a0.labels_, a0.pile_ ++ ([a1] : List If57)⟩ : judge_judge)) else none
def lattice_there_1.f (a0 : Int) (a1 : api_Lattice) : Option Bool :=
  ((if a0 < 0 then (some true) else (some (decide (a0 ≥ (a1.Up.length : Int)))) : Option Bool) >>= fun x2 => some x2)
def lattice_there.f (a0 : api_Lattice) (a1 : List Int) : Option Int :=
  lattice_Check.f a0 >>= fun y1 => if y1 = 0 then (slices_ContainsFunc_int_int.f a1 (fun z0 => lattice_there_1.f z0 a0) >>= fun y3 => if y3 = true then (some 9) else (some 0)) else (some y1)
def slices_Index_uint32_uint32.l0 (a0 : List Int) (a1 : Int) (v7 : Int) : Option (Int ⊕ Unit) :=
  if v7 < (a0.length : Int) then (lAt a0 v7 >>= fun y9 => if a1 = y9 then (some (.inl v7)) else (slices_Index_uint32_uint32.l0 a0 a1 (IntKind.i64.wrap (v7 + 1)))) else (some (.inr ()))
partial_fixpoint
def slices_Index_uint32_uint32.f (a0 : List Int) (a1 : Int) : Option Int :=
  (slices_Index_uint32_uint32.l0 a0 a1 0 >>= fun o => match o with | .inl r => some r | .inr () => some (-1))
def lattice_Bottom.f (a0 : api_Lattice) : Option (Int × Int) :=
  lattice_there.f a0 [] >>= fun y1 => if y1 = 0 then (if ¬ (a0.Up.length : Int) < 0 then (slices_Index_uint32_uint32.f a0.Up (IntKind.u32.wrap ((bShl .u32 1 (a0.Up.length : Int)) - 1)) >>= fun y4 => some (y4, 0)) else none) else (some (0, y1))
def bits_OnesCount32.f (a0 : Int) : Option Int :=
  if (0 : Int) ≤ bShr .u32 a0 24 ∧ bShr .u32 a0 24 < (ks0.length : Int) then (if (0 : Int) ≤ bAnd .u32 (bShr .u32 a0 16) 255 ∧ bAnd .u32 (bShr .u32 a0 16) 255 < (ks0.length : Int) then (if (0 : Int) ≤ bAnd .u32 (bShr .u32 a0 8) 255 ∧ bAnd .u32 (bShr .u32 a0 8) 255 < (ks0.length : Int) then (if (0 : Int) ≤ bAnd .u32 a0 255 ∧ bAnd .u32 a0 255 < (ks0.length : Int) then (some (IntKind.i64.wrap (IntKind.u8.wrap ((IntKind.u8.wrap ((IntKind.u8.wrap ((sAt ks0 (bShr .u32 a0 24)) + (sAt ks0 (bAnd .u32 (bShr .u32 a0 16) 255)))) + (sAt ks0 (bAnd .u32 (bShr .u32 a0 8) 255)))) + (sAt ks0 (bAnd .u32 a0 255)))))) else none) else none) else none) else none
def lattice_Top_1.f (a0 : Int) : Option Bool :=
  bits_OnesCount32.f a0 >>= fun y1 => some (decide (y1 = 1))
def lattice_Top.f (a0 : api_Lattice) : Option (Int × Int) :=
  lattice_there.f a0 [] >>= fun y1 => if y1 = 0 then (slices_IndexFunc_uint32_uint32.f a0.Up lattice_Top_1.f >>= fun y3 => some (y3, 0)) else (some (0, y1))
def judge_judge_two.f (a0 : judge_judge) : Option (judge_judge × If57 × If57) :=
  lAt a0.pile_ (IntKind.i64.wrap ((a0.pile_.length : Int) - 2)) >>= fun y1 => lAt a0.pile_ (IntKind.i64.wrap ((IntKind.i64.wrap ((a0.pile_.length : Int) - 2)) + 1)) >>= fun y2 => if (0 : Int) ≤ IntKind.i64.wrap ((a0.pile_.length : Int) - 2) ∧ IntKind.i64.wrap ((a0.pile_.length : Int) - 2) ≤ (a0.pile_.length : Int) then (some ((⟨a0.l_, a0.labels_, a0.pile_.take (IntKind.i64.wrap ((a0.pile_.length : Int) - 2)).toNat⟩ : judge_judge), y1, y2)) else none
def lattice_Flows.f (a0 : api_Lattice) (a1 : Int) (a2 : Int) : Option (Bool × Int) :=
  lattice_there.f a0 ([a1, a2] : List Int) >>= fun y1 => if y1 = 0 then (lattice_flows.f a0 a1 a2 >>= fun y3 => some (y3, 0)) else (some (false, y1))
def lattice_Join.f (a0 : api_Lattice) (a1 : Int) (a2 : Int) : Option (Int × Int) :=
  lattice_there.f a0 ([a1, a2] : List Int) >>= fun y1 => if y1 = 0 then (lattice_join.f a0 a1 a2 >>= fun y3 => some (y3, 0)) else (some (0, y1))
def lattice_Meet.f (a0 : api_Lattice) (a1 : Int) (a2 : Int) : Option (Int × Int) :=
  lattice_there.f a0 ([a1, a2] : List Int) >>= fun y1 => if y1 = 0 then (lattice_meet.f a0 a1 a2 >>= fun y3 => some (y3, 0)) else (some (0, y1))
def judge_judge_both.f (a0 : judge_judge) (a1 : Int) (a2 : If57) (a3 : If57) : Option (judge_judge × If57) :=
  if ((as57_63 a2).2) = true then (if a1 = 3 then (((if ((as57_63 a2).1) = true then (some (If57.c63 ((as57_63 a3).1))) else (some (If57.c63 false)) : Option If57) >>= fun x4 => some ((⟨a0.l_, a0.labels_, a0.pile_⟩ : judge_judge), x4))) else (((if ((as57_63 a2).1) = true then (some (If57.c63 true)) else (some (If57.c63 ((as57_63 a3).1))) : Option If57) >>= fun x7 => some ((⟨a0.l_, a0.labels_, a0.pile_⟩ : judge_judge), x7)))) else (if ((as57_54 a2).2) = true then (if a1 = 5 then (lattice_Flows.f a0.l_ ((as57_54 a2).1) ((as57_54 a3).1) >>= fun y11 => some ((⟨a0.l_, a0.labels_, a0.pile_⟩ : judge_judge), If57.c63 y11.1)) else (if a1 = 12 then (lattice_Join.f a0.l_ ((as57_54 a2).1) ((as57_54 a3).1) >>= fun y13 => some ((⟨a0.l_, a0.labels_, a0.pile_⟩ : judge_judge), If57.c54 y13.1)) else (lattice_Meet.f a0.l_ ((as57_54 a2).1) ((as57_54 a3).1) >>= fun y14 => some ((⟨a0.l_, a0.labels_, a0.pile_⟩ : judge_judge), If57.c54 y14.1)))) else (some ((⟨a0.l_, a0.labels_, a0.pile_⟩ : judge_judge), a2)))
def judge_judge_comes.l0 (a1 : List Int) (v225 : api_Lattice) (v226 : List Int) (v227 : List If57) (v228 : Int) : Option (api_Lattice × (List Int) × (List If57)) :=
  if v228 < (a1.length : Int) then (((lAt a1 v228 >>= fun y290 => ((if y290 = 1 then (judge_judge_put.f (⟨v225, v226, v227⟩ : judge_judge) (If57.c63 (decide (y290 = 1))) >>= fun y320 => some (y320.l_, y320.labels_, y320.pile_)) else (if y290 = 2 then (judge_judge_put.f (⟨v225, v226, v227⟩ : judge_judge) (If57.c63 (decide (y290 = 1))) >>= fun y322 => some (y322.l_, y322.labels_, y322.pile_)) else (if y290 = 6 then (lattice_Bottom.f v225 >>= fun y324 => judge_judge_put.f (⟨v225, v226, v227⟩ : judge_judge) (If57.c54 y324.1) >>= fun y325 => some (y325.l_, y325.labels_, y325.pile_)) else (if y290 = 7 then (lattice_Top.f v225 >>= fun y327 => judge_judge_put.f (⟨v225, v226, v227⟩ : judge_judge) (If57.c54 y327.1) >>= fun y328 => some (y328.l_, y328.labels_, y328.pile_)) else (if y290 = 8 then (lAt v226 (IntKind.i64.wrap (y290 - 8)) >>= fun y330 => judge_judge_put.f (⟨v225, v226, v227⟩ : judge_judge) (If57.c54 y330) >>= fun y331 => some (y331.l_, y331.labels_, y331.pile_)) else (if y290 = 9 then (lAt v226 (IntKind.i64.wrap (y290 - 8)) >>= fun y333 => judge_judge_put.f (⟨v225, v226, v227⟩ : judge_judge) (If57.c54 y333) >>= fun y334 => some (y334.l_, y334.labels_, y334.pile_)) else (if y290 = 10 then (lAt v226 (IntKind.i64.wrap (y290 - 8)) >>= fun y336 => judge_judge_put.f (⟨v225, v226, v227⟩ : judge_judge) (If57.c54 y336) >>= fun y337 => some (y337.l_, y337.labels_, y337.pile_)) else (if y290 = 11 then (lAt v226 (IntKind.i64.wrap (y290 - 8)) >>= fun y339 => judge_judge_put.f (⟨v225, v226, v227⟩ : judge_judge) (If57.c54 y339) >>= fun y340 => some (y340.l_, y340.labels_, y340.pile_)) else (judge_judge_two.f (⟨v225, v226, v227⟩ : judge_judge) >>= fun y341 => judge_judge_both.f (⟨y341.1.l_, y341.1.labels_, y341.1.pile_⟩ : judge_judge) y290 y341.2.1 y341.2.2 >>= fun y342 => judge_judge_put.f (⟨y342.1.l_, y342.1.labels_, y342.1.pile_⟩ : judge_judge) y342.2 >>= fun y343 => some (y343.l_, y343.labels_, y343.pile_))))))))) : Option (api_Lattice × (List Int) × (List If57))) >>= fun o => match o with | (x316, x317, x318) => some (x316, x317, x318)) : Option (api_Lattice × (List Int) × (List If57))) >>= fun o => match o with | (x287, x288, x289) => judge_judge_comes.l0 a1 x287 x288 x289 (IntKind.i64.wrap (v228 + 1)))) else (some (v225, v226, v227))
partial_fixpoint
def judge_judge_comes.f (a0 : judge_judge) (a1 : List Int) : Option (judge_judge × If57) :=
  (judge_judge_comes.l0 a1 a0.l_ a0.labels_ a0.pile_ 0 >>= fun o => match o with | (x229, x230, x231) => lAt x231 0 >>= fun y344 => some ((⟨x229, x230, x231⟩ : judge_judge), y344))
def judge_Label.f (a0 : api_Lattice) (a1 : List Int) (a2 : List Int) : Option (Int × Int) :=
  judge_may.f a0 a1 a2 true >>= fun y1 => if y1 = 0 then (judge_judge_comes.f (⟨(⟨a0, a2, []⟩ : judge_judge).l_, (⟨a0, a2, []⟩ : judge_judge).labels_, ([] : List If57)⟩ : judge_judge) a1 >>= fun y3 => some ((as57_54 y3.2).1, 0)) else (some (0, y1))
def judge_Cond.f (a0 : api_Lattice) (a1 : List Int) (a2 : List Int) : Option (Bool × Int) :=
  judge_may.f a0 a1 a2 false >>= fun y1 => if y1 = 0 then (judge_judge_comes.f (⟨(⟨a0, a2, []⟩ : judge_judge).l_, (⟨a0, a2, []⟩ : judge_judge).labels_, ([] : List If57)⟩ : judge_judge) a1 >>= fun y3 => some ((as57_63 y3.2).1, 0)) else (some (false, y1))
def reticentlaw24_MutantBelow.l0 (a0 : api_Lattice) (v13 : Int) : Option (Bool ⊕ Unit) :=
  if v13 < ((lCut a0.Names 0 (if 10 < (a0.Names.length : Int) then 10 else (a0.Names.length : Int))).length : Int) then (lAt (lCut a0.Names 0 (if 10 < (a0.Names.length : Int) then 10 else (a0.Names.length : Int))) v13 >>= fun y15 => if (y15.length : Int) > 20 then (reticentlaw24_alive.f >>= fun y17 => some (.inl y17)) else (reticentlaw24_MutantBelow.l0 a0 (IntKind.i64.wrap (v13 + 1)))) else (some (.inr ()))
partial_fixpoint
def reticentlaw24_MutantBelow.l1 (a0 : api_Lattice) (a1 : List Int) (a2 : List Int) (y18 : (List (List Int)) × Int) (y20 : Bool) (y21 : Int × Int) (y22 : Bool × Int) (v173 : Int) : Option (Bool ⊕ Unit) :=
  if v173 < (y18.1.length : Int) then (((lAt y18.1 v173 >>= fun y212 => ((rule_Right.f y212 y20 >>= fun y219 => if (!y219) = true then (some true) else (rule_Right.f y212 (!y20) >>= fun y221 => if y221 = true then (some true) else (reticentref04_Same.f y212 (lCut a1 0 (if 45 < (a1.length : Int) then 45 else (a1.length : Int))) >>= fun y223 => some y223)) : Option Bool) >>= fun x218 => if x218 = true then (some (.inl false)) else (judge_Label.f (⟨lCut a0.Names 0 (if 10 < (a0.Names.length : Int) then 10 else (a0.Names.length : Int)), lCut a0.Up 0 (if 10 < (a0.Up.length : Int) then 10 else (a0.Up.length : Int))⟩ : api_Lattice) y212 (lCut a2 0 (if 6 < (a2.length : Int) then 6 else (a2.length : Int))) >>= fun y225 => judge_Cond.f (⟨lCut a0.Names 0 (if 10 < (a0.Names.length : Int) then 10 else (a0.Names.length : Int)), lCut a0.Up 0 (if 10 < (a0.Up.length : Int) then 10 else (a0.Up.length : Int))⟩ : api_Lattice) y212 (lCut a2 0 (if 6 < (a2.length : Int) then 6 else (a2.length : Int))) >>= fun y226 => ((if y225.2 = y21.2 then (some (!decide (y226.2 = y22.2))) else (some true) : Option Bool) >>= fun x228 => if x228 = true then (some (.inl false)) else (if y21.2 = 0 then (lattice_Flows.f (⟨lCut a0.Names 0 (if 10 < (a0.Names.length : Int) then 10 else (a0.Names.length : Int)), lCut a0.Up 0 (if 10 < (a0.Up.length : Int) then 10 else (a0.Up.length : Int))⟩ : api_Lattice) y225.1 y21.1 >>= fun y232 => ((if y232.2 = 0 then (some (!y232.1)) else (some true) : Option Bool) >>= fun x234 => if x234 = true then (some (.inl false)) else (((if y22.2 = 0 then (if y22.1 = true then (some (!y226.1)) else (some false)) else (some false) : Option Bool) >>= fun x239 => if x239 = true then (some (.inl false)) else (some (.inr ())))))) else (((if y22.2 = 0 then (if y22.1 = true then (some (!y226.1)) else (some false)) else (some false) : Option Bool) >>= fun x245 => if x245 = true then (some (.inl false)) else (some (.inr ())))))))) : Option (Bool ⊕ Unit)) >>= fun o => match o with | .inl r => some (.inl r) | .inr () => reticentlaw24_MutantBelow.l1 a0 a1 a2 y18 y20 y21 y22 (IntKind.i64.wrap (v173 + 1)))) else (some (.inr ()))
partial_fixpoint
def reticentlaw24_MutantBelow.f (a0 : api_Lattice) (a1 : List Int) (a2 : List Int) : Option Bool :=
  if (0 : Int) ≤ (if 10 < (a0.Names.length : Int) then 10 else (a0.Names.length : Int)) ∧ (if 10 < (a0.Names.length : Int) then 10 else (a0.Names.length : Int)) ≤ (a0.Names.length : Int) then (if (0 : Int) ≤ (if 10 < (a0.Up.length : Int) then 10 else (a0.Up.length : Int)) ∧ (if 10 < (a0.Up.length : Int) then 10 else (a0.Up.length : Int)) ≤ (a0.Up.length : Int) then (if (0 : Int) ≤ (if 45 < (a1.length : Int) then 45 else (a1.length : Int)) ∧ (if 45 < (a1.length : Int) then 45 else (a1.length : Int)) ≤ (a1.length : Int) then (if (0 : Int) ≤ (if 6 < (a2.length : Int) then 6 else (a2.length : Int)) ∧ (if 6 < (a2.length : Int) then 6 else (a2.length : Int)) ≤ (a2.length : Int) then ((reticentlaw24_MutantBelow.l0 a0 0 >>= fun o => match o with | .inl r => some r | .inr () => mutant_Weaker.f (lCut a1 0 (if 45 < (a1.length : Int) then 45 else (a1.length : Int))) >>= fun y18 => if y18.2 = 0 then (rule_Right.f (lCut a1 0 (if 45 < (a1.length : Int) then 45 else (a1.length : Int))) true >>= fun y20 => judge_Label.f (⟨lCut a0.Names 0 (if 10 < (a0.Names.length : Int) then 10 else (a0.Names.length : Int)), lCut a0.Up 0 (if 10 < (a0.Up.length : Int) then 10 else (a0.Up.length : Int))⟩ : api_Lattice) (lCut a1 0 (if 45 < (a1.length : Int) then 45 else (a1.length : Int))) (lCut a2 0 (if 6 < (a2.length : Int) then 6 else (a2.length : Int))) >>= fun y21 => judge_Cond.f (⟨lCut a0.Names 0 (if 10 < (a0.Names.length : Int) then 10 else (a0.Names.length : Int)), lCut a0.Up 0 (if 10 < (a0.Up.length : Int) then 10 else (a0.Up.length : Int))⟩ : api_Lattice) (lCut a1 0 (if 45 < (a1.length : Int) then 45 else (a1.length : Int))) (lCut a2 0 (if 6 < (a2.length : Int) then 6 else (a2.length : Int))) >>= fun y22 => (reticentlaw24_MutantBelow.l1 a0 a1 a2 y18 y20 y21 y22 0 >>= fun o => match o with | .inl r => some r | .inr () => reticentlaw24_alive.f >>= fun y249 => some y249)) else (((reticentlaw24_alive.f >>= fun y253 => if y253 = true then (some (decide ((y18.1.length : Int) = 0))) else (some false) : Option Bool) >>= fun x252 => some x252)))) else none) else none) else none) else none

end Go.Proofs.Ytjkijjhjffodcaa.LG
