import Derived.Test.YtkmobcaobmchpaaDoorAb29
set_option linter.unusedVariables false
namespace Go.Proofs.YtkmobcaobmchpaaDoor.MD
open Go Go.Proofs.YtkmobcaobmchpaaDoor.Ab

structure api_Row where
  May : List Int
  Res : List Int
  Pc : List Int
structure api_Table where
  Rows : List api_Row
structure mutant_spot where
  op_ : Int
  which_ : Int
  n_ : Int
def f_api_Row : List (Fld api_Row) := [⟨(kL (kI .i64)), api_Row.May⟩, ⟨(kL (kI .i64)), api_Row.Res⟩, ⟨(kL (kI .i64)), api_Row.Pc⟩]
def f_api_Table : List (Fld api_Table) := [⟨(kL (kR f_api_Row)), api_Table.Rows⟩]
def f_mutant_spot : List (Fld mutant_spot) := [⟨(kI .i64), mutant_spot.op_⟩, ⟨(kI .i64), mutant_spot.which_⟩, ⟨(kI .i64), mutant_spot.n_⟩]
def reticentlaw24_few.l0 (a0 : api_Table) (v14 : List api_Row) (v15 : Int) : Option (List api_Row) :=
  if v15 < ((lCut a0.Rows 0 (if 15 < (a0.Rows.length : Int) then 15 else (a0.Rows.length : Int))).length : Int) then (lAt (lCut a0.Rows 0 (if 15 < (a0.Rows.length : Int) then 15 else (a0.Rows.length : Int))) v15 >>= fun y18 => if (0 : Int) ≤ (if 45 < (y18.May.length : Int) then 45 else (y18.May.length : Int)) ∧ (if 45 < (y18.May.length : Int) then 45 else (y18.May.length : Int)) ≤ (y18.May.length : Int) then (if (0 : Int) ≤ (if 45 < (y18.Res.length : Int) then 45 else (y18.Res.length : Int)) ∧ (if 45 < (y18.Res.length : Int) then 45 else (y18.Res.length : Int)) ≤ (y18.Res.length : Int) then (if (0 : Int) ≤ (if 45 < (y18.Pc.length : Int) then 45 else (y18.Pc.length : Int)) ∧ (if 45 < (y18.Pc.length : Int) then 45 else (y18.Pc.length : Int)) ≤ (y18.Pc.length : Int) then (if (v14.length + ([(⟨lCut y18.May 0 (if 45 < (y18.May.length : Int) then 45 else (y18.May.length : Int)), lCut y18.Res 0 (if 45 < (y18.Res.length : Int) then 45 else (y18.Res.length : Int)), lCut y18.Pc 0 (if 45 < (y18.Pc.length : Int) then 45 else (y18.Pc.length : Int))⟩ : api_Row)] : List api_Row).length) * 72 ≤ big then (reticentlaw24_few.l0 a0 (v14 ++ ([(⟨lCut y18.May 0 (if 45 < (y18.May.length : Int) then 45 else (y18.May.length : Int)), lCut y18.Res 0 (if 45 < (y18.Res.length : Int) then 45 else (y18.Res.length : Int)), lCut y18.Pc 0 (if 45 < (y18.Pc.length : Int) then 45 else (y18.Pc.length : Int))⟩ : api_Row)] : List api_Row)) (IntKind.i64.wrap (v15 + 1))) else none) else none) else none) else none) else (some v14)
partial_fixpoint
def reticentlaw24_few.f (a0 : api_Table) : Option api_Table :=
  if (0 : Int) ≤ (if 15 < (a0.Rows.length : Int) then 15 else (a0.Rows.length : Int)) ∧ (if 15 < (a0.Rows.length : Int) then 15 else (a0.Rows.length : Int)) ≤ (a0.Rows.length : Int) then ((reticentlaw24_few.l0 a0 ([] : List api_Row) 0 >>= fun x16 => some (⟨x16⟩ : api_Table))) else none
def rule_made_1.f (a0 : Bool) (a1 : List Bool) : Option ((List Bool) × Bool) :=
  ((if IntKind.i64.wrap ((a1.length : Int) - 1) < 1 then (some true) else (lAt a1 (IntKind.i64.wrap ((a1.length : Int) - 1)) >>= fun y7 => if y7 = a0 then (lAt a1 (IntKind.i64.wrap ((IntKind.i64.wrap ((a1.length : Int) - 1)) - 1)) >>= fun y9 => some (!decide (y9 = a0))) else (some true)) : Option Bool) >>= fun x5 => if x5 = true then (some (a1, false)) else (if (0 : Int) ≤ IntKind.i64.wrap ((IntKind.i64.wrap ((a1.length : Int) - 1)) - 1) ∧ IntKind.i64.wrap ((IntKind.i64.wrap ((a1.length : Int) - 1)) - 1) ≤ (a1.length : Int) then (some (a1.take (IntKind.i64.wrap ((IntKind.i64.wrap ((a1.length : Int) - 1)) - 1)).toNat, true)) else none))
def rule_made.l0 (a0 : List Int) (v269 : List Bool) (v270 : Int) : Option ((Bool × Bool) ⊕ (List Bool)) :=
  if v270 < (a0.length : Int) then (((lAt a0 v270 >>= fun y340 => ((if y340 = 1 then (if (v269.length + ([false] : List Bool).length) * 1 ≤ big then (some (v269 ++ ([false] : List Bool), true)) else none) else (if y340 = 2 then (if (v269.length + ([false] : List Bool).length) * 1 ≤ big then (some (v269 ++ ([false] : List Bool), true)) else none) else (if y340 = 6 then (if (v269.length + ([true] : List Bool).length) * 1 ≤ big then (some (v269 ++ ([true] : List Bool), true)) else none) else (if y340 = 7 then (if (v269.length + ([true] : List Bool).length) * 1 ≤ big then (some (v269 ++ ([true] : List Bool), true)) else none) else (if y340 = 8 then (if (v269.length + ([true] : List Bool).length) * 1 ≤ big then (some (v269 ++ ([true] : List Bool), true)) else none) else (if y340 = 9 then (if (v269.length + ([true] : List Bool).length) * 1 ≤ big then (some (v269 ++ ([true] : List Bool), true)) else none) else (if y340 = 10 then (if (v269.length + ([true] : List Bool).length) * 1 ≤ big then (some (v269 ++ ([true] : List Bool), true)) else none) else (if y340 = 11 then (if (v269.length + ([true] : List Bool).length) * 1 ≤ big then (some (v269 ++ ([true] : List Bool), true)) else none) else (if y340 = 3 then (rule_made_1.f false v269 >>= fun y391 => if (y391.1.length + ([false] : List Bool).length) * 1 ≤ big then (some (y391.1 ++ ([false] : List Bool), y391.2)) else none) else (if y340 = 4 then (rule_made_1.f false v269 >>= fun y394 => if (y394.1.length + ([false] : List Bool).length) * 1 ≤ big then (some (y394.1 ++ ([false] : List Bool), y394.2)) else none) else (if y340 = 5 then (rule_made_1.f true v269 >>= fun y397 => if (y397.1.length + ([false] : List Bool).length) * 1 ≤ big then (some (y397.1 ++ ([false] : List Bool), y397.2)) else none) else (if y340 = 12 then (rule_made_1.f true v269 >>= fun y400 => if (y400.1.length + ([true] : List Bool).length) * 1 ≤ big then (some (y400.1 ++ ([true] : List Bool), y400.2)) else none) else (if y340 = 13 then (rule_made_1.f true v269 >>= fun y403 => if (y403.1.length + ([true] : List Bool).length) * 1 ≤ big then (some (y403.1 ++ ([true] : List Bool), y403.2)) else none) else (some (v269, false)))))))))))))) : Option ((List Bool) × Bool)) >>= fun o => match o with | (x372, x373) => if (!x373) = true then (some (.inl (false, false))) else (some (.inr x372))) : Option ((Bool × Bool) ⊕ (List Bool))) >>= fun o => match o with | .inl r => some (.inl r) | .inr x339 => rule_made.l0 a0 x339 (IntKind.i64.wrap (v270 + 1)))) else (some (.inr v269))
partial_fixpoint
def rule_made.f (a0 : List Int) : Option (Bool × Bool) :=
  (rule_made.l0 a0 ([] : List Bool) 0 >>= fun o => match o with | .inl r => some r | .inr x271 => ((if (x271.length : Int) = 1 then (some (decide ((a0.length : Int) > 40))) else (some true) : Option Bool) >>= fun x407 => if x407 = true then (some (false, false)) else (lAt x271 0 >>= fun y410 => some (y410, true))))
def rule_Right.f (a0 : List Int) (a1 : Bool) : Option Bool :=
  rule_made.f a0 >>= fun y1 => ((if y1.2 = true then (some (decide (y1.1 = a1))) else (some false) : Option Bool) >>= fun x3 => some x3)
def table_right.f (a0 : api_Row) : Option Bool :=
  ((rule_Right.f a0.May false >>= fun y7 => if y7 = true then (rule_Right.f a0.Res true >>= fun y9 => if y9 = true then (rule_Right.f a0.Pc true >>= fun y11 => some y11) else (some false)) else (some false) : Option Bool) >>= fun x6 => some x6)
def rule_Uses.l0 (a0 : List Int) (v31 : Int) (v32 : Int) : Option Int :=
  if v31 < (a0.length : Int) then (((lAt a0 v31 >>= fun y42 => ((if y42 ≥ 8 then (some (decide (y42 ≤ 11))) else (some false) : Option Bool) >>= fun x44 => if x44 = true then (if ¬ IntKind.i64.wrap (y42 - 8) < 0 then (some (bOr .u32 v32 (bShl .u32 1 (IntKind.i64.wrap (y42 - 8))))) else none) else (some v32)) : Option Int) >>= fun x41 => rule_Uses.l0 a0 (IntKind.i64.wrap (v31 + 1)) x41)) else (some v32)
partial_fixpoint
def rule_Uses.f (a0 : List Int) : Option (Int × Int) :=
  rule_made.f a0 >>= fun y1 => if (!y1.2) = true then (some (0, 1)) else ((rule_Uses.l0 a0 0 0 >>= fun x33 => some (x33, 0)))
def table_has.f (a0 : Int) (a1 : List Int) : Option Bool :=
  rule_Uses.f a1 >>= fun y1 => ((if y1.2 = 0 then (lAt gl1 a0 >>= fun y7 => if ¬ IntKind.i64.wrap (y7 + 1) < 0 then (some (decide (bShr .u32 y1.1 (IntKind.i64.wrap (y7 + 1)) = 0))) else none) else (some false) : Option Bool) >>= fun x5 => some x5)
def table_suits.f (a0 : Int) (a1 : api_Row) : Option Bool :=
  ((table_has.f a0 a1.May >>= fun y7 => if y7 = true then (table_has.f a0 a1.Res >>= fun y9 => if y9 = true then (table_has.f a0 a1.Pc >>= fun y11 => some y11) else (some false)) else (some false) : Option Bool) >>= fun x6 => some x6)
def table_Check.l0 (a0 : api_Table) (v14 : Int) : Option ((Int × Int) ⊕ Unit) :=
  if v14 < (a0.Rows.length : Int) then (lAt a0.Rows v14 >>= fun y16 => table_right.f y16 >>= fun y17 => if (!y17) = true then (some (.inl (v14, 1))) else (table_suits.f v14 y16 >>= fun y19 => if (!y19) = true then (some (.inl (v14, 7))) else (table_Check.l0 a0 (IntKind.i64.wrap (v14 + 1))))) else (some (.inr ()))
partial_fixpoint
def table_Check.f (a0 : api_Table) : Option (Int × Int) :=
  if (a0.Rows.length : Int) = 13 then ((table_Check.l0 a0 0 >>= fun o => match o with | .inl r => some r | .inr () => some (0, 0))) else (some (0, 1))
def mutant_rules.f (a0 : api_Row) : Option (List (List Int)) :=
  some ([a0.May, a0.Res, a0.Pc] : List (List Int))
def slices_Equal_int_int.l0 (a0 : List Int) (a1 : List Int) (v10 : Int) : Option (Bool ⊕ Unit) :=
  if v10 < (a0.length : Int) then (lAt a0 v10 >>= fun y12 => lAt a1 v10 >>= fun y13 => if y12 = y13 then (slices_Equal_int_int.l0 a0 a1 (IntKind.i64.wrap (v10 + 1))) else (some (.inl false))) else (some (.inr ()))
partial_fixpoint
def slices_Equal_int_int.f (a0 : List Int) (a1 : List Int) : Option Bool :=
  if (a0.length : Int) = (a1.length : Int) then ((slices_Equal_int_int.l0 a0 a1 0 >>= fun o => match o with | .inl r => some r | .inr () => some true)) else (some false)
def mutant_start.l0 (a0 : List Int) (v55 : Int) (v56 : Int) : Option Int :=
  ((lAt a0 v56 >>= fun y71 => ((if y71 = 3 then (some (IntKind.i64.wrap ((IntKind.i64.wrap (v55 - 1)) + 2))) else (if y71 = 4 then (some (IntKind.i64.wrap ((IntKind.i64.wrap (v55 - 1)) + 2))) else (if y71 = 5 then (some (IntKind.i64.wrap ((IntKind.i64.wrap (v55 - 1)) + 2))) else (if y71 = 12 then (some (IntKind.i64.wrap ((IntKind.i64.wrap (v55 - 1)) + 2))) else (if y71 = 13 then (some (IntKind.i64.wrap ((IntKind.i64.wrap (v55 - 1)) + 2))) else (some (IntKind.i64.wrap (v55 - 1))))))) : Option Int) >>= fun x77 => if x77 = 0 then (some (.inl v56)) else (some (.inr x77))) : Option (Int ⊕ Int)) >>= fun o => match o with | .inl r => some r | .inr x70 => mutant_start.l0 a0 x70 (IntKind.i64.wrap (v56 - 1)))
partial_fixpoint
def mutant_start.f (a0 : List Int) (a1 : Int) : Option Int :=
  (mutant_start.l0 a0 1 a1 >>= fun r => some r)
def slices_Grow_int_int_nil.f (a1 : Int) : Option (List Int) :=
  if a1 < 0 then (none) else (if IntKind.i64.wrap (a1 - (IntKind.i64.wrap (0 - (([] : List Int).length : Int)))) > 0 then (if 0 < IntKind.i64.wrap (a1 - (IntKind.i64.wrap (0 - (([] : List Int).length : Int)))) ∧ (IntKind.i64.wrap (a1 - (IntKind.i64.wrap (0 - (([] : List Int).length : Int))))).toNat * 8 ≤ big then (if (0 : Int) ≤ (([] : List Int).length : Int) ∧ (([] : List Int).length : Int) ≤ ((List.replicate (IntKind.i64.wrap (a1 - (IntKind.i64.wrap (0 - (([] : List Int).length : Int))))).toNat (0 : Int)).length : Int) then (some ((List.replicate (IntKind.i64.wrap (a1 - (IntKind.i64.wrap (0 - (([] : List Int).length : Int))))).toNat (0 : Int)).take (([] : List Int).length : Int).toNat)) else none) else none) else (some ([] : List Int)))
def slices_Concat_int_int.l0 (a0 : List (List Int)) (v13 : Int) (v14 : Int) : Option Int :=
  if v13 < (a0.length : Int) then (((lAt a0 v13 >>= fun y20 => if IntKind.i64.wrap (v14 + (y20.length : Int)) < 0 then (none) else (some (IntKind.i64.wrap (v14 + (y20.length : Int)))) : Option Int) >>= fun x19 => slices_Concat_int_int.l0 a0 (IntKind.i64.wrap (v13 + 1)) x19)) else (some v14)
partial_fixpoint
def slices_Concat_int_int.l1 (a0 : List (List Int)) (v29 : List Int) (v30 : Int) : Option (List Int) :=
  if v30 < (a0.length : Int) then (lAt a0 v30 >>= fun y33 => if (v29.length + y33.length) * 8 ≤ big then (slices_Concat_int_int.l1 a0 (v29 ++ y33) (IntKind.i64.wrap (v30 + 1))) else none) else (some v29)
partial_fixpoint
def slices_Concat_int_int.f (a0 : List (List Int)) : Option (List Int) :=
  (slices_Concat_int_int.l0 a0 0 0 >>= fun x15 => slices_Grow_int_int_nil.f x15 >>= fun y22 => (slices_Concat_int_int.l1 a0 y22 0 >>= fun x31 => some x31))
def mutant_less.f (a0 : List Int) (a1 : Int) : Option (List (List Int)) :=
  mutant_start.f a0 (IntKind.i64.wrap (a1 - 1)) >>= fun y1 => mutant_start.f a0 (IntKind.i64.wrap (y1 - 1)) >>= fun y2 => if (0 : Int) ≤ y1 ∧ y1 ≤ (a0.length : Int) then (if (0 : Int) ≤ IntKind.i64.wrap (a1 + 1) ∧ IntKind.i64.wrap (a1 + 1) ≤ (a0.length : Int) then (slices_Concat_int_int.f ([lCut a0 0 y1, lCut a0 (IntKind.i64.wrap (a1 + 1)) (a0.length : Int)] : List (List Int)) >>= fun y5 => if (0 : Int) ≤ y2 ∧ y2 ≤ (a0.length : Int) then (if (0 : Int) ≤ y1 ∧ y1 ≤ a1 ∧ a1 ≤ (a0.length : Int) then (if (0 : Int) ≤ IntKind.i64.wrap (a1 + 1) ∧ IntKind.i64.wrap (a1 + 1) ≤ (a0.length : Int) then (slices_Concat_int_int.f ([lCut a0 0 y2, lCut a0 y1 a1, lCut a0 (IntKind.i64.wrap (a1 + 1)) (a0.length : Int)] : List (List Int)) >>= fun y9 => some ([y5, y9] : List (List Int))) else none) else none) else none) else none) else none
def mutant_weaker.l0 (a0 : List Int) (v26 : List (List Int)) (v27 : Int) : Option (List (List Int)) :=
  if v27 < (a0.length : Int) then (((lAt a0 v27 >>= fun y35 => if y35 = 12 then (mutant_less.f a0 v27 >>= fun y37 => if (v26.length + y37.length) * 24 ≤ big then (some (v26 ++ y37)) else none) else (some v26) : Option (List (List Int))) >>= fun x34 => mutant_weaker.l0 a0 x34 (IntKind.i64.wrap (v27 + 1)))) else (some v26)
partial_fixpoint
def mutant_weaker.l1 (a0 : List Int) (v59 : List (List Int)) (v60 : Int) : Option (List (List Int)) :=
  if v60 < (a0.length : Int) then (((lAt a0 v60 >>= fun y68 => if y68 = 12 then (mutant_less.f a0 v60 >>= fun y70 => if (v59.length + y70.length) * 24 ≤ big then (some (v59 ++ y70)) else none) else (some v59) : Option (List (List Int))) >>= fun x67 => mutant_weaker.l1 a0 x67 (IntKind.i64.wrap (v60 + 1)))) else (some v59)
partial_fixpoint
def mutant_weaker.l2 (a0 : List Int) (v95 : List (List Int)) (v96 : Int) : Option (List (List Int)) :=
  if v96 < (a0.length : Int) then (((lAt a0 v96 >>= fun y104 => if y104 = 3 then (mutant_less.f a0 v96 >>= fun y106 => if (v95.length + y106.length) * 24 ≤ big then (some (v95 ++ y106)) else none) else (some v95) : Option (List (List Int))) >>= fun x103 => mutant_weaker.l2 a0 x103 (IntKind.i64.wrap (v96 + 1)))) else (some v95)
partial_fixpoint
def mutant_weaker.l3 (a0 : List Int) (v128 : List (List Int)) (v129 : Int) : Option (List (List Int)) :=
  if v129 < (a0.length : Int) then (((lAt a0 v129 >>= fun y137 => if y137 = 3 then (mutant_less.f a0 v129 >>= fun y139 => if (v128.length + y139.length) * 24 ≤ big then (some (v128 ++ y139)) else none) else (some v128) : Option (List (List Int))) >>= fun x136 => mutant_weaker.l3 a0 x136 (IntKind.i64.wrap (v129 + 1)))) else (some v128)
partial_fixpoint
def mutant_weaker.f (a0 : List Int) : Option (List (List Int)) :=
  rule_Right.f a0 true >>= fun y1 => if y1 = true then (slices_Equal_int_int.f a0 ([6] : List Int) >>= fun y3 => if (!y3) = true then (if (([] : List (List Int)).length + ([([6] : List Int)] : List (List Int)).length) * 24 ≤ big then ((mutant_weaker.l0 a0 (([] : List (List Int)) ++ ([([6] : List Int)] : List (List Int))) 0 >>= fun x28 => some x28)) else none) else ((mutant_weaker.l1 a0 ([] : List (List Int)) 0 >>= fun x61 => some x61))) else (slices_Equal_int_int.f a0 ([1] : List Int) >>= fun y72 => if (!y72) = true then (if (([] : List (List Int)).length + ([([1] : List Int)] : List (List Int)).length) * 24 ≤ big then ((mutant_weaker.l2 a0 (([] : List (List Int)) ++ ([([1] : List Int)] : List (List Int))) 0 >>= fun x97 => some x97)) else none) else ((mutant_weaker.l3 a0 ([] : List (List Int)) 0 >>= fun x130 => some x130)))
def mutant_spots_1.l12 {σ : Type} (a_y : σ → mutant_spot → (List Int) → Option (Bool × σ)) (v122 : Int) (v164 : Int) (y168 : List (List Int)) (v177 : σ) (v178 : Int) : Option (σ ⊕ σ) :=
  if v178 < (y168.length : Int) then (lAt y168 v178 >>= fun y181 => a_y v177 (⟨v122, v164, v178⟩ : mutant_spot) y181 >>= fun y182 => if (!y182.1) = true then (some (.inl y182.2)) else (mutant_spots_1.l12 a_y v122 v164 y168 y182.2 (IntKind.i64.wrap (v178 + 1)))) else (some (.inr v177))
partial_fixpoint
def mutant_spots_1.l11 {σ : Type} (a_y : σ → mutant_spot → (List Int) → Option (Bool × σ)) (v122 : Int) (y126 : List (List Int)) (v163 : σ) (v164 : Int) : Option (σ ⊕ σ) :=
  if v164 < (y126.length : Int) then (lAt y126 v164 >>= fun y167 => mutant_weaker.f y167 >>= fun y168 => (mutant_spots_1.l12 a_y v122 v164 y168 v163 0 >>= fun o => match o with | .inl r => some (.inl r) | .inr x179 => mutant_spots_1.l11 a_y v122 y126 x179 (IntKind.i64.wrap (v164 + 1)))) else (some (.inr v163))
partial_fixpoint
def mutant_spots_1.l8 {σ : Type} (a_y : σ → mutant_spot → (List Int) → Option (Bool × σ)) (a1 : api_Table) (v121 : σ) (v122 : Int) : Option (σ ⊕ σ) :=
  if v122 < (a1.Rows.length : Int) then (lAt a1.Rows v122 >>= fun y125 => mutant_rules.f y125 >>= fun y126 => (mutant_spots_1.l11 a_y v122 y126 v121 0 >>= fun o => match o with | .inl r => some (.inl r) | .inr x165 => mutant_spots_1.l8 a_y a1 x165 (IntKind.i64.wrap (v122 + 1)))) else (some (.inr v121))
partial_fixpoint
def mutant_spots_1.f {σ : Type} (a_y : σ → mutant_spot → (List Int) → Option (Bool × σ)) (a_s : σ) (a1 : api_Table) : Option σ :=
  (mutant_spots_1.l8 a_y a1 a_s 0 >>= fun o => match o with | .inl r => some r | .inr x123 => some x123)
def mutant_spots.f (a0 : api_Table) : Option api_Table :=
  some a0
def slices_Clone_api_Row_api_Row_nn.f (a0 : List api_Row) : Option (List api_Row) :=
  if (([] : List api_Row).length + a0.length) * 72 ≤ big then (some (([] : List api_Row) ++ a0)) else none
def mutant_All.y0 (a0 : api_Table) (v38 : (List api_Table)) (v39 : mutant_spot) (v40 : List Int) : Option (Bool × (((List api_Table)) × Nat)) :=
  ((slices_Clone_api_Row_api_Row_nn.f a0.Rows >>= fun y50 => lAt y50 v39.op_ >>= fun y51 => ((if v39.which_ = 0 then (some (y50.set v39.op_.toNat (⟨v40, y51.Res, y51.Pc⟩ : api_Row))) else (if v39.which_ = 1 then (some (y50.set v39.op_.toNat (⟨y51.May, v40, y51.Pc⟩ : api_Row))) else (some (y50.set v39.op_.toNat (⟨y51.May, y51.Res, v40⟩ : api_Row)))) : Option (List api_Row)) >>= fun x54 => if (v38.length + ([(⟨x54⟩ : api_Table)] : List api_Table).length) * 24 ≤ big then (some (v38 ++ ([(⟨x54⟩ : api_Table)] : List api_Table))) else none) : Option (List api_Table)) >>= fun x49 => some (true, (x49, 0)))
def mutant_All.f (a0 : api_Table) : Option ((List api_Table) × Int) :=
  table_Check.f a0 >>= fun y1 => if y1.2 = 0 then (mutant_spots.f a0 >>= fun y3 => (mutant_spots_1.f (yOf (mutant_All.y0 a0)) (([] : List api_Table), 0) y3 >>= fun y58 => if y58.2 = 0 then (some (y58.1, 0)) else none)) else (some (([] : List api_Table), y1.2))
def mutant_Weaker.f (a0 : List Int) : Option ((List (List Int)) × Int) :=
  ((rule_Right.f a0 false >>= fun y5 => if (!y5) = true then (rule_Right.f a0 true >>= fun y7 => some (!y7)) else (some false) : Option Bool) >>= fun x4 => if x4 = true then (some (([] : List (List Int)), 1)) else (mutant_weaker.f a0 >>= fun y9 => some (y9, 0)))
def reticentref04_Same.l0 (a0 : List Int) (a1 : List Int) (v10 : Int) : Option (Bool ⊕ Unit) :=
  if v10 < (a0.length : Int) then (lAt a0 v10 >>= fun y12 => lAt a1 v10 >>= fun y13 => if y12 = y13 then (reticentref04_Same.l0 a0 a1 (IntKind.i64.wrap (v10 + 1))) else (some (.inl false))) else (some (.inr ()))
partial_fixpoint
def reticentref04_Same.f (a0 : List Int) (a1 : List Int) : Option Bool :=
  if (a0.length : Int) = (a1.length : Int) then ((reticentref04_Same.l0 a0 a1 0 >>= fun o => match o with | .inl r => some r | .inr () => some true)) else (some false)
def reticentlaw24_alive.f : Option Bool :=
  mutant_Weaker.f ([9, 10, 12] : List Int) >>= fun y1 => ((if y1.2 = 0 then (if (y1.1.length : Int) = 3 then (lAt y1.1 0 >>= fun y15 => reticentref04_Same.f y15 ([6] : List Int) >>= fun y16 => if y16 = true then (lAt y1.1 1 >>= fun y18 => reticentref04_Same.f y18 ([9] : List Int) >>= fun y19 => if y19 = true then (lAt y1.1 2 >>= fun y21 => reticentref04_Same.f y21 ([10] : List Int) >>= fun y22 => some y22) else (some false)) else (some false)) else (some false)) else (some false) : Option Bool) >>= fun x12 => some x12)
def slices_EqualFunc_api_Row_api_Row_api_Row_api_Row.l0 (a0 : List api_Row) (a1 : List api_Row) (a2 : api_Row → api_Row → Option Bool) (v12 : Int) : Option (Bool ⊕ Unit) :=
  if v12 < (a0.length : Int) then (lAt a0 v12 >>= fun y14 => lAt a1 v12 >>= fun y15 => a2 y14 y15 >>= fun y16 => if (!y16) = true then (some (.inl false)) else (slices_EqualFunc_api_Row_api_Row_api_Row_api_Row.l0 a0 a1 a2 (IntKind.i64.wrap (v12 + 1)))) else (some (.inr ()))
partial_fixpoint
def slices_EqualFunc_api_Row_api_Row_api_Row_api_Row.f (a0 : List api_Row) (a1 : List api_Row) (a2 : api_Row → api_Row → Option Bool) : Option Bool :=
  if (a0.length : Int) = (a1.length : Int) then ((slices_EqualFunc_api_Row_api_Row_api_Row_api_Row.l0 a0 a1 a2 0 >>= fun o => match o with | .inl r => some r | .inr () => some true)) else (some false)
def table_likeRow.f (a0 : api_Row) (a1 : api_Row) : Option Bool :=
  ((slices_Equal_int_int.f a0.May a1.May >>= fun y7 => if y7 = true then (slices_Equal_int_int.f a0.Res a1.Res >>= fun y9 => if y9 = true then (slices_Equal_int_int.f a0.Pc a1.Pc >>= fun y11 => some y11) else (some false)) else (some false) : Option Bool) >>= fun x6 => some x6)
def table_Like.f (a0 : api_Table) (a1 : api_Table) : Option Bool :=
  slices_EqualFunc_api_Row_api_Row_api_Row_api_Row.f a0.Rows a1.Rows table_likeRow.f >>= fun y1 => some y1
def reticentlaw24_MutantDiffers.l3 (y1 : api_Table) (y96 : api_Table) (v126 : Int) (v127 : Int) : Option Int :=
  if v126 < (y96.Rows.length : Int) then (((if (0 : Int) ≤ v126 ∧ v126 ≤ IntKind.i64.wrap (v126 + 1) ∧ IntKind.i64.wrap (v126 + 1) ≤ (y96.Rows.length : Int) then (if (0 : Int) ≤ v126 ∧ v126 ≤ IntKind.i64.wrap (v126 + 1) ∧ IntKind.i64.wrap (v126 + 1) ≤ (y1.Rows.length : Int) then (table_Like.f (⟨lCut y96.Rows v126 (IntKind.i64.wrap (v126 + 1))⟩ : api_Table) (⟨lCut y1.Rows v126 (IntKind.i64.wrap (v126 + 1))⟩ : api_Table) >>= fun y137 => if (!y137) = true then (some (IntKind.i64.wrap (v127 + 1))) else (some v127)) else none) else none : Option Int) >>= fun x134 => reticentlaw24_MutantDiffers.l3 y1 y96 (IntKind.i64.wrap (v126 + 1)) x134)) else (some v127)
partial_fixpoint
def reticentlaw24_MutantDiffers.l2 (y1 : api_Table) (y2 : (List api_Table) × Int) (v94 : Int) : Option (Bool ⊕ Unit) :=
  if v94 < (y2.1.length : Int) then (lAt y2.1 v94 >>= fun y96 => table_Check.f y96 >>= fun y97 => ((if y97.2 = 0 then (if y97.1 = 0 then (table_Like.f y96 y1 >>= fun y104 => some y104) else (some true)) else (some true) : Option Bool) >>= fun x101 => if x101 = true then (some (.inl false)) else ((reticentlaw24_MutantDiffers.l3 y1 y96 0 0 >>= fun x128 => if x128 = 1 then (reticentlaw24_MutantDiffers.l2 y1 y2 (IntKind.i64.wrap (v94 + 1))) else (some (.inl false)))))) else (some (.inr ()))
partial_fixpoint
def reticentlaw24_MutantDiffers.f (a0 : api_Table) : Option Bool :=
  reticentlaw24_few.f a0 >>= fun y1 => mutant_All.f y1 >>= fun y2 => if y2.2 = 0 then ((reticentlaw24_MutantDiffers.l2 y1 y2 0 >>= fun o => match o with | .inl r => some r | .inr () => reticentlaw24_alive.f >>= fun y140 => some y140)) else (((reticentlaw24_alive.f >>= fun y144 => if y144 = true then (some (decide ((y2.1.length : Int) = 0))) else (some false) : Option Bool) >>= fun x143 => some x143))

end Go.Proofs.YtkmobcaobmchpaaDoor.MD
