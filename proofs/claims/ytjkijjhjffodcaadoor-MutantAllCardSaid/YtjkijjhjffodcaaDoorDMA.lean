import Derived.Test.YtjkijjhjffodcaaDoorAb28
set_option linter.unusedVariables false
namespace Go.Proofs.YtjkijjhjffodcaaDoor.MA
open Go Go.Proofs.YtjkijjhjffodcaaDoor.Ab

structure api_Row where
  May : List Int
  Res : List Int
  Pc : List Int
structure api_Table where
  Rows : List api_Row
structure mutant_spot where
  op_ : Int
  which_ : Int
  n_ : Int
structure reticentref06_W where
  I : Int
  E : Int
structure reticentref24_M where
  T : api_Table
  S : Str
def f_api_Row : List (Fld api_Row) := [⟨(kL (kI .i64)), api_Row.May⟩, ⟨(kL (kI .i64)), api_Row.Res⟩, ⟨(kL (kI .i64)), api_Row.Pc⟩]
def f_api_Table : List (Fld api_Table) := [⟨(kL (kR f_api_Row)), api_Table.Rows⟩]
def f_mutant_spot : List (Fld mutant_spot) := [⟨(kI .i64), mutant_spot.op_⟩, ⟨(kI .i64), mutant_spot.which_⟩, ⟨(kI .i64), mutant_spot.n_⟩]
def f_reticentref06_W : List (Fld reticentref06_W) := [⟨(kI .i64), reticentref06_W.I⟩, ⟨(kI .i64), reticentref06_W.E⟩]
def f_reticentref24_M : List (Fld reticentref24_M) := [⟨(kR f_api_Table), reticentref24_M.T⟩, ⟨kS, reticentref24_M.S⟩]
def f_api_Table_n0 : List (Fld api_Table) := [⟨(kN api_Row), api_Table.Rows⟩]
def reticentlaw24_few.l0 (a0 : api_Table) (v14 : List api_Row) (v15 : Int) : Option (List api_Row) :=
  if v15 < ((lCut a0.Rows 0 (if 15 < (a0.Rows.length : Int) then 15 else (a0.Rows.length : Int))).length : Int) then (lAt (lCut a0.Rows 0 (if 15 < (a0.Rows.length : Int) then 15 else (a0.Rows.length : Int))) v15 >>= fun y18 => if (0 : Int) ≤ (if 45 < (y18.May.length : Int) then 45 else (y18.May.length : Int)) ∧ (if 45 < (y18.May.length : Int) then 45 else (y18.May.length : Int)) ≤ (y18.May.length : Int) then (if (0 : Int) ≤ (if 45 < (y18.Res.length : Int) then 45 else (y18.Res.length : Int)) ∧ (if 45 < (y18.Res.length : Int) then 45 else (y18.Res.length : Int)) ≤ (y18.Res.length : Int) then (if (0 : Int) ≤ (if 45 < (y18.Pc.length : Int) then 45 else (y18.Pc.length : Int)) ∧ (if 45 < (y18.Pc.length : Int) then 45 else (y18.Pc.length : Int)) ≤ (y18.Pc.length : Int) then (if (v14.length + ([(⟨lCut y18.May 0 (if 45 < (y18.May.length : Int) then 45 else (y18.May.length : Int)), lCut y18.Res 0 (if 45 < (y18.Res.length : Int) then 45 else (y18.Res.length : Int)), lCut y18.Pc 0 (if 45 < (y18.Pc.length : Int) then 45 else (y18.Pc.length : Int))⟩ : api_Row)] : List api_Row).length) * 72 ≤ big then (reticentlaw24_few.l0 a0 (v14 ++ ([(⟨lCut y18.May 0 (if 45 < (y18.May.length : Int) then 45 else (y18.May.length : Int)), lCut y18.Res 0 (if 45 < (y18.Res.length : Int) then 45 else (y18.Res.length : Int)), lCut y18.Pc 0 (if 45 < (y18.Pc.length : Int) then 45 else (y18.Pc.length : Int))⟩ : api_Row)] : List api_Row)) (IntKind.i64.wrap (v15 + 1))) else none) else none) else none) else none) else (some v14)
partial_fixpoint
def reticentlaw24_few.f (a0 : api_Table) : Option api_Table :=
  if (0 : Int) ≤ (if 15 < (a0.Rows.length : Int) then 15 else (a0.Rows.length : Int)) ∧ (if 15 < (a0.Rows.length : Int) then 15 else (a0.Rows.length : Int)) ≤ (a0.Rows.length : Int) then ((reticentlaw24_few.l0 a0 ([] : List api_Row) 0 >>= fun x16 => some (⟨x16⟩ : api_Table))) else none
def rule_made_1.f (a0 : Bool) (a1 : List Bool) : Option ((List Bool) × Bool) :=
  ((if IntKind.i64.wrap ((a1.length : Int) - 1) < 1 then (some true) else (lAt a1 (IntKind.i64.wrap ((a1.length : Int) - 1)) >>= fun y7 => if y7 = a0 then (lAt a1 (IntKind.i64.wrap ((IntKind.i64.wrap ((a1.length : Int) - 1)) - 1)) >>= fun y9 => some (!decide (y9 = a0))) else (some true)) : Option Bool) >>= fun x5 => if x5 = true then (some (a1, false)) else (if (0 : Int) ≤ IntKind.i64.wrap ((IntKind.i64.wrap ((a1.length : Int) - 1)) - 1) ∧ IntKind.i64.wrap ((IntKind.i64.wrap ((a1.length : Int) - 1)) - 1) ≤ (a1.length : Int) then (some (a1.take (IntKind.i64.wrap ((IntKind.i64.wrap ((a1.length : Int) - 1)) - 1)).toNat, true)) else none))
def rule_made.l0 (a0 : List Int) (v269 : List Bool) (v270 : Int) : Option ((Bool × Bool) ⊕ (List Bool)) :=
  if v270 < (a0.length : Int) then (((lAt a0 v270 >>= fun y340 => ((if y340 = 1 then (if (v269.length + ([false] : List Bool).length) * 1 ≤ big then (some (v269 ++ ([false] : List Bool), true)) else none) else (if y340 = 2 then (if (v269.length + ([false] : List Bool).length) * 1 ≤ big then (some (v269 ++ ([false] : List Bool), true)) else none) else (if y340 = 6 then (if (v269.length + ([true] : List Bool).length) * 1 ≤ big then (some (v269 ++ ([true] : List Bool), true)) else none) else (if y340 = 7 then (if (v269.length + ([true] : List Bool).length) * 1 ≤ big then (some (v269 ++ ([true] : List Bool), true)) else none) else (if y340 = 8 then (if (v269.length + ([true] : List Bool).length) * 1 ≤ big then (some (v269 ++ ([true] : List Bool), true)) else none) else (if y340 = 9 then (if (v269.length + ([true] : List Bool).length) * 1 ≤ big then (some (v269 ++ ([true] : List Bool), true)) else none) else (if y340 = 10 then (if (v269.length + ([true] : List Bool).length) * 1 ≤ big then (some (v269 ++ ([true] : List Bool), true)) else none) else (if y340 = 11 then (if (v269.length + ([true] : List Bool).length) * 1 ≤ big then (some (v269 ++ ([true] : List Bool), true)) else none) else (if y340 = 3 then (rule_made_1.f false v269 >>= fun y391 => if (y391.1.length + ([false] : List Bool).length) * 1 ≤ big then (some (y391.1 ++ ([false] : List Bool), y391.2)) else none) else (if y340 = 4 then (rule_made_1.f false v269 >>= fun y394 => if (y394.1.length + ([false] : List Bool).length) * 1 ≤ big then (some (y394.1 ++ ([false] : List Bool), y394.2)) else none) else (if y340 = 5 then (rule_made_1.f true v269 >>= fun y397 => if (y397.1.length + ([false] : List Bool).length) * 1 ≤ big then (some (y397.1 ++ ([false] : List Bool), y397.2)) else none) else (if y340 = 12 then (rule_made_1.f true v269 >>= fun y400 => if (y400.1.length + ([true] : List Bool).length) * 1 ≤ big then (some (y400.1 ++ ([true] : List Bool), y400.2)) else none) else (if y340 = 13 then (rule_made_1.f true v269 >>= fun y403 => if (y403.1.length + ([true] : List Bool).length) * 1 ≤ big then (some (y403.1 ++ ([true] : List Bool), y403.2)) else none) else (some (v269, false)))))))))))))) : Option ((List Bool) × Bool)) >>= fun o => match o with | (x372, x373) => if (!x373) = true then (some (.inl (false, false))) else (some (.inr x372))) : Option ((Bool × Bool) ⊕ (List Bool))) >>= fun o => match o with | .inl r => some (.inl r) | .inr x339 => rule_made.l0 a0 x339 (IntKind.i64.wrap (v270 + 1)))) else (some (.inr v269))
partial_fixpoint
def rule_made.f (a0 : List Int) : Option (Bool × Bool) :=
  (rule_made.l0 a0 ([] : List Bool) 0 >>= fun o => match o with | .inl r => some r | .inr x271 => ((if (x271.length : Int) = 1 then (some (decide ((a0.length : Int) > 40))) else (some true) : Option Bool) >>= fun x407 => if x407 = true then (some (false, false)) else (lAt x271 0 >>= fun y410 => some (y410, true))))
def rule_Right.f (a0 : List Int) (a1 : Bool) : Option Bool :=
  rule_made.f a0 >>= fun y1 => ((if y1.2 = true then (some (decide (y1.1 = a1))) else (some false) : Option Bool) >>= fun x3 => some x3)
def table_right.f (a0 : api_Row) : Option Bool :=
  ((rule_Right.f a0.May false >>= fun y7 => if y7 = true then (rule_Right.f a0.Res true >>= fun y9 => if y9 = true then (rule_Right.f a0.Pc true >>= fun y11 => some y11) else (some false)) else (some false) : Option Bool) >>= fun x6 => some x6)
def rule_Uses.l0 (a0 : List Int) (v31 : Int) (v32 : Int) : Option Int :=
  if v31 < (a0.length : Int) then (((lAt a0 v31 >>= fun y42 => ((if y42 ≥ 8 then (some (decide (y42 ≤ 11))) else (some false) : Option Bool) >>= fun x44 => if x44 = true then (if ¬ IntKind.i64.wrap (y42 - 8) < 0 then (some (bOr .u32 v32 (bShl .u32 1 (IntKind.i64.wrap (y42 - 8))))) else none) else (some v32)) : Option Int) >>= fun x41 => rule_Uses.l0 a0 (IntKind.i64.wrap (v31 + 1)) x41)) else (some v32)
partial_fixpoint
def rule_Uses.f (a0 : List Int) : Option (Int × Int) :=
  rule_made.f a0 >>= fun y1 => if (!y1.2) = true then (some (0, 1)) else ((rule_Uses.l0 a0 0 0 >>= fun x33 => some (x33, 0)))
def table_has.f (a0 : Int) (a1 : List Int) : Option Bool :=
  rule_Uses.f a1 >>= fun y1 => ((if y1.2 = 0 then (lAt gl1 a0 >>= fun y7 => if ¬ IntKind.i64.wrap (y7 + 1) < 0 then (some (decide (bShr .u32 y1.1 (IntKind.i64.wrap (y7 + 1)) = 0))) else none) else (some false) : Option Bool) >>= fun x5 => some x5)
def table_suits.f (a0 : Int) (a1 : api_Row) : Option Bool :=
  ((table_has.f a0 a1.May >>= fun y7 => if y7 = true then (table_has.f a0 a1.Res >>= fun y9 => if y9 = true then (table_has.f a0 a1.Pc >>= fun y11 => some y11) else (some false)) else (some false) : Option Bool) >>= fun x6 => some x6)
def table_Check.l0 (a0 : api_Table) (v14 : Int) : Option ((Int × Int) ⊕ Unit) :=
  if v14 < (a0.Rows.length : Int) then (lAt a0.Rows v14 >>= fun y16 => table_right.f y16 >>= fun y17 => if (!y17) = true then (some (.inl (v14, 1))) else (table_suits.f v14 y16 >>= fun y19 => if (!y19) = true then (some (.inl (v14, 7))) else (table_Check.l0 a0 (IntKind.i64.wrap (v14 + 1))))) else (some (.inr ()))
partial_fixpoint
def table_Check.f (a0 : api_Table) : Option (Int × Int) :=
  if (a0.Rows.length : Int) = 13 then ((table_Check.l0 a0 0 >>= fun o => match o with | .inl r => some r | .inr () => some (0, 0))) else (some (0, 1))
def mutant_rules.f (a0 : api_Row) : Option (List (List Int)) :=
  some ([a0.May, a0.Res, a0.Pc] : List (List Int))
def slices_Equal_int_int.l0 (a0 : List Int) (a1 : List Int) (v10 : Int) : Option (Bool ⊕ Unit) :=
  if v10 < (a0.length : Int) then (lAt a0 v10 >>= fun y12 => lAt a1 v10 >>= fun y13 => if y12 = y13 then (slices_Equal_int_int.l0 a0 a1 (IntKind.i64.wrap (v10 + 1))) else (some (.inl false))) else (some (.inr ()))
partial_fixpoint
def slices_Equal_int_int.f (a0 : List Int) (a1 : List Int) : Option Bool :=
  if (a0.length : Int) = (a1.length : Int) then ((slices_Equal_int_int.l0 a0 a1 0 >>= fun o => match o with | .inl r => some r | .inr () => some true)) else (some false)
def mutant_start.l0 (a0 : List Int) (v55 : Int) (v56 : Int) : Option Int :=
  ((lAt a0 v56 >>= fun y71 => ((if y71 = 3 then (some (IntKind.i64.wrap ((IntKind.i64.wrap (v55 - 1)) + 2))) else (if y71 = 4 then (some (IntKind.i64.wrap ((IntKind.i64.wrap (v55 - 1)) + 2))) else (if y71 = 5 then (some (IntKind.i64.wrap ((IntKind.i64.wrap (v55 - 1)) + 2))) else (if y71 = 12 then (some (IntKind.i64.wrap ((IntKind.i64.wrap (v55 - 1)) + 2))) else (if y71 = 13 then (some (IntKind.i64.wrap ((IntKind.i64.wrap (v55 - 1)) + 2))) else (some (IntKind.i64.wrap (v55 - 1))))))) : Option Int) >>= fun x77 => if x77 = 0 then (some (.inl v56)) else (some (.inr x77))) : Option (Int ⊕ Int)) >>= fun o => match o with | .inl r => some r | .inr x70 => mutant_start.l0 a0 x70 (IntKind.i64.wrap (v56 - 1)))
partial_fixpoint
def mutant_start.f (a0 : List Int) (a1 : Int) : Option Int :=
  (mutant_start.l0 a0 1 a1 >>= fun r => some r)
def slices_Grow_int_int_nil.f (a1 : Int) : Option (List Int) :=
  if a1 < 0 then (none) else (if IntKind.i64.wrap (a1 - (IntKind.i64.wrap (0 - (([] : List Int).length : Int)))) > 0 then (if 0 < IntKind.i64.wrap (a1 - (IntKind.i64.wrap (0 - (([] : List Int).length : Int)))) ∧ (IntKind.i64.wrap (a1 - (IntKind.i64.wrap (0 - (([] : List Int).length : Int))))).toNat * 8 ≤ big then (if (0 : Int) ≤ (([] : List Int).length : Int) ∧ (([] : List Int).length : Int) ≤ ((List.replicate (IntKind.i64.wrap (a1 - (IntKind.i64.wrap (0 - (([] : List Int).length : Int))))).toNat (0 : Int)).length : Int) then (some ((List.replicate (IntKind.i64.wrap (a1 - (IntKind.i64.wrap (0 - (([] : List Int).length : Int))))).toNat (0 : Int)).take (([] : List Int).length : Int).toNat)) else none) else none) else (some ([] : List Int)))
def slices_Concat_int_int.l0 (a0 : List (List Int)) (v13 : Int) (v14 : Int) : Option Int :=
  if v13 < (a0.length : Int) then (((lAt a0 v13 >>= fun y20 => if IntKind.i64.wrap (v14 + (y20.length : Int)) < 0 then (none) else (some (IntKind.i64.wrap (v14 + (y20.length : Int)))) : Option Int) >>= fun x19 => slices_Concat_int_int.l0 a0 (IntKind.i64.wrap (v13 + 1)) x19)) else (some v14)
partial_fixpoint
def slices_Concat_int_int.l1 (a0 : List (List Int)) (v29 : List Int) (v30 : Int) : Option (List Int) :=
  if v30 < (a0.length : Int) then (lAt a0 v30 >>= fun y33 => if (v29.length + y33.length) * 8 ≤ big then (slices_Concat_int_int.l1 a0 (v29 ++ y33) (IntKind.i64.wrap (v30 + 1))) else none) else (some v29)
partial_fixpoint
def slices_Concat_int_int.f (a0 : List (List Int)) : Option (List Int) :=
  (slices_Concat_int_int.l0 a0 0 0 >>= fun x15 => slices_Grow_int_int_nil.f x15 >>= fun y22 => (slices_Concat_int_int.l1 a0 y22 0 >>= fun x31 => some x31))
def mutant_less.f (a0 : List Int) (a1 : Int) : Option (List (List Int)) :=
  mutant_start.f a0 (IntKind.i64.wrap (a1 - 1)) >>= fun y1 => mutant_start.f a0 (IntKind.i64.wrap (y1 - 1)) >>= fun y2 => if (0 : Int) ≤ y1 ∧ y1 ≤ (a0.length : Int) then (if (0 : Int) ≤ IntKind.i64.wrap (a1 + 1) ∧ IntKind.i64.wrap (a1 + 1) ≤ (a0.length : Int) then (slices_Concat_int_int.f ([lCut a0 0 y1, lCut a0 (IntKind.i64.wrap (a1 + 1)) (a0.length : Int)] : List (List Int)) >>= fun y5 => if (0 : Int) ≤ y2 ∧ y2 ≤ (a0.length : Int) then (if (0 : Int) ≤ y1 ∧ y1 ≤ a1 ∧ a1 ≤ (a0.length : Int) then (if (0 : Int) ≤ IntKind.i64.wrap (a1 + 1) ∧ IntKind.i64.wrap (a1 + 1) ≤ (a0.length : Int) then (slices_Concat_int_int.f ([lCut a0 0 y2, lCut a0 y1 a1, lCut a0 (IntKind.i64.wrap (a1 + 1)) (a0.length : Int)] : List (List Int)) >>= fun y9 => some ([y5, y9] : List (List Int))) else none) else none) else none) else none) else none
def mutant_weaker.l0 (a0 : List Int) (v26 : List (List Int)) (v27 : Int) : Option (List (List Int)) :=
  if v27 < (a0.length : Int) then (((lAt a0 v27 >>= fun y35 => if y35 = 12 then (mutant_less.f a0 v27 >>= fun y37 => if (v26.length + y37.length) * 24 ≤ big then (some (v26 ++ y37)) else none) else (some v26) : Option (List (List Int))) >>= fun x34 => mutant_weaker.l0 a0 x34 (IntKind.i64.wrap (v27 + 1)))) else (some v26)
partial_fixpoint
def mutant_weaker.l1 (a0 : List Int) (v59 : List (List Int)) (v60 : Int) : Option (List (List Int)) :=
  if v60 < (a0.length : Int) then (((lAt a0 v60 >>= fun y68 => if y68 = 12 then (mutant_less.f a0 v60 >>= fun y70 => if (v59.length + y70.length) * 24 ≤ big then (some (v59 ++ y70)) else none) else (some v59) : Option (List (List Int))) >>= fun x67 => mutant_weaker.l1 a0 x67 (IntKind.i64.wrap (v60 + 1)))) else (some v59)
partial_fixpoint
def mutant_weaker.l2 (a0 : List Int) (v95 : List (List Int)) (v96 : Int) : Option (List (List Int)) :=
  if v96 < (a0.length : Int) then (((lAt a0 v96 >>= fun y104 => if y104 = 3 then (mutant_less.f a0 v96 >>= fun y106 => if (v95.length + y106.length) * 24 ≤ big then (some (v95 ++ y106)) else none) else (some v95) : Option (List (List Int))) >>= fun x103 => mutant_weaker.l2 a0 x103 (IntKind.i64.wrap (v96 + 1)))) else (some v95)
partial_fixpoint
def mutant_weaker.l3 (a0 : List Int) (v128 : List (List Int)) (v129 : Int) : Option (List (List Int)) :=
  if v129 < (a0.length : Int) then (((lAt a0 v129 >>= fun y137 => if y137 = 3 then (mutant_less.f a0 v129 >>= fun y139 => if (v128.length + y139.length) * 24 ≤ big then (some (v128 ++ y139)) else none) else (some v128) : Option (List (List Int))) >>= fun x136 => mutant_weaker.l3 a0 x136 (IntKind.i64.wrap (v129 + 1)))) else (some v128)
partial_fixpoint
def mutant_weaker.f (a0 : List Int) : Option (List (List Int)) :=
  rule_Right.f a0 true >>= fun y1 => if y1 = true then (slices_Equal_int_int.f a0 ([6] : List Int) >>= fun y3 => if (!y3) = true then (if (([] : List (List Int)).length + ([([6] : List Int)] : List (List Int)).length) * 24 ≤ big then ((mutant_weaker.l0 a0 (([] : List (List Int)) ++ ([([6] : List Int)] : List (List Int))) 0 >>= fun x28 => some x28)) else none) else ((mutant_weaker.l1 a0 ([] : List (List Int)) 0 >>= fun x61 => some x61))) else (slices_Equal_int_int.f a0 ([1] : List Int) >>= fun y72 => if (!y72) = true then (if (([] : List (List Int)).length + ([([1] : List Int)] : List (List Int)).length) * 24 ≤ big then ((mutant_weaker.l2 a0 (([] : List (List Int)) ++ ([([1] : List Int)] : List (List Int))) 0 >>= fun x97 => some x97)) else none) else ((mutant_weaker.l3 a0 ([] : List (List Int)) 0 >>= fun x130 => some x130)))
def mutant_spots_1.l12 {σ : Type} (a_y : σ → mutant_spot → (List Int) → Option (Bool × σ)) (v122 : Int) (v164 : Int) (y168 : List (List Int)) (v177 : σ) (v178 : Int) : Option (σ ⊕ σ) :=
  if v178 < (y168.length : Int) then (lAt y168 v178 >>= fun y181 => a_y v177 (⟨v122, v164, v178⟩ : mutant_spot) y181 >>= fun y182 => if (!y182.1) = true then (some (.inl y182.2)) else (mutant_spots_1.l12 a_y v122 v164 y168 y182.2 (IntKind.i64.wrap (v178 + 1)))) else (some (.inr v177))
partial_fixpoint
def mutant_spots_1.l11 {σ : Type} (a_y : σ → mutant_spot → (List Int) → Option (Bool × σ)) (v122 : Int) (y126 : List (List Int)) (v163 : σ) (v164 : Int) : Option (σ ⊕ σ) :=
  if v164 < (y126.length : Int) then (lAt y126 v164 >>= fun y167 => mutant_weaker.f y167 >>= fun y168 => (mutant_spots_1.l12 a_y v122 v164 y168 v163 0 >>= fun o => match o with | .inl r => some (.inl r) | .inr x179 => mutant_spots_1.l11 a_y v122 y126 x179 (IntKind.i64.wrap (v164 + 1)))) else (some (.inr v163))
partial_fixpoint
def mutant_spots_1.l8 {σ : Type} (a_y : σ → mutant_spot → (List Int) → Option (Bool × σ)) (a1 : api_Table) (v121 : σ) (v122 : Int) : Option (σ ⊕ σ) :=
  if v122 < (a1.Rows.length : Int) then (lAt a1.Rows v122 >>= fun y125 => mutant_rules.f y125 >>= fun y126 => (mutant_spots_1.l11 a_y v122 y126 v121 0 >>= fun o => match o with | .inl r => some (.inl r) | .inr x165 => mutant_spots_1.l8 a_y a1 x165 (IntKind.i64.wrap (v122 + 1)))) else (some (.inr v121))
partial_fixpoint
def mutant_spots_1.f {σ : Type} (a_y : σ → mutant_spot → (List Int) → Option (Bool × σ)) (a_s : σ) (a1 : api_Table) : Option σ :=
  (mutant_spots_1.l8 a_y a1 a_s 0 >>= fun o => match o with | .inl r => some r | .inr x123 => some x123)
def mutant_spots.f (a0 : api_Table) : Option api_Table :=
  some a0
def slices_Clone_api_Row_api_Row_nn.f (a0 : List api_Row) : Option (List api_Row) :=
  if (([] : List api_Row).length + a0.length) * 72 ≤ big then (some (([] : List api_Row) ++ a0)) else none
def mutant_All.y0 (a0 : api_Table) (v38 : (List api_Table)) (v39 : mutant_spot) (v40 : List Int) : Option (Bool × (((List api_Table)) × Nat)) :=
  ((slices_Clone_api_Row_api_Row_nn.f a0.Rows >>= fun y50 => lAt y50 v39.op_ >>= fun y51 => ((if v39.which_ = 0 then (some (y50.set v39.op_.toNat (⟨v40, y51.Res, y51.Pc⟩ : api_Row))) else (if v39.which_ = 1 then (some (y50.set v39.op_.toNat (⟨y51.May, v40, y51.Pc⟩ : api_Row))) else (some (y50.set v39.op_.toNat (⟨y51.May, y51.Res, v40⟩ : api_Row)))) : Option (List api_Row)) >>= fun x54 => if (v38.length + ([(⟨x54⟩ : api_Table)] : List api_Table).length) * 24 ≤ big then (some (v38 ++ ([(⟨x54⟩ : api_Table)] : List api_Table))) else none) : Option (List api_Table)) >>= fun x49 => some (true, (x49, 0)))
def mutant_All.f (a0 : api_Table) : Option ((List api_Table) × Int) :=
  table_Check.f a0 >>= fun y1 => if y1.2 = 0 then (mutant_spots.f a0 >>= fun y3 => (mutant_spots_1.f (yOf (mutant_All.y0 a0)) (([] : List api_Table), 0) y3 >>= fun y58 => if y58.2 = 0 then (some (y58.1, 0)) else none)) else (some (([] : List api_Table), y1.2))
def table_Name.f (a0 : Int) : Option (Str × Int) :=
  ((if a0 < 0 then (some true) else (some (decide (a0 ≥ 13))) : Option Bool) >>= fun x2 => if x2 = true then (some (([] : Str), 9)) else (lAt gl0 a0 >>= fun y5 => some (y5, 0)))
def mutant_Name.y1 (v55 : Int × Str) (v56 : mutant_spot) (v57 : List Int) : Option (Bool × ((Int × Str) × Nat)) :=
  if v55.1 < 0 then (some (false, ((v55.1, v55.2), 2))) else (if v55.1 = 0 then (table_Name.f v56.op_ >>= fun y60 => if (y60.1.length + ([32] : Str).length : Int) ≤ 9223372036854775807 then (lAt ([([109, 97, 121] : Str), ([114, 101, 115] : Str), ([112, 99] : Str)] : List Str) v56.which_ >>= fun y62 => if ((y60.1 ++ ([32] : Str)).length + y62.length : Int) ≤ 9223372036854775807 then (if (((y60.1 ++ ([32] : Str)) ++ y62).length + ([32] : Str).length : Int) ≤ 9223372036854775807 then (lib_Itoa v56.n_ >>= fun y65 => if ((((y60.1 ++ ([32] : Str)) ++ y62) ++ ([32] : Str)).length + y65.length : Int) ≤ 9223372036854775807 then (some (false, ((v55.1, (((y60.1 ++ ([32] : Str)) ++ y62) ++ ([32] : Str)) ++ y65), 1))) else none) else none) else none) else none) else (some (true, ((IntKind.i64.wrap (v55.1 - 1), v55.2), 0))))
def mutant_Name.f (a0 : api_Table) (a1 : Int) : Option (Str × Int) :=
  table_Check.f a0 >>= fun y1 => if y1.2 = 0 then (mutant_spots.f a0 >>= fun y3 => (((mutant_spots_1.f (yOf (mutant_Name.y1)) ((a1, []), 0) y3 >>= fun y67 => if y67.2 = 0 then (some (.inr (y67.1.1, y67.1.2))) else if y67.2 = 1 then (some (.inl (y67.1.2, 0))) else if y67.2 = 2 then (some (.inr (y67.1.1, y67.1.2))) else none) : Option ((Str × Int) ⊕ (Int × Str))) >>= fun o => match o with | .inl r => some r | .inr (x35, x36) => some (([] : Str), 9))) else (some (([] : Str), y1.2))
def reticentref04_two.f (a0 : List Int) (a1 : Int) : Option Bool :=
  ((if (a0.length : Int) ≥ 2 then (lAt a0 (IntKind.i64.wrap ((a0.length : Int) - 1)) >>= fun y7 => if y7 = a1 then (lAt a0 (IntKind.i64.wrap ((a0.length : Int) - 2)) >>= fun y9 => some (decide (y9 = a1))) else (some false)) else (some false) : Option Bool) >>= fun x5 => some x5)
def reticentref04_Made.l0 (a0 : List Int) (v169 : List Int) (v170 : Int) : Option (Int ⊕ (List Int)) :=
  if v170 < (a0.length : Int) then (((lAt a0 v170 >>= fun y215 => ((if y215 = 1 then (some true) else (some (decide (y215 = 2))) : Option Bool) >>= fun x217 => if x217 = true then (if (v169.length + ([1] : List Int).length) * 8 ≤ big then (some (.inr (v169 ++ ([1] : List Int)))) else none) else (((if y215 ≥ 6 then (some (decide (y215 ≤ 11))) else (some false) : Option Bool) >>= fun x222 => if x222 = true then (if (v169.length + ([2] : List Int).length) * 8 ≤ big then (some (.inr (v169 ++ ([2] : List Int)))) else none) else (((if y215 = 3 then (reticentref04_two.f v169 1 >>= fun y232 => some y232) else (if y215 = 4 then (reticentref04_two.f v169 1 >>= fun y234 => some y234) else (some false)) : Option Bool) >>= fun x230 => if x230 = true then (if (0 : Int) ≤ IntKind.i64.wrap ((v169.length : Int) - 1) ∧ IntKind.i64.wrap ((v169.length : Int) - 1) ≤ (v169.length : Int) then (some (.inr (v169.take (IntKind.i64.wrap ((v169.length : Int) - 1)).toNat))) else none) else (((if y215 = 5 then (reticentref04_two.f v169 2 >>= fun y241 => some y241) else (some false) : Option Bool) >>= fun x239 => if x239 = true then (if (0 : Int) ≤ IntKind.i64.wrap ((v169.length : Int) - 2) ∧ IntKind.i64.wrap ((v169.length : Int) - 2) ≤ (v169.length : Int) then (if ((v169.take (IntKind.i64.wrap ((v169.length : Int) - 2)).toNat).length + ([1] : List Int).length) * 8 ≤ big then (some (.inr ((v169.take (IntKind.i64.wrap ((v169.length : Int) - 2)).toNat) ++ ([1] : List Int)))) else none) else none) else (((if y215 = 12 then (reticentref04_two.f v169 2 >>= fun y251 => some y251) else (if y215 = 13 then (reticentref04_two.f v169 2 >>= fun y253 => some y253) else (some false)) : Option Bool) >>= fun x249 => if x249 = true then (if (0 : Int) ≤ IntKind.i64.wrap ((v169.length : Int) - 1) ∧ IntKind.i64.wrap ((v169.length : Int) - 1) ≤ (v169.length : Int) then (some (.inr (v169.take (IntKind.i64.wrap ((v169.length : Int) - 1)).toNat))) else none) else (some (.inl 0))))))))))) : Option (Int ⊕ (List Int))) >>= fun o => match o with | .inl r => some (.inl r) | .inr x214 => reticentref04_Made.l0 a0 x214 (IntKind.i64.wrap (v170 + 1)))) else (some (.inr v169))
partial_fixpoint
def reticentref04_Made.f (a0 : List Int) : Option Int :=
  (reticentref04_Made.l0 a0 ([] : List Int) 0 >>= fun o => match o with | .inl r => some r | .inr x171 => ((if (x171.length : Int) = 1 then (some (decide ((a0.length : Int) > 40))) else (some true) : Option Bool) >>= fun x257 => if x257 = true then (some 0) else (lAt x171 0 >>= fun y260 => some y260)))
def reticentref04_Right.f (a0 : List Int) (a1 : Bool) : Option Bool :=
  if a1 = true then (reticentref04_Made.f a0 >>= fun y2 => some (decide (y2 = 2))) else (reticentref04_Made.f a0 >>= fun y3 => some (decide (y3 = 1)))
def reticentref06_Arity.f (a0 : Int) : Option Int :=
  lAt ([0, 1, 1, 2, 2, 2, 3, 1, 1, 1, 2, 1, 0] : List Int) a0 >>= fun y1 => some y1
def reticentref04_Has.l0 (a0 : List Int) (a1 : Int) (v7 : Int) : Option (Bool ⊕ Unit) :=
  if v7 < (a0.length : Int) then (lAt a0 v7 >>= fun y9 => if y9 = IntKind.i64.wrap (8 + a1) then (some (.inl true)) else (reticentref04_Has.l0 a0 a1 (IntKind.i64.wrap (v7 + 1)))) else (some (.inr ()))
partial_fixpoint
def reticentref04_Has.f (a0 : List Int) (a1 : Int) : Option Bool :=
  (reticentref04_Has.l0 a0 a1 0 >>= fun o => match o with | .inl r => some r | .inr () => some false)
def reticentref06_has.l0 (a1 : List Int) (v8 : Int) : Option (Bool ⊕ Unit) :=
  if v8 < 4 then (reticentref04_Has.f a1 v8 >>= fun y10 => if y10 = true then (some (.inl false)) else (reticentref06_has.l0 a1 (IntKind.i64.wrap (v8 + 1)))) else (some (.inr ()))
partial_fixpoint
def reticentref06_has.f (a0 : Int) (a1 : List Int) : Option Bool :=
  reticentref06_Arity.f a0 >>= fun y1 => (reticentref06_has.l0 a1 (IntKind.i64.wrap (y1 + 1)) >>= fun o => match o with | .inl r => some r | .inr () => some true)
def reticentref06_Row.f (a0 : Int) (a1 : api_Row) : Option Int :=
  ((reticentref04_Right.f a1.May false >>= fun y7 => if (!y7) = true then (some true) else (reticentref04_Right.f a1.Res true >>= fun y9 => if (!y9) = true then (some true) else (reticentref04_Right.f a1.Pc true >>= fun y11 => some (!y11))) : Option Bool) >>= fun x6 => if x6 = true then (some 1) else (((reticentref06_has.f a0 a1.May >>= fun y19 => if (!y19) = true then (some true) else (reticentref06_has.f a0 a1.Res >>= fun y21 => if (!y21) = true then (some true) else (reticentref06_has.f a0 a1.Pc >>= fun y23 => some (!y23))) : Option Bool) >>= fun x18 => if x18 = true then (some 7) else (some 0))))
def reticentref06_Check.l0 (a0 : api_Table) (v10 : Int) : Option (reticentref06_W ⊕ Unit) :=
  if v10 < (a0.Rows.length : Int) then (lAt a0.Rows v10 >>= fun y12 => reticentref06_Row.f v10 y12 >>= fun y13 => if y13 = 0 then (reticentref06_Check.l0 a0 (IntKind.i64.wrap (v10 + 1))) else (some (.inl (⟨v10, y13⟩ : reticentref06_W)))) else (some (.inr ()))
partial_fixpoint
def reticentref06_Check.f (a0 : api_Table) : Option reticentref06_W :=
  if (a0.Rows.length : Int) = 13 then ((reticentref06_Check.l0 a0 0 >>= fun o => match o with | .inl r => some r | .inr () => some (⟨0, 0⟩ : reticentref06_W))) else (some (⟨0, 1⟩ : reticentref06_W))
def mutant_Weaker.f (a0 : List Int) : Option ((List (List Int)) × Int) :=
  ((rule_Right.f a0 false >>= fun y5 => if (!y5) = true then (rule_Right.f a0 true >>= fun y7 => some (!y7)) else (some false) : Option Bool) >>= fun x4 => if x4 = true then (some (([] : List (List Int)), 1)) else (mutant_weaker.f a0 >>= fun y9 => some (y9, 0)))
def reticentref04_Same.l0 (a0 : List Int) (a1 : List Int) (v10 : Int) : Option (Bool ⊕ Unit) :=
  if v10 < (a0.length : Int) then (lAt a0 v10 >>= fun y12 => lAt a1 v10 >>= fun y13 => if y12 = y13 then (reticentref04_Same.l0 a0 a1 (IntKind.i64.wrap (v10 + 1))) else (some (.inl false))) else (some (.inr ()))
partial_fixpoint
def reticentref04_Same.f (a0 : List Int) (a1 : List Int) : Option Bool :=
  if (a0.length : Int) = (a1.length : Int) then ((reticentref04_Same.l0 a0 a1 0 >>= fun o => match o with | .inl r => some r | .inr () => some true)) else (some false)
def reticentlaw24_alive.f : Option Bool :=
  mutant_Weaker.f ([9, 10, 12] : List Int) >>= fun y1 => ((if y1.2 = 0 then (if (y1.1.length : Int) = 3 then (lAt y1.1 0 >>= fun y15 => reticentref04_Same.f y15 ([6] : List Int) >>= fun y16 => if y16 = true then (lAt y1.1 1 >>= fun y18 => reticentref04_Same.f y18 ([9] : List Int) >>= fun y19 => if y19 = true then (lAt y1.1 2 >>= fun y21 => reticentref04_Same.f y21 ([10] : List Int) >>= fun y22 => some y22) else (some false)) else (some false)) else (some false)) else (some false) : Option Bool) >>= fun x12 => some x12)
def reticentref24_from.B (rc : (List Int) → Int → Option Int) (a0 : List Int) (a1 : Int) : Option Int :=
  ((lAt a0 a1 >>= fun y8 => if y8 ≥ 3 then (lAt a0 a1 >>= fun y10 => if y10 ≤ 5 then (some true) else (lAt a0 a1 >>= fun y12 => some (decide (y12 ≥ 12)))) else (lAt a0 a1 >>= fun y13 => some (decide (y13 ≥ 12))) : Option Bool) >>= fun x7 => if x7 = true then (rc a0 (IntKind.i64.wrap (a1 - 1)) >>= fun y15 => rc a0 (IntKind.i64.wrap (y15 - 1)) >>= fun y16 => some y16) else (some a1))
def reticentref24_from.F : Nat → (List Int) → Int → Option Int
  | 0 => fun _ _ => none
  | k + 1 => reticentref24_from.B (reticentref24_from.F k)
def reticentref24_from.f (a0 : List Int) (a1 : Int) : Option Int := reticentref24_from.F 1000 a0 a1 
def reticentref24_but.l0 (a0 : List Int) (a1 : Int) (a2 : Int) (a3 : Int) (v37 : List Int) (v38 : Int) : Option (List Int) :=
  if v38 < (a0.length : Int) then (((lAt a0 v38 >>= fun y50 => ((if v38 < a1 then (some (!decide (v38 = a3))) else (if v38 ≥ a2 then (some (!decide (v38 = a3))) else (some false)) : Option Bool) >>= fun x53 => if x53 = true then (if (v37.length + ([y50] : List Int).length) * 8 ≤ big then (some (v37 ++ ([y50] : List Int))) else none) else (some v37)) : Option (List Int)) >>= fun x49 => reticentref24_but.l0 a0 a1 a2 a3 x49 (IntKind.i64.wrap (v38 + 1)))) else (some v37)
partial_fixpoint
def reticentref24_but.f (a0 : List Int) (a1 : Int) (a2 : Int) (a3 : Int) : Option (List Int) :=
  (reticentref24_but.l0 a0 a1 a2 a3 ([] : List Int) 0 >>= fun x39 => some x39)
def reticentref24_Weaker.l0 (a0 : List Int) (v46 : List (List Int)) (v47 : Int) : Option (List (List Int)) :=
  if v47 < (a0.length : Int) then (((lAt a0 v47 >>= fun y59 => if y59 = 12 then (reticentref24_from.f a0 (IntKind.i64.wrap (v47 - 1)) >>= fun y61 => reticentref24_from.f a0 (IntKind.i64.wrap (y61 - 1)) >>= fun y62 => reticentref24_but.f a0 y61 v47 v47 >>= fun y63 => if (v46.length + ([y63] : List (List Int)).length) * 24 ≤ big then (reticentref24_but.f a0 y62 y61 v47 >>= fun y65 => if ((v46 ++ ([y63] : List (List Int))).length + ([y65] : List (List Int)).length) * 24 ≤ big then (some ((v46 ++ ([y63] : List (List Int))) ++ ([y65] : List (List Int)))) else none) else none) else (some v46) : Option (List (List Int))) >>= fun x58 => reticentref24_Weaker.l0 a0 x58 (IntKind.i64.wrap (v47 + 1)))) else (some v46)
partial_fixpoint
def reticentref24_Weaker.l1 (a0 : List Int) (v103 : List (List Int)) (v104 : Int) : Option (List (List Int)) :=
  if v104 < (a0.length : Int) then (((lAt a0 v104 >>= fun y116 => if y116 = 12 then (reticentref24_from.f a0 (IntKind.i64.wrap (v104 - 1)) >>= fun y118 => reticentref24_from.f a0 (IntKind.i64.wrap (y118 - 1)) >>= fun y119 => reticentref24_but.f a0 y118 v104 v104 >>= fun y120 => if (v103.length + ([y120] : List (List Int)).length) * 24 ≤ big then (reticentref24_but.f a0 y119 y118 v104 >>= fun y122 => if ((v103 ++ ([y120] : List (List Int))).length + ([y122] : List (List Int)).length) * 24 ≤ big then (some ((v103 ++ ([y120] : List (List Int))) ++ ([y122] : List (List Int)))) else none) else none) else (some v103) : Option (List (List Int))) >>= fun x115 => reticentref24_Weaker.l1 a0 x115 (IntKind.i64.wrap (v104 + 1)))) else (some v103)
partial_fixpoint
def reticentref24_Weaker.l2 (a0 : List Int) (v167 : List (List Int)) (v168 : Int) : Option (List (List Int)) :=
  if v168 < (a0.length : Int) then (((lAt a0 v168 >>= fun y180 => if y180 = 3 then (reticentref24_from.f a0 (IntKind.i64.wrap (v168 - 1)) >>= fun y182 => reticentref24_from.f a0 (IntKind.i64.wrap (y182 - 1)) >>= fun y183 => reticentref24_but.f a0 y182 v168 v168 >>= fun y184 => if (v167.length + ([y184] : List (List Int)).length) * 24 ≤ big then (reticentref24_but.f a0 y183 y182 v168 >>= fun y186 => if ((v167 ++ ([y184] : List (List Int))).length + ([y186] : List (List Int)).length) * 24 ≤ big then (some ((v167 ++ ([y184] : List (List Int))) ++ ([y186] : List (List Int)))) else none) else none) else (some v167) : Option (List (List Int))) >>= fun x179 => reticentref24_Weaker.l2 a0 x179 (IntKind.i64.wrap (v168 + 1)))) else (some v167)
partial_fixpoint
def reticentref24_Weaker.l3 (a0 : List Int) (v224 : List (List Int)) (v225 : Int) : Option (List (List Int)) :=
  if v225 < (a0.length : Int) then (((lAt a0 v225 >>= fun y237 => if y237 = 3 then (reticentref24_from.f a0 (IntKind.i64.wrap (v225 - 1)) >>= fun y239 => reticentref24_from.f a0 (IntKind.i64.wrap (y239 - 1)) >>= fun y240 => reticentref24_but.f a0 y239 v225 v225 >>= fun y241 => if (v224.length + ([y241] : List (List Int)).length) * 24 ≤ big then (reticentref24_but.f a0 y240 y239 v225 >>= fun y243 => if ((v224 ++ ([y241] : List (List Int))).length + ([y243] : List (List Int)).length) * 24 ≤ big then (some ((v224 ++ ([y241] : List (List Int))) ++ ([y243] : List (List Int)))) else none) else none) else (some v224) : Option (List (List Int))) >>= fun x236 => reticentref24_Weaker.l3 a0 x236 (IntKind.i64.wrap (v225 + 1)))) else (some v224)
partial_fixpoint
def reticentref24_Weaker.f (a0 : List Int) : Option (List (List Int)) :=
  reticentref04_Made.f a0 >>= fun y1 => if y1 = 2 then (((if (a0.length : Int) = 1 then (lAt a0 0 >>= fun y7 => some (!decide (y7 = 6))) else (some true) : Option Bool) >>= fun x5 => if x5 = true then (if (([] : List (List Int)).length + ([([6] : List Int)] : List (List Int)).length) * 24 ≤ big then ((reticentref24_Weaker.l0 a0 (([] : List (List Int)) ++ ([([6] : List Int)] : List (List Int))) 0 >>= fun x48 => some x48)) else none) else ((reticentref24_Weaker.l1 a0 ([] : List (List Int)) 0 >>= fun x105 => some x105)))) else (((if (a0.length : Int) = 1 then (lAt a0 0 >>= fun y128 => some (!decide (y128 = 1))) else (some true) : Option Bool) >>= fun x126 => if x126 = true then (if (([] : List (List Int)).length + ([([1] : List Int)] : List (List Int)).length) * 24 ≤ big then ((reticentref24_Weaker.l2 a0 (([] : List (List Int)) ++ ([([1] : List Int)] : List (List Int))) 0 >>= fun x169 => some x169)) else none) else ((reticentref24_Weaker.l3 a0 ([] : List (List Int)) 0 >>= fun x226 => some x226))))
def reticentref06_Word.f (a0 : Int) : Option Str :=
  lAt ([([110, 111, 111, 112] : Str), ([112, 117, 115, 104] : Str), ([112, 111, 112] : Str), ([97, 100, 100] : Str), ([115, 117, 98] : Str), ([108, 111, 97, 100] : Str), ([115, 116, 111, 114, 101] : Str), ([106, 117, 109, 112] : Str), ([98, 110, 122] : Str), ([99, 97, 108, 108] : Str), ([114, 101, 116, 117, 114, 110] : Str), ([111, 117, 116, 112, 117, 116] : Str), ([104, 97, 108, 116] : Str)] : List Str) a0 >>= fun y1 => some y1
def reticentref24_with.l0 (a0 : api_Table) (a1 : Int) (a2 : Int) (a3 : List Int) (v153 : List api_Row) (v154 : Int) : Option (List api_Row) :=
  if v154 < (a0.Rows.length : Int) then (((lAt a0.Rows v154 >>= fun y195 => ((if v154 = a1 then (some (decide (a2 = 0))) else (some false) : Option Bool) >>= fun x197 => if x197 = true then (((if v154 = a1 then (some (decide (a2 = 1))) else (some false) : Option Bool) >>= fun x201 => if x201 = true then (((if v154 = a1 then (some (decide (a2 = 2))) else (some false) : Option Bool) >>= fun x205 => if x205 = true then (if (v153.length + ([(⟨a3, a3, a3⟩ : api_Row)] : List api_Row).length) * 72 ≤ big then (some (v153 ++ ([(⟨a3, a3, a3⟩ : api_Row)] : List api_Row))) else none) else (if (v153.length + ([(⟨a3, a3, y195.Pc⟩ : api_Row)] : List api_Row).length) * 72 ≤ big then (some (v153 ++ ([(⟨a3, a3, y195.Pc⟩ : api_Row)] : List api_Row))) else none))) else (((if v154 = a1 then (some (decide (a2 = 2))) else (some false) : Option Bool) >>= fun x211 => if x211 = true then (if (v153.length + ([(⟨a3, y195.Res, a3⟩ : api_Row)] : List api_Row).length) * 72 ≤ big then (some (v153 ++ ([(⟨a3, y195.Res, a3⟩ : api_Row)] : List api_Row))) else none) else (if (v153.length + ([(⟨a3, y195.Res, y195.Pc⟩ : api_Row)] : List api_Row).length) * 72 ≤ big then (some (v153 ++ ([(⟨a3, y195.Res, y195.Pc⟩ : api_Row)] : List api_Row))) else none))))) else (((if v154 = a1 then (some (decide (a2 = 1))) else (some false) : Option Bool) >>= fun x217 => if x217 = true then (((if v154 = a1 then (some (decide (a2 = 2))) else (some false) : Option Bool) >>= fun x221 => if x221 = true then (if (v153.length + ([(⟨y195.May, a3, a3⟩ : api_Row)] : List api_Row).length) * 72 ≤ big then (some (v153 ++ ([(⟨y195.May, a3, a3⟩ : api_Row)] : List api_Row))) else none) else (if (v153.length + ([(⟨y195.May, a3, y195.Pc⟩ : api_Row)] : List api_Row).length) * 72 ≤ big then (some (v153 ++ ([(⟨y195.May, a3, y195.Pc⟩ : api_Row)] : List api_Row))) else none))) else (((if v154 = a1 then (some (decide (a2 = 2))) else (some false) : Option Bool) >>= fun x227 => if x227 = true then (if (v153.length + ([(⟨y195.May, y195.Res, a3⟩ : api_Row)] : List api_Row).length) * 72 ≤ big then (some (v153 ++ ([(⟨y195.May, y195.Res, a3⟩ : api_Row)] : List api_Row))) else none) else (if (v153.length + ([y195] : List api_Row).length) * 72 ≤ big then (some (v153 ++ ([y195] : List api_Row))) else none)))))) : Option (List api_Row)) >>= fun x194 => reticentref24_with.l0 a0 a1 a2 a3 x194 (IntKind.i64.wrap (v154 + 1)))) else (some v153)
partial_fixpoint
def reticentref24_with.f (a0 : api_Table) (a1 : Int) (a2 : Int) (a3 : List Int) : Option api_Table :=
  (reticentref24_with.l0 a0 a1 a2 a3 ([] : List api_Row) 0 >>= fun x155 => some (⟨x155⟩ : api_Table))
def reticentref24_All.l12 (a0 : api_Table) (v246 : Int) (v329 : Int) (y333 : List (List Int)) (v356 : List reticentref24_M) (v357 : Int) : Option (List reticentref24_M) :=
  if v357 < (y333.length : Int) then (lAt y333 v357 >>= fun y360 => reticentref06_Word.f v246 >>= fun y361 => if (y361.length + ([32] : Str).length : Int) ≤ 9223372036854775807 then (lAt ([([109, 97, 121] : Str), ([114, 101, 115] : Str), ([112, 99] : Str)] : List Str) v329 >>= fun y363 => if ((y361 ++ ([32] : Str)).length + y363.length : Int) ≤ 9223372036854775807 then (if (((y361 ++ ([32] : Str)) ++ y363).length + ([32] : Str).length : Int) ≤ 9223372036854775807 then (lib_Itoa v357 >>= fun y366 => if ((((y361 ++ ([32] : Str)) ++ y363) ++ ([32] : Str)).length + y366.length : Int) ≤ 9223372036854775807 then (reticentref24_with.f a0 v246 v329 y360 >>= fun y368 => if (v356.length + ([(⟨y368, (((y361 ++ ([32] : Str)) ++ y363) ++ ([32] : Str)) ++ y366⟩ : reticentref24_M)] : List reticentref24_M).length) * 40 ≤ big then (reticentref24_All.l12 a0 v246 v329 y333 (v356 ++ ([(⟨y368, (((y361 ++ ([32] : Str)) ++ y363) ++ ([32] : Str)) ++ y366⟩ : reticentref24_M)] : List reticentref24_M)) (IntKind.i64.wrap (v357 + 1))) else none) else none) else none) else none) else none) else (some v356)
partial_fixpoint
def reticentref24_All.l11 (a0 : api_Table) (v246 : Int) (y249 : api_Row) (v328 : List reticentref24_M) (v329 : Int) : Option (List reticentref24_M) :=
  if v329 < 3 then (lAt ([y249.May, y249.Res, y249.Pc] : List (List Int)) v329 >>= fun y332 => reticentref24_Weaker.f y332 >>= fun y333 => (reticentref24_All.l12 a0 v246 v329 y333 v328 0 >>= fun x358 => reticentref24_All.l11 a0 v246 y249 x358 (IntKind.i64.wrap (v329 + 1)))) else (some v328)
partial_fixpoint
def reticentref24_All.l8 (a0 : api_Table) (v245 : List reticentref24_M) (v246 : Int) : Option (List reticentref24_M) :=
  if v246 < (a0.Rows.length : Int) then (lAt a0.Rows v246 >>= fun y249 => (reticentref24_All.l11 a0 v246 y249 v245 0 >>= fun x330 => reticentref24_All.l8 a0 x330 (IntKind.i64.wrap (v246 + 1)))) else (some v245)
partial_fixpoint
def reticentref24_All.f (a0 : api_Table) : Option (List reticentref24_M) :=
  (reticentref24_All.l8 a0 ([] : List reticentref24_M) 0 >>= fun x247 => some x247)
def reticentref06_Like.l0 (a0 : api_Table) (a1 : api_Table) (v52 : Int) : Option (Bool ⊕ Unit) :=
  if v52 < (a0.Rows.length : Int) then (((lAt a0.Rows v52 >>= fun y66 => lAt a1.Rows v52 >>= fun y67 => reticentref04_Same.f y66.May y67.May >>= fun y68 => if (!y68) = true then (some true) else (lAt a0.Rows v52 >>= fun y70 => lAt a1.Rows v52 >>= fun y71 => reticentref04_Same.f y70.Res y71.Res >>= fun y72 => if (!y72) = true then (some true) else (lAt a0.Rows v52 >>= fun y74 => lAt a1.Rows v52 >>= fun y75 => reticentref04_Same.f y74.Pc y75.Pc >>= fun y76 => some (!y76))) : Option Bool) >>= fun x65 => if x65 = true then (some (.inl false)) else (reticentref06_Like.l0 a0 a1 (IntKind.i64.wrap (v52 + 1))))) else (some (.inr ()))
partial_fixpoint
def reticentref06_Like.f (a0 : api_Table) (a1 : api_Table) : Option Bool :=
  if (a0.Rows.length : Int) = (a1.Rows.length : Int) then ((reticentref06_Like.l0 a0 a1 0 >>= fun o => match o with | .inl r => some r | .inr () => some true)) else (some false)
def reticentlaw24_MutantAll.l0 (y2 : (List api_Table) × Int) (y6 : List reticentref24_M) (v25 : Int) : Option (Bool ⊕ Unit) :=
  if v25 < (y2.1.length : Int) then (lAt y2.1 v25 >>= fun y27 => lAt y6 v25 >>= fun y28 => reticentref06_Like.f y27 y28.T >>= fun y29 => if (!y29) = true then (some (.inl false)) else (reticentlaw24_MutantAll.l0 y2 y6 (IntKind.i64.wrap (v25 + 1)))) else (some (.inr ()))
partial_fixpoint
def reticentlaw24_MutantAll.f (a0 : api_Table) (a1 : Int) : Option Bool :=
  reticentlaw24_few.f a0 >>= fun y1 => mutant_All.f y1 >>= fun y2 => mutant_Name.f y1 a1 >>= fun y3 => reticentref06_Check.f y1 >>= fun y4 => if y4.E = 0 then (reticentref24_All.f y1 >>= fun y6 => ((if y2.2 = 0 then (if (y2.1.length : Int) = (y6.length : Int) then (reticentlaw24_alive.f >>= fun y13 => some (!y13)) else (some true)) else (some true) : Option Bool) >>= fun x10 => if x10 = true then (some false) else ((reticentlaw24_MutantAll.l0 y2 y6 0 >>= fun o => match o with | .inl r => some r | .inr () => ((if a1 < 0 then (some true) else (some (decide (a1 ≥ (y6.length : Int)))) : Option Bool) >>= fun x32 => if x32 = true then (((if y3.2 = 9 then (some (decide (y3.1 = ([] : Str)))) else (some false) : Option Bool) >>= fun x36 => some x36)) else (((if y3.2 = 0 then (lAt y6 a1 >>= fun y42 => some (decide (y3.1 = y42.S))) else (some false) : Option Bool) >>= fun x40 => some x40))))))) else (((reticentlaw24_alive.f >>= fun y49 => if y49 = true then (if y2.2 = y4.E then (if y3.2 = y4.E then (if (y2.1.length : Int) = 0 then (some (decide (y3.1 = ([] : Str)))) else (some false)) else (some false)) else (some false)) else (some false) : Option Bool) >>= fun x48 => some x48))

end Go.Proofs.YtjkijjhjffodcaaDoor.MA
