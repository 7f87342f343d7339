import Derived.Test.YthpmbokenhpakaaAb18
set_option linter.unusedVariables false
namespace Go.Proofs.Ythpmbokenhpakaa.LA
open Go Go.Proofs.Ythpmbokenhpakaa.Ab

structure api_Lattice where
  Names : List Str
  Up : List Int
def ks0 : Str := [0, 1, 1, 2, 1, 2, 2, 3, 1, 2, 2, 3, 2, 3, 3, 4, 1, 2, 2, 3, 2, 3, 3, 4, 2, 3, 3, 4, 3, 4, 4, 5, 1, 2, 2, 3, 2, 3, 3, 4, 2, 3, 3, 4, 3, 4, 4, 5, 2, 3, 3, 4, 3, 4, 4, 5, 3, 4, 4, 5, 4, 5, 5, 6, 1, 2, 2, 3, 2, 3, 3, 4, 2, 3, 3, 4, 3, 4, 4, 5, 2, 3, 3, 4, 3, 4, 4, 5, 3, 4, 4, 5, 4, 5, 5, 6, 2, 3, 3, 4, 3, 4, 4, 5, 3, 4, 4, 5, 4, 5, 5, 6, 3, 4, 4, 5, 4, 5, 5, 6, 4, 5, 5, 6, 5, 6, 6, 7, 1, 2, 2, 3, 2, 3, 3, 4, 2, 3, 3, 4, 3, 4, 4, 5, 2, 3, 3, 4, 3, 4, 4, 5, 3, 4, 4, 5, 4, 5, 5, 6, 2, 3, 3, 4, 3, 4, 4, 5, 3, 4, 4, 5, 4, 5, 5, 6, 3, 4, 4, 5, 4, 5, 5, 6, 4, 5, 5, 6, 5, 6, 6, 7, 2, 3, 3, 4, 3, 4, 4, 5, 3, 4, 4, 5, 4, 5, 5, 6, 3, 4, 4, 5, 4, 5, 5, 6, 4, 5, 5, 6, 5, 6, 6, 7, 3, 4, 4, 5, 4, 5, 5, 6, 4, 5, 5, 6, 5, 6, 6, 7, 4, 5, 5, 6, 5, 6, 6, 7, 5, 6, 6, 7, 6, 7, 7, 8]
def f_api_Lattice : List (Fld api_Lattice) := [⟨(kL kS), api_Lattice.Names⟩, ⟨(kL (kI .u32)), api_Lattice.Up⟩]
def f_api_Lattice_n0 : List (Fld api_Lattice) := [⟨(kN Str), api_Lattice.Names⟩, ⟨(kL (kI .u32)), api_Lattice.Up⟩]
def reticentlaw01_few.l0 (a0 : api_Lattice) (v11 : List Str) (v12 : Int) : Option (List Str) :=
  if v12 < ((lCut a0.Names 0 (if 10 < (a0.Names.length : Int) then 10 else (a0.Names.length : Int))).length : Int) then (lAt (lCut a0.Names 0 (if 10 < (a0.Names.length : Int) then 10 else (a0.Names.length : Int))) v12 >>= fun y15 => if 0 ≤ (if 15 < (y15.length : Int) then 15 else (y15.length : Int)) ∧ (if 15 < (y15.length : Int) then 15 else (y15.length : Int)) ≤ (y15.length : Int) then (if (v11.length + ([sCut y15 0 (if 15 < (y15.length : Int) then 15 else (y15.length : Int))] : List Str).length) * 16 ≤ big then (reticentlaw01_few.l0 a0 (v11 ++ ([sCut y15 0 (if 15 < (y15.length : Int) then 15 else (y15.length : Int))] : List Str)) (IntKind.i64.wrap (v12 + 1))) else none) else none) else (some v11)
partial_fixpoint
def reticentlaw01_few.f (a0 : api_Lattice) : Option api_Lattice :=
  if 0 ≤ (if 10 < (a0.Up.length : Int) then 10 else (a0.Up.length : Int)) ∧ (if 10 < (a0.Up.length : Int) then 10 else (a0.Up.length : Int)) ≤ (a0.Up.length : Int) then (if 0 ≤ (if 10 < (a0.Names.length : Int) then 10 else (a0.Names.length : Int)) ∧ (if 10 < (a0.Names.length : Int) then 10 else (a0.Names.length : Int)) ≤ (a0.Names.length : Int) then ((reticentlaw01_few.l0 a0 ([] : List Str) 0 >>= fun x13 => some (⟨(⟨x13, (⟨[], lCut a0.Up 0 (if 10 < (a0.Up.length : Int) then 10 else (a0.Up.length : Int))⟩ : api_Lattice).Up⟩ : api_Lattice).Names, (⟨x13, (⟨[], lCut a0.Up 0 (if 10 < (a0.Up.length : Int) then 10 else (a0.Up.length : Int))⟩ : api_Lattice).Up⟩ : api_Lattice).Up⟩ : api_Lattice))) else none) else none
def lattice_name.l0 (a0 : Str) (v19 : Int) : Option (Bool ⊕ Unit) :=
  if v19 < (a0.length : Int) then (((if 0 ≤ v19 ∧ v19 < (a0.length : Int) then (if sAt a0 v19 < 97 then (some true) else (if 0 ≤ v19 ∧ v19 < (a0.length : Int) then (some (decide (sAt a0 v19 > 122))) else none)) else none : Option Bool) >>= fun x24 => if x24 = true then (some (.inl false)) else (lattice_name.l0 a0 (IntKind.i64.wrap (v19 + 1))))) else (some (.inr ()))
partial_fixpoint
def lattice_name.f (a0 : Str) : Option Bool :=
  (lattice_name.l0 a0 0 >>= fun o => match o with | .inl r => some r | .inr () => ((if a0 = ([] : Str) then (some false) else (some (decide ((a0.length : Int) ≤ 12))) : Option Bool) >>= fun x30 => some x30))
def slices_Index_string_string.l0 (a0 : List Str) (a1 : Str) (v7 : Int) : Option (Int ⊕ Unit) :=
  if v7 < (a0.length : Int) then (lAt a0 v7 >>= fun y9 => if a1 = y9 then (some (.inl v7)) else (slices_Index_string_string.l0 a0 a1 (IntKind.i64.wrap (v7 + 1)))) else (some (.inr ()))
partial_fixpoint
def slices_Index_string_string.f (a0 : List Str) (a1 : Str) : Option Int :=
  (slices_Index_string_string.l0 a0 a1 0 >>= fun o => match o with | .inl r => some r | .inr () => some (-1))
def slices_Contains_string_string.f (a0 : List Str) (a1 : Str) : Option Bool :=
  slices_Index_string_string.f a0 a1 >>= fun y1 => some (decide (y1 ≥ 0))
def lattice_may.l0 (a0 : api_Lattice) (v43 : Int) : Option (Bool ⊕ Unit) :=
  if v43 < (a0.Names.length : Int) then (lAt a0.Names v43 >>= fun y45 => ((lattice_name.f y45 >>= fun y54 => if (!y54) = true then (some true) else (if 0 ≤ v43 ∧ v43 ≤ (a0.Names.length : Int) then (slices_Contains_string_string.f (lCut a0.Names 0 v43) y45 >>= fun y57 => if y57 = true then (some true) else (lAt a0.Up v43 >>= fun y59 => if ¬ (a0.Up.length : Int) < 0 then (some (!decide (bShr .u32 y59 (a0.Up.length : Int) = 0))) else none)) else none) : Option Bool) >>= fun x53 => if x53 = true then (some (.inl false)) else (lattice_may.l0 a0 (IntKind.i64.wrap (v43 + 1))))) else (some (.inr ()))
partial_fixpoint
def lattice_may.f (a0 : api_Lattice) : Option Bool :=
  ((if (a0.Up.length : Int) < 1 then (some true) else (if (a0.Up.length : Int) > 8 then (some true) else (some (!decide ((a0.Names.length : Int) = (a0.Up.length : Int))))) : Option Bool) >>= fun x3 => if x3 = true then (some false) else ((lattice_may.l0 a0 0 >>= fun o => match o with | .inl r => some r | .inr () => some true)))
def lattice_pairs_1.l3 {σ : Type} (a_y : σ → Int → Int → Option (Bool × σ)) (a1 : Int) (v28 : Int) (v37 : σ) (v38 : Int) : Option (σ ⊕ σ) :=
  if v38 < a1 then (a_y v37 v28 v38 >>= fun y41 => if (!y41.1) = true then (some (.inl y41.2)) else (lattice_pairs_1.l3 a_y a1 v28 y41.2 (IntKind.i64.wrap (v38 + 1)))) else (some (.inr v37))
partial_fixpoint
def lattice_pairs_1.l2 {σ : Type} (a_y : σ → Int → Int → Option (Bool × σ)) (a1 : Int) (v27 : σ) (v28 : Int) : Option (σ ⊕ σ) :=
  if v28 < a1 then ((lattice_pairs_1.l3 a_y a1 v28 v27 0 >>= fun o => match o with | .inl r => some (.inl r) | .inr x39 => lattice_pairs_1.l2 a_y a1 x39 (IntKind.i64.wrap (v28 + 1)))) else (some (.inr v27))
partial_fixpoint
def lattice_pairs_1.f {σ : Type} (a_y : σ → Int → Int → Option (Bool × σ)) (a_s : σ) (a1 : Int) : Option σ :=
  (lattice_pairs_1.l2 a_y a1 a_s 0 >>= fun o => match o with | .inl r => some r | .inr x29 => some x29)
def lattice_pairs.f (a0 : Int) : Option Int :=
  some a0
def lattice_flows.f (a0 : api_Lattice) (a1 : Int) (a2 : Int) : Option Bool :=
  lAt a0.Up a1 >>= fun y1 => if ¬ a2 < 0 then (some (decide (bAnd .u32 (bShr .u32 y1 a2) 1 = 1))) else none
def lattice_order.y0 (a0 : api_Lattice) (v26 : Unit) (v27 : Int) (v28 : Int) : Option (Bool × ((Unit) × Nat)) :=
  ((if v27 = v28 then (lattice_flows.f a0 v27 v28 >>= fun y37 => if (!y37) = true then (some true) else (some false)) else (lattice_flows.f a0 v27 v28 >>= fun y39 => if y39 = true then (lattice_flows.f a0 v28 v27 >>= fun y41 => some y41) else (some false)) : Option Bool) >>= fun x35 => if x35 = true then (some (false, ((), 1))) else (((lattice_flows.f a0 v27 v28 >>= fun y48 => if y48 = true then (lAt a0.Up v28 >>= fun y50 => lAt a0.Up v27 >>= fun y51 => some (!decide (bAndNot .u32 y50 y51 = 0))) else (some false) : Option Bool) >>= fun x47 => if x47 = true then (some (false, ((), 1))) else (some (true, ((), 0))))))
def lattice_order.f (a0 : api_Lattice) : Option Bool :=
  lattice_pairs.f (a0.Up.length : Int) >>= fun y1 => (lattice_pairs_1.f (yOf (lattice_order.y0 a0)) ((), 0) y1 >>= fun y53 => if y53.2 = 0 then (some true) else if y53.2 = 1 then (some false) else none)
def slices_IndexFunc_uint32_uint32.l0 (a0 : List Int) (a1 : Int → Option Bool) (v9 : Int) : Option (Int ⊕ Unit) :=
  if v9 < (a0.length : Int) then (lAt a0 v9 >>= fun y11 => a1 y11 >>= fun y12 => if y12 = true then (some (.inl v9)) else (slices_IndexFunc_uint32_uint32.l0 a0 a1 (IntKind.i64.wrap (v9 + 1)))) else (some (.inr ()))
partial_fixpoint
def slices_IndexFunc_uint32_uint32.f (a0 : List Int) (a1 : Int → Option Bool) : Option Int :=
  (slices_IndexFunc_uint32_uint32.l0 a0 a1 0 >>= fun o => match o with | .inl r => some r | .inr () => some (-1))
def lattice_join_1.f (a0 : Int) (a1 : Int) : Option Bool :=
  some (decide (a0 = a1))
def lattice_join.f (a0 : api_Lattice) (a1 : Int) (a2 : Int) : Option Int :=
  lAt a0.Up a1 >>= fun y1 => lAt a0.Up a2 >>= fun y2 => slices_IndexFunc_uint32_uint32.f a0.Up (fun z0 => lattice_join_1.f z0 (bAnd .u32 y1 y2)) >>= fun y3 => some y3
def lattice_down.l0 (a0 : api_Lattice) (a1 : Int) (v8 : Int) (v9 : Int) : Option Int :=
  if v8 < (a0.Up.length : Int) then (lAt a0.Up v8 >>= fun y12 => if ¬ a1 < 0 then (if ¬ v8 < 0 then (lattice_down.l0 a0 a1 (IntKind.i64.wrap (v8 + 1)) (bOr .u32 v9 (bShl .u32 (bAnd .u32 (bShr .u32 y12 a1) 1) v8))) else none) else none) else (some v9)
partial_fixpoint
def lattice_down.f (a0 : api_Lattice) (a1 : Int) : Option Int :=
  (lattice_down.l0 a0 a1 0 0 >>= fun x10 => some x10)
def lattice_meet.l0 (a0 : api_Lattice) (y1 : Int) (y2 : Int) (v9 : Int) : Option (Int ⊕ Unit) :=
  if v9 < (a0.Up.length : Int) then (lattice_down.f a0 v9 >>= fun y11 => if y11 = bAnd .u32 y1 y2 then (some (.inl v9)) else (lattice_meet.l0 a0 y1 y2 (IntKind.i64.wrap (v9 + 1)))) else (some (.inr ()))
partial_fixpoint
def lattice_meet.f (a0 : api_Lattice) (a1 : Int) (a2 : Int) : Option Int :=
  lattice_down.f a0 a1 >>= fun y1 => lattice_down.f a0 a2 >>= fun y2 => (lattice_meet.l0 a0 y1 y2 0 >>= fun o => match o with | .inl r => some r | .inr () => some (-1))
def lattice_Check.y0 (a0 : api_Lattice) (v22 : Int) (v23 : Int) (v24 : Int) : Option (Bool × ((Int) × Nat)) :=
  ((lattice_join.f a0 v23 v24 >>= fun y29 => if y29 < 0 then (some true) else (lattice_meet.f a0 v23 v24 >>= fun y31 => some (decide (y31 < 0))) : Option Bool) >>= fun x28 => if x28 = true then (some (false, (3, 1))) else (some (true, (v22, 0))))
def lattice_Check.f (a0 : api_Lattice) : Option Int :=
  lattice_may.f a0 >>= fun y1 => if (!y1) = true then (some 1) else (lattice_order.f a0 >>= fun y3 => if (!y3) = true then (some 2) else (lattice_pairs.f (a0.Up.length : Int) >>= fun y5 => (lattice_pairs_1.f (yOf (lattice_Check.y0 a0)) (0, 0) y5 >>= fun y33 => if y33.2 = 0 then (some 0) else if y33.2 = 1 then (some y33.1) else none)))
def slices_IndexFunc_int_int.l0 (a0 : List Int) (a1 : Int → Option Bool) (v9 : Int) : Option (Int ⊕ Unit) :=
  if v9 < (a0.length : Int) then (lAt a0 v9 >>= fun y11 => a1 y11 >>= fun y12 => if y12 = true then (some (.inl v9)) else (slices_IndexFunc_int_int.l0 a0 a1 (IntKind.i64.wrap (v9 + 1)))) else (some (.inr ()))
partial_fixpoint
def slices_IndexFunc_int_int.f (a0 : List Int) (a1 : Int → Option Bool) : Option Int :=
  (slices_IndexFunc_int_int.l0 a0 a1 0 >>= fun o => match o with | .inl r => some r | .inr () => some (-1))
def slices_ContainsFunc_int_int.f (a0 : List Int) (a1 : Int → Option Bool) : Option Bool :=
  slices_IndexFunc_int_int.f a0 a1 >>= fun y1 => some (decide (y1 ≥ 0))
def lattice_there_1.f (a0 : Int) (a1 : api_Lattice) : Option Bool :=
  ((if a0 < 0 then (some true) else (some (decide (a0 ≥ (a1.Up.length : Int)))) : Option Bool) >>= fun x2 => some x2)
def lattice_there.f (a0 : api_Lattice) (a1 : List Int) : Option Int :=
  lattice_Check.f a0 >>= fun y1 => if y1 = 0 then (slices_ContainsFunc_int_int.f a1 (fun z0 => lattice_there_1.f z0 a0) >>= fun y3 => if y3 = true then (some 9) else (some 0)) else (some y1)
def lattice_Flows.f (a0 : api_Lattice) (a1 : Int) (a2 : Int) : Option (Bool × Int) :=
  lattice_there.f a0 ([a1, a2] : List Int) >>= fun y1 => if y1 = 0 then (lattice_flows.f a0 a1 a2 >>= fun y3 => some (y3, 0)) else (some (false, y1))
def lattice_Join.f (a0 : api_Lattice) (a1 : Int) (a2 : Int) : Option (Int × Int) :=
  lattice_there.f a0 ([a1, a2] : List Int) >>= fun y1 => if y1 = 0 then (lattice_join.f a0 a1 a2 >>= fun y3 => some (y3, 0)) else (some (0, y1))
def lattice_Meet.f (a0 : api_Lattice) (a1 : Int) (a2 : Int) : Option (Int × Int) :=
  lattice_there.f a0 ([a1, a2] : List Int) >>= fun y1 => if y1 = 0 then (lattice_meet.f a0 a1 a2 >>= fun y3 => some (y3, 0)) else (some (0, y1))
def lattice_height.l0 (a0 : api_Lattice) (a1 : Int) (rc : api_Lattice → Int → Option Int) (v33 : Int) (v34 : Int) : Option Int :=
  if v33 < (a0.Up.length : Int) then (((((if v33 = a1 then (some false) else (lattice_flows.f a0 v33 a1 >>= fun y49 => some y49) : Option Bool) >>= fun x47 => if x47 = true then (rc a0 v33 >>= fun y51 => some (if v34 < IntKind.i64.wrap (1 + y51) then IntKind.i64.wrap (1 + y51) else v34)) else (some v34)) : Option Int) >>= fun x44 => lattice_height.l0 a0 a1 rc (IntKind.i64.wrap (v33 + 1)) x44)) else (some v34)
partial_fixpoint
def lattice_height.B (rc : api_Lattice → Int → Option Int) (a0 : api_Lattice) (a1 : Int) : Option Int :=
  (lattice_height.l0 a0 a1 rc 0 0 >>= fun x35 => some x35)
def lattice_height.F : Nat → api_Lattice → Int → Option Int
  | 0 => fun _ _ => none
  | k + 1 => lattice_height.B (lattice_height.F k)
def lattice_height.f (a0 : api_Lattice) (a1 : Int) : Option Int := lattice_height.F 1000 a0 a1 
def lattice_Height.f (a0 : api_Lattice) (a1 : Int) : Option (Int × Int) :=
  lattice_there.f a0 ([a1] : List Int) >>= fun y1 => if y1 = 0 then (lattice_height.f a0 a1 >>= fun y3 => some (y3, 0)) else (some (0, y1))
def reticentref01_Name.l0 (a0 : Str) (v19 : Int) : Option (Bool ⊕ Unit) :=
  if v19 < (a0.length : Int) then (((if 0 ≤ v19 ∧ v19 < (a0.length : Int) then (if sAt a0 v19 < 97 then (some true) else (if 0 ≤ v19 ∧ v19 < (a0.length : Int) then (some (decide (sAt a0 v19 > 122))) else none)) else none : Option Bool) >>= fun x24 => if x24 = true then (some (.inl false)) else (reticentref01_Name.l0 a0 (IntKind.i64.wrap (v19 + 1))))) else (some (.inr ()))
partial_fixpoint
def reticentref01_Name.f (a0 : Str) : Option Bool :=
  (reticentref01_Name.l0 a0 0 >>= fun o => match o with | .inl r => some r | .inr () => ((if (a0.length : Int) > 0 then (some (decide ((a0.length : Int) ≤ 12))) else (some false) : Option Bool) >>= fun x30 => some x30))
def reticentref01_high.l0 (a1 : Int) (v3 : Int) (v4 : Int) : Option Int :=
  if v4 < a1 then (reticentref01_high.l0 a1 (IntKind.u32.wrap (v3.tdiv 2)) (IntKind.i64.wrap (v4 + 1))) else (some v3)
partial_fixpoint
def reticentref01_high.f (a0 : Int) (a1 : Int) : Option Bool :=
  (reticentref01_high.l0 a1 a0 0 >>= fun x5 => some (decide (x5 > 0)))
def reticentref01_may.l3 (a0 : api_Lattice) (v53 : Int) (y55 : Str) (v73 : Int) : Option (Bool ⊕ Unit) :=
  if v73 < ((lCut a0.Names 0 v53).length : Int) then (lAt (lCut a0.Names 0 v53) v73 >>= fun y75 => if y75 = y55 then (some (.inl false)) else (reticentref01_may.l3 a0 v53 y55 (IntKind.i64.wrap (v73 + 1)))) else (some (.inr ()))
partial_fixpoint
def reticentref01_may.l2 (a0 : api_Lattice) (v53 : Int) : Option (Bool ⊕ Unit) :=
  if v53 < (a0.Names.length : Int) then (lAt a0.Names v53 >>= fun y55 => ((reticentref01_Name.f y55 >>= fun y61 => if (!y61) = true then (some true) else (lAt a0.Up v53 >>= fun y63 => reticentref01_high.f y63 (a0.Up.length : Int) >>= fun y64 => some y64) : Option Bool) >>= fun x60 => if x60 = true then (some (.inl false)) else (if 0 ≤ v53 ∧ v53 ≤ (a0.Names.length : Int) then ((reticentref01_may.l3 a0 v53 y55 0 >>= fun o => match o with | .inl r => some (.inl r) | .inr () => reticentref01_may.l2 a0 (IntKind.i64.wrap (v53 + 1)))) else none))) else (some (.inr ()))
partial_fixpoint
def reticentref01_may.f (a0 : api_Lattice) : Option Bool :=
  ((if (a0.Up.length : Int) < 1 then (some true) else (if (a0.Up.length : Int) > 8 then (some true) else (some (!decide ((a0.Names.length : Int) = (a0.Up.length : Int))))) : Option Bool) >>= fun x3 => if x3 = true then (some false) else ((reticentref01_may.l2 a0 0 >>= fun o => match o with | .inl r => some r | .inr () => some true)))
def reticentref01_Flows.l0 (a2 : Int) (v4 : Int) (v5 : Int) : Option Int :=
  if v5 < a2 then (reticentref01_Flows.l0 a2 (IntKind.u32.wrap (v4.tdiv 2)) (IntKind.i64.wrap (v5 + 1))) else (some v4)
partial_fixpoint
def reticentref01_Flows.f (a0 : api_Lattice) (a1 : Int) (a2 : Int) : Option Bool :=
  lAt a0.Up a1 >>= fun y1 => (reticentref01_Flows.l0 a2 y1 0 >>= fun x6 => some (decide (x6.tmod 2 = 1)))
def reticentref01_order.l12 (a0 : api_Lattice) (v315 : Int) (v421 : Int) (v459 : Int) : Option (Bool ⊕ Unit) :=
  if v459 < (a0.Up.length : Int) then (((reticentref01_Flows.f a0 v315 v421 >>= fun y467 => if y467 = true then (reticentref01_Flows.f a0 v421 v459 >>= fun y469 => if y469 = true then (reticentref01_Flows.f a0 v315 v459 >>= fun y471 => some (!y471)) else (some false)) else (some false) : Option Bool) >>= fun x466 => if x466 = true then (some (.inl false)) else (reticentref01_order.l12 a0 v315 v421 (IntKind.i64.wrap (v459 + 1))))) else (some (.inr ()))
partial_fixpoint
def reticentref01_order.l11 (a0 : api_Lattice) (v315 : Int) (v421 : Int) : Option (Bool ⊕ Unit) :=
  if v421 < (a0.Up.length : Int) then (((if v315 = v421 then (some false) else (reticentref01_Flows.f a0 v315 v421 >>= fun y429 => if y429 = true then (reticentref01_Flows.f a0 v421 v315 >>= fun y431 => some y431) else (some false)) : Option Bool) >>= fun x427 => if x427 = true then (some (.inl false)) else ((reticentref01_order.l12 a0 v315 v421 0 >>= fun o => match o with | .inl r => some (.inl r) | .inr () => reticentref01_order.l11 a0 v315 (IntKind.i64.wrap (v421 + 1)))))) else (some (.inr ()))
partial_fixpoint
def reticentref01_order.l8 (a0 : api_Lattice) (v315 : Int) : Option (Bool ⊕ Unit) :=
  if v315 < (a0.Up.length : Int) then (reticentref01_Flows.f a0 v315 v315 >>= fun y317 => if (!y317) = true then (some (.inl false)) else ((reticentref01_order.l11 a0 v315 0 >>= fun o => match o with | .inl r => some (.inl r) | .inr () => reticentref01_order.l8 a0 (IntKind.i64.wrap (v315 + 1))))) else (some (.inr ()))
partial_fixpoint
def reticentref01_order.f (a0 : api_Lattice) : Option Bool :=
  (reticentref01_order.l8 a0 0 >>= fun o => match o with | .inl r => some r | .inr () => some true)
def reticentref01_Join.l3 (a0 : api_Lattice) (a1 : Int) (a2 : Int) (v181 : Int) (v242 : Int) (v243 : Bool) : Option Bool :=
  if v242 < (a0.Up.length : Int) then (((((reticentref01_Flows.f a0 a1 v242 >>= fun y265 => if y265 = true then (reticentref01_Flows.f a0 a2 v242 >>= fun y267 => if y267 = true then (reticentref01_Flows.f a0 v181 v242 >>= fun y269 => some (!y269)) else (some false)) else (some false) : Option Bool) >>= fun x264 => if x264 = true then (some false) else (some v243)) : Option Bool) >>= fun x258 => reticentref01_Join.l3 a0 a1 a2 v181 (IntKind.i64.wrap (v242 + 1)) x258)) else (some v243)
partial_fixpoint
def reticentref01_Join.l2 (a0 : api_Lattice) (a1 : Int) (a2 : Int) (v181 : Int) : Option (Int ⊕ Unit) :=
  if v181 < (a0.Up.length : Int) then (((reticentref01_Flows.f a0 a1 v181 >>= fun y187 => if y187 = true then (reticentref01_Flows.f a0 a2 v181 >>= fun y189 => some y189) else (some false) : Option Bool) >>= fun x186 => (reticentref01_Join.l3 a0 a1 a2 v181 0 x186 >>= fun x244 => if x244 = true then (some (.inl v181)) else (reticentref01_Join.l2 a0 a1 a2 (IntKind.i64.wrap (v181 + 1)))))) else (some (.inr ()))
partial_fixpoint
def reticentref01_Join.f (a0 : api_Lattice) (a1 : Int) (a2 : Int) : Option Int :=
  (reticentref01_Join.l2 a0 a1 a2 0 >>= fun o => match o with | .inl r => some r | .inr () => some (-1))
def reticentref01_Meet.l3 (a0 : api_Lattice) (a1 : Int) (a2 : Int) (v181 : Int) (v242 : Int) (v243 : Bool) : Option Bool :=
  if v242 < (a0.Up.length : Int) then (((((reticentref01_Flows.f a0 v242 a1 >>= fun y265 => if y265 = true then (reticentref01_Flows.f a0 v242 a2 >>= fun y267 => if y267 = true then (reticentref01_Flows.f a0 v242 v181 >>= fun y269 => some (!y269)) else (some false)) else (some false) : Option Bool) >>= fun x264 => if x264 = true then (some false) else (some v243)) : Option Bool) >>= fun x258 => reticentref01_Meet.l3 a0 a1 a2 v181 (IntKind.i64.wrap (v242 + 1)) x258)) else (some v243)
partial_fixpoint
def reticentref01_Meet.l2 (a0 : api_Lattice) (a1 : Int) (a2 : Int) (v181 : Int) : Option (Int ⊕ Unit) :=
  if v181 < (a0.Up.length : Int) then (((reticentref01_Flows.f a0 v181 a1 >>= fun y187 => if y187 = true then (reticentref01_Flows.f a0 v181 a2 >>= fun y189 => some y189) else (some false) : Option Bool) >>= fun x186 => (reticentref01_Meet.l3 a0 a1 a2 v181 0 x186 >>= fun x244 => if x244 = true then (some (.inl v181)) else (reticentref01_Meet.l2 a0 a1 a2 (IntKind.i64.wrap (v181 + 1)))))) else (some (.inr ()))
partial_fixpoint
def reticentref01_Meet.f (a0 : api_Lattice) (a1 : Int) (a2 : Int) : Option Int :=
  (reticentref01_Meet.l2 a0 a1 a2 0 >>= fun o => match o with | .inl r => some r | .inr () => some (-1))
def reticentref01_Check.l3 (a0 : api_Lattice) (v63 : Int) (v83 : Int) : Option (Int ⊕ Unit) :=
  if v83 < (a0.Up.length : Int) then (((reticentref01_Join.f a0 v63 v83 >>= fun y89 => if y89 < 0 then (some true) else (reticentref01_Meet.f a0 v63 v83 >>= fun y91 => some (decide (y91 < 0))) : Option Bool) >>= fun x88 => if x88 = true then (some (.inl 3)) else (reticentref01_Check.l3 a0 v63 (IntKind.i64.wrap (v83 + 1))))) else (some (.inr ()))
partial_fixpoint
def reticentref01_Check.l2 (a0 : api_Lattice) (v63 : Int) : Option (Int ⊕ Unit) :=
  if v63 < (a0.Up.length : Int) then ((reticentref01_Check.l3 a0 v63 0 >>= fun o => match o with | .inl r => some (.inl r) | .inr () => reticentref01_Check.l2 a0 (IntKind.i64.wrap (v63 + 1)))) else (some (.inr ()))
partial_fixpoint
def reticentref01_Check.f (a0 : api_Lattice) : Option Int :=
  reticentref01_may.f a0 >>= fun y1 => if (!y1) = true then (some 1) else (reticentref01_order.f a0 >>= fun y3 => if (!y3) = true then (some 2) else ((reticentref01_Check.l2 a0 0 >>= fun o => match o with | .inl r => some r | .inr () => some 0)))
def reticentlaw01_there.f (a0 : api_Lattice) (a1 : Int) : Option Bool :=
  ((if a1 ≥ 0 then (some (decide (a1 < (a0.Up.length : Int)))) else (some false) : Option Bool) >>= fun x2 => some x2)
def reticentlaw01_alive.f : Option Bool :=
  lattice_Join.f (⟨(⟨([([97] : Str), ([98] : Str), ([99] : Str), ([100] : Str)] : List Str), ([15, 10, 12, 8] : List Int)⟩ : api_Lattice).Names, (⟨([([97] : Str), ([98] : Str), ([99] : Str), ([100] : Str)] : List Str), ([15, 10, 12, 8] : List Int)⟩ : api_Lattice).Up⟩ : api_Lattice) 1 2 >>= fun y1 => lattice_Height.f (⟨(⟨([([97] : Str), ([98] : Str), ([99] : Str), ([100] : Str)] : List Str), ([15, 10, 12, 8] : List Int)⟩ : api_Lattice).Names, (⟨([([97] : Str), ([98] : Str), ([99] : Str), ([100] : Str)] : List Str), ([15, 10, 12, 8] : List Int)⟩ : api_Lattice).Up⟩ : api_Lattice) 3 >>= fun y2 => ((if y1.2 = 0 then (if y2.2 = 0 then (if y1.1 = 3 then (some (decide (y2.1 = 2))) else (some false)) else (some false)) else (some false) : Option Bool) >>= fun x6 => some x6)
def reticentref01_Height.l0 (a0 : api_Lattice) (a1 : Int) (rc : api_Lattice → Int → Option Int) (v37 : Int) (v38 : Int) : Option Int :=
  if v37 < (a0.Up.length : Int) then (((((if a1 = v37 then (some false) else (reticentref01_Flows.f a0 v37 a1 >>= fun y54 => some y54) : Option Bool) >>= fun x52 => if x52 = true then (rc a0 v37 >>= fun y56 => if IntKind.i64.wrap (1 + y56) > v38 then (some (IntKind.i64.wrap (1 + y56))) else (some v38)) else (some v38)) : Option Int) >>= fun x49 => reticentref01_Height.l0 a0 a1 rc (IntKind.i64.wrap (v37 + 1)) x49)) else (some v38)
partial_fixpoint
def reticentref01_Height.B (rc : api_Lattice → Int → Option Int) (a0 : api_Lattice) (a1 : Int) : Option Int :=
  (reticentref01_Height.l0 a0 a1 rc 0 0 >>= fun x39 => some x39)
def reticentref01_Height.F : Nat → api_Lattice → Int → Option Int
  | 0 => fun _ _ => none
  | k + 1 => reticentref01_Height.B (reticentref01_Height.F k)
def reticentref01_Height.f (a0 : api_Lattice) (a1 : Int) : Option Int := reticentref01_Height.F 1000 a0 a1 
def reticentlaw01_LatticeTells.f (a0 : api_Lattice) (a1 : Int) (a2 : Int) : Option Bool :=
  reticentlaw01_few.f (⟨a0.Names, a0.Up⟩ : api_Lattice) >>= fun y1 => lattice_Flows.f (⟨y1.Names, y1.Up⟩ : api_Lattice) a1 a2 >>= fun y2 => lattice_Join.f (⟨y1.Names, y1.Up⟩ : api_Lattice) a1 a2 >>= fun y3 => lattice_Meet.f (⟨y1.Names, y1.Up⟩ : api_Lattice) a1 a2 >>= fun y4 => lattice_Height.f (⟨y1.Names, y1.Up⟩ : api_Lattice) a1 >>= fun y5 => reticentref01_Check.f (⟨y1.Names, y1.Up⟩ : api_Lattice) >>= fun y6 => reticentref01_Check.f (⟨y1.Names, y1.Up⟩ : api_Lattice) >>= fun y7 => ((if y6 = 0 then (reticentlaw01_there.f (⟨y1.Names, y1.Up⟩ : api_Lattice) a1 >>= fun y12 => some (!y12)) else (some false) : Option Bool) >>= fun x10 => if x10 = true then (((if 9 = 0 then (reticentlaw01_there.f (⟨y1.Names, y1.Up⟩ : api_Lattice) a2 >>= fun y18 => some (!y18)) else (some false) : Option Bool) >>= fun x16 => if x16 = true then (((if y2.2 = 9 then (if y3.2 = 9 then (if y4.2 = 9 then (if y5.2 = 9 then (reticentlaw01_alive.f >>= fun y30 => some (!y30)) else (some true)) else (some true)) else (some true)) else (some true) : Option Bool) >>= fun x25 => if x25 = true then (some false) else (((if 9 = 0 then (reticentref01_Height.f (⟨y1.Names, y1.Up⟩ : api_Lattice) a1 >>= fun y37 => some (!decide (y5.1 = y37))) else (if y5.1 = 0 then (some false) else (some true)) : Option Bool) >>= fun x35 => if x35 = true then (some false) else (if 9 = 0 then (((reticentref01_Flows.f (⟨y1.Names, y1.Up⟩ : api_Lattice) a1 a2 >>= fun y47 => if y2.1 = y47 then (reticentref01_Join.f (⟨y1.Names, y1.Up⟩ : api_Lattice) a1 a2 >>= fun y49 => if y3.1 = y49 then (reticentref01_Meet.f (⟨y1.Names, y1.Up⟩ : api_Lattice) a1 a2 >>= fun y51 => some (decide (y4.1 = y51))) else (some false)) else (some false) : Option Bool) >>= fun x46 => some x46)) else (((if (!y2.1) = true then (if y3.1 = 0 then (some (decide (y4.1 = 0))) else (some false)) else (some false) : Option Bool) >>= fun x54 => some x54))))))) else (((if y2.2 = 9 then (if y3.2 = 9 then (if y4.2 = 9 then (if y5.2 = 9 then (reticentlaw01_alive.f >>= fun y67 => some (!y67)) else (some true)) else (some true)) else (some true)) else (some true) : Option Bool) >>= fun x62 => if x62 = true then (some false) else (((if 9 = 0 then (reticentref01_Height.f (⟨y1.Names, y1.Up⟩ : api_Lattice) a1 >>= fun y74 => some (!decide (y5.1 = y74))) else (if y5.1 = 0 then (some false) else (some true)) : Option Bool) >>= fun x72 => if x72 = true then (some false) else (if 9 = 0 then (((reticentref01_Flows.f (⟨y1.Names, y1.Up⟩ : api_Lattice) a1 a2 >>= fun y84 => if y2.1 = y84 then (reticentref01_Join.f (⟨y1.Names, y1.Up⟩ : api_Lattice) a1 a2 >>= fun y86 => if y3.1 = y86 then (reticentref01_Meet.f (⟨y1.Names, y1.Up⟩ : api_Lattice) a1 a2 >>= fun y88 => some (decide (y4.1 = y88))) else (some false)) else (some false) : Option Bool) >>= fun x83 => some x83)) else (((if (!y2.1) = true then (if y3.1 = 0 then (some (decide (y4.1 = 0))) else (some false)) else (some false) : Option Bool) >>= fun x91 => some x91))))))))) else (((if y6 = 0 then (reticentlaw01_there.f (⟨y1.Names, y1.Up⟩ : api_Lattice) a2 >>= fun y98 => some (!y98)) else (some false) : Option Bool) >>= fun x96 => if x96 = true then (((if y2.2 = 9 then (if y3.2 = 9 then (if y4.2 = 9 then (if y5.2 = y7 then (reticentlaw01_alive.f >>= fun y110 => some (!y110)) else (some true)) else (some true)) else (some true)) else (some true) : Option Bool) >>= fun x105 => if x105 = true then (some false) else (((if y7 = 0 then (reticentref01_Height.f (⟨y1.Names, y1.Up⟩ : api_Lattice) a1 >>= fun y117 => some (!decide (y5.1 = y117))) else (if y5.1 = 0 then (some false) else (some true)) : Option Bool) >>= fun x115 => if x115 = true then (some false) else (if 9 = 0 then (((reticentref01_Flows.f (⟨y1.Names, y1.Up⟩ : api_Lattice) a1 a2 >>= fun y127 => if y2.1 = y127 then (reticentref01_Join.f (⟨y1.Names, y1.Up⟩ : api_Lattice) a1 a2 >>= fun y129 => if y3.1 = y129 then (reticentref01_Meet.f (⟨y1.Names, y1.Up⟩ : api_Lattice) a1 a2 >>= fun y131 => some (decide (y4.1 = y131))) else (some false)) else (some false) : Option Bool) >>= fun x126 => some x126)) else (((if (!y2.1) = true then (if y3.1 = 0 then (some (decide (y4.1 = 0))) else (some false)) else (some false) : Option Bool) >>= fun x134 => some x134))))))) else (((if y2.2 = y6 then (if y3.2 = y6 then (if y4.2 = y6 then (if y5.2 = y7 then (reticentlaw01_alive.f >>= fun y147 => some (!y147)) else (some true)) else (some true)) else (some true)) else (some true) : Option Bool) >>= fun x142 => if x142 = true then (some false) else (((if y7 = 0 then (reticentref01_Height.f (⟨y1.Names, y1.Up⟩ : api_Lattice) a1 >>= fun y154 => some (!decide (y5.1 = y154))) else (if y5.1 = 0 then (some false) else (some true)) : Option Bool) >>= fun x152 => if x152 = true then (some false) else (if y6 = 0 then (((reticentref01_Flows.f (⟨y1.Names, y1.Up⟩ : api_Lattice) a1 a2 >>= fun y164 => if y2.1 = y164 then (reticentref01_Join.f (⟨y1.Names, y1.Up⟩ : api_Lattice) a1 a2 >>= fun y166 => if y3.1 = y166 then (reticentref01_Meet.f (⟨y1.Names, y1.Up⟩ : api_Lattice) a1 a2 >>= fun y168 => some (decide (y4.1 = y168))) else (some false)) else (some false) : Option Bool) >>= fun x163 => some x163)) else (((if (!y2.1) = true then (if y3.1 = 0 then (some (decide (y4.1 = 0))) else (some false)) else (some false) : Option Bool) >>= fun x171 => some x171))))))))))
def slices_Index_uint32_uint32.l0 (a0 : List Int) (a1 : Int) (v7 : Int) : Option (Int ⊕ Unit) :=
  if v7 < (a0.length : Int) then (lAt a0 v7 >>= fun y9 => if a1 = y9 then (some (.inl v7)) else (slices_Index_uint32_uint32.l0 a0 a1 (IntKind.i64.wrap (v7 + 1)))) else (some (.inr ()))
partial_fixpoint
def slices_Index_uint32_uint32.f (a0 : List Int) (a1 : Int) : Option Int :=
  (slices_Index_uint32_uint32.l0 a0 a1 0 >>= fun o => match o with | .inl r => some r | .inr () => some (-1))
def lattice_Bottom.f (a0 : api_Lattice) : Option (Int × Int) :=
  lattice_there.f a0 [] >>= fun y1 => if y1 = 0 then (if ¬ (a0.Up.length : Int) < 0 then (slices_Index_uint32_uint32.f a0.Up (IntKind.u32.wrap ((bShl .u32 1 (a0.Up.length : Int)) - 1)) >>= fun y4 => some (y4, 0)) else none) else (some (0, y1))
def bits_OnesCount32.f (a0 : Int) : Option Int :=
  if 0 ≤ bShr .u32 a0 24 ∧ bShr .u32 a0 24 < (ks0.length : Int) then (if 0 ≤ bAnd .u32 (bShr .u32 a0 16) 255 ∧ bAnd .u32 (bShr .u32 a0 16) 255 < (ks0.length : Int) then (if 0 ≤ bAnd .u32 (bShr .u32 a0 8) 255 ∧ bAnd .u32 (bShr .u32 a0 8) 255 < (ks0.length : Int) then (if 0 ≤ bAnd .u32 a0 255 ∧ bAnd .u32 a0 255 < (ks0.length : Int) then (some (IntKind.i64.wrap (IntKind.u8.wrap ((IntKind.u8.wrap ((IntKind.u8.wrap ((sAt ks0 (bShr .u32 a0 24)) + (sAt ks0 (bAnd .u32 (bShr .u32 a0 16) 255)))) + (sAt ks0 (bAnd .u32 (bShr .u32 a0 8) 255)))) + (sAt ks0 (bAnd .u32 a0 255)))))) else none) else none) else none) else none
def lattice_Top_1.f (a0 : Int) : Option Bool :=
  bits_OnesCount32.f a0 >>= fun y1 => some (decide (y1 = 1))
def lattice_Top.f (a0 : api_Lattice) : Option (Int × Int) :=
  lattice_there.f a0 [] >>= fun y1 => if y1 = 0 then (slices_IndexFunc_uint32_uint32.f a0.Up lattice_Top_1.f >>= fun y3 => some (y3, 0)) else (some (0, y1))
def reticentref01_Bottom.l0 (a0 : api_Lattice) (v5 : Int) (v6 : Int) : Option Int :=
  if v6 < (a0.Up.length : Int) then (reticentref01_Meet.f a0 v5 v6 >>= fun y9 => reticentref01_Bottom.l0 a0 y9 (IntKind.i64.wrap (v6 + 1))) else (some v5)
partial_fixpoint
def reticentref01_Bottom.f (a0 : api_Lattice) : Option Int :=
  (reticentref01_Bottom.l0 a0 0 0 >>= fun x7 => some x7)
def reticentref01_Top.l0 (a0 : api_Lattice) (v5 : Int) (v6 : Int) : Option Int :=
  if v6 < (a0.Up.length : Int) then (reticentref01_Join.f a0 v5 v6 >>= fun y9 => reticentref01_Top.l0 a0 y9 (IntKind.i64.wrap (v6 + 1))) else (some v5)
partial_fixpoint
def reticentref01_Top.f (a0 : api_Lattice) : Option Int :=
  (reticentref01_Top.l0 a0 0 0 >>= fun x7 => some x7)
def reticentlaw01_LatticeChecks.f (a0 : api_Lattice) : Option Bool :=
  reticentlaw01_few.f (⟨a0.Names, a0.Up⟩ : api_Lattice) >>= fun y1 => reticentref01_Check.f (⟨y1.Names, y1.Up⟩ : api_Lattice) >>= fun y2 => lattice_Bottom.f (⟨y1.Names, y1.Up⟩ : api_Lattice) >>= fun y3 => lattice_Top.f (⟨y1.Names, y1.Up⟩ : api_Lattice) >>= fun y4 => ((lattice_Check.f (⟨y1.Names, y1.Up⟩ : api_Lattice) >>= fun y11 => if y11 = y2 then (if y3.2 = y2 then (if y4.2 = y2 then (reticentlaw01_alive.f >>= fun y15 => some (!y15)) else (some true)) else (some true)) else (some true) : Option Bool) >>= fun x10 => if x10 = true then (some false) else (if y2 = 0 then (((reticentref01_Bottom.f (⟨y1.Names, y1.Up⟩ : api_Lattice) >>= fun y22 => if y3.1 = y22 then (reticentref01_Top.f (⟨y1.Names, y1.Up⟩ : api_Lattice) >>= fun y24 => some (decide (y4.1 = y24))) else (some false) : Option Bool) >>= fun x21 => some x21)) else (((if y3.1 = 0 then (some (decide (y4.1 = 0))) else (some false) : Option Bool) >>= fun x26 => some x26))))
def reticentlaw01_LatticeLaws_1.f (a0 : Int) (a1 : Int) (a2 : api_Lattice) (a3 : Bool) : Option (Bool × Int) :=
  lattice_Join.f a2 a0 a1 >>= fun y1 => ((if a3 = true then (some (decide (y1.2 = 0))) else (some false) : Option Bool) >>= fun x3 => some (x3, y1.1))
def reticentlaw01_LatticeLaws_2.f (a0 : Int) (a1 : Int) (a2 : api_Lattice) (a3 : Bool) : Option (Bool × Int) :=
  lattice_Meet.f a2 a0 a1 >>= fun y1 => ((if a3 = true then (some (decide (y1.2 = 0))) else (some false) : Option Bool) >>= fun x3 => some (x3, y1.1))
def reticentlaw01_LatticeLaws.f (a0 : api_Lattice) (a1 : Int) (a2 : Int) (a3 : Int) : Option Bool :=
  reticentlaw01_few.f (⟨a0.Names, a0.Up⟩ : api_Lattice) >>= fun y1 => ((lattice_Check.f (⟨y1.Names, y1.Up⟩ : api_Lattice) >>= fun y5 => if y5 = 0 then (some (decide ((y1.Up.length : Int) = 0))) else (some true) : Option Bool) >>= fun x4 => if x4 = true then (reticentlaw01_alive.f >>= fun y8 => some y8) else (if ¬ (y1.Up.length : Int) = 0 then (if ¬ (y1.Up.length : Int) = 0 then (if ¬ (y1.Up.length : Int) = 0 then (if ¬ (y1.Up.length : Int) = 0 then (if ¬ (y1.Up.length : Int) = 0 then (if ¬ (y1.Up.length : Int) = 0 then (reticentlaw01_alive.f >>= fun y15 => reticentlaw01_LatticeLaws_1.f ((IntKind.i64.wrap ((a1.tmod (y1.Up.length : Int)) + (y1.Up.length : Int))).tmod (y1.Up.length : Int)) ((IntKind.i64.wrap ((a2.tmod (y1.Up.length : Int)) + (y1.Up.length : Int))).tmod (y1.Up.length : Int)) (⟨y1.Names, y1.Up⟩ : api_Lattice) y15 >>= fun y16 => reticentlaw01_LatticeLaws_1.f ((IntKind.i64.wrap ((a2.tmod (y1.Up.length : Int)) + (y1.Up.length : Int))).tmod (y1.Up.length : Int)) ((IntKind.i64.wrap ((a3.tmod (y1.Up.length : Int)) + (y1.Up.length : Int))).tmod (y1.Up.length : Int)) (⟨y1.Names, y1.Up⟩ : api_Lattice) y16.1 >>= fun y17 => reticentlaw01_LatticeLaws_2.f ((IntKind.i64.wrap ((a1.tmod (y1.Up.length : Int)) + (y1.Up.length : Int))).tmod (y1.Up.length : Int)) ((IntKind.i64.wrap ((a2.tmod (y1.Up.length : Int)) + (y1.Up.length : Int))).tmod (y1.Up.length : Int)) (⟨y1.Names, y1.Up⟩ : api_Lattice) y17.1 >>= fun y18 => reticentlaw01_LatticeLaws_2.f ((IntKind.i64.wrap ((a2.tmod (y1.Up.length : Int)) + (y1.Up.length : Int))).tmod (y1.Up.length : Int)) ((IntKind.i64.wrap ((a3.tmod (y1.Up.length : Int)) + (y1.Up.length : Int))).tmod (y1.Up.length : Int)) (⟨y1.Names, y1.Up⟩ : api_Lattice) y18.1 >>= fun y19 => ((reticentlaw01_LatticeLaws_1.f ((IntKind.i64.wrap ((a2.tmod (y1.Up.length : Int)) + (y1.Up.length : Int))).tmod (y1.Up.length : Int)) ((IntKind.i64.wrap ((a1.tmod (y1.Up.length : Int)) + (y1.Up.length : Int))).tmod (y1.Up.length : Int)) (⟨y1.Names, y1.Up⟩ : api_Lattice) y19.1 >>= fun y39 => if y16.2 = y39.2 then (reticentlaw01_LatticeLaws_2.f ((IntKind.i64.wrap ((a2.tmod (y1.Up.length : Int)) + (y1.Up.length : Int))).tmod (y1.Up.length : Int)) ((IntKind.i64.wrap ((a1.tmod (y1.Up.length : Int)) + (y1.Up.length : Int))).tmod (y1.Up.length : Int)) (⟨y1.Names, y1.Up⟩ : api_Lattice) y39.1 >>= fun y41 => if y18.2 = y41.2 then (reticentlaw01_LatticeLaws_1.f y16.2 ((IntKind.i64.wrap ((a3.tmod (y1.Up.length : Int)) + (y1.Up.length : Int))).tmod (y1.Up.length : Int)) (⟨y1.Names, y1.Up⟩ : api_Lattice) y41.1 >>= fun y43 => reticentlaw01_LatticeLaws_1.f ((IntKind.i64.wrap ((a1.tmod (y1.Up.length : Int)) + (y1.Up.length : Int))).tmod (y1.Up.length : Int)) y17.2 (⟨y1.Names, y1.Up⟩ : api_Lattice) y43.1 >>= fun y44 => if y43.2 = y44.2 then (reticentlaw01_LatticeLaws_2.f y18.2 ((IntKind.i64.wrap ((a3.tmod (y1.Up.length : Int)) + (y1.Up.length : Int))).tmod (y1.Up.length : Int)) (⟨y1.Names, y1.Up⟩ : api_Lattice) y44.1 >>= fun y46 => reticentlaw01_LatticeLaws_2.f ((IntKind.i64.wrap ((a1.tmod (y1.Up.length : Int)) + (y1.Up.length : Int))).tmod (y1.Up.length : Int)) y19.2 (⟨y1.Names, y1.Up⟩ : api_Lattice) y46.1 >>= fun y47 => if y46.2 = y47.2 then (reticentlaw01_LatticeLaws_1.f ((IntKind.i64.wrap ((a1.tmod (y1.Up.length : Int)) + (y1.Up.length : Int))).tmod (y1.Up.length : Int)) y18.2 (⟨y1.Names, y1.Up⟩ : api_Lattice) y47.1 >>= fun y49 => if y49.2 = (IntKind.i64.wrap ((a1.tmod (y1.Up.length : Int)) + (y1.Up.length : Int))).tmod (y1.Up.length : Int) then (reticentlaw01_LatticeLaws_2.f ((IntKind.i64.wrap ((a1.tmod (y1.Up.length : Int)) + (y1.Up.length : Int))).tmod (y1.Up.length : Int)) y16.2 (⟨y1.Names, y1.Up⟩ : api_Lattice) y49.1 >>= fun y51 => if y51.2 = (IntKind.i64.wrap ((a1.tmod (y1.Up.length : Int)) + (y1.Up.length : Int))).tmod (y1.Up.length : Int) then (reticentlaw01_LatticeLaws_1.f ((IntKind.i64.wrap ((a1.tmod (y1.Up.length : Int)) + (y1.Up.length : Int))).tmod (y1.Up.length : Int)) ((IntKind.i64.wrap ((a1.tmod (y1.Up.length : Int)) + (y1.Up.length : Int))).tmod (y1.Up.length : Int)) (⟨y1.Names, y1.Up⟩ : api_Lattice) y51.1 >>= fun y53 => if y53.2 = (IntKind.i64.wrap ((a1.tmod (y1.Up.length : Int)) + (y1.Up.length : Int))).tmod (y1.Up.length : Int) then (reticentlaw01_LatticeLaws_2.f ((IntKind.i64.wrap ((a1.tmod (y1.Up.length : Int)) + (y1.Up.length : Int))).tmod (y1.Up.length : Int)) ((IntKind.i64.wrap ((a1.tmod (y1.Up.length : Int)) + (y1.Up.length : Int))).tmod (y1.Up.length : Int)) (⟨y1.Names, y1.Up⟩ : api_Lattice) y53.1 >>= fun y55 => some (y55.1, !decide (y55.2 = (IntKind.i64.wrap ((a1.tmod (y1.Up.length : Int)) + (y1.Up.length : Int))).tmod (y1.Up.length : Int)))) else (some (y53.1, true))) else (some (y51.1, true))) else (some (y49.1, true))) else (some (y47.1, true))) else (some (y44.1, true))) else (some (y41.1, true))) else (some (y39.1, true)) : Option (Bool × Bool)) >>= fun o => match o with | (x37, x38) => if x38 = true then (some false) else (lattice_Flows.f (⟨y1.Names, y1.Up⟩ : api_Lattice) ((IntKind.i64.wrap ((a1.tmod (y1.Up.length : Int)) + (y1.Up.length : Int))).tmod (y1.Up.length : Int)) ((IntKind.i64.wrap ((a2.tmod (y1.Up.length : Int)) + (y1.Up.length : Int))).tmod (y1.Up.length : Int)) >>= fun y57 => lattice_Height.f (⟨y1.Names, y1.Up⟩ : api_Lattice) ((IntKind.i64.wrap ((a1.tmod (y1.Up.length : Int)) + (y1.Up.length : Int))).tmod (y1.Up.length : Int)) >>= fun y58 => lattice_Height.f (⟨y1.Names, y1.Up⟩ : api_Lattice) ((IntKind.i64.wrap ((a2.tmod (y1.Up.length : Int)) + (y1.Up.length : Int))).tmod (y1.Up.length : Int)) >>= fun y59 => ((if y57.2 = 0 then (if y58.2 = 0 then (if y59.2 = 0 then (if y57.1 = (decide (y16.2 = (IntKind.i64.wrap ((a2.tmod (y1.Up.length : Int)) + (y1.Up.length : Int))).tmod (y1.Up.length : Int))) then (if y57.1 = (decide (y18.2 = (IntKind.i64.wrap ((a1.tmod (y1.Up.length : Int)) + (y1.Up.length : Int))).tmod (y1.Up.length : Int))) then (if y57.1 = true then (if y58.1 > y59.1 then (some true) else (if (IntKind.i64.wrap ((a1.tmod (y1.Up.length : Int)) + (y1.Up.length : Int))).tmod (y1.Up.length : Int) = (IntKind.i64.wrap ((a2.tmod (y1.Up.length : Int)) + (y1.Up.length : Int))).tmod (y1.Up.length : Int) then (some false) else (some (decide (y58.1 = y59.1))))) else (some false)) else (some true)) else (some true)) else (some true)) else (some true)) else (some true) : Option Bool) >>= fun x68 => if x68 = true then (some false) else (lattice_Bottom.f (⟨y1.Names, y1.Up⟩ : api_Lattice) >>= fun y78 => lattice_Top.f (⟨y1.Names, y1.Up⟩ : api_Lattice) >>= fun y79 => lattice_Height.f (⟨y1.Names, y1.Up⟩ : api_Lattice) y78.1 >>= fun y80 => ((if x37 = true then (if y78.2 = 0 then (if y79.2 = 0 then (if y80.2 = 0 then (if y80.1 = 0 then (reticentlaw01_LatticeLaws_1.f y78.1 ((IntKind.i64.wrap ((a1.tmod (y1.Up.length : Int)) + (y1.Up.length : Int))).tmod (y1.Up.length : Int)) (⟨y1.Names, y1.Up⟩ : api_Lattice) x37 >>= fun y96 => if y96.2 = (IntKind.i64.wrap ((a1.tmod (y1.Up.length : Int)) + (y1.Up.length : Int))).tmod (y1.Up.length : Int) then (reticentlaw01_LatticeLaws_2.f y79.1 ((IntKind.i64.wrap ((a1.tmod (y1.Up.length : Int)) + (y1.Up.length : Int))).tmod (y1.Up.length : Int)) (⟨y1.Names, y1.Up⟩ : api_Lattice) y96.1 >>= fun y98 => some (y98.1, decide (y98.2 = (IntKind.i64.wrap ((a1.tmod (y1.Up.length : Int)) + (y1.Up.length : Int))).tmod (y1.Up.length : Int)))) else (some (y96.1, false))) else (some (x37, false))) else (some (x37, false))) else (some (x37, false))) else (some (x37, false))) else (some (x37, false)) : Option (Bool × Bool)) >>= fun o => match o with | (x89, x90) => some x90)))))) else none) else none) else none) else none) else none) else none))

end Go.Proofs.Ythpmbokenhpakaa.LA
