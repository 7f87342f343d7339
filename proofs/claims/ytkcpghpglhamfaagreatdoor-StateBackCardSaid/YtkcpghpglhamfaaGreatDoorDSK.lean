import Derived.Test.YtkcpghpglhamfaaGreatDoorAb31
set_option linter.unusedVariables false
namespace Go.Proofs.YtkcpghpglhamfaaGreatDoor.SK
open Go Go.Proofs.YtkcpghpglhamfaaGreatDoor.Ab

structure api_Lattice where
  Names : List Str
  Up : List Int
structure api_Atom where
  V : Int
  L : Int
  deriving DecidableEq
structure api_Instr where
  Op : Int
  N : Int
  L : Int
  deriving DecidableEq
structure api_Slot where
  Ret : Bool
  V : Int
  L : Int
  deriving DecidableEq
structure api_State where
  Pc : api_Atom
  Code : List api_Instr
  Mem : List api_Atom
  Stack : List api_Slot
  Out : List api_Atom
structure api_Tok where
  Kind : Int
  Text : Str
  At : Int
structure state_reader where
  l_ : api_Lattice
  toks_ : List api_Tok
  i_ : Int
  bad_ : Int
structure code_reader where
  l_ : api_Lattice
  toks_ : List api_Tok
  i_ : Int
  bad_ : Int
def ks0 : Str := [112, 99, 32, 48, 32, 64, 32, 97, 32, 59, 32, 99, 111, 100, 101, 32, 104, 97, 108, 116, 32, 59, 32, 109, 101, 109, 32, 59, 32, 115, 116, 97, 99, 107, 32, 114, 101, 116, 32, 49, 32, 64, 32, 98, 32, 59, 32, 111, 117, 116, 32, 59]
def f_api_Lattice : List (Fld api_Lattice) := [⟨(kL kS), api_Lattice.Names⟩, ⟨(kL (kI .u32)), api_Lattice.Up⟩]
def f_api_Atom : List (Fld api_Atom) := [⟨(kI .i64), api_Atom.V⟩, ⟨(kI .i64), api_Atom.L⟩]
def f_api_Instr : List (Fld api_Instr) := [⟨(kI .i64), api_Instr.Op⟩, ⟨(kI .i64), api_Instr.N⟩, ⟨(kI .i64), api_Instr.L⟩]
def f_api_Slot : List (Fld api_Slot) := [⟨kB, api_Slot.Ret⟩, ⟨(kI .i64), api_Slot.V⟩, ⟨(kI .i64), api_Slot.L⟩]
def f_api_State : List (Fld api_State) := [⟨(kR f_api_Atom), api_State.Pc⟩, ⟨(kL (kR f_api_Instr)), api_State.Code⟩, ⟨(kL (kR f_api_Atom)), api_State.Mem⟩, ⟨(kL (kR f_api_Slot)), api_State.Stack⟩, ⟨(kL (kR f_api_Atom)), api_State.Out⟩]
def f_api_Tok : List (Fld api_Tok) := [⟨(kI .i64), api_Tok.Kind⟩, ⟨kS, api_Tok.Text⟩, ⟨(kI .i64), api_Tok.At⟩]
def f_state_reader : List (Fld state_reader) := [⟨(kR f_api_Lattice), state_reader.l_⟩, ⟨(kL (kR f_api_Tok)), state_reader.toks_⟩, ⟨(kI .i64), state_reader.i_⟩, ⟨(kI .i64), state_reader.bad_⟩]
def f_code_reader : List (Fld code_reader) := [⟨(kR f_api_Lattice), code_reader.l_⟩, ⟨(kL (kR f_api_Tok)), code_reader.toks_⟩, ⟨(kI .i64), code_reader.i_⟩, ⟨(kI .i64), code_reader.bad_⟩]
def f_api_Lattice_n0 : List (Fld api_Lattice) := [⟨(kN Str), api_Lattice.Names⟩, ⟨(kL (kI .u32)), api_Lattice.Up⟩]
def reticentlaw09_few.l0 (a0 : api_Lattice) (v11 : List Str) (v12 : Int) : Option (List Str) :=
  if v12 < ((lCut a0.Names 0 (if 10 < (a0.Names.length : Int) then 10 else (a0.Names.length : Int))).length : Int) then (lAt (lCut a0.Names 0 (if 10 < (a0.Names.length : Int) then 10 else (a0.Names.length : Int))) v12 >>= fun y15 => if (0 : Int) ≤ (if 15 < (y15.length : Int) then 15 else (y15.length : Int)) ∧ (if 15 < (y15.length : Int) then 15 else (y15.length : Int)) ≤ (y15.length : Int) then (if (v11.length + ([sCut y15 0 (if 15 < (y15.length : Int) then 15 else (y15.length : Int))] : List Str).length) * 16 ≤ big then (reticentlaw09_few.l0 a0 (v11 ++ ([sCut y15 0 (if 15 < (y15.length : Int) then 15 else (y15.length : Int))] : List Str)) (IntKind.i64.wrap (v12 + 1))) else none) else none) else (some v11)
partial_fixpoint
def reticentlaw09_few.f (a0 : api_Lattice) : Option api_Lattice :=
  if (0 : Int) ≤ (if 10 < (a0.Up.length : Int) then 10 else (a0.Up.length : Int)) ∧ (if 10 < (a0.Up.length : Int) then 10 else (a0.Up.length : Int)) ≤ (a0.Up.length : Int) then (if (0 : Int) ≤ (if 10 < (a0.Names.length : Int) then 10 else (a0.Names.length : Int)) ∧ (if 10 < (a0.Names.length : Int) then 10 else (a0.Names.length : Int)) ≤ (a0.Names.length : Int) then ((reticentlaw09_few.l0 a0 ([] : List Str) 0 >>= fun x13 => some (⟨x13, lCut a0.Up 0 (if 10 < (a0.Up.length : Int) then 10 else (a0.Up.length : Int))⟩ : api_Lattice))) else none) else none
def reticentlaw09_cut.f (a0 : api_State) : Option api_State :=
  if (0 : Int) ≤ (if 15 < (a0.Code.length : Int) then 15 else (a0.Code.length : Int)) ∧ (if 15 < (a0.Code.length : Int) then 15 else (a0.Code.length : Int)) ≤ (a0.Code.length : Int) then (if (0 : Int) ≤ (if 15 < (a0.Mem.length : Int) then 15 else (a0.Mem.length : Int)) ∧ (if 15 < (a0.Mem.length : Int) then 15 else (a0.Mem.length : Int)) ≤ (a0.Mem.length : Int) then (if (0 : Int) ≤ (if 15 < (a0.Stack.length : Int) then 15 else (a0.Stack.length : Int)) ∧ (if 15 < (a0.Stack.length : Int) then 15 else (a0.Stack.length : Int)) ≤ (a0.Stack.length : Int) then (if (0 : Int) ≤ (if 15 < (a0.Out.length : Int) then 15 else (a0.Out.length : Int)) ∧ (if 15 < (a0.Out.length : Int) then 15 else (a0.Out.length : Int)) ≤ (a0.Out.length : Int) then (some (⟨a0.Pc, lCut a0.Code 0 (if 15 < (a0.Code.length : Int) then 15 else (a0.Code.length : Int)), lCut a0.Mem 0 (if 15 < (a0.Mem.length : Int) then 15 else (a0.Mem.length : Int)), lCut a0.Stack 0 (if 15 < (a0.Stack.length : Int) then 15 else (a0.Stack.length : Int)), lCut a0.Out 0 (if 15 < (a0.Out.length : Int) then 15 else (a0.Out.length : Int))⟩ : api_State)) else none) else none) else none) else none
def lattice_name.l0 (a0 : Str) (v19 : Int) : Option (Bool ⊕ Unit) :=
  if v19 < (a0.length : Int) then (((if (0 : Int) ≤ v19 ∧ v19 < (a0.length : Int) then (if sAt a0 v19 < 97 then (some true) else (if (0 : Int) ≤ v19 ∧ v19 < (a0.length : Int) then (some (decide (sAt a0 v19 > 122))) else none)) else none : Option Bool) >>= fun x24 => if x24 = true then (some (.inl false)) else (lattice_name.l0 a0 (IntKind.i64.wrap (v19 + 1))))) else (some (.inr ()))
partial_fixpoint
def lattice_name.f (a0 : Str) : Option Bool :=
  (lattice_name.l0 a0 0 >>= fun o => match o with | .inl r => some r | .inr () => ((if a0 = ([] : Str) then (some false) else (some (decide ((a0.length : Int) ≤ 12))) : Option Bool) >>= fun x30 => some x30))
def slices_Index_string_string.l0 (a0 : List Str) (a1 : Str) (v7 : Int) : Option (Int ⊕ Unit) :=
  if v7 < (a0.length : Int) then (lAt a0 v7 >>= fun y9 => if a1 = y9 then (some (.inl v7)) else (slices_Index_string_string.l0 a0 a1 (IntKind.i64.wrap (v7 + 1)))) else (some (.inr ()))
partial_fixpoint
def slices_Index_string_string.f (a0 : List Str) (a1 : Str) : Option Int :=
  (slices_Index_string_string.l0 a0 a1 0 >>= fun o => match o with | .inl r => some r | .inr () => some (-1))
def slices_Contains_string_string.f (a0 : List Str) (a1 : Str) : Option Bool :=
  slices_Index_string_string.f a0 a1 >>= fun y1 => some (decide (y1 ≥ 0))
def lattice_may.l0 (a0 : api_Lattice) (v43 : Int) : Option (Bool ⊕ Unit) :=
  if v43 < (a0.Names.length : Int) then (lAt a0.Names v43 >>= fun y45 => ((lattice_name.f y45 >>= fun y54 => if (!y54) = true then (some true) else (if (0 : Int) ≤ v43 ∧ v43 ≤ (a0.Names.length : Int) then (slices_Contains_string_string.f (lCut a0.Names 0 v43) y45 >>= fun y57 => if y57 = true then (some true) else (lAt a0.Up v43 >>= fun y59 => if ¬ (a0.Up.length : Int) < 0 then (some (!decide (bShr .u32 y59 (a0.Up.length : Int) = 0))) else none)) else none) : Option Bool) >>= fun x53 => if x53 = true then (some (.inl false)) else (lattice_may.l0 a0 (IntKind.i64.wrap (v43 + 1))))) else (some (.inr ()))
partial_fixpoint
def lattice_may.f (a0 : api_Lattice) : Option Bool :=
  ((if (a0.Up.length : Int) < 1 then (some true) else (if (a0.Up.length : Int) > 8 then (some true) else (some (!decide ((a0.Names.length : Int) = (a0.Up.length : Int))))) : Option Bool) >>= fun x3 => if x3 = true then (some false) else ((lattice_may.l0 a0 0 >>= fun o => match o with | .inl r => some r | .inr () => some true)))
def lattice_pairs_1.l3 {σ : Type} (a_y : σ → Int → Int → Option (Bool × σ)) (a1 : Int) (v28 : Int) (v37 : σ) (v38 : Int) : Option (σ ⊕ σ) :=
  if v38 < a1 then (a_y v37 v28 v38 >>= fun y41 => if (!y41.1) = true then (some (.inl y41.2)) else (lattice_pairs_1.l3 a_y a1 v28 y41.2 (IntKind.i64.wrap (v38 + 1)))) else (some (.inr v37))
partial_fixpoint
def lattice_pairs_1.l2 {σ : Type} (a_y : σ → Int → Int → Option (Bool × σ)) (a1 : Int) (v27 : σ) (v28 : Int) : Option (σ ⊕ σ) :=
  if v28 < a1 then ((lattice_pairs_1.l3 a_y a1 v28 v27 0 >>= fun o => match o with | .inl r => some (.inl r) | .inr x39 => lattice_pairs_1.l2 a_y a1 x39 (IntKind.i64.wrap (v28 + 1)))) else (some (.inr v27))
partial_fixpoint
def lattice_pairs_1.f {σ : Type} (a_y : σ → Int → Int → Option (Bool × σ)) (a_s : σ) (a1 : Int) : Option σ :=
  (lattice_pairs_1.l2 a_y a1 a_s 0 >>= fun o => match o with | .inl r => some r | .inr x29 => some x29)
def lattice_pairs.f (a0 : Int) : Option Int :=
  some a0
def lattice_flows.f (a0 : api_Lattice) (a1 : Int) (a2 : Int) : Option Bool :=
  lAt a0.Up a1 >>= fun y1 => if ¬ a2 < 0 then (some (decide (bAnd .u32 (bShr .u32 y1 a2) 1 = 1))) else none
def lattice_order.y0 (a0 : api_Lattice) (v26 : Unit) (v27 : Int) (v28 : Int) : Option (Bool × ((Unit) × Nat)) :=
  ((if v27 = v28 then (lattice_flows.f a0 v27 v28 >>= fun y37 => if (!y37) = true then (some true) else (some false)) else (lattice_flows.f a0 v27 v28 >>= fun y39 => if y39 = true then (lattice_flows.f a0 v28 v27 >>= fun y41 => some y41) else (some false)) : Option Bool) >>= fun x35 => if x35 = true then (some (false, ((), 1))) else (((lattice_flows.f a0 v27 v28 >>= fun y48 => if y48 = true then (lAt a0.Up v28 >>= fun y50 => lAt a0.Up v27 >>= fun y51 => some (!decide (bAndNot .u32 y50 y51 = 0))) else (some false) : Option Bool) >>= fun x47 => if x47 = true then (some (false, ((), 1))) else (some (true, ((), 0))))))
def lattice_order.f (a0 : api_Lattice) : Option Bool :=
  lattice_pairs.f (a0.Up.length : Int) >>= fun y1 => (lattice_pairs_1.f (yOf (lattice_order.y0 a0)) ((), 0) y1 >>= fun y53 => if y53.2 = 0 then (some true) else if y53.2 = 1 then (some false) else none)
def slices_IndexFunc_uint32_uint32.l0 (a0 : List Int) (a1 : Int → Option Bool) (v9 : Int) : Option (Int ⊕ Unit) :=
  if v9 < (a0.length : Int) then (lAt a0 v9 >>= fun y11 => a1 y11 >>= fun y12 => if y12 = true then (some (.inl v9)) else (slices_IndexFunc_uint32_uint32.l0 a0 a1 (IntKind.i64.wrap (v9 + 1)))) else (some (.inr ()))
partial_fixpoint
def slices_IndexFunc_uint32_uint32.f (a0 : List Int) (a1 : Int → Option Bool) : Option Int :=
  (slices_IndexFunc_uint32_uint32.l0 a0 a1 0 >>= fun o => match o with | .inl r => some r | .inr () => some (-1))
def lattice_join_1.f (a0 : Int) (a1 : Int) : Option Bool :=
  some (decide (a0 = a1))
def lattice_join.f (a0 : api_Lattice) (a1 : Int) (a2 : Int) : Option Int :=
  lAt a0.Up a1 >>= fun y1 => lAt a0.Up a2 >>= fun y2 => slices_IndexFunc_uint32_uint32.f a0.Up (fun z0 => lattice_join_1.f z0 (bAnd .u32 y1 y2)) >>= fun y3 => some y3
def lattice_down.l0 (a0 : api_Lattice) (a1 : Int) (v8 : Int) (v9 : Int) : Option Int :=
  if v8 < (a0.Up.length : Int) then (lAt a0.Up v8 >>= fun y12 => if ¬ a1 < 0 then (if ¬ v8 < 0 then (lattice_down.l0 a0 a1 (IntKind.i64.wrap (v8 + 1)) (bOr .u32 v9 (bShl .u32 (bAnd .u32 (bShr .u32 y12 a1) 1) v8))) else none) else none) else (some v9)
partial_fixpoint
def lattice_down.f (a0 : api_Lattice) (a1 : Int) : Option Int :=
  (lattice_down.l0 a0 a1 0 0 >>= fun x10 => some x10)
def lattice_meet.l0 (a0 : api_Lattice) (y1 : Int) (y2 : Int) (v9 : Int) : Option (Int ⊕ Unit) :=
  if v9 < (a0.Up.length : Int) then (lattice_down.f a0 v9 >>= fun y11 => if y11 = bAnd .u32 y1 y2 then (some (.inl v9)) else (lattice_meet.l0 a0 y1 y2 (IntKind.i64.wrap (v9 + 1)))) else (some (.inr ()))
partial_fixpoint
def lattice_meet.f (a0 : api_Lattice) (a1 : Int) (a2 : Int) : Option Int :=
  lattice_down.f a0 a1 >>= fun y1 => lattice_down.f a0 a2 >>= fun y2 => (lattice_meet.l0 a0 y1 y2 0 >>= fun o => match o with | .inl r => some r | .inr () => some (-1))
def lattice_Check.y0 (a0 : api_Lattice) (v22 : Int) (v23 : Int) (v24 : Int) : Option (Bool × ((Int) × Nat)) :=
  ((lattice_join.f a0 v23 v24 >>= fun y29 => if y29 < 0 then (some true) else (lattice_meet.f a0 v23 v24 >>= fun y31 => some (decide (y31 < 0))) : Option Bool) >>= fun x28 => if x28 = true then (some (false, (3, 1))) else (some (true, (v22, 0))))
def lattice_Check.f (a0 : api_Lattice) : Option Int :=
  lattice_may.f a0 >>= fun y1 => if (!y1) = true then (some 1) else (lattice_order.f a0 >>= fun y3 => if (!y3) = true then (some 2) else (lattice_pairs.f (a0.Up.length : Int) >>= fun y5 => (lattice_pairs_1.f (yOf (lattice_Check.y0 a0)) (0, 0) y5 >>= fun y33 => if y33.2 = 0 then (some 0) else if y33.2 = 1 then (some y33.1) else none)))
def state_value.f (a0 : Int) : Option Bool :=
  ((if a0 ≥ (-20) then (some (decide (a0 ≤ 20))) else (some false) : Option Bool) >>= fun x2 => some x2)
def state_place.f (a0 : Int) : Option Bool :=
  ((if a0 ≥ 0 then (some (decide (a0 ≤ 12))) else (some false) : Option Bool) >>= fun x2 => some x2)
def code_spans_1_1.f (a0 : Int) (a1 : Int) (a2 : Int) : Option Bool :=
  ((if a0 ≥ a1 then (some (decide (a0 ≤ a2))) else (some false) : Option Bool) >>= fun x2 => some x2)
def code_spans_1.f (a0 : Int) (a1 : Int) : Option (Int → Option Bool) :=
  some (fun z0 => code_spans_1_1.f z0 a0 a1)
def code_spans.f : Option (List (Int × (Option (Int → Option Bool)))) :=
  code_spans_1.f (-20) 20 >>= fun y1 => code_spans_1.f 0 12 >>= fun y2 => code_spans_1.f 0 3 >>= fun y3 => code_spans_1.f 0 1 >>= fun y4 => some ([(1, (some y1)), (8, (some y2)), (9, (some y3)), (10, (some y4))] : List (Int × (Option (Int → Option Bool))))
def code_right.f (a0 : Int) (a1 : api_Instr) : Option Bool :=
  ((if a1.Op < 0 then (some true) else (some (decide (a1.Op ≥ 13))) : Option Bool) >>= fun x2 => if x2 = true then (some false) else (code_spans.f >>= fun y5 => ((if ((mGet y5 none a1.Op).2) = true then ((mGet y5 none a1.Op).1 >>= fun y14 => y14 a1.N >>= fun y15 => if (!y15) = true then (some true) else (if (!((mGet y5 none a1.Op).2)) = true then (some (!decide (a1.N = 0))) else (some false))) else (if (!((mGet y5 none a1.Op).2)) = true then (some (!decide (a1.N = 0))) else (some false)) : Option Bool) >>= fun x12 => if x12 = true then (some false) else (if a1.Op = 1 then (((if a1.L ≥ 0 then (some (decide (a1.L < a0))) else (some false) : Option Bool) >>= fun x22 => some x22)) else (some (decide (a1.L = 0)))))))
def slices_IndexFunc_api_Instr_api_Instr.l0 (a0 : List api_Instr) (a1 : api_Instr → Option Bool) (v9 : Int) : Option (Int ⊕ Unit) :=
  if v9 < (a0.length : Int) then (lAt a0 v9 >>= fun y11 => a1 y11 >>= fun y12 => if y12 = true then (some (.inl v9)) else (slices_IndexFunc_api_Instr_api_Instr.l0 a0 a1 (IntKind.i64.wrap (v9 + 1)))) else (some (.inr ()))
partial_fixpoint
def slices_IndexFunc_api_Instr_api_Instr.f (a0 : List api_Instr) (a1 : api_Instr → Option Bool) : Option Int :=
  (slices_IndexFunc_api_Instr_api_Instr.l0 a0 a1 0 >>= fun o => match o with | .inl r => some r | .inr () => some (-1))
def slices_ContainsFunc_api_Instr_api_Instr.f (a0 : List api_Instr) (a1 : api_Instr → Option Bool) : Option Bool :=
  slices_IndexFunc_api_Instr_api_Instr.f a0 a1 >>= fun y1 => some (decide (y1 ≥ 0))
def code_Right_1.f (a0 : api_Instr) (a1 : api_Lattice) : Option Bool :=
  code_right.f (a1.Up.length : Int) a0 >>= fun y1 => some (!y1)
def code_Right.f (a0 : api_Lattice) (a1 : List api_Instr) : Option Bool :=
  ((lattice_Check.f a0 >>= fun y6 => if y6 = 0 then (if (a1.length : Int) ≤ 12 then (slices_ContainsFunc_api_Instr_api_Instr.f a1 (fun z0 => code_Right_1.f z0 a0) >>= fun y9 => some (!y9)) else (some false)) else (some false) : Option Bool) >>= fun x5 => some x5)
def slices_IndexFunc_api_Atom_api_Atom.l0 (a0 : List api_Atom) (a1 : api_Atom → Option Bool) (v9 : Int) : Option (Int ⊕ Unit) :=
  if v9 < (a0.length : Int) then (lAt a0 v9 >>= fun y11 => a1 y11 >>= fun y12 => if y12 = true then (some (.inl v9)) else (slices_IndexFunc_api_Atom_api_Atom.l0 a0 a1 (IntKind.i64.wrap (v9 + 1)))) else (some (.inr ()))
partial_fixpoint
def slices_IndexFunc_api_Atom_api_Atom.f (a0 : List api_Atom) (a1 : api_Atom → Option Bool) : Option Int :=
  (slices_IndexFunc_api_Atom_api_Atom.l0 a0 a1 0 >>= fun o => match o with | .inl r => some r | .inr () => some (-1))
def slices_ContainsFunc_api_Atom_api_Atom.f (a0 : List api_Atom) (a1 : api_Atom → Option Bool) : Option Bool :=
  slices_IndexFunc_api_Atom_api_Atom.f a0 a1 >>= fun y1 => some (decide (y1 ≥ 0))
def slices_IndexFunc_api_Slot_api_Slot.l0 (a0 : List api_Slot) (a1 : api_Slot → Option Bool) (v9 : Int) : Option (Int ⊕ Unit) :=
  if v9 < (a0.length : Int) then (lAt a0 v9 >>= fun y11 => a1 y11 >>= fun y12 => if y12 = true then (some (.inl v9)) else (slices_IndexFunc_api_Slot_api_Slot.l0 a0 a1 (IntKind.i64.wrap (v9 + 1)))) else (some (.inr ()))
partial_fixpoint
def slices_IndexFunc_api_Slot_api_Slot.f (a0 : List api_Slot) (a1 : api_Slot → Option Bool) : Option Int :=
  (slices_IndexFunc_api_Slot_api_Slot.l0 a0 a1 0 >>= fun o => match o with | .inl r => some r | .inr () => some (-1))
def slices_ContainsFunc_api_Slot_api_Slot.f (a0 : List api_Slot) (a1 : api_Slot → Option Bool) : Option Bool :=
  slices_IndexFunc_api_Slot_api_Slot.f a0 a1 >>= fun y1 => some (decide (y1 ≥ 0))
def state_Right_1.f (a0 : Int) (a1 : api_Lattice) : Option Bool :=
  ((if a0 ≥ 0 then (some (decide (a0 < (a1.Up.length : Int)))) else (some false) : Option Bool) >>= fun x2 => some x2)
def state_Right_2.f (a0 : api_Atom) (a1 : Option (Int → Option Bool)) : Option Bool :=
  ((state_value.f a0.V >>= fun y6 => if (!y6) = true then (some true) else (a1 >>= fun y8 => y8 a0.L >>= fun y9 => some (!y9)) : Option Bool) >>= fun x5 => some x5)
def state_Right_3.f (a0 : api_Slot) (a1 : Option (Int → Option Bool)) : Option Bool :=
  ((a1 >>= fun y12 => y12 a0.L >>= fun y13 => if (!y13) = true then (some true) else (if (!a0.Ret) = true then (state_value.f a0.V >>= fun y16 => if (!y16) = true then (some true) else (if a0.Ret = true then (state_place.f a0.V >>= fun y19 => some (!y19)) else (some false))) else (if a0.Ret = true then (state_place.f a0.V >>= fun y21 => some (!y21)) else (some false))) : Option Bool) >>= fun x11 => some x11)
def state_Right.f (a0 : api_Lattice) (a1 : api_State) : Option Bool :=
  ((if (a1.Mem.length : Int) ≤ 6 then (if (a1.Stack.length : Int) ≤ 12 then (some (decide ((a1.Out.length : Int) ≤ 8))) else (some false)) else (some false) : Option Bool) >>= fun x3 => ((code_Right.f a0 a1.Code >>= fun y20 => if y20 = true then (state_place.f a1.Pc.V >>= fun y22 => if y22 = true then ((some (fun z0 => state_Right_1.f z0 a0)) >>= fun y24 => y24 a1.Pc.L >>= fun y25 => if y25 = true then (if x3 = true then (slices_ContainsFunc_api_Atom_api_Atom.f a1.Mem (fun z0 => state_Right_2.f z0 (some (fun z0 => state_Right_1.f z0 a0))) >>= fun y28 => if (!y28) = true then (slices_ContainsFunc_api_Slot_api_Slot.f a1.Stack (fun z0 => state_Right_3.f z0 (some (fun z0 => state_Right_1.f z0 a0))) >>= fun y30 => if (!y30) = true then (slices_ContainsFunc_api_Atom_api_Atom.f a1.Out (fun z0 => state_Right_2.f z0 (some (fun z0 => state_Right_1.f z0 a0))) >>= fun y32 => some (!y32)) else (some false)) else (some false)) else (some false)) else (some false)) else (some false)) else (some false) : Option Bool) >>= fun x19 => some x19))
def state_written.f (a0 : api_Lattice) (a1 : Int) (a2 : Int) : Option Str :=
  lib_ItoaA a1 >>= fun y1 => if a1 < 0 then (lib_ItoaA (IntKind.i64.wrap (0 - a1)) >>= fun y3 => if (([45, 32] : Str).length + y3.length : Int) ≤ 9223372036854775807 then (if ((([45, 32] : Str) ++ y3).length + ([32, 64, 32] : Str).length : Int) ≤ 9223372036854775807 then (lAt a0.Names a2 >>= fun y6 => if (((([45, 32] : Str) ++ y3) ++ ([32, 64, 32] : Str)).length + y6.length : Int) ≤ 9223372036854775807 then (some (((([45, 32] : Str) ++ y3) ++ ([32, 64, 32] : Str)) ++ y6)) else none) else none) else none) else (if (y1.length + ([32, 64, 32] : Str).length : Int) ≤ 9223372036854775807 then (lAt a0.Names a2 >>= fun y9 => if ((y1 ++ ([32, 64, 32] : Str)).length + y9.length : Int) ≤ 9223372036854775807 then (some ((y1 ++ ([32, 64, 32] : Str)) ++ y9)) else none) else none)
def table_Name.f (a0 : Int) : Option (Str × Int) :=
  ((if a0 < 0 then (some true) else (some (decide (a0 ≥ 13))) : Option Bool) >>= fun x2 => if x2 = true then (some (([] : Str), 9)) else (lAt gl0 a0 >>= fun y5 => some (y5, 0)))
def code_number.f (a0 : Int) : Option Bool :=
  code_spans.f >>= fun y1 => some ((mGet y1 none a0).2)
def code_signed.f (a0 : Int) : Option Str :=
  if a0 < 0 then (lib_ItoaA (IntKind.i64.wrap (0 - a0)) >>= fun y2 => if (([45, 32] : Str).length + y2.length : Int) ≤ 9223372036854775807 then (some (([45, 32] : Str) ++ y2)) else none) else (lib_ItoaA a0 >>= fun y4 => some y4)
def code_Text.l0 (a0 : api_Lattice) (a1 : List api_Instr) (v101 : List Str) (v102 : Int) : Option (List Str) :=
  if v102 < (a1.length : Int) then (((lAt a1 v102 >>= fun y129 => table_Name.f y129.Op >>= fun y130 => code_number.f y129.Op >>= fun y131 => if y131 = true then (code_signed.f y129.N >>= fun y133 => if (([32] : Str).length + y133.length : Int) ≤ 9223372036854775807 then (if (y130.1.length + (([32] : Str) ++ y133).length : Int) ≤ 9223372036854775807 then (if y129.Op = 1 then (lAt a0.Names y129.L >>= fun y137 => if (([32, 64, 32] : Str).length + y137.length : Int) ≤ 9223372036854775807 then (if ((y130.1 ++ (([32] : Str) ++ y133)).length + (([32, 64, 32] : Str) ++ y137).length : Int) ≤ 9223372036854775807 then (if (((y130.1 ++ (([32] : Str) ++ y133)) ++ (([32, 64, 32] : Str) ++ y137)).length + ([32, 59] : Str).length : Int) ≤ 9223372036854775807 then (if (v101.length + ([((y130.1 ++ (([32] : Str) ++ y133)) ++ (([32, 64, 32] : Str) ++ y137)) ++ ([32, 59] : Str)] : List Str).length) * 16 ≤ big then (some (v101 ++ ([((y130.1 ++ (([32] : Str) ++ y133)) ++ (([32, 64, 32] : Str) ++ y137)) ++ ([32, 59] : Str)] : List Str))) else none) else none) else none) else none) else (if ((y130.1 ++ (([32] : Str) ++ y133)).length + ([32, 59] : Str).length : Int) ≤ 9223372036854775807 then (if (v101.length + ([(y130.1 ++ (([32] : Str) ++ y133)) ++ ([32, 59] : Str)] : List Str).length) * 16 ≤ big then (some (v101 ++ ([(y130.1 ++ (([32] : Str) ++ y133)) ++ ([32, 59] : Str)] : List Str))) else none) else none)) else none) else none) else (if y129.Op = 1 then (lAt a0.Names y129.L >>= fun y145 => if (([32, 64, 32] : Str).length + y145.length : Int) ≤ 9223372036854775807 then (if (y130.1.length + (([32, 64, 32] : Str) ++ y145).length : Int) ≤ 9223372036854775807 then (if ((y130.1 ++ (([32, 64, 32] : Str) ++ y145)).length + ([32, 59] : Str).length : Int) ≤ 9223372036854775807 then (if (v101.length + ([(y130.1 ++ (([32, 64, 32] : Str) ++ y145)) ++ ([32, 59] : Str)] : List Str).length) * 16 ≤ big then (some (v101 ++ ([(y130.1 ++ (([32, 64, 32] : Str) ++ y145)) ++ ([32, 59] : Str)] : List Str))) else none) else none) else none) else none) else (if (y130.1.length + ([32, 59] : Str).length : Int) ≤ 9223372036854775807 then (if (v101.length + ([y130.1 ++ ([32, 59] : Str)] : List Str).length) * 16 ≤ big then (some (v101 ++ ([y130.1 ++ ([32, 59] : Str)] : List Str))) else none) else none)) : Option (List Str)) >>= fun x128 => code_Text.l0 a0 a1 x128 (IntKind.i64.wrap (v102 + 1)))) else (some v101)
partial_fixpoint
def code_Text.f (a0 : api_Lattice) (a1 : List api_Instr) : Option (Str × Int) :=
  lattice_Check.f a0 >>= fun y1 => if y1 = 0 then (code_Right.f a0 a1 >>= fun y3 => if (!y3) = true then (some (([] : Str), 1)) else ((code_Text.l0 a0 a1 ([] : List Str) 0 >>= fun x103 => lib_Join x103 ([32] : Str) >>= fun y152 => some (y152, 0)))) else (some (([] : Str), y1))
def state_line.f (a0 : Str) (a1 : List Str) : Option Str :=
  if (a1.length : Int) = 0 then (if (a0.length + ([32, 59, 10] : Str).length : Int) ≤ 9223372036854775807 then (some (a0 ++ ([32, 59, 10] : Str))) else none) else (if (a0.length + ([32] : Str).length : Int) ≤ 9223372036854775807 then (lib_Join a1 ([32, 44, 32] : Str) >>= fun y4 => if ((a0 ++ ([32] : Str)).length + y4.length : Int) ≤ 9223372036854775807 then (if (((a0 ++ ([32] : Str)) ++ y4).length + ([32, 59, 10] : Str).length : Int) ≤ 9223372036854775807 then (some (((a0 ++ ([32] : Str)) ++ y4) ++ ([32, 59, 10] : Str))) else none) else none) else none)
def state_Text_1.l0 (a0 : List api_Atom) (a1 : api_Lattice) (v9 : List Str) (v10 : Int) : Option (List Str) :=
  if v10 < (a0.length : Int) then (lAt a0 v10 >>= fun y13 => state_written.f a1 y13.V y13.L >>= fun y14 => if (v9.length + ([y14] : List Str).length) * 16 ≤ big then (state_Text_1.l0 a0 a1 (v9 ++ ([y14] : List Str)) (IntKind.i64.wrap (v10 + 1))) else none) else (some v9)
partial_fixpoint
def state_Text_1.f (a0 : List api_Atom) (a1 : api_Lattice) : Option (List Str) :=
  (state_Text_1.l0 a0 a1 ([] : List Str) 0 >>= fun x11 => some x11)
def state_Text.l0 (a0 : api_Lattice) (a1 : api_State) (v35 : List Str) (v36 : Int) : Option (List Str) :=
  if v36 < (a1.Stack.length : Int) then (((lAt a1.Stack v36 >>= fun y46 => state_written.f a0 y46.V y46.L >>= fun y47 => if y46.Ret = true then (if (([114, 101, 116, 32] : Str).length + y47.length : Int) ≤ 9223372036854775807 then (if (v35.length + ([([114, 101, 116, 32] : Str) ++ y47] : List Str).length) * 16 ≤ big then (some (v35 ++ ([([114, 101, 116, 32] : Str) ++ y47] : List Str))) else none) else none) else (if (v35.length + ([y47] : List Str).length) * 16 ≤ big then (some (v35 ++ ([y47] : List Str))) else none) : Option (List Str)) >>= fun x45 => state_Text.l0 a0 a1 x45 (IntKind.i64.wrap (v36 + 1)))) else (some v35)
partial_fixpoint
def state_Text.l1 (a0 : api_Lattice) (a1 : api_State) (v94 : List Str) (v95 : Int) : Option (List Str) :=
  if v95 < (a1.Stack.length : Int) then (((lAt a1.Stack v95 >>= fun y105 => state_written.f a0 y105.V y105.L >>= fun y106 => if y105.Ret = true then (if (([114, 101, 116, 32] : Str).length + y106.length : Int) ≤ 9223372036854775807 then (if (v94.length + ([([114, 101, 116, 32] : Str) ++ y106] : List Str).length) * 16 ≤ big then (some (v94 ++ ([([114, 101, 116, 32] : Str) ++ y106] : List Str))) else none) else none) else (if (v94.length + ([y106] : List Str).length) * 16 ≤ big then (some (v94 ++ ([y106] : List Str))) else none) : Option (List Str)) >>= fun x104 => state_Text.l1 a0 a1 x104 (IntKind.i64.wrap (v95 + 1)))) else (some v94)
partial_fixpoint
def state_Text.f (a0 : api_Lattice) (a1 : api_State) : Option (Str × Int) :=
  lattice_Check.f a0 >>= fun y1 => if y1 = 0 then (state_Right.f a0 a1 >>= fun y3 => if (!y3) = true then (some (([] : Str), 1)) else (code_Text.f a0 a1.Code >>= fun y5 => if y5.1 = ([] : Str) then ((state_Text.l0 a0 a1 ([] : List Str) 0 >>= fun x37 => state_written.f a0 a1.Pc.V a1.Pc.L >>= fun y52 => if (([112, 99, 32] : Str).length + y52.length : Int) ≤ 9223372036854775807 then (if ((([112, 99, 32] : Str) ++ y52).length + ([32, 59, 10, 99, 111, 100, 101] : Str).length : Int) ≤ 9223372036854775807 then (if (((([112, 99, 32] : Str) ++ y52) ++ ([32, 59, 10, 99, 111, 100, 101] : Str)).length + y5.1.length : Int) ≤ 9223372036854775807 then (if ((((([112, 99, 32] : Str) ++ y52) ++ ([32, 59, 10, 99, 111, 100, 101] : Str)) ++ y5.1).length + ([10] : Str).length : Int) ≤ 9223372036854775807 then ((fun z0 => state_Text_1.f z0 a0) a1.Mem >>= fun y57 => state_line.f ([109, 101, 109] : Str) y57 >>= fun y58 => if (((((([112, 99, 32] : Str) ++ y52) ++ ([32, 59, 10, 99, 111, 100, 101] : Str)) ++ y5.1) ++ ([10] : Str)).length + y58.length : Int) ≤ 9223372036854775807 then (state_line.f ([115, 116, 97, 99, 107] : Str) x37 >>= fun y60 => if ((((((([112, 99, 32] : Str) ++ y52) ++ ([32, 59, 10, 99, 111, 100, 101] : Str)) ++ y5.1) ++ ([10] : Str)) ++ y58).length + y60.length : Int) ≤ 9223372036854775807 then ((fun z0 => state_Text_1.f z0 a0) a1.Out >>= fun y62 => state_line.f ([111, 117, 116] : Str) y62 >>= fun y63 => if (((((((([112, 99, 32] : Str) ++ y52) ++ ([32, 59, 10, 99, 111, 100, 101] : Str)) ++ y5.1) ++ ([10] : Str)) ++ y58) ++ y60).length + y63.length : Int) ≤ 9223372036854775807 then (some (((((((([112, 99, 32] : Str) ++ y52) ++ ([32, 59, 10, 99, 111, 100, 101] : Str)) ++ y5.1) ++ ([10] : Str)) ++ y58) ++ y60) ++ y63, 0)) else none) else none) else none) else none) else none) else none) else none)) else (if (([32] : Str).length + y5.1.length : Int) ≤ 9223372036854775807 then ((state_Text.l1 a0 a1 ([] : List Str) 0 >>= fun x96 => state_written.f a0 a1.Pc.V a1.Pc.L >>= fun y111 => if (([112, 99, 32] : Str).length + y111.length : Int) ≤ 9223372036854775807 then (if ((([112, 99, 32] : Str) ++ y111).length + ([32, 59, 10, 99, 111, 100, 101] : Str).length : Int) ≤ 9223372036854775807 then (if (((([112, 99, 32] : Str) ++ y111) ++ ([32, 59, 10, 99, 111, 100, 101] : Str)).length + (([32] : Str) ++ y5.1).length : Int) ≤ 9223372036854775807 then (if ((((([112, 99, 32] : Str) ++ y111) ++ ([32, 59, 10, 99, 111, 100, 101] : Str)) ++ (([32] : Str) ++ y5.1)).length + ([10] : Str).length : Int) ≤ 9223372036854775807 then ((fun z0 => state_Text_1.f z0 a0) a1.Mem >>= fun y116 => state_line.f ([109, 101, 109] : Str) y116 >>= fun y117 => if (((((([112, 99, 32] : Str) ++ y111) ++ ([32, 59, 10, 99, 111, 100, 101] : Str)) ++ (([32] : Str) ++ y5.1)) ++ ([10] : Str)).length + y117.length : Int) ≤ 9223372036854775807 then (state_line.f ([115, 116, 97, 99, 107] : Str) x96 >>= fun y119 => if ((((((([112, 99, 32] : Str) ++ y111) ++ ([32, 59, 10, 99, 111, 100, 101] : Str)) ++ (([32] : Str) ++ y5.1)) ++ ([10] : Str)) ++ y117).length + y119.length : Int) ≤ 9223372036854775807 then ((fun z0 => state_Text_1.f z0 a0) a1.Out >>= fun y121 => state_line.f ([111, 117, 116] : Str) y121 >>= fun y122 => if (((((((([112, 99, 32] : Str) ++ y111) ++ ([32, 59, 10, 99, 111, 100, 101] : Str)) ++ (([32] : Str) ++ y5.1)) ++ ([10] : Str)) ++ y117) ++ y119).length + y122.length : Int) ≤ 9223372036854775807 then (some (((((((([112, 99, 32] : Str) ++ y111) ++ ([32, 59, 10, 99, 111, 100, 101] : Str)) ++ (([32] : Str) ++ y5.1)) ++ ([10] : Str)) ++ y117) ++ y119) ++ y122, 0)) else none) else none) else none) else none) else none) else none) else none)) else none))) else (some (([] : Str), y1))
def lex_while.l0 (a0 : Str) (a1 : Int → Option Bool) (v17 : Int) : Option Int :=
  ((if v17 < (a0.length : Int) then (if (0 : Int) ≤ v17 ∧ v17 < (a0.length : Int) then (a1 (sAt a0 v17) >>= fun y25 => some y25) else none) else (some false) : Option Bool) >>= fun x22 => if x22 = true then (lex_while.l0 a0 a1 (IntKind.i64.wrap (v17 + 1))) else (some v17))
partial_fixpoint
def lex_while.f (a0 : Str) (a1 : Int → Option Bool) : Option Int :=
  (lex_while.l0 a0 a1 0 >>= fun x18 => some x18)
def lex_token_1.f (a0 : Int) : Option Bool :=
  some (!decide (a0 = 10))
def lex_letter.f (a0 : Int) : Option Bool :=
  ((if a0 ≥ 97 then (some (decide (a0 ≤ 122))) else (some false) : Option Bool) >>= fun x2 => some x2)
def lex_digit.f (a0 : Int) : Option Bool :=
  ((if a0 ≥ 48 then (some (decide (a0 ≤ 57))) else (some false) : Option Bool) >>= fun x2 => some x2)
def stringslite_HasPrefix.f (a0 : Str) (a1 : Str) : Option Bool :=
  ((if (a0.length : Int) ≥ (a1.length : Int) then (if (0 : Int) ≤ (a1.length : Int) ∧ (a1.length : Int) ≤ (a0.length : Int) then (some (decide (sCut a0 0 (a1.length : Int) = a1))) else none) else (some false) : Option Bool) >>= fun x3 => some x3)
def strings_HasPrefix.f (a0 : Str) (a1 : Str) : Option Bool :=
  stringslite_HasPrefix.f a0 a1 >>= fun y1 => some y1
def lex_token.f (a0 : Str) : Option (Int × Int) :=
  if (0 : Int) ≤ 0 ∧ 0 < (a0.length : Int) then (((if sAt a0 0 = 32 then (some true) else (if sAt a0 0 = 9 then (some true) else (some (decide (sAt a0 0 = 10)))) : Option Bool) >>= fun x4 => if x4 = true then (some (0, 1)) else (if sAt a0 0 = 35 then (lex_while.f a0 lex_token_1.f >>= fun y9 => some (0, y9)) else (lex_letter.f (sAt a0 0) >>= fun y10 => if y10 = true then (lex_while.f a0 lex_letter.f >>= fun y12 => some (1, y12)) else (lex_digit.f (sAt a0 0) >>= fun y13 => if y13 = true then (lex_while.f a0 lex_digit.f >>= fun y15 => some (2, y15)) else (strings_HasPrefix.f a0 ([60, 61] : Str) >>= fun y16 => if y16 = true then (some (3, 2)) else (lib_IndexByte ([40, 41, 91, 93, 59, 58, 44, 60, 62, 64, 45, 61] : Str) (sAt a0 0) >>= fun y18 => if y18 ≥ 0 then (some (3, 1)) else (some (0, 0))))))))) else none
def lex_Lex.l0 (a0 : Str) (v32 : List api_Tok) (v33 : Int) : Option (((List api_Tok) × Int × Int) ⊕ (List api_Tok)) :=
  if v33 < (a0.length : Int) then (((if (0 : Int) ≤ v33 ∧ v33 ≤ (a0.length : Int) then (lex_token.f (sCut a0 v33 (a0.length : Int)) >>= fun y45 => if y45.2 = 0 then (some (.inl (([] : List api_Tok), v33, 4))) else (if y45.1 = 0 then (some (.inr (v32, IntKind.i64.wrap (v33 + y45.2)))) else (if (0 : Int) ≤ v33 ∧ v33 ≤ IntKind.i64.wrap (v33 + y45.2) ∧ IntKind.i64.wrap (v33 + y45.2) ≤ (a0.length : Int) then (if (v32.length + ([(⟨y45.1, sCut a0 v33 (IntKind.i64.wrap (v33 + y45.2)), v33⟩ : api_Tok)] : List api_Tok).length) * 32 ≤ big then (some (.inr (v32 ++ ([(⟨y45.1, sCut a0 v33 (IntKind.i64.wrap (v33 + y45.2)), v33⟩ : api_Tok)] : List api_Tok), IntKind.i64.wrap (v33 + y45.2)))) else none) else none))) else none : Option (((List api_Tok) × Int × Int) ⊕ ((List api_Tok) × Int))) >>= fun o => match o with | .inl r => some (.inl r) | .inr (x42, x43) => lex_Lex.l0 a0 x42 x43)) else (some (.inr v32))
partial_fixpoint
def lex_Lex.f (a0 : Str) : Option ((List api_Tok) × Int × Int) :=
  if (a0.length : Int) > 2000 then (some (([] : List api_Tok), 0, 8)) else ((lex_Lex.l0 a0 ([] : List api_Tok) 0 >>= fun o => match o with | .inl r => some r | .inr x34 => if (x34.length + ([(⟨0, [], (a0.length : Int)⟩ : api_Tok)] : List api_Tok).length) * 32 ≤ big then (if ((x34 ++ ([(⟨0, [], (a0.length : Int)⟩ : api_Tok)] : List api_Tok)).length : Int) > 200 then (some (([] : List api_Tok), 0, 8)) else (some (x34 ++ ([(⟨0, [], (a0.length : Int)⟩ : api_Tok)] : List api_Tok), 0, 0))) else none))
def state_reader_is.f (a0 : state_reader) (a1 : Int) (a2 : Str) : Option (state_reader × Bool) :=
  lAt a0.toks_ a0.i_ >>= fun y1 => ((if a0.bad_ = 0 then (if y1.Kind = a1 then (some (decide (y1.Text = a2))) else (some false)) else (some false) : Option Bool) >>= fun x4 => some (a0, x4))
def state_reader_fail.f (a0 : state_reader) (a1 : Int) : Option state_reader :=
  if a0.bad_ = 0 then (some (⟨a0.l_, a0.toks_, a0.i_, a1⟩ : state_reader)) else (some a0)
def state_reader_must.f (a0 : state_reader) (a1 : Int) (a2 : Str) : Option state_reader :=
  state_reader_is.f a0 a1 a2 >>= fun y1 => if y1.2 = true then (some (⟨y1.1.l_, y1.1.toks_, IntKind.i64.wrap (y1.1.i_ + 1), y1.1.bad_⟩ : state_reader)) else (state_reader_fail.f y1.1 4 >>= fun y3 => some y3)
def state_reader_of.f (a0 : state_reader) (a1 : Int) : Option (state_reader × Str) :=
  lAt a0.toks_ a0.i_ >>= fun y1 => ((if a0.bad_ = 0 then (some (!decide (y1.Kind = a1))) else (some true) : Option Bool) >>= fun x3 => if x3 = true then (state_reader_fail.f a0 4 >>= fun y6 => some (y6, ([] : Str))) else (some ((⟨a0.l_, a0.toks_, IntKind.i64.wrap (a0.i_ + 1), a0.bad_⟩ : state_reader), y1.Text)))
def state_reader_number.l0 (y6 : state_reader × Str) (v12 : Int) (v13 : Int) : Option Int :=
  if v12 < ((u8s y6.2).length : Int) then (lAt (u8s y6.2) v12 >>= fun y16 => state_reader_number.l0 y6 (IntKind.i64.wrap (v12 + 1)) (IntKind.i64.wrap ((IntKind.i64.wrap (10 * v13)) + (IntKind.i64.wrap (bAnd .u8 y16 15))))) else (some v13)
partial_fixpoint
def state_reader_number.l1 (y17 : state_reader × Str) (v23 : Int) (v24 : Int) : Option Int :=
  if v23 < ((u8s y17.2).length : Int) then (lAt (u8s y17.2) v23 >>= fun y27 => state_reader_number.l1 y17 (IntKind.i64.wrap (v23 + 1)) (IntKind.i64.wrap ((IntKind.i64.wrap (10 * v24)) + (IntKind.i64.wrap (bAnd .u8 y27 15))))) else (some v24)
partial_fixpoint
def state_reader_number.l2 (y31 : state_reader × Str) (v37 : Int) (v38 : Int) : Option Int :=
  if v37 < ((u8s y31.2).length : Int) then (lAt (u8s y31.2) v37 >>= fun y41 => state_reader_number.l2 y31 (IntKind.i64.wrap (v37 + 1)) (IntKind.i64.wrap ((IntKind.i64.wrap (10 * v38)) + (IntKind.i64.wrap (bAnd .u8 y41 15))))) else (some v38)
partial_fixpoint
def state_reader_number.l3 (y42 : state_reader × Str) (v48 : Int) (v49 : Int) : Option Int :=
  if v48 < ((u8s y42.2).length : Int) then (lAt (u8s y42.2) v48 >>= fun y52 => state_reader_number.l3 y42 (IntKind.i64.wrap (v48 + 1)) (IntKind.i64.wrap ((IntKind.i64.wrap (10 * v49)) + (IntKind.i64.wrap (bAnd .u8 y52 15))))) else (some v49)
partial_fixpoint
def state_reader_number.f (a0 : state_reader) : Option (state_reader × Int) :=
  state_reader_is.f a0 3 ([45] : Str) >>= fun y1 => if y1.2 = true then (lAt y1.1.toks_ (IntKind.i64.wrap (y1.1.i_ + 1)) >>= fun y3 => if (y3.Text.length : Int) > 4 then (state_reader_fail.f (⟨y1.1.l_, y1.1.toks_, IntKind.i64.wrap (y1.1.i_ + 1), y1.1.bad_⟩ : state_reader) 4 >>= fun y5 => state_reader_of.f y5 2 >>= fun y6 => if y6.2.length ≤ big then ((state_reader_number.l0 y6 0 0 >>= fun x14 => some (y6.1, IntKind.i64.wrap ((-1) * x14)))) else none) else (state_reader_of.f (⟨y1.1.l_, y1.1.toks_, IntKind.i64.wrap (y1.1.i_ + 1), y1.1.bad_⟩ : state_reader) 2 >>= fun y17 => if y17.2.length ≤ big then ((state_reader_number.l1 y17 0 0 >>= fun x25 => some (y17.1, IntKind.i64.wrap ((-1) * x25)))) else none)) else (lAt y1.1.toks_ y1.1.i_ >>= fun y28 => if (y28.Text.length : Int) > 4 then (state_reader_fail.f y1.1 4 >>= fun y30 => state_reader_of.f y30 2 >>= fun y31 => if y31.2.length ≤ big then ((state_reader_number.l2 y31 0 0 >>= fun x39 => some (y31.1, IntKind.i64.wrap (1 * x39)))) else none) else (state_reader_of.f y1.1 2 >>= fun y42 => if y42.2.length ≤ big then ((state_reader_number.l3 y42 0 0 >>= fun x50 => some (y42.1, IntKind.i64.wrap (1 * x50)))) else none))
def order_Find.f (a0 : api_Lattice) (a1 : Str) : Option (Int × Int) :=
  lattice_Check.f a0 >>= fun y1 => if y1 = 0 then (slices_Index_string_string.f a0.Names a1 >>= fun y3 => if y3 < 0 then (some (0, 9)) else (some (y3, 0))) else (some (0, y1))
def state_reader_atom.f (a0 : state_reader) : Option (state_reader × api_Atom) :=
  state_reader_number.f a0 >>= fun y1 => state_reader_must.f y1.1 3 ([64] : Str) >>= fun y2 => ((if y2.bad_ = 0 then (lAt y2.toks_ y2.i_ >>= fun y7 => some (!decide (y7.Kind = 1))) else (some true) : Option Bool) >>= fun x5 => if x5 = true then (state_reader_fail.f y2 4 >>= fun y9 => some (y9, (⟨0, 0⟩ : api_Atom))) else (lAt y2.toks_ y2.i_ >>= fun y10 => order_Find.f y2.l_ y10.Text >>= fun y11 => if y11.2 = 0 then (some ((⟨y2.l_, y2.toks_, IntKind.i64.wrap (y2.i_ + 1), y2.bad_⟩ : state_reader), (⟨y1.2, y11.1⟩ : api_Atom))) else (state_reader_fail.f y2 6 >>= fun y13 => some (y13, (⟨0, 0⟩ : api_Atom)))))
def code_reader_tok.f (a0 : code_reader) : Option (code_reader × api_Tok) :=
  lAt a0.toks_ a0.i_ >>= fun y1 => some (a0, y1)
def code_instruction.l0 (a0 : api_Tok) (v13 : Int) : Option (Int ⊕ Unit) :=
  if v13 < 13 then (table_Name.f v13 >>= fun y15 => ((if a0.Kind = 1 then (some (decide (y15.1 = a0.Text))) else (some false) : Option Bool) >>= fun x17 => if x17 = true then (some (.inl v13)) else (code_instruction.l0 a0 (IntKind.i64.wrap (v13 + 1))))) else (some (.inr ()))
partial_fixpoint
def code_instruction.f (a0 : api_Tok) : Option Int :=
  (code_instruction.l0 a0 0 >>= fun o => match o with | .inl r => some r | .inr () => some (-1))
def code_reader_fail.f (a0 : code_reader) (a1 : Int) : Option code_reader :=
  if a0.bad_ = 0 then (some (⟨a0.l_, a0.toks_, a0.i_, a1⟩ : code_reader)) else (some a0)
def code_reader_number.l0 (y6 : code_reader × api_Tok) (v16 : Int) (v17 : Int) : Option Int :=
  if v16 < (y6.2.Text.length : Int) then (if (0 : Int) ≤ v16 ∧ v16 < (y6.2.Text.length : Int) then (code_reader_number.l0 y6 (IntKind.i64.wrap (v16 + 1)) (IntKind.i64.wrap ((IntKind.i64.wrap (10 * v17)) + (IntKind.i64.wrap (bAnd .u8 (sAt y6.2.Text v16) 15))))) else none) else (some v17)
partial_fixpoint
def code_reader_number.l1 (y21 : code_reader × api_Tok) (v31 : Int) (v32 : Int) : Option Int :=
  if v31 < (y21.2.Text.length : Int) then (if (0 : Int) ≤ v31 ∧ v31 < (y21.2.Text.length : Int) then (code_reader_number.l1 y21 (IntKind.i64.wrap (v31 + 1)) (IntKind.i64.wrap ((IntKind.i64.wrap (10 * v32)) + (IntKind.i64.wrap (bAnd .u8 (sAt y21.2.Text v31) 15))))) else none) else (some v32)
partial_fixpoint
def code_reader_number.f (a0 : code_reader) : Option (code_reader × Int) :=
  code_reader_tok.f a0 >>= fun y1 => ((if y1.2.Kind = 3 then (some (decide (y1.2.Text = ([45] : Str)))) else (some false) : Option Bool) >>= fun x3 => if x3 = true then (code_reader_tok.f (⟨y1.1.l_, y1.1.toks_, IntKind.i64.wrap (y1.1.i_ + 1), y1.1.bad_⟩ : code_reader) >>= fun y6 => ((if y6.2.Kind = 2 then (some (decide ((y6.2.Text.length : Int) > 4))) else (some true) : Option Bool) >>= fun x8 => if x8 = true then (code_reader_fail.f y6.1 4 >>= fun y11 => some (y11, 0)) else ((code_reader_number.l0 y6 0 0 >>= fun x18 => some ((⟨y6.1.l_, y6.1.toks_, IntKind.i64.wrap (y6.1.i_ + 1), y6.1.bad_⟩ : code_reader), IntKind.i64.wrap ((-1) * x18)))))) else (code_reader_tok.f y1.1 >>= fun y21 => ((if y21.2.Kind = 2 then (some (decide ((y21.2.Text.length : Int) > 4))) else (some true) : Option Bool) >>= fun x23 => if x23 = true then (code_reader_fail.f y21.1 4 >>= fun y26 => some (y26, 0)) else ((code_reader_number.l1 y21 0 0 >>= fun x33 => some ((⟨y21.1.l_, y21.1.toks_, IntKind.i64.wrap (y21.1.i_ + 1), y21.1.bad_⟩ : code_reader), IntKind.i64.wrap (1 * x33)))))))
def code_reader_mark.f (a0 : code_reader) (a1 : Str) : Option code_reader :=
  code_reader_tok.f a0 >>= fun y1 => ((if y1.1.bad_ = 0 then (((if y1.2.Kind = 3 then (some (!decide (y1.2.Text = a1))) else (some true) : Option Bool) >>= fun x15 => if x15 = true then (code_reader_fail.f y1.1 4 >>= fun y18 => some (y18.l_.Names, y18.l_.Up, y18.toks_, y18.i_, y18.bad_)) else (some (y1.1.l_.Names, y1.1.l_.Up, y1.1.toks_, IntKind.i64.wrap (y1.1.i_ + 1), y1.1.bad_)))) else (some (y1.1.l_.Names, y1.1.l_.Up, y1.1.toks_, y1.1.i_, y1.1.bad_)) : Option ((List Str) × (List Int) × (List api_Tok) × Int × Int)) >>= fun o => match o with | (x8, x9, x10, x11, x12) => some (⟨⟨x8, x9⟩, x10, x11, x12⟩ : code_reader))
def code_reader_label.f (a0 : code_reader) : Option (code_reader × Int) :=
  code_reader_mark.f a0 ([64] : Str) >>= fun y1 => code_reader_tok.f y1 >>= fun y2 => if y2.1.bad_ = 0 then (if y2.2.Kind = 1 then (order_Find.f y2.1.l_ y2.2.Text >>= fun y5 => if y5.2 = 0 then (some ((⟨y2.1.l_, y2.1.toks_, IntKind.i64.wrap (y2.1.i_ + 1), y2.1.bad_⟩ : code_reader), y5.1)) else (code_reader_fail.f y2.1 6 >>= fun y7 => some (y7, 0))) else (code_reader_fail.f y2.1 4 >>= fun y8 => some (y8, 0))) else (some (y2.1, 0))
def code_reader_one.f (a0 : code_reader) (a1 : Int) : Option (code_reader × api_Instr) :=
  code_number.f a1 >>= fun y1 => if y1 = true then (code_reader_number.f (⟨a0.l_, a0.toks_, IntKind.i64.wrap (a0.i_ + 1), a0.bad_⟩ : code_reader) >>= fun y3 => ((if a1 = 1 then (some (decide (y3.1.bad_ = 0))) else (some false) : Option Bool) >>= fun x5 => if x5 = true then (code_reader_label.f y3.1 >>= fun y8 => code_reader_mark.f y8.1 ([59] : Str) >>= fun y9 => ((if y9.bad_ = 0 then (code_right.f (y9.l_.Up.length : Int) (⟨a1, y3.2, y8.2⟩ : api_Instr) >>= fun y14 => some (!y14)) else (some false) : Option Bool) >>= fun x12 => if x12 = true then (code_reader_fail.f (⟨y9.l_, y9.toks_, a0.i_, y9.bad_⟩ : code_reader) 1 >>= fun y16 => some (y16, (⟨a1, y3.2, y8.2⟩ : api_Instr))) else (some (y9, (⟨a1, y3.2, y8.2⟩ : api_Instr))))) else (code_reader_mark.f y3.1 ([59] : Str) >>= fun y17 => ((if y17.bad_ = 0 then (code_right.f (y17.l_.Up.length : Int) (⟨a1, y3.2, 0⟩ : api_Instr) >>= fun y22 => some (!y22)) else (some false) : Option Bool) >>= fun x20 => if x20 = true then (code_reader_fail.f (⟨y17.l_, y17.toks_, a0.i_, y17.bad_⟩ : code_reader) 1 >>= fun y24 => some (y24, (⟨a1, y3.2, 0⟩ : api_Instr))) else (some (y17, (⟨a1, y3.2, 0⟩ : api_Instr))))))) else (((if a1 = 1 then (some (decide (a0.bad_ = 0))) else (some false) : Option Bool) >>= fun x26 => if x26 = true then (code_reader_label.f (⟨a0.l_, a0.toks_, IntKind.i64.wrap (a0.i_ + 1), a0.bad_⟩ : code_reader) >>= fun y29 => code_reader_mark.f y29.1 ([59] : Str) >>= fun y30 => ((if y30.bad_ = 0 then (code_right.f (y30.l_.Up.length : Int) (⟨a1, 0, y29.2⟩ : api_Instr) >>= fun y35 => some (!y35)) else (some false) : Option Bool) >>= fun x33 => if x33 = true then (code_reader_fail.f (⟨y30.l_, y30.toks_, a0.i_, y30.bad_⟩ : code_reader) 1 >>= fun y37 => some (y37, (⟨a1, 0, y29.2⟩ : api_Instr))) else (some (y30, (⟨a1, 0, y29.2⟩ : api_Instr))))) else (code_reader_mark.f (⟨a0.l_, a0.toks_, IntKind.i64.wrap (a0.i_ + 1), a0.bad_⟩ : code_reader) ([59] : Str) >>= fun y38 => ((if y38.bad_ = 0 then (code_right.f (y38.l_.Up.length : Int) (⟨a1, 0, 0⟩ : api_Instr) >>= fun y43 => some (!y43)) else (some false) : Option Bool) >>= fun x41 => if x41 = true then (code_reader_fail.f (⟨y38.l_, y38.toks_, a0.i_, y38.bad_⟩ : code_reader) 1 >>= fun y45 => some (y45, (⟨a1, 0, 0⟩ : api_Instr))) else (some (y38, (⟨a1, 0, 0⟩ : api_Instr)))))))
def code_From.l0 (v27 : List Str) (v28 : List Int) (v29 : List api_Tok) (v30 : Int) (v31 : Int) (v32 : List api_Instr) : Option (((List api_Instr) × Int × Int) ⊕ ((List Str) × (List Int) × (List api_Tok) × Int × Int × (List api_Instr))) :=
  if v31 = 0 then (code_reader_tok.f (⟨⟨v27, v28⟩, v29, v30, v31⟩ : code_reader) >>= fun y40 => code_instruction.f y40.2 >>= fun y41 => if y41 < 0 then (some (.inl (v32, y40.1.i_, 0))) else (if (v32.length : Int) = 12 then (code_reader_fail.f y40.1 8 >>= fun y44 => some (.inr (y44.l_.Names, y44.l_.Up, y44.toks_, y44.i_, y44.bad_, v32))) else (code_reader_one.f y40.1 y41 >>= fun y45 => if (v32.length + ([y45.2] : List api_Instr).length) * 24 ≤ big then (code_From.l0 y45.1.l_.Names y45.1.l_.Up y45.1.toks_ y45.1.i_ y45.1.bad_ (v32 ++ ([y45.2] : List api_Instr))) else none))) else (some (.inr (v27, v28, v29, v30, v31, v32)))
partial_fixpoint
def code_From.f (a0 : api_Lattice) (a1 : List api_Tok) (a2 : Int) : Option ((List api_Instr) × Int × Int) :=
  lattice_Check.f a0 >>= fun y1 => if y1 = 0 then (((if a2 < 0 then (some true) else (if a2 ≥ (a1.length : Int) then (some true) else (lAt a1 (IntKind.i64.wrap ((a1.length : Int) - 1)) >>= fun y9 => some (!decide (y9.Kind = 0)))) : Option Bool) >>= fun x6 => if x6 = true then (some (([] : List api_Instr), 0, 1)) else ((code_From.l0 a0.Names a0.Up a1 a2 0 ([] : List api_Instr) >>= fun o => match o with | .inl r => some r | .inr (x33, x34, x35, x36, x37, x38) => some (([] : List api_Instr), x36, x37))))) else (some (([] : List api_Instr), 0, y1))
def state_reader_program.f (a0 : state_reader) : Option (state_reader × (List api_Instr)) :=
  state_reader_must.f a0 1 ([99, 111, 100, 101] : Str) >>= fun y1 => if y1.bad_ = 0 then (code_From.f y1.l_ y1.toks_ y1.i_ >>= fun y3 => if y3.2.2 = 0 then (some ((⟨y1.l_, y1.toks_, y3.2.1, y1.bad_⟩ : state_reader), y3.1)) else (state_reader_fail.f (⟨y1.l_, y1.toks_, y3.2.1, y1.bad_⟩ : state_reader) y3.2.2 >>= fun y5 => some (y5, y3.1))) else (some (y1, ([] : List api_Instr)))
def state_reader_slot.f (a0 : state_reader) : Option (state_reader × api_Slot) :=
  state_reader_is.f a0 1 ([114, 101, 116] : Str) >>= fun y1 => if y1.2 = true then (state_reader_atom.f (⟨y1.1.l_, y1.1.toks_, IntKind.i64.wrap (y1.1.i_ + 1), y1.1.bad_⟩ : state_reader) >>= fun y3 => some (y3.1, (⟨y1.2, y3.2.V, y3.2.L⟩ : api_Slot))) else (state_reader_atom.f y1.1 >>= fun y4 => some (y4.1, (⟨y1.2, y4.2.V, y4.2.L⟩ : api_Slot)))
def state_row_api_Atom_atom.l0 (a2 : Int) (v20 : List Str) (v21 : List Int) (v22 : List api_Tok) (v23 : Int) (v24 : Int) (v25 : List api_Atom) : Option ((List Str) × (List Int) × (List api_Tok) × Int × Int × (List api_Atom)) :=
  if v24 = 0 then (if (v25.length : Int) = a2 then (state_reader_fail.f (⟨⟨v20, v21⟩, v22, v23, v24⟩ : state_reader) 8 >>= fun y34 => some (y34.l_.Names, y34.l_.Up, y34.toks_, y34.i_, y34.bad_, v25)) else (state_reader_atom.f (⟨⟨v20, v21⟩, v22, v23, v24⟩ : state_reader) >>= fun y35 => if (v25.length + ([y35.2] : List api_Atom).length) * 16 ≤ big then (state_reader_is.f y35.1 3 ([44] : Str) >>= fun y37 => if (!y37.2) = true then (state_reader_must.f y37.1 3 ([59] : Str) >>= fun y39 => some (y39.l_.Names, y39.l_.Up, y39.toks_, y39.i_, y39.bad_, v25 ++ ([y35.2] : List api_Atom))) else (state_row_api_Atom_atom.l0 a2 y37.1.l_.Names y37.1.l_.Up y37.1.toks_ (IntKind.i64.wrap (y37.1.i_ + 1)) y37.1.bad_ (v25 ++ ([y35.2] : List api_Atom)))) else none)) else (some (v20, v21, v22, v23, v24, v25))
partial_fixpoint
def state_row_api_Atom_atom.f (a0 : state_reader) (a1 : Str) (a2 : Int) : Option (state_reader × (List api_Atom)) :=
  state_reader_must.f a0 1 a1 >>= fun y1 => state_reader_is.f y1 3 ([59] : Str) >>= fun y2 => if y2.2 = true then (some ((⟨y2.1.l_, y2.1.toks_, IntKind.i64.wrap (y2.1.i_ + 1), y2.1.bad_⟩ : state_reader), ([] : List api_Atom))) else ((state_row_api_Atom_atom.l0 a2 y2.1.l_.Names y2.1.l_.Up y2.1.toks_ y2.1.i_ y2.1.bad_ ([] : List api_Atom) >>= fun o => match o with | (x26, x27, x28, x29, x30, x31) => some ((⟨⟨x26, x27⟩, x28, x29, x30⟩ : state_reader), x31)))
def state_row_api_Slot_slot.l0 (a2 : Int) (v20 : List Str) (v21 : List Int) (v22 : List api_Tok) (v23 : Int) (v24 : Int) (v25 : List api_Slot) : Option ((List Str) × (List Int) × (List api_Tok) × Int × Int × (List api_Slot)) :=
  if v24 = 0 then (if (v25.length : Int) = a2 then (state_reader_fail.f (⟨⟨v20, v21⟩, v22, v23, v24⟩ : state_reader) 8 >>= fun y34 => some (y34.l_.Names, y34.l_.Up, y34.toks_, y34.i_, y34.bad_, v25)) else (state_reader_slot.f (⟨⟨v20, v21⟩, v22, v23, v24⟩ : state_reader) >>= fun y35 => if (v25.length + ([y35.2] : List api_Slot).length) * 24 ≤ big then (state_reader_is.f y35.1 3 ([44] : Str) >>= fun y37 => if (!y37.2) = true then (state_reader_must.f y37.1 3 ([59] : Str) >>= fun y39 => some (y39.l_.Names, y39.l_.Up, y39.toks_, y39.i_, y39.bad_, v25 ++ ([y35.2] : List api_Slot))) else (state_row_api_Slot_slot.l0 a2 y37.1.l_.Names y37.1.l_.Up y37.1.toks_ (IntKind.i64.wrap (y37.1.i_ + 1)) y37.1.bad_ (v25 ++ ([y35.2] : List api_Slot)))) else none)) else (some (v20, v21, v22, v23, v24, v25))
partial_fixpoint
def state_row_api_Slot_slot.f (a0 : state_reader) (a1 : Str) (a2 : Int) : Option (state_reader × (List api_Slot)) :=
  state_reader_must.f a0 1 a1 >>= fun y1 => state_reader_is.f y1 3 ([59] : Str) >>= fun y2 => if y2.2 = true then (some ((⟨y2.1.l_, y2.1.toks_, IntKind.i64.wrap (y2.1.i_ + 1), y2.1.bad_⟩ : state_reader), ([] : List api_Slot))) else ((state_row_api_Slot_slot.l0 a2 y2.1.l_.Names y2.1.l_.Up y2.1.toks_ y2.1.i_ y2.1.bad_ ([] : List api_Slot) >>= fun o => match o with | (x26, x27, x28, x29, x30, x31) => some ((⟨⟨x26, x27⟩, x28, x29, x30⟩ : state_reader), x31)))
def state_From.f (a0 : api_Lattice) (a1 : List api_Tok) (a2 : Int) : Option (api_State × Int × Int) :=
  lattice_Check.f a0 >>= fun y1 => if y1 = 0 then (((if a2 < 0 then (some true) else (if a2 ≥ (a1.length : Int) then (some true) else (lAt a1 (IntKind.i64.wrap ((a1.length : Int) - 1)) >>= fun y9 => some (!decide (y9.Kind = 0)))) : Option Bool) >>= fun x6 => if x6 = true then (some ((⟨⟨0, 0⟩, [], [], [], []⟩ : api_State), 0, 1)) else (state_reader_must.f (⟨a0, a1, a2, 0⟩ : state_reader) 1 ([112, 99] : Str) >>= fun y11 => state_reader_atom.f y11 >>= fun y12 => state_reader_must.f y12.1 3 ([59] : Str) >>= fun y13 => state_reader_program.f y13 >>= fun y14 => state_row_api_Atom_atom.f y14.1 ([109, 101, 109] : Str) 6 >>= fun y15 => state_row_api_Slot_slot.f y15.1 ([115, 116, 97, 99, 107] : Str) 12 >>= fun y16 => state_row_api_Atom_atom.f y16.1 ([111, 117, 116] : Str) 8 >>= fun y17 => if y17.1.bad_ = 0 then (state_Right.f a0 (⟨y12.2, y14.2, y15.2, y16.2, y17.2⟩ : api_State) >>= fun y19 => if (!y19) = true then (some ((⟨⟨0, 0⟩, [], [], [], []⟩ : api_State), a2, 1)) else (some ((⟨y12.2, y14.2, y15.2, y16.2, y17.2⟩ : api_State), y17.1.i_, 0))) else (some ((⟨⟨0, 0⟩, [], [], [], []⟩ : api_State), y17.1.i_, y17.1.bad_))))) else (some ((⟨⟨0, 0⟩, [], [], [], []⟩ : api_State), 0, y1))
def state_Parse.f (a0 : api_Lattice) (a1 : Str) : Option (api_State × Int × Int) :=
  lattice_Check.f a0 >>= fun y1 => if y1 = 0 then (lex_Lex.f a1 >>= fun y3 => if y3.2.2 = 0 then (state_From.f a0 y3.1 0 >>= fun y5 => if y5.2.2 = 0 then (lAt y3.1 y5.2.1 >>= fun y7 => if y7.Kind = 0 then (some (y5.1, 0, 0)) else (lAt y3.1 y5.2.1 >>= fun y9 => some ((⟨⟨0, 0⟩, [], [], [], []⟩ : api_State), y9.At, 4))) else (lAt y3.1 y5.2.1 >>= fun y10 => some ((⟨⟨0, 0⟩, [], [], [], []⟩ : api_State), y10.At, y5.2.2))) else (some ((⟨⟨0, 0⟩, [], [], [], []⟩ : api_State), y3.2.1, y3.2.2))) else (some ((⟨⟨0, 0⟩, [], [], [], []⟩ : api_State), 0, y1))
def reticentref08_Same.l0 (a0 : List api_Instr) (a1 : List api_Instr) (v10 : Int) : Option (Bool ⊕ Unit) :=
  if v10 < (a0.length : Int) then (lAt a0 v10 >>= fun y12 => lAt a1 v10 >>= fun y13 => if y12 = y13 then (reticentref08_Same.l0 a0 a1 (IntKind.i64.wrap (v10 + 1))) else (some (.inl false))) else (some (.inr ()))
partial_fixpoint
def reticentref08_Same.f (a0 : List api_Instr) (a1 : List api_Instr) : Option Bool :=
  if (a0.length : Int) = (a1.length : Int) then ((reticentref08_Same.l0 a0 a1 0 >>= fun o => match o with | .inl r => some r | .inr () => some true)) else (some false)
def reticentref09_AtomsSame.l0 (a0 : List api_Atom) (a1 : List api_Atom) (v10 : Int) : Option (Bool ⊕ Unit) :=
  if v10 < (a0.length : Int) then (lAt a0 v10 >>= fun y12 => lAt a1 v10 >>= fun y13 => if y12 = y13 then (reticentref09_AtomsSame.l0 a0 a1 (IntKind.i64.wrap (v10 + 1))) else (some (.inl false))) else (some (.inr ()))
partial_fixpoint
def reticentref09_AtomsSame.f (a0 : List api_Atom) (a1 : List api_Atom) : Option Bool :=
  if (a0.length : Int) = (a1.length : Int) then ((reticentref09_AtomsSame.l0 a0 a1 0 >>= fun o => match o with | .inl r => some r | .inr () => some true)) else (some false)
def reticentref09_Same.l0 (a0 : api_State) (a1 : api_State) (v25 : Int) : Option (Bool ⊕ Unit) :=
  if v25 < (a0.Stack.length : Int) then (lAt a0.Stack v25 >>= fun y27 => lAt a1.Stack v25 >>= fun y28 => if y27 = y28 then (reticentref09_Same.l0 a0 a1 (IntKind.i64.wrap (v25 + 1))) else (some (.inl false))) else (some (.inr ()))
partial_fixpoint
def reticentref09_Same.f (a0 : api_State) (a1 : api_State) : Option Bool :=
  ((if a0.Pc = a1.Pc then (reticentref08_Same.f a0.Code a1.Code >>= fun y10 => if (!y10) = true then (some true) else (reticentref09_AtomsSame.f a0.Mem a1.Mem >>= fun y12 => if (!y12) = true then (some true) else (reticentref09_AtomsSame.f a0.Out a1.Out >>= fun y14 => if (!y14) = true then (some true) else (some (!decide ((a0.Stack.length : Int) = (a1.Stack.length : Int))))))) else (some true) : Option Bool) >>= fun x8 => if x8 = true then (some false) else ((reticentref09_Same.l0 a0 a1 0 >>= fun o => match o with | .inl r => some r | .inr () => some true)))
def reticentlaw09_alive.f : Option Bool :=
  state_Parse.f (⟨([([97] : Str), ([98] : Str)] : List Str), ([3, 2] : List Int)⟩ : api_Lattice) ks0 >>= fun y1 => ((if y1.2.2 = 0 then (if (y1.1.Stack.length : Int) = 1 then (lAt y1.1.Stack 0 >>= fun y10 => if y10 = (⟨true, 1, 1⟩ : api_Slot) then (state_Right.f (⟨([([97] : Str), ([98] : Str)] : List Str), ([3, 2] : List Int)⟩ : api_Lattice) y1.1 >>= fun y12 => some y12) else (some false)) else (some false)) else (some false) : Option Bool) >>= fun x7 => some x7)
def reticentlaw09_StateBack.f (a0 : api_Lattice) (a1 : api_State) (a2 : Str) : Option Bool :=
  reticentlaw09_few.f a0 >>= fun y1 => reticentlaw09_cut.f a1 >>= fun y2 => if (0 : Int) ≤ (if 2010 < (a2.length : Int) then 2010 else (a2.length : Int)) ∧ (if 2010 < (a2.length : Int) then 2010 else (a2.length : Int)) ≤ (a2.length : Int) then (state_Text.f y1 y2 >>= fun y4 => if y4.2 = 0 then (state_Parse.f y1 y4.1 >>= fun y6 => ((if y6.2.2 = 8 then (some false) else (if y6.2.2 = 0 then (if y6.2.1 = 0 then (reticentref09_Same.f y6.1 y2 >>= fun y15 => some (!y15)) else (some true)) else (some true)) : Option Bool) >>= fun x11 => if x11 = true then (some false) else (state_Parse.f y1 (sCut a2 0 (if 2010 < (a2.length : Int) then 2010 else (a2.length : Int))) >>= fun y17 => if y17.2.2 = 0 then (((reticentlaw09_alive.f >>= fun y23 => if y23 = true then (state_Right.f y1 y17.1 >>= fun y25 => some y25) else (some false) : Option Bool) >>= fun x22 => some x22)) else (((reticentlaw09_alive.f >>= fun y30 => if y30 = true then (reticentref09_Same.f y17.1 (⟨(⟨0, 0⟩ : api_Atom), [], [], [], []⟩ : api_State) >>= fun y32 => some y32) else (some false) : Option Bool) >>= fun x29 => some x29))))) else (state_Parse.f y1 (sCut a2 0 (if 2010 < (a2.length : Int) then 2010 else (a2.length : Int))) >>= fun y33 => if y33.2.2 = 0 then (((reticentlaw09_alive.f >>= fun y39 => if y39 = true then (state_Right.f y1 y33.1 >>= fun y41 => some y41) else (some false) : Option Bool) >>= fun x38 => some x38)) else (((reticentlaw09_alive.f >>= fun y46 => if y46 = true then (reticentref09_Same.f y33.1 (⟨(⟨0, 0⟩ : api_Atom), [], [], [], []⟩ : api_State) >>= fun y48 => some y48) else (some false) : Option Bool) >>= fun x45 => some x45)))) else none

end Go.Proofs.YtkcpghpglhamfaaGreatDoor.SK
