import Derived.Test.YtmegdednaimgcaaGreatDoorAb36
set_option linter.unusedVariables false
namespace Go.Proofs.YtmegdednaimgcaaGreatDoor.TT
open Go Go.Proofs.YtmegdednaimgcaaGreatDoor.Ab
structure api_Lattice where
 Names : List Str
 Up : List Int
structure api_Row where
 May : List Int
 Res : List Int
 Pc : List Int
structure api_Table where
 Rows : List api_Row
structure api_Atom where
 V : Int
 L : Int
 deriving DecidableEq
structure api_Instr where
 Op : Int
 N : Int
 L : Int
 deriving DecidableEq
structure api_Slot where
 Ret : Bool
 V : Int
 L : Int
 deriving DecidableEq
structure api_State where
 Pc : api_Atom
 Code : List api_Instr
 Mem : List api_Atom
 Stack : List api_Slot
 Out : List api_Atom
structure S109 where
 x0_ : Int
 x1_ : Int
 x2_ : Int
structure step_machine where
 l_ : api_Lattice
 s_ : api_State
 x_ : api_Instr
 a_ : api_Slot
 b_ : api_Slot
 r_ : api_Slot
 below_ : Int
 one_ : S109
inductive If147 where
 | nil
 | c144 (x : Bool)
 | c153 (x : Int)
def vIf147 : If147 → Option (TypeId × Sig)
 | .nil => none
 | .c144 x => some (144, kB.sig x)
 | .c153 x => some (153, (kI .i64).sig x)
def as147_144 : If147 → Bool × Bool
 | .c144 x => (x, true)
 | _ => (false, false)
theorem asOk147_144 : AsOk vIf147 144 kB false as147_144 := fun x => by
 cases x <;> simp [vIf147, as147_144]
def as147_153 : If147 → Int × Bool
 | .c153 x => (x, true)
 | _ => (0, false)
theorem asOk147_153 : AsOk vIf147 153 (kI .i64) 0 as147_153 := fun x => by
 cases x <;> simp [vIf147, as147_153]
structure judge_judge where
 l_ : api_Lattice
 labels_ : List Int
 pile_ : List If147
structure reticentref06_W where
 I : Int
 E : Int
structure reticentref10_N where
 Is : Bool
 A : api_Slot
 B : api_Slot
 R : api_Slot
 One : Int
 Two : Int
 Three : Int
 Below : Int
structure reticentref07_V where
 Is : Bool
 A : Int
 From : Int
structure reticentref10_O where
 S : api_State
 What : Int
structure reticentref11_R where
 L : List api_State
 What : Int
def ks0 : Str := [0, 1, 1, 2, 1, 2, 2, 3, 1, 2, 2, 3, 2, 3, 3, 4, 1, 2, 2, 3, 2, 3, 3, 4, 2, 3, 3, 4, 3, 4, 4, 5, 1, 2, 2, 3, 2, 3, 3, 4, 2, 3, 3, 4, 3, 4, 4, 5, 2, 3, 3, 4, 3, 4, 4, 5, 3, 4, 4, 5, 4, 5, 5, 6, 1, 2, 2, 3, 2, 3, 3, 4, 2, 3, 3, 4, 3, 4, 4, 5, 2, 3, 3, 4, 3, 4, 4, 5, 3, 4, 4, 5, 4, 5, 5, 6, 2, 3, 3, 4, 3, 4, 4, 5, 3, 4, 4, 5, 4, 5, 5, 6, 3, 4, 4, 5, 4, 5, 5, 6, 4, 5, 5, 6, 5, 6, 6, 7, 1, 2, 2, 3, 2, 3, 3, 4, 2, 3, 3, 4, 3, 4, 4, 5, 2, 3, 3, 4, 3, 4, 4, 5, 3, 4, 4, 5, 4, 5, 5, 6, 2, 3, 3, 4, 3, 4, 4, 5, 3, 4, 4, 5, 4, 5, 5, 6, 3, 4, 4, 5, 4, 5, 5, 6, 4, 5, 5, 6, 5, 6, 6, 7, 2, 3, 3, 4, 3, 4, 4, 5, 3, 4, 4, 5, 4, 5, 5, 6, 3, 4, 4, 5, 4, 5, 5, 6, 4, 5, 5, 6, 5, 6, 6, 7, 3, 4, 4, 5, 4, 5, 5, 6, 4, 5, 5, 6, 5, 6, 6, 7, 4, 5, 5, 6, 5, 6, 6, 7, 5, 6, 6, 7, 6, 7, 7, 8]
def f_api_Lattice : List (Fld api_Lattice) := [⟨(kL kS), api_Lattice.Names⟩, ⟨(kL (kI .u32)), api_Lattice.Up⟩]
def f_api_Row : List (Fld api_Row) := [⟨(kL (kI .i64)), api_Row.May⟩, ⟨(kL (kI .i64)), api_Row.Res⟩, ⟨(kL (kI .i64)), api_Row.Pc⟩]
def f_api_Table : List (Fld api_Table) := [⟨(kL (kR f_api_Row)), api_Table.Rows⟩]
def f_api_Atom : List (Fld api_Atom) := [⟨(kI .i64), api_Atom.V⟩, ⟨(kI .i64), api_Atom.L⟩]
def f_api_Instr : List (Fld api_Instr) := [⟨(kI .i64), api_Instr.Op⟩, ⟨(kI .i64), api_Instr.N⟩, ⟨(kI .i64), api_Instr.L⟩]
def f_api_Slot : List (Fld api_Slot) := [⟨kB, api_Slot.Ret⟩, ⟨(kI .i64), api_Slot.V⟩, ⟨(kI .i64), api_Slot.L⟩]
def f_api_State : List (Fld api_State) := [⟨(kR f_api_Atom), api_State.Pc⟩, ⟨(kL (kR f_api_Instr)), api_State.Code⟩, ⟨(kL (kR f_api_Atom)), api_State.Mem⟩, ⟨(kL (kR f_api_Slot)), api_State.Stack⟩, ⟨(kL (kR f_api_Atom)), api_State.Out⟩]
def f_S109 : List (Fld S109) := [⟨(kI .i64), S109.x0_⟩, ⟨(kI .i64), S109.x1_⟩, ⟨(kI .i64), S109.x2_⟩]
def f_step_machine : List (Fld step_machine) := [⟨(kR f_api_Lattice), step_machine.l_⟩, ⟨(kR f_api_State), step_machine.s_⟩, ⟨(kR f_api_Instr), step_machine.x_⟩, ⟨(kR f_api_Slot), step_machine.a_⟩, ⟨(kR f_api_Slot), step_machine.b_⟩, ⟨(kR f_api_Slot), step_machine.r_⟩, ⟨(kI .i64), step_machine.below_⟩, ⟨(kR f_S109), step_machine.one_⟩]
def f_judge_judge : List (Fld judge_judge) := [⟨(kR f_api_Lattice), judge_judge.l_⟩, ⟨(kL (kI .i64)), judge_judge.labels_⟩, ⟨(kL (kF vIf147)), judge_judge.pile_⟩]
def f_reticentref06_W : List (Fld reticentref06_W) := [⟨(kI .i64), reticentref06_W.I⟩, ⟨(kI .i64), reticentref06_W.E⟩]
def f_reticentref10_N : List (Fld reticentref10_N) := [⟨kB, reticentref10_N.Is⟩, ⟨(kR f_api_Slot), reticentref10_N.A⟩, ⟨(kR f_api_Slot), reticentref10_N.B⟩, ⟨(kR f_api_Slot), reticentref10_N.R⟩, ⟨(kI .i64), reticentref10_N.One⟩, ⟨(kI .i64), reticentref10_N.Two⟩, ⟨(kI .i64), reticentref10_N.Three⟩, ⟨(kI .i64), reticentref10_N.Below⟩]
def f_reticentref07_V : List (Fld reticentref07_V) := [⟨kB, reticentref07_V.Is⟩, ⟨(kI .i64), reticentref07_V.A⟩, ⟨(kI .i64), reticentref07_V.From⟩]
def f_reticentref10_O : List (Fld reticentref10_O) := [⟨(kR f_api_State), reticentref10_O.S⟩, ⟨(kI .i64), reticentref10_O.What⟩]
def f_reticentref11_R : List (Fld reticentref11_R) := [⟨(kL (kR f_api_State)), reticentref11_R.L⟩, ⟨(kI .i64), reticentref11_R.What⟩]
def f_api_Lattice_n0 : List (Fld api_Lattice) := [⟨(kN Str), api_Lattice.Names⟩, ⟨(kL (kI .u32)), api_Lattice.Up⟩]
def f_judge_judge_n2 : List (Fld judge_judge) := [⟨(kR f_api_Lattice), judge_judge.l_⟩, ⟨(kL (kI .i64)), judge_judge.labels_⟩, ⟨(kN If147), judge_judge.pile_⟩]
def f_reticentref11_R_n0 : List (Fld reticentref11_R) := [⟨(kN api_State), reticentref11_R.L⟩, ⟨(kI .i64), reticentref11_R.What⟩]
def reticentlaw11_few.l0 (a0 : api_Lattice) (v11 : List Str) (v12 : Int) : Option (List Str) :=
 if v12 < ((lCut a0.Names 0 (if 10 < (a0.Names.length : Int) then 10 else (a0.Names.length : Int))).length : Int) then (lAt (lCut a0.Names 0 (if 10 < (a0.Names.length : Int) then 10 else (a0.Names.length : Int))) v12 >>= fun y15 => if (0 : Int) ≤ (if 15 < (y15.length : Int) then 15 else (y15.length : Int)) ∧ (if 15 < (y15.length : Int) then 15 else (y15.length : Int)) ≤ (y15.length : Int) then (if (v11.length + ([sCut y15 0 (if 15 < (y15.length : Int) then 15 else (y15.length : Int))] : List Str).length) * 16 ≤ big then (reticentlaw11_few.l0 a0 (v11 ++ ([sCut y15 0 (if 15 < (y15.length : Int) then 15 else (y15.length : Int))] : List Str)) (IntKind.i64.wrap (v12 + 1))) else none) else none) else (some v11)
partial_fixpoint
def reticentlaw11_few.f (a0 : api_Lattice) : Option api_Lattice :=
 if (0 : Int) ≤ (if 10 < (a0.Up.length : Int) then 10 else (a0.Up.length : Int)) ∧ (if 10 < (a0.Up.length : Int) then 10 else (a0.Up.length : Int)) ≤ (a0.Up.length : Int) then (if (0 : Int) ≤ (if 10 < (a0.Names.length : Int) then 10 else (a0.Names.length : Int)) ∧ (if 10 < (a0.Names.length : Int) then 10 else (a0.Names.length : Int)) ≤ (a0.Names.length : Int) then ((reticentlaw11_few.l0 a0 ([] : List Str) 0 >>= fun x13 => some (⟨x13, lCut a0.Up 0 (if 10 < (a0.Up.length : Int) then 10 else (a0.Up.length : Int))⟩ : api_Lattice))) else none) else none
def reticentlaw11_rows.l0 (a0 : api_Table) (v14 : List api_Row) (v15 : Int) : Option (List api_Row) :=
 if v15 < ((lCut a0.Rows 0 (if 15 < (a0.Rows.length : Int) then 15 else (a0.Rows.length : Int))).length : Int) then (lAt (lCut a0.Rows 0 (if 15 < (a0.Rows.length : Int) then 15 else (a0.Rows.length : Int))) v15 >>= fun y18 => if (0 : Int) ≤ (if 45 < (y18.May.length : Int) then 45 else (y18.May.length : Int)) ∧ (if 45 < (y18.May.length : Int) then 45 else (y18.May.length : Int)) ≤ (y18.May.length : Int) then (if (0 : Int) ≤ (if 45 < (y18.Res.length : Int) then 45 else (y18.Res.length : Int)) ∧ (if 45 < (y18.Res.length : Int) then 45 else (y18.Res.length : Int)) ≤ (y18.Res.length : Int) then (if (0 : Int) ≤ (if 45 < (y18.Pc.length : Int) then 45 else (y18.Pc.length : Int)) ∧ (if 45 < (y18.Pc.length : Int) then 45 else (y18.Pc.length : Int)) ≤ (y18.Pc.length : Int) then (if (v14.length + ([(⟨lCut y18.May 0 (if 45 < (y18.May.length : Int) then 45 else (y18.May.length : Int)), lCut y18.Res 0 (if 45 < (y18.Res.length : Int) then 45 else (y18.Res.length : Int)), lCut y18.Pc 0 (if 45 < (y18.Pc.length : Int) then 45 else (y18.Pc.length : Int))⟩ : api_Row)] : List api_Row).length) * 72 ≤ big then (reticentlaw11_rows.l0 a0 (v14 ++ ([(⟨lCut y18.May 0 (if 45 < (y18.May.length : Int) then 45 else (y18.May.length : Int)), lCut y18.Res 0 (if 45 < (y18.Res.length : Int) then 45 else (y18.Res.length : Int)), lCut y18.Pc 0 (if 45 < (y18.Pc.length : Int) then 45 else (y18.Pc.length : Int))⟩ : api_Row)] : List api_Row)) (IntKind.i64.wrap (v15 + 1))) else none) else none) else none) else none) else (some v14)
partial_fixpoint
def reticentlaw11_rows.f (a0 : api_Table) : Option api_Table :=
 if (0 : Int) ≤ (if 15 < (a0.Rows.length : Int) then 15 else (a0.Rows.length : Int)) ∧ (if 15 < (a0.Rows.length : Int) then 15 else (a0.Rows.length : Int)) ≤ (a0.Rows.length : Int) then ((reticentlaw11_rows.l0 a0 ([] : List api_Row) 0 >>= fun x16 => some (⟨x16⟩ : api_Table))) else none
def reticentlaw11_cut.f (a0 : api_State) : Option api_State :=
 if (0 : Int) ≤ (if 15 < (a0.Code.length : Int) then 15 else (a0.Code.length : Int)) ∧ (if 15 < (a0.Code.length : Int) then 15 else (a0.Code.length : Int)) ≤ (a0.Code.length : Int) then (if (0 : Int) ≤ (if 15 < (a0.Mem.length : Int) then 15 else (a0.Mem.length : Int)) ∧ (if 15 < (a0.Mem.length : Int) then 15 else (a0.Mem.length : Int)) ≤ (a0.Mem.length : Int) then (if (0 : Int) ≤ (if 15 < (a0.Stack.length : Int) then 15 else (a0.Stack.length : Int)) ∧ (if 15 < (a0.Stack.length : Int) then 15 else (a0.Stack.length : Int)) ≤ (a0.Stack.length : Int) then (if (0 : Int) ≤ (if 15 < (a0.Out.length : Int) then 15 else (a0.Out.length : Int)) ∧ (if 15 < (a0.Out.length : Int) then 15 else (a0.Out.length : Int)) ≤ (a0.Out.length : Int) then (some (⟨a0.Pc, lCut a0.Code 0 (if 15 < (a0.Code.length : Int) then 15 else (a0.Code.length : Int)), lCut a0.Mem 0 (if 15 < (a0.Mem.length : Int) then 15 else (a0.Mem.length : Int)), lCut a0.Stack 0 (if 15 < (a0.Stack.length : Int) then 15 else (a0.Stack.length : Int)), lCut a0.Out 0 (if 15 < (a0.Out.length : Int) then 15 else (a0.Out.length : Int))⟩ : api_State)) else none) else none) else none) else none
def lattice_name.l0 (a0 : Str) (v19 : Int) : Option (Bool ⊕ Unit) :=
 if v19 < (a0.length : Int) then (((if (0 : Int) ≤ v19 ∧ v19 < (a0.length : Int) then (if sAt a0 v19 < 97 then (some true) else (if (0 : Int) ≤ v19 ∧ v19 < (a0.length : Int) then (some (decide (sAt a0 v19 > 122))) else none)) else none : Option Bool) >>= fun x24 => if x24 = true then (some (.inl false)) else (lattice_name.l0 a0 (IntKind.i64.wrap (v19 + 1))))) else (some (.inr ()))
partial_fixpoint
def lattice_name.f (a0 : Str) : Option Bool :=
 (lattice_name.l0 a0 0 >>= fun o => match o with | .inl r => some r | .inr () => ((if a0 = ([] : Str) then (some false) else (some (decide ((a0.length : Int) ≤ 12))) : Option Bool) >>= fun x30 => some x30))
def slices_Index_string_string.l0 (a0 : List Str) (a1 : Str) (v7 : Int) : Option (Int ⊕ Unit) :=
 if v7 < (a0.length : Int) then (lAt a0 v7 >>= fun y9 => if a1 = y9 then (some (.inl v7)) else (slices_Index_string_string.l0 a0 a1 (IntKind.i64.wrap (v7 + 1)))) else (some (.inr ()))
partial_fixpoint
def slices_Index_string_string.f (a0 : List Str) (a1 : Str) : Option Int :=
 (slices_Index_string_string.l0 a0 a1 0 >>= fun o => match o with | .inl r => some r | .inr () => some (-1))
def slices_Contains_string_string.f (a0 : List Str) (a1 : Str) : Option Bool :=
 slices_Index_string_string.f a0 a1 >>= fun y1 => some (decide (y1 ≥ 0))
def lattice_may.l0 (a0 : api_Lattice) (v43 : Int) : Option (Bool ⊕ Unit) :=
 if v43 < (a0.Names.length : Int) then (lAt a0.Names v43 >>= fun y45 => ((lattice_name.f y45 >>= fun y54 => if (!y54) = true then (some true) else (if (0 : Int) ≤ v43 ∧ v43 ≤ (a0.Names.length : Int) then (slices_Contains_string_string.f (lCut a0.Names 0 v43) y45 >>= fun y57 => if y57 = true then (some true) else (lAt a0.Up v43 >>= fun y59 => if ¬ (a0.Up.length : Int) < 0 then (some (!decide (bShr .u32 y59 (a0.Up.length : Int) = 0))) else none)) else none) : Option Bool) >>= fun x53 => if x53 = true then (some (.inl false)) else (lattice_may.l0 a0 (IntKind.i64.wrap (v43 + 1))))) else (some (.inr ()))
partial_fixpoint
def lattice_may.f (a0 : api_Lattice) : Option Bool :=
 ((if (a0.Up.length : Int) < 1 then (some true) else (if (a0.Up.length : Int) > 8 then (some true) else (some (!decide ((a0.Names.length : Int) = (a0.Up.length : Int))))) : Option Bool) >>= fun x3 => if x3 = true then (some false) else ((lattice_may.l0 a0 0 >>= fun o => match o with | .inl r => some r | .inr () => some true)))
def lattice_pairs_1.l3 {σ : Type} (a_y : σ → Int → Int → Option (Bool × σ)) (a1 : Int) (v28 : Int) (v37 : σ) (v38 : Int) : Option (σ ⊕ σ) :=
 if v38 < a1 then (a_y v37 v28 v38 >>= fun y41 => if (!y41.1) = true then (some (.inl y41.2)) else (lattice_pairs_1.l3 a_y a1 v28 y41.2 (IntKind.i64.wrap (v38 + 1)))) else (some (.inr v37))
partial_fixpoint
def lattice_pairs_1.l2 {σ : Type} (a_y : σ → Int → Int → Option (Bool × σ)) (a1 : Int) (v27 : σ) (v28 : Int) : Option (σ ⊕ σ) :=
 if v28 < a1 then ((lattice_pairs_1.l3 a_y a1 v28 v27 0 >>= fun o => match o with | .inl r => some (.inl r) | .inr x39 => lattice_pairs_1.l2 a_y a1 x39 (IntKind.i64.wrap (v28 + 1)))) else (some (.inr v27))
partial_fixpoint
def lattice_pairs_1.f {σ : Type} (a_y : σ → Int → Int → Option (Bool × σ)) (a_s : σ) (a1 : Int) : Option σ :=
 (lattice_pairs_1.l2 a_y a1 a_s 0 >>= fun o => match o with | .inl r => some r | .inr x29 => some x29)
def lattice_pairs.f (a0 : Int) : Option Int :=
 some a0
def lattice_flows.f (a0 : api_Lattice) (a1 : Int) (a2 : Int) : Option Bool :=
 lAt a0.Up a1 >>= fun y1 => if ¬ a2 < 0 then (some (decide (bAnd .u32 (bShr .u32 y1 a2) 1 = 1))) else none
def lattice_order.y0 (a0 : api_Lattice) (v26 : Unit) (v27 : Int) (v28 : Int) : Option (Bool × ((Unit) × Nat)) :=
 ((if v27 = v28 then (lattice_flows.f a0 v27 v28 >>= fun y37 => if (!y37) = true then (some true) else (some false)) else (lattice_flows.f a0 v27 v28 >>= fun y39 => if y39 = true then (lattice_flows.f a0 v28 v27 >>= fun y41 => some y41) else (some false)) : Option Bool) >>= fun x35 => if x35 = true then (some (false, ((), 1))) else (((lattice_flows.f a0 v27 v28 >>= fun y48 => if y48 = true then (lAt a0.Up v28 >>= fun y50 => lAt a0.Up v27 >>= fun y51 => some (!decide (bAndNot .u32 y50 y51 = 0))) else (some false) : Option Bool) >>= fun x47 => if x47 = true then (some (false, ((), 1))) else (some (true, ((), 0))))))
def lattice_order.f (a0 : api_Lattice) : Option Bool :=
 lattice_pairs.f (a0.Up.length : Int) >>= fun y1 => (lattice_pairs_1.f (yOf (lattice_order.y0 a0)) ((), 0) y1 >>= fun y53 => if y53.2 = 0 then (some true) else if y53.2 = 1 then (some false) else none)
def slices_IndexFunc_uint32_uint32.l0 (a0 : List Int) (a1 : Int → Option Bool) (v9 : Int) : Option (Int ⊕ Unit) :=
 if v9 < (a0.length : Int) then (lAt a0 v9 >>= fun y11 => a1 y11 >>= fun y12 => if y12 = true then (some (.inl v9)) else (slices_IndexFunc_uint32_uint32.l0 a0 a1 (IntKind.i64.wrap (v9 + 1)))) else (some (.inr ()))
partial_fixpoint
def slices_IndexFunc_uint32_uint32.f (a0 : List Int) (a1 : Int → Option Bool) : Option Int :=
 (slices_IndexFunc_uint32_uint32.l0 a0 a1 0 >>= fun o => match o with | .inl r => some r | .inr () => some (-1))
def lattice_join_1.f (a0 : Int) (a1 : Int) : Option Bool :=
 some (decide (a0 = a1))
def lattice_join.f (a0 : api_Lattice) (a1 : Int) (a2 : Int) : Option Int :=
 lAt a0.Up a1 >>= fun y1 => lAt a0.Up a2 >>= fun y2 => slices_IndexFunc_uint32_uint32.f a0.Up (fun z0 => lattice_join_1.f z0 (bAnd .u32 y1 y2)) >>= fun y3 => some y3
def lattice_down.l0 (a0 : api_Lattice) (a1 : Int) (v8 : Int) (v9 : Int) : Option Int :=
 if v8 < (a0.Up.length : Int) then (lAt a0.Up v8 >>= fun y12 => if ¬ a1 < 0 then (if ¬ v8 < 0 then (lattice_down.l0 a0 a1 (IntKind.i64.wrap (v8 + 1)) (bOr .u32 v9 (bShl .u32 (bAnd .u32 (bShr .u32 y12 a1) 1) v8))) else none) else none) else (some v9)
partial_fixpoint
def lattice_down.f (a0 : api_Lattice) (a1 : Int) : Option Int :=
 (lattice_down.l0 a0 a1 0 0 >>= fun x10 => some x10)
def lattice_meet.l0 (a0 : api_Lattice) (y1 : Int) (y2 : Int) (v9 : Int) : Option (Int ⊕ Unit) :=
 if v9 < (a0.Up.length : Int) then (lattice_down.f a0 v9 >>= fun y11 => if y11 = bAnd .u32 y1 y2 then (some (.inl v9)) else (lattice_meet.l0 a0 y1 y2 (IntKind.i64.wrap (v9 + 1)))) else (some (.inr ()))
partial_fixpoint
def lattice_meet.f (a0 : api_Lattice) (a1 : Int) (a2 : Int) : Option Int :=
 lattice_down.f a0 a1 >>= fun y1 => lattice_down.f a0 a2 >>= fun y2 => (lattice_meet.l0 a0 y1 y2 0 >>= fun o => match o with | .inl r => some r | .inr () => some (-1))
def lattice_Check.y0 (a0 : api_Lattice) (v22 : Int) (v23 : Int) (v24 : Int) : Option (Bool × ((Int) × Nat)) :=
 ((lattice_join.f a0 v23 v24 >>= fun y29 => if y29 < 0 then (some true) else (lattice_meet.f a0 v23 v24 >>= fun y31 => some (decide (y31 < 0))) : Option Bool) >>= fun x28 => if x28 = true then (some (false, (3, 1))) else (some (true, (v22, 0))))
def lattice_Check.f (a0 : api_Lattice) : Option Int :=
 lattice_may.f a0 >>= fun y1 => if (!y1) = true then (some 1) else (lattice_order.f a0 >>= fun y3 => if (!y3) = true then (some 2) else (lattice_pairs.f (a0.Up.length : Int) >>= fun y5 => (lattice_pairs_1.f (yOf (lattice_Check.y0 a0)) (0, 0) y5 >>= fun y33 => if y33.2 = 0 then (some 0) else if y33.2 = 1 then (some y33.1) else none)))
def rule_made_1.f (a0 : Bool) (a1 : List Bool) : Option ((List Bool) × Bool) :=
 ((if IntKind.i64.wrap ((a1.length : Int) - 1) < 1 then (some true) else (lAt a1 (IntKind.i64.wrap ((a1.length : Int) - 1)) >>= fun y7 => if y7 = a0 then (lAt a1 (IntKind.i64.wrap ((IntKind.i64.wrap ((a1.length : Int) - 1)) - 1)) >>= fun y9 => some (!decide (y9 = a0))) else (some true)) : Option Bool) >>= fun x5 => if x5 = true then (some (a1, false)) else (if (0 : Int) ≤ IntKind.i64.wrap ((IntKind.i64.wrap ((a1.length : Int) - 1)) - 1) ∧ IntKind.i64.wrap ((IntKind.i64.wrap ((a1.length : Int) - 1)) - 1) ≤ (a1.length : Int) then (some (a1.take (IntKind.i64.wrap ((IntKind.i64.wrap ((a1.length : Int) - 1)) - 1)).toNat, true)) else none))
def rule_made.l0 (a0 : List Int) (v269 : List Bool) (v270 : Int) : Option ((Bool × Bool) ⊕ (List Bool)) :=
 if v270 < (a0.length : Int) then (((lAt a0 v270 >>= fun y340 => ((if y340 = 1 then (if (v269.length + ([false] : List Bool).length) * 1 ≤ big then (some (v269 ++ ([false] : List Bool), true)) else none) else (if y340 = 2 then (if (v269.length + ([false] : List Bool).length) * 1 ≤ big then (some (v269 ++ ([false] : List Bool), true)) else none) else (if y340 = 6 then (if (v269.length + ([true] : List Bool).length) * 1 ≤ big then (some (v269 ++ ([true] : List Bool), true)) else none) else (if y340 = 7 then (if (v269.length + ([true] : List Bool).length) * 1 ≤ big then (some (v269 ++ ([true] : List Bool), true)) else none) else (if y340 = 8 then (if (v269.length + ([true] : List Bool).length) * 1 ≤ big then (some (v269 ++ ([true] : List Bool), true)) else none) else (if y340 = 9 then (if (v269.length + ([true] : List Bool).length) * 1 ≤ big then (some (v269 ++ ([true] : List Bool), true)) else none) else (if y340 = 10 then (if (v269.length + ([true] : List Bool).length) * 1 ≤ big then (some (v269 ++ ([true] : List Bool), true)) else none) else (if y340 = 11 then (if (v269.length + ([true] : List Bool).length) * 1 ≤ big then (some (v269 ++ ([true] : List Bool), true)) else none) else (if y340 = 3 then (rule_made_1.f false v269 >>= fun y391 => if (y391.1.length + ([false] : List Bool).length) * 1 ≤ big then (some (y391.1 ++ ([false] : List Bool), y391.2)) else none) else (if y340 = 4 then (rule_made_1.f false v269 >>= fun y394 => if (y394.1.length + ([false] : List Bool).length) * 1 ≤ big then (some (y394.1 ++ ([false] : List Bool), y394.2)) else none) else (if y340 = 5 then (rule_made_1.f true v269 >>= fun y397 => if (y397.1.length + ([false] : List Bool).length) * 1 ≤ big then (some (y397.1 ++ ([false] : List Bool), y397.2)) else none) else (if y340 = 12 then (rule_made_1.f true v269 >>= fun y400 => if (y400.1.length + ([true] : List Bool).length) * 1 ≤ big then (some (y400.1 ++ ([true] : List Bool), y400.2)) else none) else (if y340 = 13 then (rule_made_1.f true v269 >>= fun y403 => if (y403.1.length + ([true] : List Bool).length) * 1 ≤ big then (some (y403.1 ++ ([true] : List Bool), y403.2)) else none) else (some (v269, false)))))))))))))) : Option ((List Bool) × Bool)) >>= fun o => match o with | (x372, x373) => if (!x373) = true then (some (.inl (false, false))) else (some (.inr x372))) : Option ((Bool × Bool) ⊕ (List Bool))) >>= fun o => match o with | .inl r => some (.inl r) | .inr x339 => rule_made.l0 a0 x339 (IntKind.i64.wrap (v270 + 1)))) else (some (.inr v269))
partial_fixpoint
def rule_made.f (a0 : List Int) : Option (Bool × Bool) :=
 (rule_made.l0 a0 ([] : List Bool) 0 >>= fun o => match o with | .inl r => some r | .inr x271 => ((if (x271.length : Int) = 1 then (some (decide ((a0.length : Int) > 40))) else (some true) : Option Bool) >>= fun x407 => if x407 = true then (some (false, false)) else (lAt x271 0 >>= fun y410 => some (y410, true))))
def rule_Right.f (a0 : List Int) (a1 : Bool) : Option Bool :=
 rule_made.f a0 >>= fun y1 => ((if y1.2 = true then (some (decide (y1.1 = a1))) else (some false) : Option Bool) >>= fun x3 => some x3)
def table_right.f (a0 : api_Row) : Option Bool :=
 ((rule_Right.f a0.May false >>= fun y7 => if y7 = true then (rule_Right.f a0.Res true >>= fun y9 => if y9 = true then (rule_Right.f a0.Pc true >>= fun y11 => some y11) else (some false)) else (some false) : Option Bool) >>= fun x6 => some x6)
def rule_Uses.l0 (a0 : List Int) (v31 : Int) (v32 : Int) : Option Int :=
 if v31 < (a0.length : Int) then (((lAt a0 v31 >>= fun y42 => ((if y42 ≥ 8 then (some (decide (y42 ≤ 11))) else (some false) : Option Bool) >>= fun x44 => if x44 = true then (if ¬ IntKind.i64.wrap (y42 - 8) < 0 then (some (bOr .u32 v32 (bShl .u32 1 (IntKind.i64.wrap (y42 - 8))))) else none) else (some v32)) : Option Int) >>= fun x41 => rule_Uses.l0 a0 (IntKind.i64.wrap (v31 + 1)) x41)) else (some v32)
partial_fixpoint
def rule_Uses.f (a0 : List Int) : Option (Int × Int) :=
 rule_made.f a0 >>= fun y1 => if (!y1.2) = true then (some (0, 1)) else ((rule_Uses.l0 a0 0 0 >>= fun x33 => some (x33, 0)))
def table_has.f (a0 : Int) (a1 : List Int) : Option Bool :=
 rule_Uses.f a1 >>= fun y1 => ((if y1.2 = 0 then (lAt gl0 a0 >>= fun y7 => if ¬ IntKind.i64.wrap (y7 + 1) < 0 then (some (decide (bShr .u32 y1.1 (IntKind.i64.wrap (y7 + 1)) = 0))) else none) else (some false) : Option Bool) >>= fun x5 => some x5)
def table_suits.f (a0 : Int) (a1 : api_Row) : Option Bool :=
 ((table_has.f a0 a1.May >>= fun y7 => if y7 = true then (table_has.f a0 a1.Res >>= fun y9 => if y9 = true then (table_has.f a0 a1.Pc >>= fun y11 => some y11) else (some false)) else (some false) : Option Bool) >>= fun x6 => some x6)
def table_Check.l0 (a0 : api_Table) (v14 : Int) : Option ((Int × Int) ⊕ Unit) :=
 if v14 < (a0.Rows.length : Int) then (lAt a0.Rows v14 >>= fun y16 => table_right.f y16 >>= fun y17 => if (!y17) = true then (some (.inl (v14, 1))) else (table_suits.f v14 y16 >>= fun y19 => if (!y19) = true then (some (.inl (v14, 7))) else (table_Check.l0 a0 (IntKind.i64.wrap (v14 + 1))))) else (some (.inr ()))
partial_fixpoint
def table_Check.f (a0 : api_Table) : Option (Int × Int) :=
 if (a0.Rows.length : Int) = 13 then ((table_Check.l0 a0 0 >>= fun o => match o with | .inl r => some r | .inr () => some (0, 0))) else (some (0, 1))
def state_value.f (a0 : Int) : Option Bool :=
 ((if a0 ≥ (-20) then (some (decide (a0 ≤ 20))) else (some false) : Option Bool) >>= fun x2 => some x2)
def state_place.f (a0 : Int) : Option Bool :=
 ((if a0 ≥ 0 then (some (decide (a0 ≤ 12))) else (some false) : Option Bool) >>= fun x2 => some x2)
def code_spans_1_1.f (a0 : Int) (a1 : Int) (a2 : Int) : Option Bool :=
 ((if a0 ≥ a1 then (some (decide (a0 ≤ a2))) else (some false) : Option Bool) >>= fun x2 => some x2)
def code_spans_1.f (a0 : Int) (a1 : Int) : Option (Int → Option Bool) :=
 some (fun z0 => code_spans_1_1.f z0 a0 a1)
def code_spans.f : Option (List (Int × (Option (Int → Option Bool)))) :=
 code_spans_1.f (-20) 20 >>= fun y1 => code_spans_1.f 0 12 >>= fun y2 => code_spans_1.f 0 3 >>= fun y3 => code_spans_1.f 0 1 >>= fun y4 => some ([(1, (some y1)), (8, (some y2)), (9, (some y3)), (10, (some y4))] : List (Int × (Option (Int → Option Bool))))
def code_right.f (a0 : Int) (a1 : api_Instr) : Option Bool :=
 ((if a1.Op < 0 then (some true) else (some (decide (a1.Op ≥ 13))) : Option Bool) >>= fun x2 => if x2 = true then (some false) else (code_spans.f >>= fun y5 => ((if ((mGet y5 none a1.Op).2) = true then ((mGet y5 none a1.Op).1 >>= fun y14 => y14 a1.N >>= fun y15 => if (!y15) = true then (some true) else (if (!((mGet y5 none a1.Op).2)) = true then (some (!decide (a1.N = 0))) else (some false))) else (if (!((mGet y5 none a1.Op).2)) = true then (some (!decide (a1.N = 0))) else (some false)) : Option Bool) >>= fun x12 => if x12 = true then (some false) else (if a1.Op = 1 then (((if a1.L ≥ 0 then (some (decide (a1.L < a0))) else (some false) : Option Bool) >>= fun x22 => some x22)) else (some (decide (a1.L = 0)))))))
def slices_IndexFunc_api_Instr_api_Instr.l0 (a0 : List api_Instr) (a1 : api_Instr → Option Bool) (v9 : Int) : Option (Int ⊕ Unit) :=
 if v9 < (a0.length : Int) then (lAt a0 v9 >>= fun y11 => a1 y11 >>= fun y12 => if y12 = true then (some (.inl v9)) else (slices_IndexFunc_api_Instr_api_Instr.l0 a0 a1 (IntKind.i64.wrap (v9 + 1)))) else (some (.inr ()))
partial_fixpoint
def slices_IndexFunc_api_Instr_api_Instr.f (a0 : List api_Instr) (a1 : api_Instr → Option Bool) : Option Int :=
 (slices_IndexFunc_api_Instr_api_Instr.l0 a0 a1 0 >>= fun o => match o with | .inl r => some r | .inr () => some (-1))
def slices_ContainsFunc_api_Instr_api_Instr.f (a0 : List api_Instr) (a1 : api_Instr → Option Bool) : Option Bool :=
 slices_IndexFunc_api_Instr_api_Instr.f a0 a1 >>= fun y1 => some (decide (y1 ≥ 0))
def code_Right_1.f (a0 : api_Instr) (a1 : api_Lattice) : Option Bool :=
 code_right.f (a1.Up.length : Int) a0 >>= fun y1 => some (!y1)
def code_Right.f (a0 : api_Lattice) (a1 : List api_Instr) : Option Bool :=
 ((lattice_Check.f a0 >>= fun y6 => if y6 = 0 then (if (a1.length : Int) ≤ 12 then (slices_ContainsFunc_api_Instr_api_Instr.f a1 (fun z0 => code_Right_1.f z0 a0) >>= fun y9 => some (!y9)) else (some false)) else (some false) : Option Bool) >>= fun x5 => some x5)
def slices_IndexFunc_api_Atom_api_Atom.l0 (a0 : List api_Atom) (a1 : api_Atom → Option Bool) (v9 : Int) : Option (Int ⊕ Unit) :=
 if v9 < (a0.length : Int) then (lAt a0 v9 >>= fun y11 => a1 y11 >>= fun y12 => if y12 = true then (some (.inl v9)) else (slices_IndexFunc_api_Atom_api_Atom.l0 a0 a1 (IntKind.i64.wrap (v9 + 1)))) else (some (.inr ()))
partial_fixpoint
def slices_IndexFunc_api_Atom_api_Atom.f (a0 : List api_Atom) (a1 : api_Atom → Option Bool) : Option Int :=
 (slices_IndexFunc_api_Atom_api_Atom.l0 a0 a1 0 >>= fun o => match o with | .inl r => some r | .inr () => some (-1))
def slices_ContainsFunc_api_Atom_api_Atom.f (a0 : List api_Atom) (a1 : api_Atom → Option Bool) : Option Bool :=
 slices_IndexFunc_api_Atom_api_Atom.f a0 a1 >>= fun y1 => some (decide (y1 ≥ 0))
def slices_IndexFunc_api_Slot_api_Slot.l0 (a0 : List api_Slot) (a1 : api_Slot → Option Bool) (v9 : Int) : Option (Int ⊕ Unit) :=
 if v9 < (a0.length : Int) then (lAt a0 v9 >>= fun y11 => a1 y11 >>= fun y12 => if y12 = true then (some (.inl v9)) else (slices_IndexFunc_api_Slot_api_Slot.l0 a0 a1 (IntKind.i64.wrap (v9 + 1)))) else (some (.inr ()))
partial_fixpoint
def slices_IndexFunc_api_Slot_api_Slot.f (a0 : List api_Slot) (a1 : api_Slot → Option Bool) : Option Int :=
 (slices_IndexFunc_api_Slot_api_Slot.l0 a0 a1 0 >>= fun o => match o with | .inl r => some r | .inr () => some (-1))
def slices_ContainsFunc_api_Slot_api_Slot.f (a0 : List api_Slot) (a1 : api_Slot → Option Bool) : Option Bool :=
 slices_IndexFunc_api_Slot_api_Slot.f a0 a1 >>= fun y1 => some (decide (y1 ≥ 0))
def state_Right_1.f (a0 : Int) (a1 : api_Lattice) : Option Bool :=
 ((if a0 ≥ 0 then (some (decide (a0 < (a1.Up.length : Int)))) else (some false) : Option Bool) >>= fun x2 => some x2)
def state_Right_2.f (a0 : api_Atom) (a1 : Option (Int → Option Bool)) : Option Bool :=
 ((state_value.f a0.V >>= fun y6 => if (!y6) = true then (some true) else (a1 >>= fun y8 => y8 a0.L >>= fun y9 => some (!y9)) : Option Bool) >>= fun x5 => some x5)
def state_Right_3.f (a0 : api_Slot) (a1 : Option (Int → Option Bool)) : Option Bool :=
 ((a1 >>= fun y12 => y12 a0.L >>= fun y13 => if (!y13) = true then (some true) else (if (!a0.Ret) = true then (state_value.f a0.V >>= fun y16 => if (!y16) = true then (some true) else (if a0.Ret = true then (state_place.f a0.V >>= fun y19 => some (!y19)) else (some false))) else (if a0.Ret = true then (state_place.f a0.V >>= fun y21 => some (!y21)) else (some false))) : Option Bool) >>= fun x11 => some x11)
def state_Right.f (a0 : api_Lattice) (a1 : api_State) : Option Bool :=
 ((if (a1.Mem.length : Int) ≤ 6 then (if (a1.Stack.length : Int) ≤ 12 then (some (decide ((a1.Out.length : Int) ≤ 8))) else (some false)) else (some false) : Option Bool) >>= fun x3 => ((code_Right.f a0 a1.Code >>= fun y20 => if y20 = true then (state_place.f a1.Pc.V >>= fun y22 => if y22 = true then ((some (fun z0 => state_Right_1.f z0 a0)) >>= fun y24 => y24 a1.Pc.L >>= fun y25 => if y25 = true then (if x3 = true then (slices_ContainsFunc_api_Atom_api_Atom.f a1.Mem (fun z0 => state_Right_2.f z0 (some (fun z0 => state_Right_1.f z0 a0))) >>= fun y28 => if (!y28) = true then (slices_ContainsFunc_api_Slot_api_Slot.f a1.Stack (fun z0 => state_Right_3.f z0 (some (fun z0 => state_Right_1.f z0 a0))) >>= fun y30 => if (!y30) = true then (slices_ContainsFunc_api_Atom_api_Atom.f a1.Out (fun z0 => state_Right_2.f z0 (some (fun z0 => state_Right_1.f z0 a0))) >>= fun y32 => some (!y32)) else (some false)) else (some false)) else (some false)) else (some false)) else (some false)) else (some false) : Option Bool) >>= fun x19 => some x19))
def step_need.f (a0 : Bool) : Option (Pn ⊕ Unit) :=
 if (!a0) = true then (some (.inl 3)) else (some (.inr ()))
def slices_IndexFunc_int_int.l0 (a0 : List Int) (a1 : Int → Option Bool) (v9 : Int) : Option (Int ⊕ Unit) :=
 if v9 < (a0.length : Int) then (lAt a0 v9 >>= fun y11 => a1 y11 >>= fun y12 => if y12 = true then (some (.inl v9)) else (slices_IndexFunc_int_int.l0 a0 a1 (IntKind.i64.wrap (v9 + 1)))) else (some (.inr ()))
partial_fixpoint
def slices_IndexFunc_int_int.f (a0 : List Int) (a1 : Int → Option Bool) : Option Int :=
 (slices_IndexFunc_int_int.l0 a0 a1 0 >>= fun o => match o with | .inl r => some r | .inr () => some (-1))
def slices_ContainsFunc_int_int.f (a0 : List Int) (a1 : Int → Option Bool) : Option Bool :=
 slices_IndexFunc_int_int.f a0 a1 >>= fun y1 => some (decide (y1 ≥ 0))
def lattice_there_1.f (a0 : Int) (a1 : api_Lattice) : Option Bool :=
 ((if a0 < 0 then (some true) else (some (decide (a0 ≥ (a1.Up.length : Int)))) : Option Bool) >>= fun x2 => some x2)
def lattice_there.f (a0 : api_Lattice) (a1 : List Int) : Option Int :=
 lattice_Check.f a0 >>= fun y1 => if y1 = 0 then (slices_ContainsFunc_int_int.f a1 (fun z0 => lattice_there_1.f z0 a0) >>= fun y3 => if y3 = true then (some 9) else (some 0)) else (some y1)
def slices_Index_uint32_uint32.l0 (a0 : List Int) (a1 : Int) (v7 : Int) : Option (Int ⊕ Unit) :=
 if v7 < (a0.length : Int) then (lAt a0 v7 >>= fun y9 => if a1 = y9 then (some (.inl v7)) else (slices_Index_uint32_uint32.l0 a0 a1 (IntKind.i64.wrap (v7 + 1)))) else (some (.inr ()))
partial_fixpoint
def slices_Index_uint32_uint32.f (a0 : List Int) (a1 : Int) : Option Int :=
 (slices_Index_uint32_uint32.l0 a0 a1 0 >>= fun o => match o with | .inl r => some r | .inr () => some (-1))
def lattice_Bottom.f (a0 : api_Lattice) : Option (Int × Int) :=
 lattice_there.f a0 [] >>= fun y1 => if y1 = 0 then (if ¬ (a0.Up.length : Int) < 0 then (slices_Index_uint32_uint32.f a0.Up (IntKind.u32.wrap ((bShl .u32 1 (a0.Up.length : Int)) - 1)) >>= fun y4 => some (y4, 0)) else none) else (some (0, y1))
def step_machine_nothing.f (a0 : step_machine) : Option step_machine :=
 some a0
def step_machine_pushes.f (a0 : step_machine) : Option step_machine :=
 some (⟨a0.l_, a0.s_, a0.x_, a0.a_, a0.b_, a0.r_, a0.below_, ⟨a0.x_.L, a0.one_.x1_, a0.one_.x2_⟩⟩ : step_machine)
def step_machine_atom.f (a0 : step_machine) (a1 : Int) : Option (Pn ⊕ (step_machine × api_Slot)) :=
 ((if IntKind.i64.wrap ((IntKind.i64.wrap ((a0.s_.Stack.length : Int) - 1)) - a1) ≥ 0 then (lAt a0.s_.Stack (IntKind.i64.wrap ((IntKind.i64.wrap ((a0.s_.Stack.length : Int) - 1)) - a1)) >>= fun y10 => step_need.f (!y10.Ret) >>= fun z11 => match z11 with | .inl p12 => some (.inl (.inl p12)) | .inr y13 => some (.inr ())) else (step_need.f false >>= fun z14 => match z14 with | .inl p15 => some (.inl (.inl p15)) | .inr y16 => some (.inr ())) : Option ((Pn ⊕ (step_machine × api_Slot)) ⊕ Unit)) >>= fun o => match o with | .inl r => some r | .inr () => lAt a0.s_.Stack (IntKind.i64.wrap ((IntKind.i64.wrap ((a0.s_.Stack.length : Int) - 1)) - a1)) >>= fun y17 => some (.inr (a0, y17)))
def step_machine_first.f (a0 : step_machine) : Option (Pn ⊕ step_machine) :=
 step_machine_atom.f a0 0 >>= fun z1 => match z1 with | .inl p2 => some (.inl p2) | .inr y3 => some (.inr (⟨y3.1.l_, y3.1.s_, y3.1.x_, y3.2, y3.1.b_, y3.1.r_, IntKind.i64.wrap ((y3.1.s_.Stack.length : Int) - 1), ⟨y3.2.L, y3.1.one_.x1_, y3.1.one_.x2_⟩⟩ : step_machine))
def step_machine_both.f (a0 : step_machine) : Option (Pn ⊕ step_machine) :=
 step_machine_first.f a0 >>= fun z1 => match z1 with | .inl p2 => some (.inl p2) | .inr y3 => step_machine_atom.f y3 1 >>= fun z4 => match z4 with | .inl p5 => some (.inl p5) | .inr y6 => some (.inr (⟨y6.1.l_, y6.1.s_, y6.1.x_, y6.1.a_, y6.2, y6.1.r_, IntKind.i64.wrap (y6.1.below_ - 1), ⟨y6.1.one_.x0_, y6.2.L, y6.1.one_.x2_⟩⟩ : step_machine))
def step_machine_cell.f (a0 : step_machine) : Option (Pn ⊕ (step_machine × Int)) :=
 ((if a0.a_.V ≥ 0 then (step_need.f (decide (a0.a_.V < (a0.s_.Mem.length : Int))) >>= fun z9 => match z9 with | .inl p10 => some (.inl (.inl p10)) | .inr y11 => some (.inr ())) else (step_need.f false >>= fun z12 => match z12 with | .inl p13 => some (.inl (.inl p13)) | .inr y14 => some (.inr ())) : Option ((Pn ⊕ (step_machine × Int)) ⊕ Unit)) >>= fun o => match o with | .inl r => some r | .inr () => some (.inr (a0, a0.a_.V)))
def step_machine_loads.f (a0 : step_machine) : Option (Pn ⊕ step_machine) :=
 step_machine_first.f a0 >>= fun z1 => match z1 with | .inl p2 => some (.inl p2) | .inr y3 => step_machine_cell.f y3 >>= fun z4 => match z4 with | .inl p5 => some (.inl p5) | .inr y6 => lAt y6.1.s_.Mem y6.2 >>= fun y7 => some (.inr (⟨y6.1.l_, y6.1.s_, y6.1.x_, y6.1.a_, y6.1.b_, y6.1.r_, y6.1.below_, ⟨y6.1.one_.x0_, y7.L, y6.1.one_.x2_⟩⟩ : step_machine))
def step_machine_stores.f (a0 : step_machine) : Option (Pn ⊕ step_machine) :=
 step_machine_both.f a0 >>= fun z1 => match z1 with | .inl p2 => some (.inl p2) | .inr y3 => step_machine_cell.f y3 >>= fun z4 => match z4 with | .inl p5 => some (.inl p5) | .inr y6 => lAt y6.1.s_.Mem y6.2 >>= fun y7 => some (.inr (⟨y6.1.l_, y6.1.s_, y6.1.x_, y6.1.a_, y6.1.b_, y6.1.r_, y6.1.below_, ⟨y6.1.one_.x0_, y6.1.one_.x1_, y7.L⟩⟩ : step_machine))
def step_machine_goes.f (a0 : step_machine) : Option (Pn ⊕ step_machine) :=
 step_machine_first.f a0 >>= fun z1 => match z1 with | .inl p2 => some (.inl p2) | .inr y3 => ((if y3.a_.V ≥ 0 then (step_need.f (decide (y3.a_.V ≤ 12)) >>= fun z12 => match z12 with | .inl p13 => some (.inl (.inl p13)) | .inr y14 => some (.inr ())) else (step_need.f false >>= fun z15 => match z15 with | .inl p16 => some (.inl (.inl p16)) | .inr y17 => some (.inr ())) : Option ((Pn ⊕ step_machine) ⊕ Unit)) >>= fun o => match o with | .inl r => some r | .inr () => some (.inr y3))
def step_machine_calls.l0 (y3 : step_machine) (v12 : step_machine) (v13 : Int) : Option ((Pn ⊕ step_machine) ⊕ step_machine) :=
 if v13 < y3.x_.N then (step_machine_atom.f v12 (IntKind.i64.wrap (1 + v13)) >>= fun z16 => match z16 with | .inl p17 => some (.inl (.inl p17)) | .inr y18 => step_machine_calls.l0 y3 y18.1 (IntKind.i64.wrap (v13 + 1))) else (some (.inr v12))
partial_fixpoint
def step_machine_calls.f (a0 : step_machine) : Option (Pn ⊕ step_machine) :=
 step_machine_goes.f a0 >>= fun z1 => match z1 with | .inl p2 => some (.inl p2) | .inr y3 => (step_machine_calls.l0 y3 y3 0 >>= fun o => match o with | .inl r => some r | .inr x14 => some (.inr x14))
def step_machine_returns.l0 (y4 : step_machine) (v17 : Int) : Option Int :=
 ((if v17 > 0 then (lAt y4.s_.Stack (IntKind.i64.wrap (v17 - 1)) >>= fun y23 => some (!y23.Ret)) else (some false) : Option Bool) >>= fun x21 => if x21 = true then (step_machine_returns.l0 y4 (IntKind.i64.wrap (v17 - 1))) else (some v17))
partial_fixpoint
def step_machine_returns.l1 (a0 : step_machine) (v41 : Int) : Option Int :=
 ((if v41 > 0 then (lAt a0.s_.Stack (IntKind.i64.wrap (v41 - 1)) >>= fun y47 => some (!y47.Ret)) else (some false) : Option Bool) >>= fun x45 => if x45 = true then (step_machine_returns.l1 a0 (IntKind.i64.wrap (v41 - 1))) else (some v41))
partial_fixpoint
def step_machine_returns.f (a0 : step_machine) : Option (Pn ⊕ step_machine) :=
 if a0.x_.N = 1 then (step_machine_first.f (⟨a0.l_, a0.s_, a0.x_, a0.a_, a0.b_, a0.r_, (a0.s_.Stack.length : Int), a0.one_⟩ : step_machine) >>= fun z2 => match z2 with | .inl p3 => some (.inl p3) | .inr y4 => (step_machine_returns.l0 y4 y4.below_ >>= fun x18 => step_need.f (decide (x18 > 0)) >>= fun z25 => match z25 with | .inl p26 => some (.inl p26) | .inr y27 => lAt y4.s_.Stack (IntKind.i64.wrap (x18 - 1)) >>= fun y28 => some (.inr (⟨y4.l_, y4.s_, y4.x_, y4.a_, y4.b_, y28, IntKind.i64.wrap (x18 - 1), ⟨y4.one_.x0_, y28.L, y4.one_.x2_⟩⟩ : step_machine)))) else ((step_machine_returns.l1 a0 (a0.s_.Stack.length : Int) >>= fun x42 => step_need.f (decide (x42 > 0)) >>= fun z49 => match z49 with | .inl p50 => some (.inl p50) | .inr y51 => lAt a0.s_.Stack (IntKind.i64.wrap (x42 - 1)) >>= fun y52 => some (.inr (⟨a0.l_, a0.s_, a0.x_, a0.a_, a0.b_, y52, IntKind.i64.wrap (x42 - 1), ⟨a0.one_.x0_, y52.L, a0.one_.x2_⟩⟩ : step_machine))))
def step_machine_needs.f (a0 : step_machine) : Option (Pn ⊕ step_machine) :=
 if a0.x_.Op = 0 then (step_machine_nothing.f (⟨a0.l_, a0.s_, a0.x_, a0.a_, a0.b_, a0.r_, (a0.s_.Stack.length : Int), a0.one_⟩ : step_machine) >>= fun y2 => some (.inr y2)) else (if a0.x_.Op = 12 then (step_machine_nothing.f (⟨a0.l_, a0.s_, a0.x_, a0.a_, a0.b_, a0.r_, (a0.s_.Stack.length : Int), a0.one_⟩ : step_machine) >>= fun y4 => some (.inr y4)) else (if a0.x_.Op = 1 then (step_machine_pushes.f (⟨a0.l_, a0.s_, a0.x_, a0.a_, a0.b_, a0.r_, (a0.s_.Stack.length : Int), a0.one_⟩ : step_machine) >>= fun y6 => some (.inr y6)) else (if a0.x_.Op = 2 then (step_machine_first.f (⟨a0.l_, a0.s_, a0.x_, a0.a_, a0.b_, a0.r_, (a0.s_.Stack.length : Int), a0.one_⟩ : step_machine) >>= fun z8 => match z8 with | .inl p9 => some (.inl p9) | .inr y10 => some (.inr y10)) else (if a0.x_.Op = 11 then (step_machine_first.f (⟨a0.l_, a0.s_, a0.x_, a0.a_, a0.b_, a0.r_, (a0.s_.Stack.length : Int), a0.one_⟩ : step_machine) >>= fun z12 => match z12 with | .inl p13 => some (.inl p13) | .inr y14 => some (.inr y14)) else (if a0.x_.Op = 3 then (step_machine_both.f (⟨a0.l_, a0.s_, a0.x_, a0.a_, a0.b_, a0.r_, (a0.s_.Stack.length : Int), a0.one_⟩ : step_machine) >>= fun z16 => match z16 with | .inl p17 => some (.inl p17) | .inr y18 => some (.inr y18)) else (if a0.x_.Op = 4 then (step_machine_both.f (⟨a0.l_, a0.s_, a0.x_, a0.a_, a0.b_, a0.r_, (a0.s_.Stack.length : Int), a0.one_⟩ : step_machine) >>= fun z20 => match z20 with | .inl p21 => some (.inl p21) | .inr y22 => some (.inr y22)) else (if a0.x_.Op = 5 then (step_machine_loads.f (⟨a0.l_, a0.s_, a0.x_, a0.a_, a0.b_, a0.r_, (a0.s_.Stack.length : Int), a0.one_⟩ : step_machine) >>= fun z24 => match z24 with | .inl p25 => some (.inl p25) | .inr y26 => some (.inr y26)) else (if a0.x_.Op = 6 then (step_machine_stores.f (⟨a0.l_, a0.s_, a0.x_, a0.a_, a0.b_, a0.r_, (a0.s_.Stack.length : Int), a0.one_⟩ : step_machine) >>= fun z28 => match z28 with | .inl p29 => some (.inl p29) | .inr y30 => some (.inr y30)) else (if a0.x_.Op = 7 then (step_machine_goes.f (⟨a0.l_, a0.s_, a0.x_, a0.a_, a0.b_, a0.r_, (a0.s_.Stack.length : Int), a0.one_⟩ : step_machine) >>= fun z32 => match z32 with | .inl p33 => some (.inl p33) | .inr y34 => some (.inr y34)) else (if a0.x_.Op = 8 then (step_machine_first.f (⟨a0.l_, a0.s_, a0.x_, a0.a_, a0.b_, a0.r_, (a0.s_.Stack.length : Int), a0.one_⟩ : step_machine) >>= fun z36 => match z36 with | .inl p37 => some (.inl p37) | .inr y38 => some (.inr y38)) else (if a0.x_.Op = 9 then (step_machine_calls.f (⟨a0.l_, a0.s_, a0.x_, a0.a_, a0.b_, a0.r_, (a0.s_.Stack.length : Int), a0.one_⟩ : step_machine) >>= fun z40 => match z40 with | .inl p41 => some (.inl p41) | .inr y42 => some (.inr y42)) else (if a0.x_.Op = 10 then (step_machine_returns.f (⟨a0.l_, a0.s_, a0.x_, a0.a_, a0.b_, a0.r_, (a0.s_.Stack.length : Int), a0.one_⟩ : step_machine) >>= fun z44 => match z44 with | .inl p45 => some (.inl p45) | .inr y46 => some (.inr y46)) else (none)))))))))))))
def judge_may_1.f (a0 : Int) (a1 : api_Lattice) : Option Bool :=
 ((if a0 < 0 then (some true) else (some (decide (a0 ≥ (a1.Up.length : Int)))) : Option Bool) >>= fun x2 => some x2)
def judge_may.f (a0 : api_Lattice) (a1 : List Int) (a2 : List Int) (a3 : Bool) : Option Int :=
 lattice_Check.f a0 >>= fun y1 => if y1 = 0 then (rule_Right.f a1 a3 >>= fun y3 => if (!y3) = true then (some 1) else (((if (a2.length : Int) = 4 then (slices_ContainsFunc_int_int.f a2 (fun z0 => judge_may_1.f z0 a0) >>= fun y9 => some y9) else (some true) : Option Bool) >>= fun x7 => if x7 = true then (some 9) else (some 0)))) else (some y1)
def judge_judge_put.f (a0 : judge_judge) (a1 : If147) : Option judge_judge :=
 if (a0.pile_.length + ([a1] : List If147).length) * 16 ≤ big then (some (⟨a0.l_, a0.labels_, a0.pile_ ++ ([a1] : List If147)⟩ : judge_judge)) else none
def bits_OnesCount32.f (a0 : Int) : Option Int :=
 if (0 : Int) ≤ bShr .u32 a0 24 ∧ bShr .u32 a0 24 < (ks0.length : Int) then (if (0 : Int) ≤ bAnd .u32 (bShr .u32 a0 16) 255 ∧ bAnd .u32 (bShr .u32 a0 16) 255 < (ks0.length : Int) then (if (0 : Int) ≤ bAnd .u32 (bShr .u32 a0 8) 255 ∧ bAnd .u32 (bShr .u32 a0 8) 255 < (ks0.length : Int) then (if (0 : Int) ≤ bAnd .u32 a0 255 ∧ bAnd .u32 a0 255 < (ks0.length : Int) then (some (IntKind.i64.wrap (IntKind.u8.wrap ((IntKind.u8.wrap ((IntKind.u8.wrap ((sAt ks0 (bShr .u32 a0 24)) + (sAt ks0 (bAnd .u32 (bShr .u32 a0 16) 255)))) + (sAt ks0 (bAnd .u32 (bShr .u32 a0 8) 255)))) + (sAt ks0 (bAnd .u32 a0 255)))))) else none) else none) else none) else none
def lattice_Top_1.f (a0 : Int) : Option Bool :=
 bits_OnesCount32.f a0 >>= fun y1 => some (decide (y1 = 1))
def lattice_Top.f (a0 : api_Lattice) : Option (Int × Int) :=
 lattice_there.f a0 [] >>= fun y1 => if y1 = 0 then (slices_IndexFunc_uint32_uint32.f a0.Up lattice_Top_1.f >>= fun y3 => some (y3, 0)) else (some (0, y1))
def judge_judge_two.f (a0 : judge_judge) : Option (judge_judge × If147 × If147) :=
 lAt a0.pile_ (IntKind.i64.wrap ((a0.pile_.length : Int) - 2)) >>= fun y1 => lAt a0.pile_ (IntKind.i64.wrap ((IntKind.i64.wrap ((a0.pile_.length : Int) - 2)) + 1)) >>= fun y2 => if (0 : Int) ≤ IntKind.i64.wrap ((a0.pile_.length : Int) - 2) ∧ IntKind.i64.wrap ((a0.pile_.length : Int) - 2) ≤ (a0.pile_.length : Int) then (some ((⟨a0.l_, a0.labels_, a0.pile_.take (IntKind.i64.wrap ((a0.pile_.length : Int) - 2)).toNat⟩ : judge_judge), y1, y2)) else none
def lattice_Flows.f (a0 : api_Lattice) (a1 : Int) (a2 : Int) : Option (Bool × Int) :=
 lattice_there.f a0 ([a1, a2] : List Int) >>= fun y1 => if y1 = 0 then (lattice_flows.f a0 a1 a2 >>= fun y3 => some (y3, 0)) else (some (false, y1))
def lattice_Join.f (a0 : api_Lattice) (a1 : Int) (a2 : Int) : Option (Int × Int) :=
 lattice_there.f a0 ([a1, a2] : List Int) >>= fun y1 => if y1 = 0 then (lattice_join.f a0 a1 a2 >>= fun y3 => some (y3, 0)) else (some (0, y1))
def lattice_Meet.f (a0 : api_Lattice) (a1 : Int) (a2 : Int) : Option (Int × Int) :=
 lattice_there.f a0 ([a1, a2] : List Int) >>= fun y1 => if y1 = 0 then (lattice_meet.f a0 a1 a2 >>= fun y3 => some (y3, 0)) else (some (0, y1))
def judge_judge_both.f (a0 : judge_judge) (a1 : Int) (a2 : If147) (a3 : If147) : Option (judge_judge × If147) :=
 if ((as147_144 a2).2) = true then (if a1 = 3 then (((if ((as147_144 a2).1) = true then (some (If147.c144 ((as147_144 a3).1))) else (some (If147.c144 false)) : Option If147) >>= fun x4 => some (a0, x4))) else (((if ((as147_144 a2).1) = true then (some (If147.c144 true)) else (some (If147.c144 ((as147_144 a3).1))) : Option If147) >>= fun x7 => some (a0, x7)))) else (if ((as147_153 a2).2) = true then (if a1 = 5 then (lattice_Flows.f a0.l_ ((as147_153 a2).1) ((as147_153 a3).1) >>= fun y11 => some (a0, If147.c144 y11.1)) else (if a1 = 12 then (lattice_Join.f a0.l_ ((as147_153 a2).1) ((as147_153 a3).1) >>= fun y13 => some (a0, If147.c153 y13.1)) else (lattice_Meet.f a0.l_ ((as147_153 a2).1) ((as147_153 a3).1) >>= fun y14 => some (a0, If147.c153 y14.1)))) else (some (a0, a2)))
def judge_judge_comes.l0 (a1 : List Int) (v231 : List Str) (v232 : List Int) (v233 : List Int) (v234 : List If147) (v235 : Int) : Option ((List Str) × (List Int) × (List Int) × (List If147)) :=
 if v235 < (a1.length : Int) then (((lAt a1 v235 >>= fun y300 => ((if y300 = 1 then (judge_judge_put.f (⟨⟨v231, v232⟩, v233, v234⟩ : judge_judge) (If147.c144 (decide (y300 = 1))) >>= fun y331 => some (y331.l_.Names, y331.l_.Up, y331.labels_, y331.pile_)) else (if y300 = 2 then (judge_judge_put.f (⟨⟨v231, v232⟩, v233, v234⟩ : judge_judge) (If147.c144 (decide (y300 = 1))) >>= fun y333 => some (y333.l_.Names, y333.l_.Up, y333.labels_, y333.pile_)) else (if y300 = 6 then (lattice_Bottom.f (⟨v231, v232⟩ : api_Lattice) >>= fun y335 => judge_judge_put.f (⟨⟨v231, v232⟩, v233, v234⟩ : judge_judge) (If147.c153 y335.1) >>= fun y336 => some (y336.l_.Names, y336.l_.Up, y336.labels_, y336.pile_)) else (if y300 = 7 then (lattice_Top.f (⟨v231, v232⟩ : api_Lattice) >>= fun y338 => judge_judge_put.f (⟨⟨v231, v232⟩, v233, v234⟩ : judge_judge) (If147.c153 y338.1) >>= fun y339 => some (y339.l_.Names, y339.l_.Up, y339.labels_, y339.pile_)) else (if y300 = 8 then (lAt v233 (IntKind.i64.wrap (y300 - 8)) >>= fun y341 => judge_judge_put.f (⟨⟨v231, v232⟩, v233, v234⟩ : judge_judge) (If147.c153 y341) >>= fun y342 => some (y342.l_.Names, y342.l_.Up, y342.labels_, y342.pile_)) else (if y300 = 9 then (lAt v233 (IntKind.i64.wrap (y300 - 8)) >>= fun y344 => judge_judge_put.f (⟨⟨v231, v232⟩, v233, v234⟩ : judge_judge) (If147.c153 y344) >>= fun y345 => some (y345.l_.Names, y345.l_.Up, y345.labels_, y345.pile_)) else (if y300 = 10 then (lAt v233 (IntKind.i64.wrap (y300 - 8)) >>= fun y347 => judge_judge_put.f (⟨⟨v231, v232⟩, v233, v234⟩ : judge_judge) (If147.c153 y347) >>= fun y348 => some (y348.l_.Names, y348.l_.Up, y348.labels_, y348.pile_)) else (if y300 = 11 then (lAt v233 (IntKind.i64.wrap (y300 - 8)) >>= fun y350 => judge_judge_put.f (⟨⟨v231, v232⟩, v233, v234⟩ : judge_judge) (If147.c153 y350) >>= fun y351 => some (y351.l_.Names, y351.l_.Up, y351.labels_, y351.pile_)) else (judge_judge_two.f (⟨⟨v231, v232⟩, v233, v234⟩ : judge_judge) >>= fun y352 => judge_judge_both.f y352.1 y300 y352.2.1 y352.2.2 >>= fun y353 => judge_judge_put.f y353.1 y353.2 >>= fun y354 => some (y354.l_.Names, y354.l_.Up, y354.labels_, y354.pile_))))))))) : Option ((List Str) × (List Int) × (List Int) × (List If147))) >>= fun o => match o with | (x326, x327, x328, x329) => some (x326, x327, x328, x329)) : Option ((List Str) × (List Int) × (List Int) × (List If147))) >>= fun o => match o with | (x296, x297, x298, x299) => judge_judge_comes.l0 a1 x296 x297 x298 x299 (IntKind.i64.wrap (v235 + 1)))) else (some (v231, v232, v233, v234))
partial_fixpoint
def judge_judge_comes.f (a0 : judge_judge) (a1 : List Int) : Option (judge_judge × If147) :=
 (judge_judge_comes.l0 a1 a0.l_.Names a0.l_.Up a0.labels_ a0.pile_ 0 >>= fun o => match o with | (x236, x237, x238, x239) => lAt x239 0 >>= fun y355 => some ((⟨⟨x236, x237⟩, x238, x239⟩ : judge_judge), y355))
def judge_Cond.f (a0 : api_Lattice) (a1 : List Int) (a2 : List Int) : Option (Bool × Int) :=
 judge_may.f a0 a1 a2 false >>= fun y1 => if y1 = 0 then (judge_judge_comes.f (⟨a0, a2, ([] : List If147)⟩ : judge_judge) a1 >>= fun y3 => some ((as147_144 y3.2).1, 0)) else (some (false, y1))
def judge_Label.f (a0 : api_Lattice) (a1 : List Int) (a2 : List Int) : Option (Int × Int) :=
 judge_may.f a0 a1 a2 true >>= fun y1 => if y1 = 0 then (judge_judge_comes.f (⟨a0, a2, ([] : List If147)⟩ : judge_judge) a1 >>= fun y3 => some ((as147_153 y3.2).1, 0)) else (some (0, y1))
def step_machine_put.f (a0 : step_machine) (a1 : Int) (a2 : Int) : Option step_machine :=
 if (a0.s_.Stack.length + ([(⟨false, a1, a2⟩ : api_Slot)] : List api_Slot).length) * 24 ≤ big then (some (⟨a0.l_, ⟨a0.s_.Pc, a0.s_.Code, a0.s_.Mem, a0.s_.Stack ++ ([(⟨false, a1, a2⟩ : api_Slot)] : List api_Slot), a0.s_.Out⟩, a0.x_, a0.a_, a0.b_, a0.r_, a0.below_, a0.one_⟩ : step_machine)) else none
def slices_Grow_api_Slot_api_Slot_nil.f (a1 : Int) : Option (List api_Slot) :=
 if a1 < 0 then (none) else (if IntKind.i64.wrap (a1 - (IntKind.i64.wrap (0 - (([] : List api_Slot).length : Int)))) > 0 then (if 0 < IntKind.i64.wrap (a1 - (IntKind.i64.wrap (0 - (([] : List api_Slot).length : Int)))) ∧ (IntKind.i64.wrap (a1 - (IntKind.i64.wrap (0 - (([] : List api_Slot).length : Int))))).toNat * 24 ≤ big then (if (0 : Int) ≤ (([] : List api_Slot).length : Int) ∧ (([] : List api_Slot).length : Int) ≤ ((List.replicate (IntKind.i64.wrap (a1 - (IntKind.i64.wrap (0 - (([] : List api_Slot).length : Int))))).toNat ((⟨false, 0, 0⟩ : api_Slot) : api_Slot)).length : Int) then (some ((List.replicate (IntKind.i64.wrap (a1 - (IntKind.i64.wrap (0 - (([] : List api_Slot).length : Int))))).toNat ((⟨false, 0, 0⟩ : api_Slot) : api_Slot)).take (([] : List api_Slot).length : Int).toNat)) else none) else none) else (some ([] : List api_Slot)))
def slices_Concat_api_Slot_api_Slot.l0 (a0 : List (List api_Slot)) (v13 : Int) (v14 : Int) : Option Int :=
 if v13 < (a0.length : Int) then (((lAt a0 v13 >>= fun y20 => if IntKind.i64.wrap (v14 + (y20.length : Int)) < 0 then (none) else (some (IntKind.i64.wrap (v14 + (y20.length : Int)))) : Option Int) >>= fun x19 => slices_Concat_api_Slot_api_Slot.l0 a0 (IntKind.i64.wrap (v13 + 1)) x19)) else (some v14)
partial_fixpoint
def slices_Concat_api_Slot_api_Slot.l1 (a0 : List (List api_Slot)) (v29 : List api_Slot) (v30 : Int) : Option (List api_Slot) :=
 if v30 < (a0.length : Int) then (lAt a0 v30 >>= fun y33 => if (v29.length + y33.length) * 24 ≤ big then (slices_Concat_api_Slot_api_Slot.l1 a0 (v29 ++ y33) (IntKind.i64.wrap (v30 + 1))) else none) else (some v29)
partial_fixpoint
def slices_Concat_api_Slot_api_Slot.f (a0 : List (List api_Slot)) : Option (List api_Slot) :=
 (slices_Concat_api_Slot_api_Slot.l0 a0 0 0 >>= fun x15 => slices_Grow_api_Slot_api_Slot_nil.f x15 >>= fun y22 => (slices_Concat_api_Slot_api_Slot.l1 a0 y22 0 >>= fun x31 => some x31))
def slices_Clone_api_Slot_api_Slot_nn.f (a0 : List api_Slot) : Option (List api_Slot) :=
 if (([] : List api_Slot).length + a0.length) * 24 ≤ big then (some (([] : List api_Slot) ++ a0)) else none
def slices_Clone_api_Atom_api_Atom_nn.f (a0 : List api_Atom) : Option (List api_Atom) :=
 if (([] : List api_Atom).length + a0.length) * 16 ≤ big then (some (([] : List api_Atom) ++ a0)) else none
def step_machine_does.f (a0 : step_machine) (a1 : Int) : Option step_machine :=
 if (0 : Int) ≤ a0.below_ ∧ a0.below_ ≤ (a0.s_.Stack.length : Int) then (slices_Clone_api_Slot_api_Slot_nn.f (lCut a0.s_.Stack 0 a0.below_) >>= fun y2 => ((if a0.x_.Op = 1 then (step_machine_put.f (⟨a0.l_, ⟨a0.s_.Pc, a0.s_.Code, a0.s_.Mem, y2, a0.s_.Out⟩, a0.x_, a0.a_, a0.b_, a0.r_, a0.below_, a0.one_⟩ : step_machine) a0.x_.N a1 >>= fun y31 => some (y31, IntKind.i64.wrap (a0.s_.Pc.V + 1))) else (if a0.x_.Op = 3 then (step_machine_put.f (⟨a0.l_, ⟨a0.s_.Pc, a0.s_.Code, a0.s_.Mem, y2, a0.s_.Out⟩, a0.x_, a0.a_, a0.b_, a0.r_, a0.below_, a0.one_⟩ : step_machine) (IntKind.i64.wrap (a0.b_.V + a0.a_.V)) a1 >>= fun y33 => some (y33, IntKind.i64.wrap (a0.s_.Pc.V + 1))) else (if a0.x_.Op = 4 then (step_machine_put.f (⟨a0.l_, ⟨a0.s_.Pc, a0.s_.Code, a0.s_.Mem, y2, a0.s_.Out⟩, a0.x_, a0.a_, a0.b_, a0.r_, a0.below_, a0.one_⟩ : step_machine) (IntKind.i64.wrap (a0.b_.V - a0.a_.V)) a1 >>= fun y35 => some (y35, IntKind.i64.wrap (a0.s_.Pc.V + 1))) else (if a0.x_.Op = 5 then (lAt a0.s_.Mem a0.a_.V >>= fun y37 => step_machine_put.f (⟨a0.l_, ⟨a0.s_.Pc, a0.s_.Code, a0.s_.Mem, y2, a0.s_.Out⟩, a0.x_, a0.a_, a0.b_, a0.r_, a0.below_, a0.one_⟩ : step_machine) y37.V a1 >>= fun y38 => some (y38, IntKind.i64.wrap (a0.s_.Pc.V + 1))) else (if a0.x_.Op = 6 then (slices_Clone_api_Atom_api_Atom_nn.f a0.s_.Mem >>= fun y40 => lAt y40 a0.a_.V >>= fun y41 => some ((⟨a0.l_, ⟨a0.s_.Pc, a0.s_.Code, y40.set a0.a_.V.toNat (⟨a0.b_.V, a1⟩ : api_Atom), y2, a0.s_.Out⟩, a0.x_, a0.a_, a0.b_, a0.r_, a0.below_, a0.one_⟩ : step_machine), IntKind.i64.wrap (a0.s_.Pc.V + 1))) else (if a0.x_.Op = 11 then (slices_Clone_api_Atom_api_Atom_nn.f a0.s_.Out >>= fun y43 => if (y43.length + ([(⟨a0.a_.V, a1⟩ : api_Atom)] : List api_Atom).length) * 16 ≤ big then (some ((⟨a0.l_, ⟨a0.s_.Pc, a0.s_.Code, a0.s_.Mem, y2, y43 ++ ([(⟨a0.a_.V, a1⟩ : api_Atom)] : List api_Atom)⟩, a0.x_, a0.a_, a0.b_, a0.r_, a0.below_, a0.one_⟩ : step_machine), IntKind.i64.wrap (a0.s_.Pc.V + 1))) else none) else (if a0.x_.Op = 7 then (some ((⟨a0.l_, ⟨a0.s_.Pc, a0.s_.Code, a0.s_.Mem, y2, a0.s_.Out⟩, a0.x_, a0.a_, a0.b_, a0.r_, a0.below_, a0.one_⟩ : step_machine), a0.a_.V)) else (if a0.x_.Op = 8 then (if a0.a_.V = 0 then (some ((⟨a0.l_, ⟨a0.s_.Pc, a0.s_.Code, a0.s_.Mem, y2, a0.s_.Out⟩, a0.x_, a0.a_, a0.b_, a0.r_, a0.below_, a0.one_⟩ : step_machine), IntKind.i64.wrap (a0.s_.Pc.V + 1))) else (some ((⟨a0.l_, ⟨a0.s_.Pc, a0.s_.Code, a0.s_.Mem, y2, a0.s_.Out⟩, a0.x_, a0.a_, a0.b_, a0.r_, a0.below_, a0.one_⟩ : step_machine), a0.x_.N))) else (if a0.x_.Op = 9 then (if (0 : Int) ≤ IntKind.i64.wrap (a0.below_ - a0.x_.N) ∧ IntKind.i64.wrap (a0.below_ - a0.x_.N) ≤ a0.below_ ∧ a0.below_ ≤ (a0.s_.Stack.length : Int) then (if (0 : Int) ≤ IntKind.i64.wrap (a0.below_ - a0.x_.N) ∧ IntKind.i64.wrap (a0.below_ - a0.x_.N) ≤ (a0.s_.Stack.length : Int) then (slices_Concat_api_Slot_api_Slot.f ([lCut a0.s_.Stack 0 (IntKind.i64.wrap (a0.below_ - a0.x_.N)), ([(⟨true, IntKind.i64.wrap (a0.s_.Pc.V + 1), a0.s_.Pc.L⟩ : api_Slot)] : List api_Slot), lCut a0.s_.Stack (IntKind.i64.wrap (a0.below_ - a0.x_.N)) a0.below_] : List (List api_Slot)) >>= fun y51 => some ((⟨a0.l_, ⟨a0.s_.Pc, a0.s_.Code, a0.s_.Mem, y51, a0.s_.Out⟩, a0.x_, a0.a_, a0.b_, a0.r_, a0.below_, a0.one_⟩ : step_machine), a0.a_.V)) else none) else none) else (if a0.x_.Op = 10 then (if a0.x_.N = 1 then (step_machine_put.f (⟨a0.l_, ⟨a0.s_.Pc, a0.s_.Code, a0.s_.Mem, y2, a0.s_.Out⟩, a0.x_, a0.a_, a0.b_, a0.r_, a0.below_, a0.one_⟩ : step_machine) a0.a_.V a1 >>= fun y54 => some (y54, y54.r_.V)) else (some ((⟨a0.l_, ⟨a0.s_.Pc, a0.s_.Code, a0.s_.Mem, y2, a0.s_.Out⟩, a0.x_, a0.a_, a0.b_, a0.r_, a0.below_, a0.one_⟩ : step_machine), a0.r_.V))) else (some ((⟨a0.l_, ⟨a0.s_.Pc, a0.s_.Code, a0.s_.Mem, y2, a0.s_.Out⟩, a0.x_, a0.a_, a0.b_, a0.r_, a0.below_, a0.one_⟩ : step_machine), IntKind.i64.wrap (a0.s_.Pc.V + 1)))))))))))) : Option (step_machine × Int)) >>= fun o => match o with | (x28, x29) => some (⟨x28.l_, ⟨⟨x29, x28.s_.Pc.L⟩, x28.s_.Code, x28.s_.Mem, x28.s_.Stack, x28.s_.Out⟩, x28.x_, x28.a_, x28.b_, x28.r_, x28.below_, x28.one_⟩ : step_machine))) else none
def step_step.B (a0 : api_Lattice) (a1 : api_Table) (a2 : api_State) : Option (Pn ⊕ (api_State × Int)) :=
 step_need.f (decide (a2.Pc.V < (a2.Code.length : Int))) >>= fun z1 => match z1 with | .inl p2 => some (.inl p2) | .inr y3 => lattice_Bottom.f a0 >>= fun y4 => lAt a2.Code a2.Pc.V >>= fun y5 => step_machine_needs.f (⟨a0, a2, y5, ⟨false, 0, 0⟩, ⟨false, 0, 0⟩, ⟨false, 0, 0⟩, 0, ⟨y4.1, y4.1, y4.1⟩⟩ : step_machine) >>= fun z6 => match z6 with | .inl p7 => some (.inl p7) | .inr y8 => if y8.x_.Op = 12 then (some (.inl 1)) else (lAt a1.Rows y8.x_.Op >>= fun y10 => judge_Cond.f a0 y10.May ([a2.Pc.L, y8.one_.x0_, y8.one_.x1_, y8.one_.x2_] : List Int) >>= fun y11 => if (!y11.1) = true then (some (.inl 2)) else (judge_Label.f a0 y10.Res ([a2.Pc.L, y8.one_.x0_, y8.one_.x1_, y8.one_.x2_] : List Int) >>= fun y13 => judge_Label.f a0 y10.Pc ([a2.Pc.L, y8.one_.x0_, y8.one_.x1_, y8.one_.x2_] : List Int) >>= fun y14 => step_machine_does.f y8 y13.1 >>= fun y15 => state_Right.f a0 (⟨⟨y15.s_.Pc.V, y14.1⟩, y15.s_.Code, y15.s_.Mem, y15.s_.Stack, y15.s_.Out⟩ : api_State) >>= fun y16 => step_need.f y16 >>= fun z17 => match z17 with | .inl p18 => some (.inl p18) | .inr y19 => some (.inr ((⟨⟨y15.s_.Pc.V, y14.1⟩, y15.s_.Code, y15.s_.Mem, y15.s_.Stack, y15.s_.Out⟩ : api_State), 0))))
def step_step.f (a0 : api_Lattice) (a1 : api_Table) (a2 : api_State) : Option (api_State × Int) :=
 step_step.B a0 a1 a2 >>= fun z => some (finD a2 z)
def step_One.f (a0 : api_Lattice) (a1 : api_Table) (a2 : api_State) : Option (api_State × Int × Int) :=
 lattice_Check.f a0 >>= fun y1 => if y1 = 0 then (table_Check.f a1 >>= fun y3 => if y3.2 = 0 then (state_Right.f a0 a2 >>= fun y5 => if (!y5) = true then (some ((⟨⟨0, 0⟩, [], [], [], []⟩ : api_State), 0, 1)) else (step_step.f a0 a1 a2 >>= fun y7 => some (y7.1, y7.2, 0))) else (some ((⟨⟨0, 0⟩, [], [], [], []⟩ : api_State), 0, y3.2))) else (some ((⟨⟨0, 0⟩, [], [], [], []⟩ : api_State), 0, y1))
def run_may.f (a0 : api_Lattice) (a1 : api_Table) (a2 : api_State) (a3 : Int) : Option Int :=
 step_One.f a0 a1 a2 >>= fun y1 => if y1.2.2 = 0 then (((if a3 < 0 then (some true) else (some (decide (a3 > 40))) : Option Bool) >>= fun x4 => if x4 = true then (some 1) else (some 0))) else (some y1.2.2)
def run_states_1.l0 {σ : Type} (a_y : σ → api_State → Int → Option (Bool × σ)) (a1 : Int) (a2 : api_Lattice) (a3 : api_Table) (v19 : api_State) (v20 : σ) (v21 : Int) : Option (σ ⊕ (api_State × σ)) :=
 if v21 < a1 then (step_One.f a2 a3 v19 >>= fun y25 => ((a_y v20 v19 y25.2.1 >>= fun y30 => if (!y30.1) = true then (some (y30.2, true)) else (some (y30.2, !decide (y25.2.1 = 0))) : Option (σ × Bool)) >>= fun o => match o with | (x28, x29) => if x29 = true then (some (.inl x28)) else (run_states_1.l0 a_y a1 a2 a3 y25.1 x28 (IntKind.i64.wrap (v21 + 1))))) else (some (.inr (v19, v20)))
partial_fixpoint
def run_states_1.f {σ : Type} (a_y : σ → api_State → Int → Option (Bool × σ)) (a_s : σ) (a1 : Int) (a2 : api_Lattice) (a3 : api_Table) (a4 : api_State) : Option σ :=
 (run_states_1.l0 a_y a1 a2 a3 a4 a_s 0 >>= fun o => match o with | .inl r => some r | .inr (x22, x23) => a_y x23 x22 0 >>= fun y33 => some y33.2)
def run_states.f (a0 : api_Lattice) (a1 : api_Table) (a2 : api_State) (a3 : Int) : Option (Int × api_Lattice × api_Table × api_State) :=
 some (a3, a0, a1, a2)
def run_Run.y0 (v6 : Int × (List api_State)) (v7 : api_State) (v8 : Int) : Option (Bool × ((Int × (List api_State)) × Nat)) :=
 if (v6.2.length + ([v7] : List api_State).length) * 112 ≤ big then (some (true, ((v8, v6.2 ++ ([v7] : List api_State)), 0))) else none
def run_Run.f (a0 : api_Lattice) (a1 : api_Table) (a2 : api_State) (a3 : Int) : Option ((List api_State) × Int × Int) :=
 run_may.f a0 a1 a2 a3 >>= fun y1 => if y1 = 0 then (run_states.f a0 a1 a2 a3 >>= fun y3 => (run_states_1.f (yOf (run_Run.y0)) ((0, ([] : List api_State)), 0) y3.1 y3.2.1 y3.2.2.1 y3.2.2.2 >>= fun y10 => if y10.2 = 0 then (some (y10.1.2, y10.1.1, 0)) else none)) else (some (([] : List api_State), 0, y1))
def run_Last.y0 (v4 : api_State × Int × Int × Int × (List api_Instr) × (List api_Atom) × (List api_Slot) × (List api_Atom)) (v5 : api_State) (v6 : Int) : Option (Bool × ((api_State × Int × Int × Int × (List api_Instr) × (List api_Atom) × (List api_Slot) × (List api_Atom)) × Nat)) :=
 some (true, ((v5, v6, v5.Pc.V, v5.Pc.L, v5.Code, v5.Mem, v5.Stack, v5.Out), 0))
def run_Last.f (a0 : api_Lattice) (a1 : api_Table) (a2 : api_State) (a3 : Int) : Option (api_State × Int × Int) :=
 run_may.f a0 a1 a2 a3 >>= fun y1 => if y1 = 0 then (run_states.f a0 a1 a2 a3 >>= fun y3 => (run_states_1.f (yOf (run_Last.y0)) ((a2, 0, a2.Pc.V, a2.Pc.L, a2.Code, a2.Mem, a2.Stack, a2.Out), 0) y3.1 y3.2.1 y3.2.2.1 y3.2.2.2 >>= fun y7 => if y7.2 = 0 then (some (y7.1.1, y7.1.2.1, 0)) else none)) else (some ((⟨⟨0, 0⟩, [], [], [], []⟩ : api_State), 0, y1))
def reticentref01_Name.l0 (a0 : Str) (v19 : Int) : Option (Bool ⊕ Unit) :=
 if v19 < (a0.length : Int) then (((if (0 : Int) ≤ v19 ∧ v19 < (a0.length : Int) then (if sAt a0 v19 < 97 then (some true) else (if (0 : Int) ≤ v19 ∧ v19 < (a0.length : Int) then (some (decide (sAt a0 v19 > 122))) else none)) else none : Option Bool) >>= fun x24 => if x24 = true then (some (.inl false)) else (reticentref01_Name.l0 a0 (IntKind.i64.wrap (v19 + 1))))) else (some (.inr ()))
partial_fixpoint
def reticentref01_Name.f (a0 : Str) : Option Bool :=
 (reticentref01_Name.l0 a0 0 >>= fun o => match o with | .inl r => some r | .inr () => ((if (a0.length : Int) > 0 then (some (decide ((a0.length : Int) ≤ 12))) else (some false) : Option Bool) >>= fun x30 => some x30))
def reticentref01_high.l0 (a1 : Int) (v3 : Int) (v4 : Int) : Option Int :=
 if v4 < a1 then (reticentref01_high.l0 a1 (IntKind.u32.wrap (v3.tdiv 2)) (IntKind.i64.wrap (v4 + 1))) else (some v3)
partial_fixpoint
def reticentref01_high.f (a0 : Int) (a1 : Int) : Option Bool :=
 (reticentref01_high.l0 a1 a0 0 >>= fun x5 => some (decide (x5 > 0)))
def reticentref01_may.l3 (a0 : api_Lattice) (v53 : Int) (y55 : Str) (v73 : Int) : Option (Bool ⊕ Unit) :=
 if v73 < ((lCut a0.Names 0 v53).length : Int) then (lAt (lCut a0.Names 0 v53) v73 >>= fun y75 => if y75 = y55 then (some (.inl false)) else (reticentref01_may.l3 a0 v53 y55 (IntKind.i64.wrap (v73 + 1)))) else (some (.inr ()))
partial_fixpoint
def reticentref01_may.l2 (a0 : api_Lattice) (v53 : Int) : Option (Bool ⊕ Unit) :=
 if v53 < (a0.Names.length : Int) then (lAt a0.Names v53 >>= fun y55 => ((reticentref01_Name.f y55 >>= fun y61 => if (!y61) = true then (some true) else (lAt a0.Up v53 >>= fun y63 => reticentref01_high.f y63 (a0.Up.length : Int) >>= fun y64 => some y64) : Option Bool) >>= fun x60 => if x60 = true then (some (.inl false)) else (if (0 : Int) ≤ v53 ∧ v53 ≤ (a0.Names.length : Int) then ((reticentref01_may.l3 a0 v53 y55 0 >>= fun o => match o with | .inl r => some (.inl r) | .inr () => reticentref01_may.l2 a0 (IntKind.i64.wrap (v53 + 1)))) else none))) else (some (.inr ()))
partial_fixpoint
def reticentref01_may.f (a0 : api_Lattice) : Option Bool :=
 ((if (a0.Up.length : Int) < 1 then (some true) else (if (a0.Up.length : Int) > 8 then (some true) else (some (!decide ((a0.Names.length : Int) = (a0.Up.length : Int))))) : Option Bool) >>= fun x3 => if x3 = true then (some false) else ((reticentref01_may.l2 a0 0 >>= fun o => match o with | .inl r => some r | .inr () => some true)))
def reticentref01_Flows.l0 (a2 : Int) (v4 : Int) (v5 : Int) : Option Int :=
 if v5 < a2 then (reticentref01_Flows.l0 a2 (IntKind.u32.wrap (v4.tdiv 2)) (IntKind.i64.wrap (v5 + 1))) else (some v4)
partial_fixpoint
def reticentref01_Flows.f (a0 : api_Lattice) (a1 : Int) (a2 : Int) : Option Bool :=
 lAt a0.Up a1 >>= fun y1 => (reticentref01_Flows.l0 a2 y1 0 >>= fun x6 => some (decide (x6.tmod 2 = 1)))
def reticentref01_order.l12 (a0 : api_Lattice) (v315 : Int) (v421 : Int) (v459 : Int) : Option (Bool ⊕ Unit) :=
 if v459 < (a0.Up.length : Int) then (((reticentref01_Flows.f a0 v315 v421 >>= fun y467 => if y467 = true then (reticentref01_Flows.f a0 v421 v459 >>= fun y469 => if y469 = true then (reticentref01_Flows.f a0 v315 v459 >>= fun y471 => some (!y471)) else (some false)) else (some false) : Option Bool) >>= fun x466 => if x466 = true then (some (.inl false)) else (reticentref01_order.l12 a0 v315 v421 (IntKind.i64.wrap (v459 + 1))))) else (some (.inr ()))
partial_fixpoint
def reticentref01_order.l11 (a0 : api_Lattice) (v315 : Int) (v421 : Int) : Option (Bool ⊕ Unit) :=
 if v421 < (a0.Up.length : Int) then (((if v315 = v421 then (some false) else (reticentref01_Flows.f a0 v315 v421 >>= fun y429 => if y429 = true then (reticentref01_Flows.f a0 v421 v315 >>= fun y431 => some y431) else (some false)) : Option Bool) >>= fun x427 => if x427 = true then (some (.inl false)) else ((reticentref01_order.l12 a0 v315 v421 0 >>= fun o => match o with | .inl r => some (.inl r) | .inr () => reticentref01_order.l11 a0 v315 (IntKind.i64.wrap (v421 + 1)))))) else (some (.inr ()))
partial_fixpoint
def reticentref01_order.l8 (a0 : api_Lattice) (v315 : Int) : Option (Bool ⊕ Unit) :=
 if v315 < (a0.Up.length : Int) then (reticentref01_Flows.f a0 v315 v315 >>= fun y317 => if (!y317) = true then (some (.inl false)) else ((reticentref01_order.l11 a0 v315 0 >>= fun o => match o with | .inl r => some (.inl r) | .inr () => reticentref01_order.l8 a0 (IntKind.i64.wrap (v315 + 1))))) else (some (.inr ()))
partial_fixpoint
def reticentref01_order.f (a0 : api_Lattice) : Option Bool :=
 (reticentref01_order.l8 a0 0 >>= fun o => match o with | .inl r => some r | .inr () => some true)
def reticentref01_Join.l3 (a0 : api_Lattice) (a1 : Int) (a2 : Int) (v181 : Int) (v242 : Int) (v243 : Bool) : Option Bool :=
 if v242 < (a0.Up.length : Int) then (((((reticentref01_Flows.f a0 a1 v242 >>= fun y265 => if y265 = true then (reticentref01_Flows.f a0 a2 v242 >>= fun y267 => if y267 = true then (reticentref01_Flows.f a0 v181 v242 >>= fun y269 => some (!y269)) else (some false)) else (some false) : Option Bool) >>= fun x264 => if x264 = true then (some false) else (some v243)) : Option Bool) >>= fun x258 => reticentref01_Join.l3 a0 a1 a2 v181 (IntKind.i64.wrap (v242 + 1)) x258)) else (some v243)
partial_fixpoint
def reticentref01_Join.l2 (a0 : api_Lattice) (a1 : Int) (a2 : Int) (v181 : Int) : Option (Int ⊕ Unit) :=
 if v181 < (a0.Up.length : Int) then (((reticentref01_Flows.f a0 a1 v181 >>= fun y187 => if y187 = true then (reticentref01_Flows.f a0 a2 v181 >>= fun y189 => some y189) else (some false) : Option Bool) >>= fun x186 => (reticentref01_Join.l3 a0 a1 a2 v181 0 x186 >>= fun x244 => if x244 = true then (some (.inl v181)) else (reticentref01_Join.l2 a0 a1 a2 (IntKind.i64.wrap (v181 + 1)))))) else (some (.inr ()))
partial_fixpoint
def reticentref01_Join.f (a0 : api_Lattice) (a1 : Int) (a2 : Int) : Option Int :=
 (reticentref01_Join.l2 a0 a1 a2 0 >>= fun o => match o with | .inl r => some r | .inr () => some (-1))
def reticentref01_Meet.l3 (a0 : api_Lattice) (a1 : Int) (a2 : Int) (v181 : Int) (v242 : Int) (v243 : Bool) : Option Bool :=
 if v242 < (a0.Up.length : Int) then (((((reticentref01_Flows.f a0 v242 a1 >>= fun y265 => if y265 = true then (reticentref01_Flows.f a0 v242 a2 >>= fun y267 => if y267 = true then (reticentref01_Flows.f a0 v242 v181 >>= fun y269 => some (!y269)) else (some false)) else (some false) : Option Bool) >>= fun x264 => if x264 = true then (some false) else (some v243)) : Option Bool) >>= fun x258 => reticentref01_Meet.l3 a0 a1 a2 v181 (IntKind.i64.wrap (v242 + 1)) x258)) else (some v243)
partial_fixpoint
def reticentref01_Meet.l2 (a0 : api_Lattice) (a1 : Int) (a2 : Int) (v181 : Int) : Option (Int ⊕ Unit) :=
 if v181 < (a0.Up.length : Int) then (((reticentref01_Flows.f a0 v181 a1 >>= fun y187 => if y187 = true then (reticentref01_Flows.f a0 v181 a2 >>= fun y189 => some y189) else (some false) : Option Bool) >>= fun x186 => (reticentref01_Meet.l3 a0 a1 a2 v181 0 x186 >>= fun x244 => if x244 = true then (some (.inl v181)) else (reticentref01_Meet.l2 a0 a1 a2 (IntKind.i64.wrap (v181 + 1)))))) else (some (.inr ()))
partial_fixpoint
def reticentref01_Meet.f (a0 : api_Lattice) (a1 : Int) (a2 : Int) : Option Int :=
 (reticentref01_Meet.l2 a0 a1 a2 0 >>= fun o => match o with | .inl r => some r | .inr () => some (-1))
def reticentref01_Check.l3 (a0 : api_Lattice) (v63 : Int) (v83 : Int) : Option (Int ⊕ Unit) :=
 if v83 < (a0.Up.length : Int) then (((reticentref01_Join.f a0 v63 v83 >>= fun y89 => if y89 < 0 then (some true) else (reticentref01_Meet.f a0 v63 v83 >>= fun y91 => some (decide (y91 < 0))) : Option Bool) >>= fun x88 => if x88 = true then (some (.inl 3)) else (reticentref01_Check.l3 a0 v63 (IntKind.i64.wrap (v83 + 1))))) else (some (.inr ()))
partial_fixpoint
def reticentref01_Check.l2 (a0 : api_Lattice) (v63 : Int) : Option (Int ⊕ Unit) :=
 if v63 < (a0.Up.length : Int) then ((reticentref01_Check.l3 a0 v63 0 >>= fun o => match o with | .inl r => some (.inl r) | .inr () => reticentref01_Check.l2 a0 (IntKind.i64.wrap (v63 + 1)))) else (some (.inr ()))
partial_fixpoint
def reticentref01_Check.f (a0 : api_Lattice) : Option Int :=
 reticentref01_may.f a0 >>= fun y1 => if (!y1) = true then (some 1) else (reticentref01_order.f a0 >>= fun y3 => if (!y3) = true then (some 2) else ((reticentref01_Check.l2 a0 0 >>= fun o => match o with | .inl r => some r | .inr () => some 0)))
def reticentref04_two.f (a0 : List Int) (a1 : Int) : Option Bool :=
 ((if (a0.length : Int) ≥ 2 then (lAt a0 (IntKind.i64.wrap ((a0.length : Int) - 1)) >>= fun y7 => if y7 = a1 then (lAt a0 (IntKind.i64.wrap ((a0.length : Int) - 2)) >>= fun y9 => some (decide (y9 = a1))) else (some false)) else (some false) : Option Bool) >>= fun x5 => some x5)
def reticentref04_Made.l0 (a0 : List Int) (v169 : List Int) (v170 : Int) : Option (Int ⊕ (List Int)) :=
 if v170 < (a0.length : Int) then (((lAt a0 v170 >>= fun y215 => ((if y215 = 1 then (some true) else (some (decide (y215 = 2))) : Option Bool) >>= fun x217 => if x217 = true then (if (v169.length + ([1] : List Int).length) * 8 ≤ big then (some (.inr (v169 ++ ([1] : List Int)))) else none) else (((if y215 ≥ 6 then (some (decide (y215 ≤ 11))) else (some false) : Option Bool) >>= fun x222 => if x222 = true then (if (v169.length + ([2] : List Int).length) * 8 ≤ big then (some (.inr (v169 ++ ([2] : List Int)))) else none) else (((if y215 = 3 then (reticentref04_two.f v169 1 >>= fun y232 => some y232) else (if y215 = 4 then (reticentref04_two.f v169 1 >>= fun y234 => some y234) else (some false)) : Option Bool) >>= fun x230 => if x230 = true then (if (0 : Int) ≤ IntKind.i64.wrap ((v169.length : Int) - 1) ∧ IntKind.i64.wrap ((v169.length : Int) - 1) ≤ (v169.length : Int) then (some (.inr (v169.take (IntKind.i64.wrap ((v169.length : Int) - 1)).toNat))) else none) else (((if y215 = 5 then (reticentref04_two.f v169 2 >>= fun y241 => some y241) else (some false) : Option Bool) >>= fun x239 => if x239 = true then (if (0 : Int) ≤ IntKind.i64.wrap ((v169.length : Int) - 2) ∧ IntKind.i64.wrap ((v169.length : Int) - 2) ≤ (v169.length : Int) then (if ((v169.take (IntKind.i64.wrap ((v169.length : Int) - 2)).toNat).length + ([1] : List Int).length) * 8 ≤ big then (some (.inr ((v169.take (IntKind.i64.wrap ((v169.length : Int) - 2)).toNat) ++ ([1] : List Int)))) else none) else none) else (((if y215 = 12 then (reticentref04_two.f v169 2 >>= fun y251 => some y251) else (if y215 = 13 then (reticentref04_two.f v169 2 >>= fun y253 => some y253) else (some false)) : Option Bool) >>= fun x249 => if x249 = true then (if (0 : Int) ≤ IntKind.i64.wrap ((v169.length : Int) - 1) ∧ IntKind.i64.wrap ((v169.length : Int) - 1) ≤ (v169.length : Int) then (some (.inr (v169.take (IntKind.i64.wrap ((v169.length : Int) - 1)).toNat))) else none) else (some (.inl 0))))))))))) : Option (Int ⊕ (List Int))) >>= fun o => match o with | .inl r => some (.inl r) | .inr x214 => reticentref04_Made.l0 a0 x214 (IntKind.i64.wrap (v170 + 1)))) else (some (.inr v169))
partial_fixpoint
def reticentref04_Made.f (a0 : List Int) : Option Int :=
 (reticentref04_Made.l0 a0 ([] : List Int) 0 >>= fun o => match o with | .inl r => some r | .inr x171 => ((if (x171.length : Int) = 1 then (some (decide ((a0.length : Int) > 40))) else (some true) : Option Bool) >>= fun x257 => if x257 = true then (some 0) else (lAt x171 0 >>= fun y260 => some y260)))
def reticentref04_Right.f (a0 : List Int) (a1 : Bool) : Option Bool :=
 if a1 = true then (reticentref04_Made.f a0 >>= fun y2 => some (decide (y2 = 2))) else (reticentref04_Made.f a0 >>= fun y3 => some (decide (y3 = 1)))
def reticentref06_Arity.f (a0 : Int) : Option Int :=
 lAt ([0, 1, 1, 2, 2, 2, 3, 1, 1, 1, 2, 1, 0] : List Int) a0 >>= fun y1 => some y1
def reticentref04_Has.l0 (a0 : List Int) (a1 : Int) (v7 : Int) : Option (Bool ⊕ Unit) :=
 if v7 < (a0.length : Int) then (lAt a0 v7 >>= fun y9 => if y9 = IntKind.i64.wrap (8 + a1) then (some (.inl true)) else (reticentref04_Has.l0 a0 a1 (IntKind.i64.wrap (v7 + 1)))) else (some (.inr ()))
partial_fixpoint
def reticentref04_Has.f (a0 : List Int) (a1 : Int) : Option Bool :=
 (reticentref04_Has.l0 a0 a1 0 >>= fun o => match o with | .inl r => some r | .inr () => some false)
def reticentref06_has.l0 (a1 : List Int) (v8 : Int) : Option (Bool ⊕ Unit) :=
 if v8 < 4 then (reticentref04_Has.f a1 v8 >>= fun y10 => if y10 = true then (some (.inl false)) else (reticentref06_has.l0 a1 (IntKind.i64.wrap (v8 + 1)))) else (some (.inr ()))
partial_fixpoint
def reticentref06_has.f (a0 : Int) (a1 : List Int) : Option Bool :=
 reticentref06_Arity.f a0 >>= fun y1 => (reticentref06_has.l0 a1 (IntKind.i64.wrap (y1 + 1)) >>= fun o => match o with | .inl r => some r | .inr () => some true)
def reticentref06_Row.f (a0 : Int) (a1 : api_Row) : Option Int :=
 ((reticentref04_Right.f a1.May false >>= fun y7 => if (!y7) = true then (some true) else (reticentref04_Right.f a1.Res true >>= fun y9 => if (!y9) = true then (some true) else (reticentref04_Right.f a1.Pc true >>= fun y11 => some (!y11))) : Option Bool) >>= fun x6 => if x6 = true then (some 1) else (((reticentref06_has.f a0 a1.May >>= fun y19 => if (!y19) = true then (some true) else (reticentref06_has.f a0 a1.Res >>= fun y21 => if (!y21) = true then (some true) else (reticentref06_has.f a0 a1.Pc >>= fun y23 => some (!y23))) : Option Bool) >>= fun x18 => if x18 = true then (some 7) else (some 0))))
def reticentref06_Check.l0 (a0 : api_Table) (v10 : Int) : Option (reticentref06_W ⊕ Unit) :=
 if v10 < (a0.Rows.length : Int) then (lAt a0.Rows v10 >>= fun y12 => reticentref06_Row.f v10 y12 >>= fun y13 => if y13 = 0 then (reticentref06_Check.l0 a0 (IntKind.i64.wrap (v10 + 1))) else (some (.inl (⟨v10, y13⟩ : reticentref06_W)))) else (some (.inr ()))
partial_fixpoint
def reticentref06_Check.f (a0 : api_Table) : Option reticentref06_W :=
 if (a0.Rows.length : Int) = 13 then ((reticentref06_Check.l0 a0 0 >>= fun o => match o with | .inl r => some r | .inr () => some (⟨0, 0⟩ : reticentref06_W))) else (some (⟨0, 1⟩ : reticentref06_W))
def reticentref08_Instr.f (a0 : Int) (a1 : api_Instr) : Option Bool :=
 if a1.Op = 1 then (((if a1.N ≥ (-20) then (if a1.N ≤ 20 then (if a1.L ≥ 0 then (some (decide (a1.L < a0))) else (some false)) else (some false)) else (some false) : Option Bool) >>= fun x5 => some x5)) else (((if a1.Op < 0 then (some true) else (if a1.Op > 12 then (some true) else (some (!decide (a1.L = 0)))) : Option Bool) >>= fun x11 => if x11 = true then (some false) else (if a1.Op = 8 then (((if a1.N ≥ 0 then (some (decide (a1.N ≤ 12))) else (some false) : Option Bool) >>= fun x17 => some x17)) else (if a1.Op = 9 then (((if a1.N ≥ 0 then (some (decide (a1.N ≤ 3))) else (some false) : Option Bool) >>= fun x21 => some x21)) else (if a1.Op = 10 then (((if a1.N = 0 then (some true) else (some (decide (a1.N = 1))) : Option Bool) >>= fun x25 => some x25)) else (some (decide (a1.N = 0))))))))
def reticentref08_Right.l0 (a0 : api_Lattice) (a1 : List api_Instr) (v9 : Int) : Option (Bool ⊕ Unit) :=
 if v9 < (a1.length : Int) then (lAt a1 v9 >>= fun y11 => reticentref08_Instr.f (a0.Up.length : Int) y11 >>= fun y12 => if (!y12) = true then (some (.inl false)) else (reticentref08_Right.l0 a0 a1 (IntKind.i64.wrap (v9 + 1)))) else (some (.inr ()))
partial_fixpoint
def reticentref08_Right.f (a0 : api_Lattice) (a1 : List api_Instr) : Option Bool :=
 (reticentref08_Right.l0 a0 a1 0 >>= fun o => match o with | .inl r => some r | .inr () => some (decide ((a1.length : Int) ≤ 12)))
def reticentref09_label.f (a0 : api_Lattice) (a1 : Int) : Option Bool :=
 ((if a1 ≥ 0 then (some (decide (a1 < (a0.Up.length : Int)))) else (some false) : Option Bool) >>= fun x2 => some x2)
def reticentref09_Atoms.l0 (a0 : api_Lattice) (a1 : List api_Atom) (v21 : Int) : Option (Bool ⊕ Unit) :=
 if v21 < (a1.length : Int) then (lAt a1 v21 >>= fun y23 => ((if y23.V < (-20) then (some true) else (if y23.V > 20 then (some true) else (reticentref09_label.f a0 y23.L >>= fun y30 => some (!y30))) : Option Bool) >>= fun x27 => if x27 = true then (some (.inl false)) else (reticentref09_Atoms.l0 a0 a1 (IntKind.i64.wrap (v21 + 1))))) else (some (.inr ()))
partial_fixpoint
def reticentref09_Atoms.f (a0 : api_Lattice) (a1 : List api_Atom) : Option Bool :=
 (reticentref09_Atoms.l0 a0 a1 0 >>= fun o => match o with | .inl r => some r | .inr () => some true)
def reticentref09_Stack.l0 (a0 : api_Lattice) (a1 : List api_Slot) (v33 : Int) : Option (Bool ⊕ Unit) :=
 if v33 < (a1.length : Int) then (lAt a1 v33 >>= fun y35 => ((if y35.V < (-20) then (some true) else (if y35.V > 20 then (some true) else (reticentref09_label.f a0 y35.L >>= fun y45 => if (!y45) = true then (some true) else (if y35.Ret = true then (if y35.V < 0 then (some true) else (some (decide (y35.V > 12)))) else (some false)))) : Option Bool) >>= fun x42 => if x42 = true then (some (.inl false)) else (reticentref09_Stack.l0 a0 a1 (IntKind.i64.wrap (v33 + 1))))) else (some (.inr ()))
partial_fixpoint
def reticentref09_Stack.f (a0 : api_Lattice) (a1 : List api_Slot) : Option Bool :=
 (reticentref09_Stack.l0 a0 a1 0 >>= fun o => match o with | .inl r => some r | .inr () => some (decide ((a1.length : Int) ≤ 12)))
def reticentref09_Right.f (a0 : api_Lattice) (a1 : api_State) : Option Bool :=
 ((reticentref08_Right.f a0 a1.Code >>= fun y7 => if (!y7) = true then (some true) else (if a1.Pc.V < 0 then (some true) else (if a1.Pc.V > 12 then (some true) else (reticentref09_label.f a0 a1.Pc.L >>= fun y11 => some (!y11)))) : Option Bool) >>= fun x6 => if x6 = true then (some false) else (((reticentref09_Atoms.f a0 a1.Mem >>= fun y21 => if y21 = true then (if (a1.Mem.length : Int) ≤ 6 then (reticentref09_Stack.f a0 a1.Stack >>= fun y24 => if y24 = true then (reticentref09_Atoms.f a0 a1.Out >>= fun y26 => if y26 = true then (some (decide ((a1.Out.length : Int) ≤ 8))) else (some false)) else (some false)) else (some false)) else (some false) : Option Bool) >>= fun x20 => some x20)))
def reticentref10_May.f (a0 : api_Lattice) (a1 : api_Table) (a2 : api_State) : Option Int :=
 reticentref01_Check.f a0 >>= fun y1 => if y1 = 0 then (reticentref06_Check.f a1 >>= fun y3 => if y3.E = 0 then (reticentref09_Right.f a0 a2 >>= fun y5 => if (!y5) = true then (some 1) else (some 0)) else (reticentref06_Check.f a1 >>= fun y7 => some y7.E)) else (some y1)
def table_Usual.f : Option api_Table :=
 some (⟨([(⟨([1] : List Int), ([6] : List Int), ([8] : List Int)⟩ : api_Row), (⟨([1] : List Int), ([9] : List Int), ([8] : List Int)⟩ : api_Row), (⟨([1] : List Int), ([6] : List Int), ([8] : List Int)⟩ : api_Row), (⟨([1] : List Int), ([9, 10, 12] : List Int), ([8] : List Int)⟩ : api_Row), (⟨([1] : List Int), ([9, 10, 12] : List Int), ([8] : List Int)⟩ : api_Row), (⟨([1] : List Int), ([9, 10, 12] : List Int), ([8] : List Int)⟩ : api_Row), (⟨([9, 8, 12, 11, 5] : List Int), ([9, 10, 12, 8, 12] : List Int), ([8] : List Int)⟩ : api_Row), (⟨([1] : List Int), ([6] : List Int), ([9, 8, 12] : List Int)⟩ : api_Row), (⟨([1] : List Int), ([6] : List Int), ([9, 8, 12] : List Int)⟩ : api_Row), (⟨([1] : List Int), ([6] : List Int), ([9, 8, 12] : List Int)⟩ : api_Row), (⟨([1] : List Int), ([9, 8, 12] : List Int), ([10] : List Int)⟩ : api_Row), (⟨([1] : List Int), ([9, 8, 12] : List Int), ([8] : List Int)⟩ : api_Row), (⟨([1] : List Int), ([6] : List Int), ([8] : List Int)⟩ : api_Row)] : List api_Row)⟩ : api_Table)
def reticentlaw11_alive.f : Option Bool :=
 table_Usual.f >>= fun y1 => run_Run.f (⟨([([97] : Str), ([98] : Str)] : List Str), ([3, 2] : List Int)⟩ : api_Lattice) y1 (⟨⟨0, 0⟩, ([(⟨1, 1, 0⟩ : api_Instr), (⟨1, 2, 0⟩ : api_Instr), (⟨12, 0, 0⟩ : api_Instr)] : List api_Instr), [], [], []⟩ : api_State) 9 >>= fun y2 => ((if y2.2.2 = 0 then (if y2.2.1 = 1 then (if (y2.1.length : Int) = 3 then (lAt y2.1 2 >>= fun y11 => some (decide ((y11.Stack.length : Int) = 2))) else (some false)) else (some false)) else (some false) : Option Bool) >>= fun x7 => some x7)
def reticentref08_Same.l0 (a0 : List api_Instr) (a1 : List api_Instr) (v10 : Int) : Option (Bool ⊕ Unit) :=
 if v10 < (a0.length : Int) then (lAt a0 v10 >>= fun y12 => lAt a1 v10 >>= fun y13 => if y12 = y13 then (reticentref08_Same.l0 a0 a1 (IntKind.i64.wrap (v10 + 1))) else (some (.inl false))) else (some (.inr ()))
partial_fixpoint
def reticentref08_Same.f (a0 : List api_Instr) (a1 : List api_Instr) : Option Bool :=
 if (a0.length : Int) = (a1.length : Int) then ((reticentref08_Same.l0 a0 a1 0 >>= fun o => match o with | .inl r => some r | .inr () => some true)) else (some false)
def reticentref09_AtomsSame.l0 (a0 : List api_Atom) (a1 : List api_Atom) (v10 : Int) : Option (Bool ⊕ Unit) :=
 if v10 < (a0.length : Int) then (lAt a0 v10 >>= fun y12 => lAt a1 v10 >>= fun y13 => if y12 = y13 then (reticentref09_AtomsSame.l0 a0 a1 (IntKind.i64.wrap (v10 + 1))) else (some (.inl false))) else (some (.inr ()))
partial_fixpoint
def reticentref09_AtomsSame.f (a0 : List api_Atom) (a1 : List api_Atom) : Option Bool :=
 if (a0.length : Int) = (a1.length : Int) then ((reticentref09_AtomsSame.l0 a0 a1 0 >>= fun o => match o with | .inl r => some r | .inr () => some true)) else (some false)
def reticentref09_Same.l0 (a0 : api_State) (a1 : api_State) (v25 : Int) : Option (Bool ⊕ Unit) :=
 if v25 < (a0.Stack.length : Int) then (lAt a0.Stack v25 >>= fun y27 => lAt a1.Stack v25 >>= fun y28 => if y27 = y28 then (reticentref09_Same.l0 a0 a1 (IntKind.i64.wrap (v25 + 1))) else (some (.inl false))) else (some (.inr ()))
partial_fixpoint
def reticentref09_Same.f (a0 : api_State) (a1 : api_State) : Option Bool :=
 ((if a0.Pc = a1.Pc then (reticentref08_Same.f a0.Code a1.Code >>= fun y10 => if (!y10) = true then (some true) else (reticentref09_AtomsSame.f a0.Mem a1.Mem >>= fun y12 => if (!y12) = true then (some true) else (reticentref09_AtomsSame.f a0.Out a1.Out >>= fun y14 => if (!y14) = true then (some true) else (some (!decide ((a0.Stack.length : Int) = (a1.Stack.length : Int))))))) else (some true) : Option Bool) >>= fun x8 => if x8 = true then (some false) else ((reticentref09_Same.l0 a0 a1 0 >>= fun o => match o with | .inl r => some r | .inr () => some true)))
def reticentref01_Bottom.l0 (a0 : api_Lattice) (v5 : Int) (v6 : Int) : Option Int :=
 if v6 < (a0.Up.length : Int) then (reticentref01_Meet.f a0 v5 v6 >>= fun y9 => reticentref01_Bottom.l0 a0 y9 (IntKind.i64.wrap (v6 + 1))) else (some v5)
partial_fixpoint
def reticentref01_Bottom.f (a0 : api_Lattice) : Option Int :=
 (reticentref01_Bottom.l0 a0 0 0 >>= fun x7 => some x7)
def reticentref10_takes.f (a0 : api_Instr) : Option Int :=
 if a0.Op = 10 then (some a0.N) else (lAt ([0, 0, 1, 2, 2, 1, 2, 1, 1, 1, 0, 1, 0] : List Int) a0.Op >>= fun y2 => some y2)
def reticentref10_atom.f (a0 : api_State) (a1 : Int) : Option Bool :=
 ((if IntKind.i64.wrap ((IntKind.i64.wrap ((a0.Stack.length : Int) - 1)) - a1) ≥ 0 then (lAt a0.Stack (IntKind.i64.wrap ((IntKind.i64.wrap ((a0.Stack.length : Int) - 1)) - a1)) >>= fun y5 => some (!y5.Ret)) else (some false) : Option Bool) >>= fun x3 => some x3)
def reticentref10_frame.l0 (a0 : api_State) (v7 : Int) : Option (Int ⊕ Unit) :=
 if v7 ≥ 0 then (lAt a0.Stack v7 >>= fun y9 => if y9.Ret = true then (some (.inl v7)) else (reticentref10_frame.l0 a0 (IntKind.i64.wrap (v7 - 1)))) else (some (.inr ()))
partial_fixpoint
def reticentref10_frame.f (a0 : api_State) (a1 : Int) : Option Int :=
 (reticentref10_frame.l0 a0 (IntKind.i64.wrap (a1 - 1)) >>= fun o => match o with | .inl r => some r | .inr () => some (-1))
def reticentref10_Needs.l0 (a1 : api_State) (y1 : api_Instr) (v12 : Int) : Option (reticentref10_N ⊕ Unit) :=
 reticentref10_takes.f y1 >>= fun y13 => if v12 < y13 then (reticentref10_atom.f a1 v12 >>= fun y15 => if (!y15) = true then (some (.inl (⟨false, ⟨false, 0, 0⟩, ⟨false, 0, 0⟩, ⟨false, 0, 0⟩, 0, 0, 0, 0⟩ : reticentref10_N))) else (reticentref10_Needs.l0 a1 y1 (IntKind.i64.wrap (v12 + 1)))) else (some (.inr ()))
partial_fixpoint
def reticentref10_Needs.l4 (a1 : api_State) (y1 : api_Instr) (v162 : Int) : Option (reticentref10_N ⊕ Unit) :=
 if v162 < y1.N then (reticentref10_atom.f a1 (IntKind.i64.wrap (1 + v162)) >>= fun y164 => if (!y164) = true then (some (.inl (⟨false, ⟨false, 0, 0⟩, ⟨false, 0, 0⟩, ⟨false, 0, 0⟩, 0, 0, 0, 0⟩ : reticentref10_N))) else (reticentref10_Needs.l4 a1 y1 (IntKind.i64.wrap (v162 + 1)))) else (some (.inr ()))
partial_fixpoint
def reticentref10_Needs.f (a0 : api_Lattice) (a1 : api_State) : Option reticentref10_N :=
 lAt a1.Code a1.Pc.V >>= fun y1 => reticentref01_Bottom.f a0 >>= fun y2 => reticentref10_takes.f y1 >>= fun y3 => (reticentref10_Needs.l0 a1 y1 0 >>= fun o => match o with | .inl r => some r | .inr () => ((reticentref10_takes.f y1 >>= fun y21 => if y21 > 0 then (lAt a1.Stack (IntKind.i64.wrap ((a1.Stack.length : Int) - 1)) >>= fun y23 => some (⟨false, y23, ⟨false, 0, 0⟩, ⟨false, 0, 0⟩, y23.L, y2, y2, IntKind.i64.wrap ((a1.Stack.length : Int) - y3)⟩ : reticentref10_N)) else (some (⟨false, ⟨false, 0, 0⟩, ⟨false, 0, 0⟩, ⟨false, 0, 0⟩, y2, y2, y2, IntKind.i64.wrap ((a1.Stack.length : Int) - y3)⟩ : reticentref10_N)) : Option reticentref10_N) >>= fun x20 => ((reticentref10_takes.f y1 >>= fun y28 => if y28 > 1 then (lAt a1.Stack (IntKind.i64.wrap ((a1.Stack.length : Int) - 2)) >>= fun y30 => some (⟨x20.Is, x20.A, y30, x20.R, x20.One, y30.L, x20.Three, x20.Below⟩ : reticentref10_N)) else (some x20) : Option reticentref10_N) >>= fun x27 => ((((if y1.Op = 1 then (some (.inr (⟨true, x27.A, x27.B, x27.R, y1.L, x27.Two, x27.Three, x27.Below⟩ : reticentref10_N))) else (((if y1.Op = 5 then (some (decide (y1.Op = 5))) else (some (decide (y1.Op = 6))) : Option Bool) >>= fun x138 => if x138 = true then (((if x27.A.V < 0 then (some true) else (some (decide (x27.A.V ≥ (a1.Mem.length : Int)))) : Option Bool) >>= fun x142 => if x142 = true then (some (.inl (⟨false, ⟨false, 0, 0⟩, ⟨false, 0, 0⟩, ⟨false, 0, 0⟩, 0, 0, 0, 0⟩ : reticentref10_N))) else (if y1.Op = 5 then (lAt a1.Mem x27.A.V >>= fun y146 => some (.inr (⟨true, x27.A, x27.B, x27.R, x27.One, y146.L, x27.Three, x27.Below⟩ : reticentref10_N))) else (lAt a1.Mem x27.A.V >>= fun y147 => some (.inr (⟨true, x27.A, x27.B, x27.R, x27.One, x27.Two, y147.L, x27.Below⟩ : reticentref10_N)))))) else (((if y1.Op = 7 then (some (decide (y1.Op = 7))) else (some (decide (y1.Op = 9))) : Option Bool) >>= fun x149 => if x149 = true then (((if x27.A.V < 0 then (some true) else (some (decide (x27.A.V > 12))) : Option Bool) >>= fun x153 => if x153 = true then (some (.inl (⟨false, ⟨false, 0, 0⟩, ⟨false, 0, 0⟩, ⟨false, 0, 0⟩, 0, 0, 0, 0⟩ : reticentref10_N))) else ((reticentref10_Needs.l4 a1 y1 0 >>= fun o => match o with | .inl r => some (.inl r) | .inr () => some (.inr (⟨true, x27.A, x27.B, x27.R, x27.One, x27.Two, x27.Three, x27.Below⟩ : reticentref10_N)))))) else (if y1.Op = 10 then (reticentref10_frame.f a1 x27.Below >>= fun y167 => if y167 < 0 then (some (.inl (⟨false, ⟨false, 0, 0⟩, ⟨false, 0, 0⟩, ⟨false, 0, 0⟩, 0, 0, 0, 0⟩ : reticentref10_N))) else (lAt a1.Stack y167 >>= fun y169 => some (.inr (⟨true, x27.A, x27.B, y169, x27.One, y169.L, x27.Three, y167⟩ : reticentref10_N)))) else (some (.inr (⟨true, x27.A, x27.B, x27.R, x27.One, x27.Two, x27.Three, x27.Below⟩ : reticentref10_N)))))))) : Option (reticentref10_N ⊕ reticentref10_N)) >>= fun o => match o with | .inl r => some (.inl r) | .inr x135 => some (.inr x135)) : Option (reticentref10_N ⊕ reticentref10_N)) >>= fun o => match o with | .inl r => some r | .inr x100 => some x100))))
def reticentref01_Top.l0 (a0 : api_Lattice) (v5 : Int) (v6 : Int) : Option Int :=
 if v6 < (a0.Up.length : Int) then (reticentref01_Join.f a0 v5 v6 >>= fun y9 => reticentref01_Top.l0 a0 y9 (IntKind.i64.wrap (v6 + 1))) else (some v5)
partial_fixpoint
def reticentref01_Top.f (a0 : api_Lattice) : Option Int :=
 (reticentref01_Top.l0 a0 0 0 >>= fun x7 => some x7)
def reticentref07_Thing.B (rc : api_Lattice → (List Int) → (List Int) → Int → Option reticentref07_V) (a0 : api_Lattice) (a1 : List Int) (a2 : List Int) (a3 : Int) : Option reticentref07_V :=
 lAt a1 a3 >>= fun y1 => if y1 ≤ 2 then (some (⟨decide (y1 = 1), 0, a3⟩ : reticentref07_V)) else (if y1 = 6 then (reticentref01_Bottom.f a0 >>= fun y4 => some (⟨false, y4, a3⟩ : reticentref07_V)) else (if y1 = 7 then (reticentref01_Top.f a0 >>= fun y6 => some (⟨false, y6, a3⟩ : reticentref07_V)) else (((if y1 ≥ 8 then (some (decide (y1 ≤ 11))) else (some false) : Option Bool) >>= fun x8 => if x8 = true then (lAt a2 (IntKind.i64.wrap (y1 - 8)) >>= fun y11 => some (⟨false, y11, a3⟩ : reticentref07_V)) else (rc a0 a1 a2 (IntKind.i64.wrap (a3 - 1)) >>= fun y12 => rc a0 a1 a2 (IntKind.i64.wrap (y12.From - 1)) >>= fun y13 => ((if y1 = 3 then (((if y13.Is = true then (some y12.Is) else (some false) : Option Bool) >>= fun x32 => some (x32, 0))) else (if y1 = 4 then (((if y13.Is = true then (some true) else (some y12.Is) : Option Bool) >>= fun x36 => some (x36, 0))) else (if y1 = 5 then (reticentref01_Flows.f a0 y13.A y12.A >>= fun y39 => some (y39, 0)) else (if y1 = 12 then (reticentref01_Join.f a0 y13.A y12.A >>= fun y41 => some (false, y41)) else (if y1 = 13 then (reticentref01_Meet.f a0 y13.A y12.A >>= fun y43 => some (false, y43)) else (some (false, 0)))))) : Option (Bool × Int)) >>= fun o => match o with | (x28, x29) => some (⟨x28, x29, y13.From⟩ : reticentref07_V)))))))
def reticentref07_Thing.F : Nat → api_Lattice → (List Int) → (List Int) → Int → Option reticentref07_V
 | 0 => fun _ _ _ _ => none
 | k + 1 => reticentref07_Thing.B (reticentref07_Thing.F k)
def reticentref07_Thing.f (a0 : api_Lattice) (a1 : List Int) (a2 : List Int) (a3 : Int) : Option reticentref07_V := reticentref07_Thing.F 1000 a0 a1 a2 a3
def reticentref07_Judge.f (a0 : api_Lattice) (a1 : List Int) (a2 : List Int) : Option reticentref07_V :=
 reticentref07_Thing.f a0 a1 a2 (IntKind.i64.wrap ((a1.length : Int) - 1)) >>= fun y1 => some y1
def reticentref10_mem.l0 (a0 : api_State) (a1 : reticentref10_N) (a2 : Int) (v41 : List api_Atom) (v42 : Int) : Option (List api_Atom) :=
 if v42 < (a0.Mem.length : Int) then (((lAt a0.Mem v42 >>= fun y55 => ((lAt a0.Code a0.Pc.V >>= fun y59 => if y59.Op = 6 then (some (decide (v42 = a1.A.V))) else (some false) : Option Bool) >>= fun x58 => if x58 = true then (if (v41.length + ([(⟨a1.B.V, a2⟩ : api_Atom)] : List api_Atom).length) * 16 ≤ big then (some (v41 ++ ([(⟨a1.B.V, a2⟩ : api_Atom)] : List api_Atom))) else none) else (if (v41.length + ([y55] : List api_Atom).length) * 16 ≤ big then (some (v41 ++ ([y55] : List api_Atom))) else none)) : Option (List api_Atom)) >>= fun x54 => reticentref10_mem.l0 a0 a1 a2 x54 (IntKind.i64.wrap (v42 + 1)))) else (some v41)
partial_fixpoint
def reticentref10_mem.f (a0 : api_State) (a1 : reticentref10_N) (a2 : Int) : Option (List api_Atom) :=
 (reticentref10_mem.l0 a0 a1 a2 ([] : List api_Atom) 0 >>= fun x43 => some x43)
def reticentref10_with.f (a0 : List api_Slot) (a1 : api_Slot) : Option (List api_Slot) :=
 if (([] : List api_Slot).length + a0.length) * 24 ≤ big then (if ((([] : List api_Slot) ++ a0).length + ([a1] : List api_Slot).length) * 24 ≤ big then (some ((([] : List api_Slot) ++ a0) ++ ([a1] : List api_Slot))) else none) else none
def reticentref10_with_row.f (a0 : List api_Slot) (a1 : api_Slot) : Option (List api_Slot) :=
 if (([] : List api_Slot).length + a0.length) * 24 ≤ big then (if ((([] : List api_Slot) ++ a0).length + ([a1] : List api_Slot).length) * 24 ≤ big then (some ((([] : List api_Slot) ++ a0) ++ ([a1] : List api_Slot))) else none) else none
def reticentref10_stack.f (a0 : api_State) (a1 : reticentref10_N) (a2 : Int) : Option (List api_Slot) :=
 lAt a0.Code a0.Pc.V >>= fun y1 => if (0 : Int) ≤ a1.Below ∧ a1.Below ≤ (a0.Stack.length : Int) then (((if y1.Op = 1 then (reticentref10_with.f (lCut a0.Stack 0 a1.Below) (⟨false, y1.N, a2⟩ : api_Slot) >>= fun y21 => some (.inl y21)) else (if y1.Op = 3 then (reticentref10_with.f (lCut a0.Stack 0 a1.Below) (⟨false, IntKind.i64.wrap (a1.B.V + a1.A.V), a2⟩ : api_Slot) >>= fun y23 => some (.inl y23)) else (if y1.Op = 4 then (reticentref10_with.f (lCut a0.Stack 0 a1.Below) (⟨false, IntKind.i64.wrap (a1.B.V - a1.A.V), a2⟩ : api_Slot) >>= fun y25 => some (.inl y25)) else (if y1.Op = 5 then (lAt a0.Mem a1.A.V >>= fun y27 => reticentref10_with.f (lCut a0.Stack 0 a1.Below) (⟨false, y27.V, a2⟩ : api_Slot) >>= fun y28 => some (.inl y28)) else (if y1.Op = 9 then (if (0 : Int) ≤ IntKind.i64.wrap (a1.Below - y1.N) ∧ IntKind.i64.wrap (a1.Below - y1.N) ≤ ((lCut a0.Stack 0 a1.Below).length : Int) then (reticentref10_with_row.f (lCut (lCut a0.Stack 0 a1.Below) 0 (IntKind.i64.wrap (a1.Below - y1.N))) (⟨true, IntKind.i64.wrap (a0.Pc.V + 1), a0.Pc.L⟩ : api_Slot) >>= fun y31 => if (0 : Int) ≤ IntKind.i64.wrap (a1.Below - y1.N) ∧ IntKind.i64.wrap (a1.Below - y1.N) ≤ ((lCut a0.Stack 0 a1.Below).length : Int) then (if (y31.length + (lCut (lCut a0.Stack 0 a1.Below) (IntKind.i64.wrap (a1.Below - y1.N)) ((lCut a0.Stack 0 a1.Below).length : Int)).length) * 24 ≤ big then (some (.inl (y31 ++ (lCut (lCut a0.Stack 0 a1.Below) (IntKind.i64.wrap (a1.Below - y1.N)) ((lCut a0.Stack 0 a1.Below).length : Int))))) else none) else none) else none) else (if y1.Op = 10 then (if y1.N = 1 then (reticentref10_with.f (lCut a0.Stack 0 a1.Below) (⟨false, a1.A.V, a2⟩ : api_Slot) >>= fun y36 => some (.inl y36)) else (some (.inr ()))) else (some (.inr ()))))))) : Option ((List api_Slot) ⊕ Unit)) >>= fun o => match o with | .inl r => some r | .inr () => some (lCut a0.Stack 0 a1.Below))) else none
def reticentref10_next.f (a0 : api_State) (a1 : reticentref10_N) : Option Int :=
 lAt a0.Code a0.Pc.V >>= fun y1 => ((if y1.Op = 7 then (some true) else (some (decide (y1.Op = 9))) : Option Bool) >>= fun x3 => if x3 = true then (some a1.A.V) else (if y1.Op = 10 then (some a1.R.V) else (((if y1.Op = 8 then (some (!decide (a1.A.V = 0))) else (some false) : Option Bool) >>= fun x8 => if x8 = true then (some y1.N) else (some (IntKind.i64.wrap (a0.Pc.V + 1)))))))
def reticentref10_Step.f (a0 : api_Lattice) (a1 : api_Table) (a2 : api_State) : Option reticentref10_O :=
 if a2.Pc.V ≥ (a2.Code.length : Int) then (some (⟨a2, 3⟩ : reticentref10_O)) else (reticentref10_Needs.f a0 a2 >>= fun y2 => lAt a2.Code a2.Pc.V >>= fun y3 => if (!y2.Is) = true then (some (⟨a2, 3⟩ : reticentref10_O)) else (if y3.Op = 12 then (some (⟨a2, 1⟩ : reticentref10_O)) else (lAt a1.Rows y3.Op >>= fun y6 => reticentref07_Judge.f a0 y6.May ([a2.Pc.L, y2.One, y2.Two, y2.Three] : List Int) >>= fun y7 => if (!y7.Is) = true then (some (⟨a2, 2⟩ : reticentref10_O)) else (reticentref07_Judge.f a0 y6.Res ([a2.Pc.L, y2.One, y2.Two, y2.Three] : List Int) >>= fun y9 => reticentref10_mem.f a2 y2 y9.A >>= fun y10 => reticentref10_stack.f a2 y2 y9.A >>= fun y11 => reticentref10_next.f a2 y2 >>= fun y12 => reticentref07_Judge.f a0 y6.Pc ([a2.Pc.L, y2.One, y2.Two, y2.Three] : List Int) >>= fun y13 => if y3.Op = 11 then (if (([] : List api_Atom).length + a2.Out.length) * 16 ≤ big then (if ((([] : List api_Atom) ++ a2.Out).length + ([(⟨y2.A.V, y9.A⟩ : api_Atom)] : List api_Atom).length) * 16 ≤ big then (reticentref09_Right.f a0 (⟨⟨y12, y13.A⟩, a2.Code, y10, y11, (([] : List api_Atom) ++ a2.Out) ++ ([(⟨y2.A.V, y9.A⟩ : api_Atom)] : List api_Atom)⟩ : api_State) >>= fun y17 => if (!y17) = true then (some (⟨a2, 3⟩ : reticentref10_O)) else (some (⟨⟨⟨y12, y13.A⟩, a2.Code, y10, y11, (([] : List api_Atom) ++ a2.Out) ++ ([(⟨y2.A.V, y9.A⟩ : api_Atom)] : List api_Atom)⟩, 0⟩ : reticentref10_O))) else none) else none) else (reticentref09_Right.f a0 (⟨⟨y12, y13.A⟩, a2.Code, y10, y11, a2.Out⟩ : api_State) >>= fun y19 => if (!y19) = true then (some (⟨a2, 3⟩ : reticentref10_O)) else (some (⟨⟨⟨y12, y13.A⟩, a2.Code, y10, y11, a2.Out⟩, 0⟩ : reticentref10_O)))))))
def reticentref11_Run.l0 (a0 : api_Lattice) (a1 : api_Table) (a3 : Int) (v10 : api_State) (v11 : Int) (v12 : List api_State) (v13 : Int) : Option (reticentref11_R ⊕ (api_State × Int × (List api_State))) :=
 if v13 < a3 then (reticentref10_Step.f a0 a1 v10 >>= fun y18 => if y18.What = 0 then (if (v12.length + ([y18.S] : List api_State).length) * 112 ≤ big then (reticentref11_Run.l0 a0 a1 a3 y18.S y18.What (v12 ++ ([y18.S] : List api_State)) (IntKind.i64.wrap (v13 + 1))) else none) else (some (.inl (⟨v12, y18.What⟩ : reticentref11_R)))) else (some (.inr (v10, v11, v12)))
partial_fixpoint
def reticentref11_Run.f (a0 : api_Lattice) (a1 : api_Table) (a2 : api_State) (a3 : Int) : Option reticentref11_R :=
 if (([] : List api_State).length + ([a2] : List api_State).length) * 112 ≤ big then ((reticentref11_Run.l0 a0 a1 a3 a2 0 (([] : List api_State) ++ ([a2] : List api_State)) 0 >>= fun o => match o with | .inl r => some r | .inr (x14, x15, x16) => some (⟨x16, x15⟩ : reticentref11_R))) else none
def reticentlaw11_same.l0 (a0 : List api_State) (a1 : List api_State) (v12 : Int) : Option (Bool ⊕ Unit) :=
 if v12 < (a0.length : Int) then (lAt a0 v12 >>= fun y14 => lAt a1 v12 >>= fun y15 => reticentref09_Same.f y14 y15 >>= fun y16 => if (!y16) = true then (some (.inl false)) else (reticentlaw11_same.l0 a0 a1 (IntKind.i64.wrap (v12 + 1)))) else (some (.inr ()))
partial_fixpoint
def reticentlaw11_same.f (a0 : List api_State) (a1 : List api_State) : Option Bool :=
 if (a0.length : Int) = (a1.length : Int) then ((reticentlaw11_same.l0 a0 a1 0 >>= fun o => match o with | .inl r => some r | .inr () => some true)) else (some false)
def reticentref11_Last.f (a0 : reticentref11_R) : Option api_State :=
 lAt a0.L (IntKind.i64.wrap ((a0.L.length : Int) - 1)) >>= fun y1 => some y1
def reticentlaw11_RunStates.f (a0 : api_Lattice) (a1 : api_Table) (a2 : api_State) (a3 : Int) : Option Bool :=
 reticentlaw11_few.f a0 >>= fun y1 => reticentlaw11_rows.f a1 >>= fun y2 => reticentlaw11_cut.f a2 >>= fun y3 => run_Run.f y1 y2 y3 a3 >>= fun y4 => run_Last.f y1 y2 y3 a3 >>= fun y5 => reticentref10_May.f y1 y2 y3 >>= fun y6 => ((if y6 = 0 then (if a3 < 0 then (some true) else (some (decide (a3 > 40)))) else (some false) : Option Bool) >>= fun x9 => if x9 = true then (if 1 = 0 then (reticentref11_Run.f y1 y2 y3 a3 >>= fun y14 => ((reticentlaw11_alive.f >>= fun y26 => if y26 = true then (if y4.2.2 = 0 then (if y5.2.2 = 0 then (if y4.2.1 = y14.What then (if y5.2.1 = y4.2.1 then (reticentlaw11_same.f y4.1 y14.L >>= fun y32 => if y32 = true then (reticentref11_Last.f y14 >>= fun y34 => reticentref09_Same.f y5.1 y34 >>= fun y35 => some y35) else (some false)) else (some false)) else (some false)) else (some false)) else (some false)) else (some false) : Option Bool) >>= fun x25 => some x25)) else (((reticentlaw11_alive.f >>= fun y45 => if y45 = true then (if y4.2.2 = 1 then (if y5.2.2 = 1 then (if y4.2.1 = 0 then (if y5.2.1 = 0 then (if (y4.1.length : Int) = 0 then (reticentref09_Same.f y5.1 (⟨(⟨0, 0⟩ : api_Atom), [], [], [], []⟩ : api_State) >>= fun y52 => some y52) else (some false)) else (some false)) else (some false)) else (some false)) else (some false)) else (some false) : Option Bool) >>= fun x44 => some x44))) else (if y6 = 0 then (reticentref11_Run.f y1 y2 y3 a3 >>= fun y54 => ((reticentlaw11_alive.f >>= fun y66 => if y66 = true then (if y4.2.2 = 0 then (if y5.2.2 = 0 then (if y4.2.1 = y54.What then (if y5.2.1 = y4.2.1 then (reticentlaw11_same.f y4.1 y54.L >>= fun y72 => if y72 = true then (reticentref11_Last.f y54 >>= fun y74 => reticentref09_Same.f y5.1 y74 >>= fun y75 => some y75) else (some false)) else (some false)) else (some false)) else (some false)) else (some false)) else (some false) : Option Bool) >>= fun x65 => some x65)) else (((reticentlaw11_alive.f >>= fun y85 => if y85 = true then (if y4.2.2 = y6 then (if y5.2.2 = y6 then (if y4.2.1 = 0 then (if y5.2.1 = 0 then (if (y4.1.length : Int) = 0 then (reticentref09_Same.f y5.1 (⟨(⟨0, 0⟩ : api_Atom), [], [], [], []⟩ : api_State) >>= fun y92 => some y92) else (some false)) else (some false)) else (some false)) else (some false)) else (some false)) else (some false) : Option Bool) >>= fun x84 => some x84))))
end Go.Proofs.YtmegdednaimgcaaGreatDoor.TT
