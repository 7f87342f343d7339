import Derived.Test.YtmegdednaimgcaaGreatDoorCln
import Derived.Test.YtmegdednaimgcaaGreatDoorDTT
import Derived.Test.YtmegdednaimgcaaGreatDoorProg
set_option linter.unusedVariables false
set_option maxRecDepth 10000
set_option maxHeartbeats 2000000
set_option synthInstance.maxHeartbeats 200000
set_option synthInstance.maxSize 2000
namespace Go.Proofs.YtmegdednaimgcaaGreatDoor.TT
open Go Go.Proofs.YtmegdednaimgcaaGreatDoor.Ab

noncomputable abbrev PP : Program := Tryz.prog
theorem hm : PP.follows .mixedOrders = true := by kernel_rfl
theorem zL : ∀ {α : Type} {d : Kd α} (H : FH), (kL d).reps H [.slice none 0 0] [] := fun _ => ⟨none, 0, rfl, Nat.le_refl _, by omega, by simp [big], .inl rfl⟩
theorem ze25 : zeroIs PP 25 [(.slice none 0 0), (.slice none 0 0)] := by unfold zeroIs; kernel_rfl
theorem o25_1 : fofs PP 25 1 = some 1 := by kernel_rfl
instance jf25_1_api_Lattice : FlI PP 25 1 f_api_Lattice (kL (kI .u32)) api_Lattice.Up := ⟨o25_1, rfl⟩
theorem t23 : tinf PP 23 = some (false, 1) := by kernel_rfl
instance jt23 : TinI PP 23 (kL (kI .u32)) := ⟨t23⟩
theorem u23 : PP.underlying 23 = some (.slice 71) := by kernel_rfl
instance ju23 : UndI PP 23 71 := ⟨u23⟩
theorem z71 : sizeIs PP 71 1 := by unfold sizeIs; kernel_rfl
theorem pl25 : places PP 25 = some [(0, 1), (1, 1)] := by kernel_rfl
theorem po25_0 : ∀ q f, f_api_Lattice_n0[q]? = some f -> ([(0, 1), (1, 1)] : List (Nat × Nat))[q]? = some (offF f_api_Lattice_n0 q, f.d.sz) := fun q f h => by
  unfold f_api_Lattice_n0 at h
  match q, h with
  | 0, h => cases h; rfl
  | 1, h => cases h; rfl
  | n + 2, h => simp at h
theorem z25 : sizeIs PP 25 2 := by unfold sizeIs; kernel_rfl
theorem o25_0 : fofs PP 25 0 = some 0 := by kernel_rfl
instance jf25_0_api_Lattice : FlI PP 25 0 f_api_Lattice (kL kS) api_Lattice.Names := ⟨o25_0, rfl⟩
theorem t22 : tinf PP 22 = some (false, 1) := by kernel_rfl
instance jt22 : TinI PP 22 (kL kS) := ⟨t22⟩
theorem u22 : PP.underlying 22 = some (.slice 9) := by kernel_rfl
instance ju22 : UndI PP 22 9 := ⟨u22⟩
theorem z9 : sizeIs PP 9 1 := by unfold sizeIs; kernel_rfl
instance ji_i64_0 : IntI .i64 0 := ⟨by decide⟩
theorem t9 : tinf PP 9 = some (false, 1) := by kernel_rfl
instance jt9 : TinI PP 9 kS := ⟨t9⟩
instance jo25_0 : FofI PP 25 0 0 := ⟨o25_0⟩
theorem u9 : PP.underlying 9 = some (.string) := by kernel_rfl
theorem el22 : ElTy PP 22 9 1 16 := ⟨by kernel_rfl, by kernel_rfl⟩
theorem z22 : sizeIs PP 22 1 := by unfold sizeIs; kernel_rfl
instance ji_i64_1 : IntI .i64 1 := ⟨by decide⟩
theorem t25 : tinf PP 25 = some (true, 2) := by kernel_rfl
theorem ze28 : zeroIs PP 28 [(.slice none 0 0)] := by unfold zeroIs; kernel_rfl
theorem o28_0 : fofs PP 28 0 = some 0 := by kernel_rfl
instance jf28_0_api_Table : FlI PP 28 0 f_api_Table (kL (kR f_api_Row)) api_Table.Rows := ⟨o28_0, rfl⟩
theorem t26 : tinf PP 26 = some (false, 1) := by kernel_rfl
instance jt26 : TinI PP 26 (kL (kR f_api_Row)) := ⟨t26⟩
theorem u26 : PP.underlying 26 = some (.slice 61) := by kernel_rfl
instance ju26 : UndI PP 26 61 := ⟨u26⟩
theorem z61 : sizeIs PP 61 3 := by unfold sizeIs; kernel_rfl
theorem t61 : tinf PP 61 = some (true, 3) := by kernel_rfl
instance jt61 : TinI PP 61 (kR f_api_Row) := ⟨t61⟩
theorem ze61 : zeroIs PP 61 [(.slice none 0 0), (.slice none 0 0), (.slice none 0 0)] := by unfold zeroIs; kernel_rfl
abbrev Z61 : List Leaf := [.d (kL (kI .i64)) [], .d (kL (kI .i64)) [], .d (kL (kI .i64)) []]
theorem zl61 : ∀ g : G, leafs Z61 g [(.slice none 0 0), (.slice none 0 0), (.slice none 0 0)] := fun g => ⟨[(.slice none 0 0)], _, rfl, zL g.H, ⟨[(.slice none 0 0)], _, rfl, zL g.H, ⟨[(.slice none 0 0)], _, rfl, zL g.H, rfl⟩⟩⟩
instance jo28_0 : FofI PP 28 0 0 := ⟨o28_0⟩
theorem o61_0 : fofs PP 61 0 = some 0 := by kernel_rfl
instance jo61_0 : FofI PP 61 0 0 := ⟨o61_0⟩
theorem t59 : tinf PP 59 = some (false, 1) := by kernel_rfl
theorem u59 : PP.underlying 59 = some (.slice 3) := by kernel_rfl
instance ju59 : UndI PP 59 3 := ⟨u59⟩
theorem z3 : sizeIs PP 3 1 := by unfold sizeIs; kernel_rfl
theorem o61_1 : fofs PP 61 1 = some 1 := by kernel_rfl
instance jo61_1 : FofI PP 61 1 1 := ⟨o61_1⟩
theorem o61_2 : fofs PP 61 2 = some 2 := by kernel_rfl
instance jo61_2 : FofI PP 61 2 2 := ⟨o61_2⟩
theorem pl61 : places PP 61 = some [(0, 1), (1, 1), (2, 1)] := by kernel_rfl
theorem po61 : ∀ q f, f_api_Row[q]? = some f -> ([(0, 1), (1, 1), (2, 1)] : List (Nat × Nat))[q]? = some (offF f_api_Row q, f.d.sz) := fun q f h => by
  unfold f_api_Row at h
  match q, h with
  | 0, h => cases h; rfl
  | 1, h => cases h; rfl
  | 2, h => cases h; rfl
  | n + 3, h => simp at h
theorem el26 : ElTy PP 26 61 3 72 := ⟨by kernel_rfl, by kernel_rfl⟩
theorem z26 : sizeIs PP 26 1 := by unfold sizeIs; kernel_rfl
theorem t28 : tinf PP 28 = some (true, 1) := by kernel_rfl
theorem z28 : sizeIs PP 28 1 := by unfold sizeIs; kernel_rfl
abbrev L35 (x : api_State) : List Leaf := [.d (kI .i64) x.Pc.V, .d (kI .i64) x.Pc.L, .d (kL (kR f_api_Instr)) x.Code, .d (kL (kR f_api_Atom)) x.Mem, .d (kL (kR f_api_Slot)) x.Stack, .d (kL (kR f_api_Atom)) x.Out]
theorem pt35 {x : api_State} : Part (L35 x) (kR f_api_State) x := by
  have h : Part _ (kR f_api_State) x := (lfS (lfC (lfS (lfC lf1 (lfC lf1 lfN))) (lfC lf1 (lfC lf1 (lfC lf1 (lfC lf1 lfN))))))
  exact h
theorem zI_i64 : ∀ H, (kI .i64).reps H [.int .i64 0] 0 := fun _ => ⟨rfl, by decide⟩
theorem ze35 : zeroIs PP 35 [(.int .i64 0), (.int .i64 0), (.slice none 0 0), (.slice none 0 0), (.slice none 0 0), (.slice none 0 0)] := by unfold zeroIs; kernel_rfl
abbrev Z35 : List Leaf := [.d (kI .i64) 0, .d (kI .i64) 0, .d (kL (kR f_api_Instr)) [], .d (kL (kR f_api_Atom)) [], .d (kL (kR f_api_Slot)) [], .d (kL (kR f_api_Atom)) []]
theorem zl35 : ∀ g : G, leafs Z35 g [(.int .i64 0), (.int .i64 0), (.slice none 0 0), (.slice none 0 0), (.slice none 0 0), (.slice none 0 0)] := fun g => ⟨[(.int .i64 0)], _, rfl, zI_i64 g.H, ⟨[(.int .i64 0)], _, rfl, zI_i64 g.H, ⟨[(.slice none 0 0)], _, rfl, zL g.H, ⟨[(.slice none 0 0)], _, rfl, zL g.H, ⟨[(.slice none 0 0)], _, rfl, zL g.H, ⟨[(.slice none 0 0)], _, rfl, zL g.H, rfl⟩⟩⟩⟩⟩⟩
theorem o35_1 : fofs PP 35 1 = some 2 := by kernel_rfl
instance jo35_1 : FofI PP 35 1 2 := ⟨o35_1⟩
theorem t31 : tinf PP 31 = some (false, 1) := by kernel_rfl
theorem u31 : PP.underlying 31 = some (.slice 74) := by kernel_rfl
instance ju31 : UndI PP 31 74 := ⟨u31⟩
theorem z74 : sizeIs PP 74 3 := by unfold sizeIs; kernel_rfl
theorem o35_2 : fofs PP 35 2 = some 3 := by kernel_rfl
instance jo35_2 : FofI PP 35 2 3 := ⟨o35_2⟩
theorem t32 : tinf PP 32 = some (false, 1) := by kernel_rfl
theorem u32 : PP.underlying 32 = some (.slice 30) := by kernel_rfl
instance ju32 : UndI PP 32 30 := ⟨u32⟩
theorem z30 : sizeIs PP 30 2 := by unfold sizeIs; kernel_rfl
theorem o35_3 : fofs PP 35 3 = some 4 := by kernel_rfl
instance jo35_3 : FofI PP 35 3 4 := ⟨o35_3⟩
theorem t33 : tinf PP 33 = some (false, 1) := by kernel_rfl
theorem u33 : PP.underlying 33 = some (.slice 76) := by kernel_rfl
instance ju33 : UndI PP 33 76 := ⟨u33⟩
theorem z76 : sizeIs PP 76 3 := by unfold sizeIs; kernel_rfl
theorem o35_4 : fofs PP 35 4 = some 5 := by kernel_rfl
instance jo35_4 : FofI PP 35 4 5 := ⟨o35_4⟩
theorem z31 : sizeIs PP 31 1 := by unfold sizeIs; kernel_rfl
theorem z32 : sizeIs PP 32 1 := by unfold sizeIs; kernel_rfl
theorem z33 : sizeIs PP 33 1 := by unfold sizeIs; kernel_rfl
theorem t35 : tinf PP 35 = some (true, 6) := by kernel_rfl
theorem z35 : sizeIs PP 35 6 := by unfold sizeIs; kernel_rfl
instance ji_u8_97 : IntI .u8 97 := ⟨by decide⟩
instance ji_u8_122 : IntI .u8 122 := ⟨by decide⟩
instance ji_i64_12 : IntI .i64 12 := ⟨by decide⟩
instance ji_i64_m1 : IntI .i64 (-1) := ⟨by decide⟩
instance ji_i64_8 : IntI .i64 8 := ⟨by decide⟩
theorem b78 : bodied PP 78 := by unfold bodied; kernel_rfl
theorem t71 : tinf PP 71 = some (false, 1) := by kernel_rfl
instance jt71 : TinI PP 71 (kI .u32) := ⟨t71⟩
instance ji_u32_0 : IntI .u32 0 := ⟨by decide⟩
theorem t3 : tinf PP 3 = some (false, 1) := by kernel_rfl
instance jt3 : TinI PP 3 (kI .i64) := ⟨t3⟩
instance ji_u32_1 : IntI .u32 1 := ⟨by decide⟩
theorem zB : ∀ H, kB.reps H [.bool false] false := fun _ => rfl
theorem ze4 : zeroIs PP 4 [(.bool false)] := by unfold zeroIs; kernel_rfl
instance jt25 : TinI PP 25 (kR f_api_Lattice) := ⟨t25⟩
theorem b79 : bodied PP 79 := by unfold bodied; kernel_rfl
theorem z4 : sizeIs PP 4 1 := by unfold sizeIs; kernel_rfl
theorem t4 : tinf PP 4 = some (false, 1) := by kernel_rfl
theorem b80 : bodied PP 80 := by unfold bodied; kernel_rfl
theorem zI_u32 : ∀ H, (kI .u32).reps H [.int .u32 0] 0 := fun _ => ⟨rfl, by decide⟩
theorem ze71 : zeroIs PP 71 [(.int .u32 0)] := by unfold zeroIs; kernel_rfl
theorem b82 : bodied PP 82 := by unfold bodied; kernel_rfl
theorem b81 : bodied PP 81 := by unfold bodied; kernel_rfl
theorem ze39 : zeroIs PP 39 [(.int .i64 0)] := by unfold zeroIs; kernel_rfl
theorem z39 : sizeIs PP 39 1 := by unfold sizeIs; kernel_rfl
theorem t39 : tinf PP 39 = some (false, 1) := by kernel_rfl
theorem b43 : bodied PP 43 := by unfold bodied; kernel_rfl
theorem ze183 : zeroIs PP 183 [(.slice none 0 0)] := by unfold zeroIs; kernel_rfl
theorem t183 : tinf PP 183 = some (false, 1) := by kernel_rfl
theorem u183 : PP.underlying 183 = some (.slice 161) := by kernel_rfl
theorem z161 : sizeIs PP 161 1 := by unfold sizeIs; kernel_rfl
theorem t161 : tinf PP 161 = some (false, 1) := by kernel_rfl
theorem u161 : PP.underlying 161 = some (.bool) := by kernel_rfl
theorem z183 : sizeIs PP 183 1 := by unfold sizeIs; kernel_rfl
theorem el183 : ElTy PP 183 161 1 1 := ⟨by kernel_rfl, by kernel_rfl⟩
instance ji_i64_2 : IntI .i64 2 := ⟨by decide⟩
instance ji_i64_6 : IntI .i64 6 := ⟨by decide⟩
instance ji_i64_7 : IntI .i64 7 := ⟨by decide⟩
instance ji_i64_9 : IntI .i64 9 := ⟨by decide⟩
instance ji_i64_10 : IntI .i64 10 := ⟨by decide⟩
instance ji_i64_11 : IntI .i64 11 := ⟨by decide⟩
instance ji_i64_3 : IntI .i64 3 := ⟨by decide⟩
theorem b133 : bodied PP 133 := by unfold bodied; kernel_rfl
instance ji_i64_4 : IntI .i64 4 := ⟨by decide⟩
instance ji_i64_5 : IntI .i64 5 := ⟨by decide⟩
instance ji_i64_13 : IntI .i64 13 := ⟨by decide⟩
instance ji_i64_40 : IntI .i64 40 := ⟨by decide⟩
theorem u4 : PP.underlying 4 = some (.bool) := by kernel_rfl
instance jf61_0_api_Row : FlI PP 61 0 f_api_Row (kL (kI .i64)) api_Row.May := ⟨o61_0, rfl⟩
instance jt59 : TinI PP 59 (kL (kI .i64)) := ⟨t59⟩
theorem b84 : bodied PP 84 := by unfold bodied; kernel_rfl
instance jf61_1_api_Row : FlI PP 61 1 f_api_Row (kL (kI .i64)) api_Row.Res := ⟨o61_1, rfl⟩
instance jf61_2_api_Row : FlI PP 61 2 f_api_Row (kL (kI .i64)) api_Row.Pc := ⟨o61_2, rfl⟩
theorem gm0 : GlobIs (kI .i64) 0 gl0 := globI (.head _) (by kernel_rfl)
theorem u166 : PP.underlying 166 = some (.array 13 3) := by kernel_rfl
theorem b85 : bodied PP 85 := by unfold bodied; kernel_rfl
instance ji_i64_m20 : IntI .i64 (-20) := ⟨by decide⟩
instance ji_i64_20 : IntI .i64 20 := ⟨by decide⟩
theorem b135 : bodied PP 135 := by unfold bodied; kernel_rfl
theorem b134 : bodied PP 134 := by unfold bodied; kernel_rfl
theorem u168 : PP.underlying 168 = some (.map 3 99) := by kernel_rfl
theorem u3 : PP.underlying 3 = some (.int .i64) := by kernel_rfl
theorem mk3 : MKey PP 3 (.int .i64) (kI .i64) := keyI u3
theorem o74_0 : fofs PP 74 0 = some 0 := by kernel_rfl
instance jf74_0_api_Instr : FlI PP 74 0 f_api_Instr (kI .i64) api_Instr.Op := ⟨o74_0, rfl⟩
theorem zv99 : zeroV PP 99 .nilFunc := by unfold zeroV; kernel_rfl
theorem o74_1 : fofs PP 74 1 = some 1 := by kernel_rfl
instance jf74_1_api_Instr : FlI PP 74 1 f_api_Instr (kI .i64) api_Instr.N := ⟨o74_1, rfl⟩
theorem o74_2 : fofs PP 74 2 = some 2 := by kernel_rfl
instance jf74_2_api_Instr : FlI PP 74 2 f_api_Instr (kI .i64) api_Instr.L := ⟨o74_2, rfl⟩
theorem t74 : tinf PP 74 = some (true, 3) := by kernel_rfl
instance jt74 : TinI PP 74 (kR f_api_Instr) := ⟨t74⟩
theorem b86 : bodied PP 86 := by unfold bodied; kernel_rfl
theorem b88 : bodied PP 88 := by unfold bodied; kernel_rfl
theorem t30 : tinf PP 30 = some (true, 2) := by kernel_rfl
instance jt30 : TinI PP 30 (kR f_api_Atom) := ⟨t30⟩
theorem t76 : tinf PP 76 = some (true, 3) := by kernel_rfl
instance jt76 : TinI PP 76 (kR f_api_Slot) := ⟨t76⟩
theorem b46 : bodied PP 46 := by unfold bodied; kernel_rfl
theorem ze99 : zeroIs PP 99 [.nilFunc] := by unfold zeroIs; kernel_rfl
theorem z99 : sizeIs PP 99 1 := by unfold sizeIs; kernel_rfl
theorem o30_0 : fofs PP 30 0 = some 0 := by kernel_rfl
instance jf30_0_api_Atom : FlI PP 30 0 f_api_Atom (kI .i64) api_Atom.V := ⟨o30_0, rfl⟩
theorem b48 : bodied PP 48 := by unfold bodied; kernel_rfl
theorem t99 : tinf PP 99 = some (false, 1) := by kernel_rfl
instance jt99 : TinI PP 99 (kFn PP (rl1 (kI .i64) kB)) := ⟨t99⟩
theorem o30_1 : fofs PP 30 1 = some 1 := by kernel_rfl
instance jf30_1_api_Atom : FlI PP 30 1 f_api_Atom (kI .i64) api_Atom.L := ⟨o30_1, rfl⟩
theorem b47 : bodied PP 47 := by unfold bodied; kernel_rfl
theorem o76_2 : fofs PP 76 2 = some 2 := by kernel_rfl
instance jf76_2_api_Slot : FlI PP 76 2 f_api_Slot (kI .i64) api_Slot.L := ⟨o76_2, rfl⟩
theorem o76_0 : fofs PP 76 0 = some 0 := by kernel_rfl
instance jf76_0_api_Slot : FlI PP 76 0 f_api_Slot kB api_Slot.Ret := ⟨o76_0, rfl⟩
instance jt4 : TinI PP 4 kB := ⟨t4⟩
theorem o76_1 : fofs PP 76 1 = some 1 := by kernel_rfl
instance jf76_1_api_Slot : FlI PP 76 1 f_api_Slot (kI .i64) api_Slot.V := ⟨o76_1, rfl⟩
theorem b50 : bodied PP 50 := by unfold bodied; kernel_rfl
theorem b49 : bodied PP 49 := by unfold bodied; kernel_rfl
instance jf35_2_api_State : FlI PP 35 2 f_api_State (kL (kR f_api_Atom)) api_State.Mem := ⟨o35_2, rfl⟩
instance jt32 : TinI PP 32 (kL (kR f_api_Atom)) := ⟨t32⟩
instance jf35_3_api_State : FlI PP 35 3 f_api_State (kL (kR f_api_Slot)) api_State.Stack := ⟨o35_3, rfl⟩
instance jt33 : TinI PP 33 (kL (kR f_api_Slot)) := ⟨t33⟩
instance jf35_4_api_State : FlI PP 35 4 f_api_State (kL (kR f_api_Atom)) api_State.Out := ⟨o35_4, rfl⟩
instance jf35_1_api_State : FlI PP 35 1 f_api_State (kL (kR f_api_Instr)) api_State.Code := ⟨o35_1, rfl⟩
instance jt31 : TinI PP 31 (kL (kR f_api_Instr)) := ⟨t31⟩
theorem o35_0 : fofs PP 35 0 = some 0 := by kernel_rfl
instance jf35_0_api_State : FlI PP 35 0 f_api_State (kR f_api_Atom) api_State.Pc := ⟨o35_0, rfl⟩
theorem b52 : bodied PP 52 := by unfold bodied; kernel_rfl
theorem b53 : bodied PP 53 := by unfold bodied; kernel_rfl
theorem cb105 : conB PP 105 = true := by kernel_rfl
theorem b121 : bodied PP 121 := by unfold bodied; kernel_rfl
theorem b120 : bodied PP 120 := by unfold bodied; kernel_rfl
theorem b91 : bodied PP 91 := by unfold bodied; kernel_rfl
abbrev L111 (x : step_machine) : List Leaf := [.d (kL kS) x.l_.Names, .d (kL (kI .u32)) x.l_.Up, .d (kI .i64) x.s_.Pc.V, .d (kI .i64) x.s_.Pc.L, .d (kL (kR f_api_Instr)) x.s_.Code, .d (kL (kR f_api_Atom)) x.s_.Mem, .d (kL (kR f_api_Slot)) x.s_.Stack, .d (kL (kR f_api_Atom)) x.s_.Out, .d (kI .i64) x.x_.Op, .d (kI .i64) x.x_.N, .d (kI .i64) x.x_.L, .d kB x.a_.Ret, .d (kI .i64) x.a_.V, .d (kI .i64) x.a_.L, .d kB x.b_.Ret, .d (kI .i64) x.b_.V, .d (kI .i64) x.b_.L, .d kB x.r_.Ret, .d (kI .i64) x.r_.V, .d (kI .i64) x.r_.L, .d (kI .i64) x.below_, .d (kI .i64) x.one_.x0_, .d (kI .i64) x.one_.x1_, .d (kI .i64) x.one_.x2_]
theorem o111_2 : fofs PP 111 2 = some 8 := by kernel_rfl
instance jo111_2 : FofI PP 111 2 8 := ⟨o111_2⟩
instance jo74_2 : FofI PP 74 2 2 := ⟨o74_2⟩
theorem o111_7 : fofs PP 111 7 = some 21 := by kernel_rfl
instance jo111_7 : FofI PP 111 7 21 := ⟨o111_7⟩
theorem u109 : PP.underlying 109 = some (.array 3 3) := by kernel_rfl
theorem ze76 : zeroIs PP 76 [(.bool false), (.int .i64 0), (.int .i64 0)] := by unfold zeroIs; kernel_rfl
abbrev Z76 : List Leaf := [.d kB false, .d (kI .i64) 0, .d (kI .i64) 0]
theorem zl76 : ∀ g : G, leafs Z76 g [(.bool false), (.int .i64 0), (.int .i64 0)] := fun g => ⟨[(.bool false)], _, rfl, zB g.H, ⟨[(.int .i64 0)], _, rfl, zI_i64 g.H, ⟨[(.int .i64 0)], _, rfl, zI_i64 g.H, rfl⟩⟩⟩
theorem o111_1 : fofs PP 111 1 = some 2 := by kernel_rfl
instance jo111_1 : FofI PP 111 1 2 := ⟨o111_1⟩
theorem b55 : bodied PP 55 := by unfold bodied; kernel_rfl
theorem b122 : bodied PP 122 := by unfold bodied; kernel_rfl
theorem o111_3 : fofs PP 111 3 = some 11 := by kernel_rfl
instance jo111_3 : FofI PP 111 3 11 := ⟨o111_3⟩
abbrev L76 (x : api_Slot) : List Leaf := [.d kB x.Ret, .d (kI .i64) x.V, .d (kI .i64) x.L]
theorem pt76 {x : api_Slot} : Part (L76 x) (kR f_api_Slot) x := by
  have h : Part _ (kR f_api_Slot) x := (lfS (lfC lf1 (lfC lf1 (lfC lf1 lfN))))
  exact h
theorem o111_6 : fofs PP 111 6 = some 20 := by kernel_rfl
instance jo111_6 : FofI PP 111 6 20 := ⟨o111_6⟩
instance jo76_2 : FofI PP 76 2 2 := ⟨o76_2⟩
theorem b95 : bodied PP 95 := by unfold bodied; kernel_rfl
theorem o111_4 : fofs PP 111 4 = some 14 := by kernel_rfl
instance jo111_4 : FofI PP 111 4 14 := ⟨o111_4⟩
instance jo76_1 : FofI PP 76 1 1 := ⟨o76_1⟩
theorem b123 : bodied PP 123 := by unfold bodied; kernel_rfl
theorem b96 : bodied PP 96 := by unfold bodied; kernel_rfl
theorem b99 : bodied PP 99 := by unfold bodied; kernel_rfl
instance jo74_1 : FofI PP 74 1 1 := ⟨o74_1⟩
theorem o111_5 : fofs PP 111 5 = some 17 := by kernel_rfl
instance jo111_5 : FofI PP 111 5 17 := ⟨o111_5⟩
theorem u142 : PP.underlying 142 = some (.map 3 1) := by kernel_rfl
instance jo74_0 : FofI PP 74 0 0 := ⟨o74_0⟩
theorem zv1 : zeroV PP 1 .nilFunc := by unfold zeroV; kernel_rfl
theorem b93 : bodied PP 93 := by unfold bodied; kernel_rfl
theorem b94 : bodied PP 94 := by unfold bodied; kernel_rfl
theorem b97 : bodied PP 97 := by unfold bodied; kernel_rfl
theorem b98 : bodied PP 98 := by unfold bodied; kernel_rfl
theorem b100 : bodied PP 100 := by unfold bodied; kernel_rfl
theorem b101 : bodied PP 101 := by unfold bodied; kernel_rfl
theorem b124 : bodied PP 124 := by unfold bodied; kernel_rfl
theorem o151_2 : fofs PP 151 2 = some 3 := by kernel_rfl
instance jo151_2 : FofI PP 151 2 3 := ⟨o151_2⟩
theorem t149 : tinf PP 149 = some (false, 1) := by kernel_rfl
theorem el149 : ElTy PP 149 147 1 16 := ⟨by kernel_rfl, by kernel_rfl⟩
theorem z149 : sizeIs PP 149 1 := by unfold sizeIs; kernel_rfl
theorem u5 : PP.underlying 5 = some (.int .u8) := by kernel_rfl
theorem b137 : bodied PP 137 := by unfold bodied; kernel_rfl
theorem u149 : PP.underlying 149 = some (.slice 147) := by kernel_rfl
theorem z147 : sizeIs PP 147 1 := by unfold sizeIs; kernel_rfl
theorem t147 : tinf PP 147 = some (false, 1) := by kernel_rfl
theorem el59 : ElTy PP 59 3 1 8 := ⟨by kernel_rfl, by kernel_rfl⟩
theorem cb144 : conB PP 144 = true := by kernel_rfl
theorem zv144 : zeroV PP 144 (.bool false) := by unfold zeroV; kernel_rfl
theorem cb153 : conB PP 153 = true := by kernel_rfl
theorem zv153 : zeroV PP 153 (.int .i64 0) := by unfold zeroV; kernel_rfl
theorem o151_0 : fofs PP 151 0 = some 0 := by kernel_rfl
instance jo151_0 : FofI PP 151 0 0 := ⟨o151_0⟩
abbrev L25 (x : api_Lattice) : List Leaf := [.d (kL kS) x.Names, .d (kL (kI .u32)) x.Up]
theorem pt25 {x : api_Lattice} : Part (L25 x) (kR f_api_Lattice) x := by
  have h : Part _ (kR f_api_Lattice) x := (lfS (lfC lf1 (lfC lf1 lfN)))
  exact h
theorem b125 : bodied PP 125 := by unfold bodied; kernel_rfl
theorem o151_1 : fofs PP 151 1 = some 2 := by kernel_rfl
instance jo151_1 : FofI PP 151 1 2 := ⟨o151_1⟩
theorem b127 : bodied PP 127 := by unfold bodied; kernel_rfl
theorem b128 : bodied PP 128 := by unfold bodied; kernel_rfl
theorem pl151 : places PP 151 = some [(0, 2), (2, 1), (3, 1)] := by kernel_rfl
theorem po151_2 : ∀ q f, f_judge_judge_n2[q]? = some f -> ([(0, 2), (2, 1), (3, 1)] : List (Nat × Nat))[q]? = some (offF f_judge_judge_n2 q, f.d.sz) := fun q f h => by
  unfold f_judge_judge_n2 at h
  match q, h with
  | 0, h => cases h; rfl
  | 1, h => cases h; rfl
  | 2, h => cases h; rfl
  | n + 3, h => simp at h
theorem ze151 : zeroIs PP 151 [(.slice none 0 0), (.slice none 0 0), (.slice none 0 0), (.slice none 0 0)] := by unfold zeroIs; kernel_rfl
theorem b103 : bodied PP 103 := by unfold bodied; kernel_rfl
theorem pl76 : places PP 76 = some [(0, 1), (1, 1), (2, 1)] := by kernel_rfl
theorem po76 : ∀ q f, f_api_Slot[q]? = some f -> ([(0, 1), (1, 1), (2, 1)] : List (Nat × Nat))[q]? = some (offF f_api_Slot q, f.d.sz) := fun q f h => by
  unfold f_api_Slot at h
  match q, h with
  | 0, h => cases h; rfl
  | 1, h => cases h; rfl
  | 2, h => cases h; rfl
  | n + 3, h => simp at h
theorem el33 : ElTy PP 33 76 3 24 := ⟨by kernel_rfl, by kernel_rfl⟩
theorem u178 : PP.underlying 178 = some (.slice 33) := by kernel_rfl
instance ju178 : UndI PP 178 33 := ⟨u178⟩
theorem zR_api_Slot : ∀ H, (kR f_api_Slot).reps H [(.bool false), (.int .i64 0), (.int .i64 0)] (⟨false, 0, 0⟩ : api_Slot) := fun H => ⟨[(.bool false)], _, rfl, zB H, ⟨[(.int .i64 0)], _, rfl, zI_i64 H, ⟨[(.int .i64 0)], _, rfl, zI_i64 H, rfl⟩⟩⟩
theorem b129 : bodied PP 129 := by unfold bodied; kernel_rfl
theorem b104 : bodied PP 104 := by unfold bodied; kernel_rfl
instance jo35_0 : FofI PP 35 0 0 := ⟨o35_0⟩
instance jo30_0 : FofI PP 30 0 0 := ⟨o30_0⟩
theorem b105 : bodied PP 105 := by unfold bodied; kernel_rfl
theorem el32 : ElTy PP 32 30 2 16 := ⟨by kernel_rfl, by kernel_rfl⟩
theorem b106 : bodied PP 106 := by unfold bodied; kernel_rfl
theorem pl30 : places PP 30 = some [(0, 1), (1, 1)] := by kernel_rfl
theorem po30 : ∀ q f, f_api_Atom[q]? = some f -> ([(0, 1), (1, 1)] : List (Nat × Nat))[q]? = some (offF f_api_Atom q, f.d.sz) := fun q f h => by
  unfold f_api_Atom at h
  match q, h with
  | 0, h => cases h; rfl
  | 1, h => cases h; rfl
  | n + 2, h => simp at h
theorem ze30 : zeroIs PP 30 [(.int .i64 0), (.int .i64 0)] := by unfold zeroIs; kernel_rfl
instance jo30_1 : FofI PP 30 1 1 := ⟨o30_1⟩
theorem el178 : ElTy PP 178 33 1 24 := ⟨by kernel_rfl, by kernel_rfl⟩
theorem ze3 : zeroIs PP 3 [(.int .i64 0)] := by unfold zeroIs; kernel_rfl
instance jt35 : TinI PP 35 (kR f_api_State) := ⟨t35⟩
theorem po109 : ∀ q f, f_S109[q]? = some f -> (q * 1, 1) = (offF f_S109 q, f.d.sz) := fun q f h => by
  unfold f_S109 at h
  match q, h with
  | 0, h => cases h; rfl
  | 1, h => cases h; rfl
  | 2, h => cases h; rfl
  | n + 3, h => simp at h
theorem ze109 : zeroIs PP 109 [(.int .i64 0), (.int .i64 0), (.int .i64 0)] := by unfold zeroIs; kernel_rfl
theorem pl111 : places PP 111 = some [(0, 2), (2, 6), (8, 3), (11, 3), (14, 3), (17, 3), (20, 1), (21, 3)] := by kernel_rfl
theorem po111 : ∀ q f, f_step_machine[q]? = some f -> ([(0, 2), (2, 6), (8, 3), (11, 3), (14, 3), (17, 3), (20, 1), (21, 3)] : List (Nat × Nat))[q]? = some (offF f_step_machine q, f.d.sz) := fun q f h => by
  unfold f_step_machine at h
  match q, h with
  | 0, h => cases h; rfl
  | 1, h => cases h; rfl
  | 2, h => cases h; rfl
  | 3, h => cases h; rfl
  | 4, h => cases h; rfl
  | 5, h => cases h; rfl
  | 6, h => cases h; rfl
  | 7, h => cases h; rfl
  | n + 8, h => simp at h
theorem ze111 : zeroIs PP 111 [(.slice none 0 0), (.slice none 0 0), (.int .i64 0), (.int .i64 0), (.slice none 0 0), (.slice none 0 0), (.slice none 0 0), (.slice none 0 0), (.int .i64 0), (.int .i64 0), (.int .i64 0), (.bool false), (.int .i64 0), (.int .i64 0), (.bool false), (.int .i64 0), (.int .i64 0), (.bool false), (.int .i64 0), (.int .i64 0), (.int .i64 0), (.int .i64 0), (.int .i64 0), (.int .i64 0)] := by unfold zeroIs; kernel_rfl
theorem pt111 {x : step_machine} : Part (L111 x) (kR f_step_machine) x := by
  have h : Part _ (kR f_step_machine) x := (lfS (lfC (lfS (lfC lf1 (lfC lf1 lfN))) (lfC (lfS (lfC (lfS (lfC lf1 (lfC lf1 lfN))) (lfC lf1 (lfC lf1 (lfC lf1 (lfC lf1 lfN)))))) (lfC (lfS (lfC lf1 (lfC lf1 (lfC lf1 lfN)))) (lfC (lfS (lfC lf1 (lfC lf1 (lfC lf1 lfN)))) (lfC (lfS (lfC lf1 (lfC lf1 (lfC lf1 lfN)))) (lfC (lfS (lfC lf1 (lfC lf1 (lfC lf1 lfN)))) (lfC lf1 (lfC (lfS (lfC lf1 (lfC lf1 (lfC lf1 lfN)))) lfN)))))))))
  exact h
theorem b57 : bodied PP 57 := by unfold bodied; kernel_rfl
abbrev L61 (x : api_Row) : List Leaf := [.d (kL (kI .i64)) x.May, .d (kL (kI .i64)) x.Res, .d (kL (kI .i64)) x.Pc]
theorem b60 : bodied PP 60 := by unfold bodied; kernel_rfl
theorem u20 : PP.underlying 20 = some (.interface #[]) := by kernel_rfl
theorem b54 : bodied PP 54 := by unfold bodied; kernel_rfl
instance jt28 : TinI PP 28 (kR f_api_Table) := ⟨t28⟩
theorem zR_api_Atom : ∀ H, (kR f_api_Atom).reps H [(.int .i64 0), (.int .i64 0)] (⟨0, 0⟩ : api_Atom) := fun H => ⟨[(.int .i64 0)], _, rfl, zI_i64 H, ⟨[(.int .i64 0)], _, rfl, zI_i64 H, rfl⟩⟩
theorem pl35 : places PP 35 = some [(0, 2), (2, 1), (3, 1), (4, 1), (5, 1)] := by kernel_rfl
theorem po35 : ∀ q f, f_api_State[q]? = some f -> ([(0, 2), (2, 1), (3, 1), (4, 1), (5, 1)] : List (Nat × Nat))[q]? = some (offF f_api_State q, f.d.sz) := fun q f h => by
  unfold f_api_State at h
  match q, h with
  | 0, h => cases h; rfl
  | 1, h => cases h; rfl
  | 2, h => cases h; rfl
  | 3, h => cases h; rfl
  | 4, h => cases h; rfl
  | n + 5, h => simp at h
theorem ze49 : zeroIs PP 49 [(.slice none 0 0)] := by unfold zeroIs; kernel_rfl
theorem b38 : bodied PP 38 := by unfold bodied; kernel_rfl
theorem t49 : tinf PP 49 = some (false, 1) := by kernel_rfl
theorem el49 : ElTy PP 49 35 6 112 := ⟨by kernel_rfl, by kernel_rfl⟩
theorem z49 : sizeIs PP 49 1 := by unfold sizeIs; kernel_rfl
theorem b76 : bodied PP 76 := by unfold bodied; kernel_rfl
theorem b109 : bodied PP 109 := by unfold bodied; kernel_rfl
theorem b110 : bodied PP 110 := by unfold bodied; kernel_rfl
theorem b64 : bodied PP 64 := by unfold bodied; kernel_rfl
theorem b142 : bodied PP 142 := by unfold bodied; kernel_rfl
theorem b111 : bodied PP 111 := by unfold bodied; kernel_rfl
theorem b112 : bodied PP 112 := by unfold bodied; kernel_rfl
theorem ze69 : zeroIs PP 69 [(.int .i64 0), (.int .i64 0)] := by unfold zeroIs; kernel_rfl
abbrev Z69 : List Leaf := [.d (kI .i64) 0, .d (kI .i64) 0]
theorem zl69 : ∀ g : G, leafs Z69 g [(.int .i64 0), (.int .i64 0)] := fun g => ⟨[(.int .i64 0)], _, rfl, zI_i64 g.H, ⟨[(.int .i64 0)], _, rfl, zI_i64 g.H, rfl⟩⟩
theorem pl69 : places PP 69 = some [(0, 1), (1, 1)] := by kernel_rfl
theorem po69 : ∀ q f, f_reticentref06_W[q]? = some f -> ([(0, 1), (1, 1)] : List (Nat × Nat))[q]? = some (offF f_reticentref06_W q, f.d.sz) := fun q f h => by
  unfold f_reticentref06_W at h
  match q, h with
  | 0, h => cases h; rfl
  | 1, h => cases h; rfl
  | n + 2, h => simp at h
theorem z69 : sizeIs PP 69 2 := by unfold sizeIs; kernel_rfl
theorem t69 : tinf PP 69 = some (true, 2) := by kernel_rfl
theorem ze74 : zeroIs PP 74 [(.int .i64 0), (.int .i64 0), (.int .i64 0)] := by unfold zeroIs; kernel_rfl
abbrev Z74 : List Leaf := [.d (kI .i64) 0, .d (kI .i64) 0, .d (kI .i64) 0]
theorem zl74 : ∀ g : G, leafs Z74 g [(.int .i64 0), (.int .i64 0), (.int .i64 0)] := fun g => ⟨[(.int .i64 0)], _, rfl, zI_i64 g.H, ⟨[(.int .i64 0)], _, rfl, zI_i64 g.H, ⟨[(.int .i64 0)], _, rfl, zI_i64 g.H, rfl⟩⟩⟩
abbrev Z30 : List Leaf := [.d (kI .i64) 0, .d (kI .i64) 0]
theorem zl30 : ∀ g : G, leafs Z30 g [(.int .i64 0), (.int .i64 0)] := fun g => ⟨[(.int .i64 0)], _, rfl, zI_i64 g.H, ⟨[(.int .i64 0)], _, rfl, zI_i64 g.H, rfl⟩⟩
theorem b67 : bodied PP 67 := by unfold bodied; kernel_rfl
instance jo76_0 : FofI PP 76 0 0 := ⟨o76_0⟩
theorem b68 : bodied PP 68 := by unfold bodied; kernel_rfl
theorem b69 : bodied PP 69 := by unfold bodied; kernel_rfl
theorem ff69_1 : ffld PP 69 1 = some (1, 39) := by kernel_rfl
theorem pl28 : places PP 28 = some [(0, 1)] := by kernel_rfl
theorem po28 : ∀ q f, f_api_Table[q]? = some f -> ([(0, 1)] : List (Nat × Nat))[q]? = some (offF f_api_Table q, f.d.sz) := fun q f h => by
  unfold f_api_Table at h
  match q, h with
  | 0, h => cases h; rfl
  | n + 1, h => simp at h
theorem el23 : ElTy PP 23 71 1 4 := ⟨by kernel_rfl, by kernel_rfl⟩
theorem po25 : ∀ q f, f_api_Lattice[q]? = some f -> ([(0, 1), (1, 1)] : List (Nat × Nat))[q]? = some (offF f_api_Lattice q, f.d.sz) := fun q f h => by
  unfold f_api_Lattice at h
  match q, h with
  | 0, h => cases h; rfl
  | 1, h => cases h; rfl
  | n + 2, h => simp at h
abbrev Z25 : List Leaf := [.d (kL kS) [], .d (kL (kI .u32)) []]
theorem zl25 : ∀ g : G, leafs Z25 g [(.slice none 0 0), (.slice none 0 0)] := fun g => ⟨[(.slice none 0 0)], _, rfl, zL g.H, ⟨[(.slice none 0 0)], _, rfl, zL g.H, rfl⟩⟩
theorem pl74 : places PP 74 = some [(0, 1), (1, 1), (2, 1)] := by kernel_rfl
theorem po74 : ∀ q f, f_api_Instr[q]? = some f -> ([(0, 1), (1, 1), (2, 1)] : List (Nat × Nat))[q]? = some (offF f_api_Instr q, f.d.sz) := fun q f h => by
  unfold f_api_Instr at h
  match q, h with
  | 0, h => cases h; rfl
  | 1, h => cases h; rfl
  | 2, h => cases h; rfl
  | n + 3, h => simp at h
theorem el31 : ElTy PP 31 74 3 24 := ⟨by kernel_rfl, by kernel_rfl⟩
theorem u49 : PP.underlying 49 = some (.slice 35) := by kernel_rfl
instance ju49 : UndI PP 49 35 := ⟨u49⟩
theorem eqk74 : EqK PP (kR f_api_Instr) 74 2 := eqKR (fs := [(true, 0, 3), (true, 1, 3), (true, 2, 3)]) (by kernel_rfl) (by kernel_rfl) (.cons rfl t3 (eqKI u3) (.cons rfl t3 (eqKI u3) (.cons rfl t3 (eqKI u3) .nil))) (fun x y => by cases x; cases y; simp [api_Instr.mk.injEq, Bool.decide_and])
theorem eg74 : PP.eqGuardType PP.depth 74 = false := by kernel_rfl
theorem eqk30 : EqK PP (kR f_api_Atom) 30 2 := eqKR (fs := [(true, 0, 3), (true, 1, 3)]) (by kernel_rfl) (by kernel_rfl) (.cons rfl t3 (eqKI u3) (.cons rfl t3 (eqKI u3) .nil)) (fun x y => by cases x; cases y; simp [api_Atom.mk.injEq, Bool.decide_and])
theorem eg30 : PP.eqGuardType PP.depth 30 = false := by kernel_rfl
theorem b30 : bodied PP 30 := by unfold bodied; kernel_rfl
theorem b31 : bodied PP 31 := by unfold bodied; kernel_rfl
theorem eqk76 : EqK PP (kR f_api_Slot) 76 2 := eqKR (fs := [(true, 0, 4), (true, 1, 3), (true, 2, 3)]) (by kernel_rfl) (by kernel_rfl) (.cons rfl t4 (eqKB u4) (.cons rfl t3 (eqKI u3) (.cons rfl t3 (eqKI u3) .nil))) (fun x y => by cases x; cases y; simp [api_Slot.mk.injEq, Bool.decide_and])
theorem eg76 : PP.eqGuardType PP.depth 76 = false := by kernel_rfl
theorem ze80 : zeroIs PP 80 [(.bool false), (.bool false), (.int .i64 0), (.int .i64 0), (.bool false), (.int .i64 0), (.int .i64 0), (.bool false), (.int .i64 0), (.int .i64 0), (.int .i64 0), (.int .i64 0), (.int .i64 0), (.int .i64 0)] := by unfold zeroIs; kernel_rfl
abbrev Z80 : List Leaf := [.d kB false, .d kB false, .d (kI .i64) 0, .d (kI .i64) 0, .d kB false, .d (kI .i64) 0, .d (kI .i64) 0, .d kB false, .d (kI .i64) 0, .d (kI .i64) 0, .d (kI .i64) 0, .d (kI .i64) 0, .d (kI .i64) 0, .d (kI .i64) 0]
theorem zl80 : ∀ g : G, leafs Z80 g [(.bool false), (.bool false), (.int .i64 0), (.int .i64 0), (.bool false), (.int .i64 0), (.int .i64 0), (.bool false), (.int .i64 0), (.int .i64 0), (.int .i64 0), (.int .i64 0), (.int .i64 0), (.int .i64 0)] := fun g => ⟨[(.bool false)], _, rfl, zB g.H, ⟨[(.bool false)], _, rfl, zB g.H, ⟨[(.int .i64 0)], _, rfl, zI_i64 g.H, ⟨[(.int .i64 0)], _, rfl, zI_i64 g.H, ⟨[(.bool false)], _, rfl, zB g.H, ⟨[(.int .i64 0)], _, rfl, zI_i64 g.H, ⟨[(.int .i64 0)], _, rfl, zI_i64 g.H, ⟨[(.bool false)], _, rfl, zB g.H, ⟨[(.int .i64 0)], _, rfl, zI_i64 g.H, ⟨[(.int .i64 0)], _, rfl, zI_i64 g.H, ⟨[(.int .i64 0)], _, rfl, zI_i64 g.H, ⟨[(.int .i64 0)], _, rfl, zI_i64 g.H, ⟨[(.int .i64 0)], _, rfl, zI_i64 g.H, ⟨[(.int .i64 0)], _, rfl, zI_i64 g.H, rfl⟩⟩⟩⟩⟩⟩⟩⟩⟩⟩⟩⟩⟩⟩
theorem pl80 : places PP 80 = some [(0, 1), (1, 3), (4, 3), (7, 3), (10, 1), (11, 1), (12, 1), (13, 1)] := by kernel_rfl
theorem po80 : ∀ q f, f_reticentref10_N[q]? = some f -> ([(0, 1), (1, 3), (4, 3), (7, 3), (10, 1), (11, 1), (12, 1), (13, 1)] : List (Nat × Nat))[q]? = some (offF f_reticentref10_N q, f.d.sz) := fun q f h => by
  unfold f_reticentref10_N at h
  match q, h with
  | 0, h => cases h; rfl
  | 1, h => cases h; rfl
  | 2, h => cases h; rfl
  | 3, h => cases h; rfl
  | 4, h => cases h; rfl
  | 5, h => cases h; rfl
  | 6, h => cases h; rfl
  | 7, h => cases h; rfl
  | n + 8, h => simp at h
abbrev L80 (x : reticentref10_N) : List Leaf := [.d kB x.Is, .d kB x.A.Ret, .d (kI .i64) x.A.V, .d (kI .i64) x.A.L, .d kB x.B.Ret, .d (kI .i64) x.B.V, .d (kI .i64) x.B.L, .d kB x.R.Ret, .d (kI .i64) x.R.V, .d (kI .i64) x.R.L, .d (kI .i64) x.One, .d (kI .i64) x.Two, .d (kI .i64) x.Three, .d (kI .i64) x.Below]
theorem pt80 {x : reticentref10_N} : Part (L80 x) (kR f_reticentref10_N) x := by
  have h : Part _ (kR f_reticentref10_N) x := (lfS (lfC lf1 (lfC (lfS (lfC lf1 (lfC lf1 (lfC lf1 lfN)))) (lfC (lfS (lfC lf1 (lfC lf1 (lfC lf1 lfN)))) (lfC (lfS (lfC lf1 (lfC lf1 (lfC lf1 lfN)))) (lfC lf1 (lfC lf1 (lfC lf1 (lfC lf1 lfN)))))))))
  exact h
theorem z80 : sizeIs PP 80 14 := by unfold sizeIs; kernel_rfl
theorem t80 : tinf PP 80 = some (true, 14) := by kernel_rfl
theorem o80_1 : fofs PP 80 1 = some 1 := by kernel_rfl
instance jo80_1 : FofI PP 80 1 1 := ⟨o80_1⟩
theorem o80_4 : fofs PP 80 4 = some 10 := by kernel_rfl
instance jo80_4 : FofI PP 80 4 10 := ⟨o80_4⟩
theorem o80_2 : fofs PP 80 2 = some 4 := by kernel_rfl
instance jo80_2 : FofI PP 80 2 4 := ⟨o80_2⟩
theorem o80_5 : fofs PP 80 5 = some 11 := by kernel_rfl
instance jo80_5 : FofI PP 80 5 11 := ⟨o80_5⟩
theorem o80_0 : fofs PP 80 0 = some 0 := by kernel_rfl
instance jo80_0 : FofI PP 80 0 0 := ⟨o80_0⟩
theorem o80_6 : fofs PP 80 6 = some 12 := by kernel_rfl
instance jo80_6 : FofI PP 80 6 12 := ⟨o80_6⟩
abbrev L74 (x : api_Instr) : List Leaf := [.d (kI .i64) x.Op, .d (kI .i64) x.N, .d (kI .i64) x.L]
theorem o80_7 : fofs PP 80 7 = some 13 := by kernel_rfl
instance jo80_7 : FofI PP 80 7 13 := ⟨o80_7⟩
theorem o80_3 : fofs PP 80 3 = some 7 := by kernel_rfl
instance jo80_3 : FofI PP 80 3 7 := ⟨o80_3⟩
theorem ze83 : zeroIs PP 83 [(.bool false), (.int .i64 0), (.int .i64 0)] := by unfold zeroIs; kernel_rfl
abbrev Z83 : List Leaf := [.d kB false, .d (kI .i64) 0, .d (kI .i64) 0]
theorem zl83 : ∀ g : G, leafs Z83 g [(.bool false), (.int .i64 0), (.int .i64 0)] := fun g => ⟨[(.bool false)], _, rfl, zB g.H, ⟨[(.int .i64 0)], _, rfl, zI_i64 g.H, ⟨[(.int .i64 0)], _, rfl, zI_i64 g.H, rfl⟩⟩⟩
theorem pl83 : places PP 83 = some [(0, 1), (1, 1), (2, 1)] := by kernel_rfl
theorem po83 : ∀ q f, f_reticentref07_V[q]? = some f -> ([(0, 1), (1, 1), (2, 1)] : List (Nat × Nat))[q]? = some (offF f_reticentref07_V q, f.d.sz) := fun q f h => by
  unfold f_reticentref07_V at h
  match q, h with
  | 0, h => cases h; rfl
  | 1, h => cases h; rfl
  | 2, h => cases h; rfl
  | n + 3, h => simp at h
theorem z83 : sizeIs PP 83 3 := by unfold sizeIs; kernel_rfl
theorem t83 : tinf PP 83 = some (true, 3) := by kernel_rfl
theorem o83_2 : fofs PP 83 2 = some 2 := by kernel_rfl
instance jo83_2 : FofI PP 83 2 2 := ⟨o83_2⟩
theorem o83_0 : fofs PP 83 0 = some 0 := by kernel_rfl
instance jo83_0 : FofI PP 83 0 0 := ⟨o83_0⟩
abbrev L83 (x : reticentref07_V) : List Leaf := [.d kB x.Is, .d (kI .i64) x.A, .d (kI .i64) x.From]
theorem o83_1 : fofs PP 83 1 = some 1 := by kernel_rfl
instance jo83_1 : FofI PP 83 1 1 := ⟨o83_1⟩
instance jf80_1_reticentref10_N : FlI PP 80 1 f_reticentref10_N (kR f_api_Slot) reticentref10_N.A := ⟨o80_1, rfl⟩
instance jf80_2_reticentref10_N : FlI PP 80 2 f_reticentref10_N (kR f_api_Slot) reticentref10_N.B := ⟨o80_2, rfl⟩
instance jf80_7_reticentref10_N : FlI PP 80 7 f_reticentref10_N (kI .i64) reticentref10_N.Below := ⟨o80_7, rfl⟩
theorem b75 : bodied PP 75 := by unfold bodied; kernel_rfl
instance jf80_3_reticentref10_N : FlI PP 80 3 f_reticentref10_N (kR f_api_Slot) reticentref10_N.R := ⟨o80_3, rfl⟩
theorem ze46 : zeroIs PP 46 [(.int .i64 0), (.int .i64 0), (.slice none 0 0), (.slice none 0 0), (.slice none 0 0), (.slice none 0 0), (.int .i64 0)] := by unfold zeroIs; kernel_rfl
abbrev Z46 : List Leaf := [.d (kI .i64) 0, .d (kI .i64) 0, .d (kL (kR f_api_Instr)) [], .d (kL (kR f_api_Atom)) [], .d (kL (kR f_api_Slot)) [], .d (kL (kR f_api_Atom)) [], .d (kI .i64) 0]
theorem zl46 : ∀ g : G, leafs Z46 g [(.int .i64 0), (.int .i64 0), (.slice none 0 0), (.slice none 0 0), (.slice none 0 0), (.slice none 0 0), (.int .i64 0)] := fun g => ⟨[(.int .i64 0)], _, rfl, zI_i64 g.H, ⟨[(.int .i64 0)], _, rfl, zI_i64 g.H, ⟨[(.slice none 0 0)], _, rfl, zL g.H, ⟨[(.slice none 0 0)], _, rfl, zL g.H, ⟨[(.slice none 0 0)], _, rfl, zL g.H, ⟨[(.slice none 0 0)], _, rfl, zL g.H, ⟨[(.int .i64 0)], _, rfl, zI_i64 g.H, rfl⟩⟩⟩⟩⟩⟩⟩
theorem pl46 : places PP 46 = some [(0, 6), (6, 1)] := by kernel_rfl
theorem po46 : ∀ q f, f_reticentref10_O[q]? = some f -> ([(0, 6), (6, 1)] : List (Nat × Nat))[q]? = some (offF f_reticentref10_O q, f.d.sz) := fun q f h => by
  unfold f_reticentref10_O at h
  match q, h with
  | 0, h => cases h; rfl
  | 1, h => cases h; rfl
  | n + 2, h => simp at h
abbrev L46 (x : reticentref10_O) : List Leaf := [.d (kI .i64) x.S.Pc.V, .d (kI .i64) x.S.Pc.L, .d (kL (kR f_api_Instr)) x.S.Code, .d (kL (kR f_api_Atom)) x.S.Mem, .d (kL (kR f_api_Slot)) x.S.Stack, .d (kL (kR f_api_Atom)) x.S.Out, .d (kI .i64) x.What]
theorem pt46 {x : reticentref10_O} : Part (L46 x) (kR f_reticentref10_O) x := by
  have h : Part _ (kR f_reticentref10_O) x := (lfS (lfC (lfS (lfC (lfS (lfC lf1 (lfC lf1 lfN))) (lfC lf1 (lfC lf1 (lfC lf1 (lfC lf1 lfN)))))) (lfC lf1 lfN)))
  exact h
theorem z46 : sizeIs PP 46 7 := by unfold sizeIs; kernel_rfl
theorem t46 : tinf PP 46 = some (true, 7) := by kernel_rfl
theorem ff83_0 : ffld PP 83 0 = some (0, 4) := by kernel_rfl
theorem ff83_1 : ffld PP 83 1 = some (1, 3) := by kernel_rfl
abbrev L30 (x : api_Atom) : List Leaf := [.d (kI .i64) x.V, .d (kI .i64) x.L]
theorem pt30 {x : api_Atom} : Part (L30 x) (kR f_api_Atom) x := by
  have h : Part _ (kR f_api_Atom) x := (lfS (lfC lf1 (lfC lf1 lfN)))
  exact h
theorem ze54 : zeroIs PP 54 [(.slice none 0 0), (.int .i64 0)] := by unfold zeroIs; kernel_rfl
theorem pl54 : places PP 54 = some [(0, 1), (1, 1)] := by kernel_rfl
theorem po54_0 : ∀ q f, f_reticentref11_R_n0[q]? = some f -> ([(0, 1), (1, 1)] : List (Nat × Nat))[q]? = some (offF f_reticentref11_R_n0 q, f.d.sz) := fun q f h => by
  unfold f_reticentref11_R_n0 at h
  match q, h with
  | 0, h => cases h; rfl
  | 1, h => cases h; rfl
  | n + 2, h => simp at h
theorem z54 : sizeIs PP 54 2 := by unfold sizeIs; kernel_rfl
theorem o54_0 : fofs PP 54 0 = some 0 := by kernel_rfl
instance jo54_0 : FofI PP 54 0 0 := ⟨o54_0⟩
theorem o46_1 : fofs PP 46 1 = some 6 := by kernel_rfl
instance jo46_1 : FofI PP 46 1 6 := ⟨o46_1⟩
theorem o54_1 : fofs PP 54 1 = some 1 := by kernel_rfl
instance jo54_1 : FofI PP 54 1 1 := ⟨o54_1⟩
theorem o46_0 : fofs PP 46 0 = some 0 := by kernel_rfl
instance jo46_0 : FofI PP 46 0 0 := ⟨o46_0⟩
theorem t54 : tinf PP 54 = some (true, 2) := by kernel_rfl
theorem b11 : bodied PP 11 := by unfold bodied; kernel_rfl
instance jf54_0_reticentref11_R : FlI PP 54 0 f_reticentref11_R (kL (kR f_api_State)) reticentref11_R.L := ⟨o54_0, rfl⟩
instance jt49 : TinI PP 49 (kL (kR f_api_State)) := ⟨t49⟩
abbrev Z54 : List Leaf := [.d (kL (kR f_api_State)) [], .d (kI .i64) 0]
theorem zl54 : ∀ g : G, leafs Z54 g [(.slice none 0 0), (.int .i64 0)] := fun g => ⟨[(.slice none 0 0)], _, rfl, zL g.H, ⟨[(.int .i64 0)], _, rfl, zI_i64 g.H, rfl⟩⟩
theorem b20 : bodied PP 20 := by unfold bodied; kernel_rfl
theorem b21 : bodied PP 21 := by unfold bodied; kernel_rfl
theorem reticentlaw11_few.ok {a0 : api_Lattice} {r : api_Lattice} (h : reticentlaw11_few.f a0 = some r) : FnA PP 13 [(kR f_api_Lattice).sig a0] ((kR f_api_Lattice).sig r) := by
 refine fnIntro Tryz.func13 u (by kernel_rfl) fun H0 w0 => ?_
 unfold reticentlaw11_few.f at h
 refine wSeq <| rx (c1 <| cw (oAlloc (id := 2) (ls := [.d (kN Str) [], .d (kL (kI .u32)) []]) ze25 (fun g => ⟨[(.slice none 0 0)], _, u, zN g.H, ⟨[(.slice none 0 0)], _, u, zL g.H, u⟩⟩)) tv <| .nil) <| pSeq <| wSeq ?_
 obtain ⟨hc1, h⟩ := ib h
 refine rx (c4 <| c1 <| cp (oMin tm (cI (by decide))) (s1 u) <| cp (oCutHi u23 z71 hc1.1 hc1.2 tm tm) (s2 u u) <| cp (oBuild (fs := f_api_Lattice_n0) (u := ⟨[], lCut a0.Up 0 (if 10 < (a0.Up.length : Int) then 10 else (a0.Up.length : Int))⟩) u ze25 pl25 po25_0 (.ze (zc := [(.slice none 0 0)]) zN (.op (zc := [(.slice none 0 0)]) tm u .nil))) (s1 u) <| cw (oAlloc (id := 3) (ls := [.d (kN Str) [], .d (kL (kI .u32)) []]) ze25 (fun g => ⟨[(.slice none 0 0)], _, u, zN g.H, ⟨[(.slice none 0 0)], _, u, zL g.H, u⟩⟩)) tv <| cwn (oStA (n := 0) (fs := f_api_Lattice_n0) u u z25 tm tm) (s2 u u) <| .nil) <| pSeq <| wSeq <| wSeq ?_
 obtain ⟨hc2, h⟩ := ib h
 refine rx (c4 <| c1 <| cp (oMin tm (cI (by decide))) (s1 u) <| cp (oCutHi u22 z9 hc2.1 hc2.2 tm tm) (s2 u u) <| c2 <| .nil) <| pSeq <| wNilL kS 9 5150 (n := 0) (k := 0) u u u ?_
 obtain ⟨o1, h, hk1⟩ := bd h
 refine wK1 (fun x13 => x13 = o1) (fun x13 => [(2, .p 2 0), (3, .p 3 0)]) (fun x13 => [.row 5150 9 kS x13, .box 3 25 [.v 5150, .d (kL (kI .u32)) (lCut a0.Up 0 (if 10 < (a0.Up.length : Int) then 10 else (a0.Up.length : Int)))], .box 2 25 [.d (kN Str) [], .d (kL (kI .u32)) []]]) ?_ ?_
 ·refine wBlock (wLoop ?_)
  refine lW (pc2 o1 (fun v11 v12 => [(2, .p 2 0), (3, .p 3 0), (20, .d ((kL kS).sig (lCut a0.Names 0 (if 10 < (a0.Names.length : Int) then 10 else (a0.Names.length : Int))))), (21, .d (ki.sig ((lCut a0.Names 0 (if 10 < (a0.Names.length : Int) then 10 else (a0.Names.length : Int))).length : Int))), (22, .d (ki.sig v12))]) (fun v11 v12 => [.row 5150 9 kS v11, .box 3 25 [.v 5150, .d (kL (kI .u32)) (lCut a0.Up 0 (if 10 < (a0.Up.length : Int) then 10 else (a0.Up.length : Int)))], .box 2 25 [.d (kN Str) [], .d (kL (kI .u32)) []]]) (reticentlaw11_few.l0.partial_correctness a0) ?_ _ _ h) ⟨u, u, u, u, u, tv⟩ u
  clear h
  intro f' ih v11 v12 h
  refine wSeq <| rx (c1 <| .nil) <| pSeq <| wSeq ?_
  obtain ⟨hp14, h⟩ | ⟨hp14, h⟩ := ik h
  ·refine wCT hp14.1 tm (s1 u) <| wSkip <| pSeq <| wSeq <| wBlock <| wSeq ?_
   obtain ⟨y15, hy15, h⟩ := bd h
   refine rx (cp (oIdx u22 z9 hy15 tm tm) (s2 u u) <| c2 <| .nil) <| pSeq ?_
   obtain ⟨hc16, h⟩ := ib h
   obtain ⟨hc17, h⟩ := ib h
   exact rdx hm (c1 <| cr (oLdN (n := 1) (k := 0) u u u t22 tm) (s1 u) <| c2 <| cp (oLenS u9 tm) (s1 u) <| cp (oMin tm (cI (by decide))) (s1 u) <| cp (oCutSH u9 hc16.1 hc16.2 tm tm) (s2 u u) <| cp (oLit (d := kS) el22 (by decide) u u u (e1 tm e0)) (s1 u) <| cw (oApp (n := 0) (id' := 34) el22 (by decide) u (by decide) hc17 tm tm) (s2 u u) <| c1 <| cwn (oStN (n := 1) (m := 0) (k := 0) u u u u z22 u tm tm) (s2 u u) <| .nil) <| pBlkN <| pSeq <| rx (c2 <| .nil) <| pSub (Γ' := [(2, .p 2 0), (3, .p 3 0), (20, .d ((kL kS).sig (lCut a0.Names 0 (if 10 < (a0.Names.length : Int) then 10 else (a0.Names.length : Int))))), (21, .d (ki.sig ((lCut a0.Names 0 (if 10 < (a0.Names.length : Int) then 10 else (a0.Names.length : Int))).length : Int))), (22, .d (ki.sig (IntKind.i64.wrap (v12 + 1))))]) (sb u) <| pRen 34 5150 u <| pLoop (lW (ih _ _ h) ⟨u, u, u, u, u, tv⟩ u)
  ·exact wCF hp14.1 tm (s1 u) <| wExit <| pThenX <| pThenX <| pBlkX <| pJ1 _ (so h) (sb u) u
 ·rintro x13 rfl
  replace h := hk1
  refine pSeq <| wSeq <| wFrzR (n := 0) (id := 5150) [] u u tv <| rx (cr (oLdA (n := 0) (fs := f_api_Lattice) (u := ⟨x13, lCut a0.Up 0 (if 10 < (a0.Up.length : Int) then 10 else (a0.Up.length : Int))⟩) u ⟨u, u, tv⟩ t25 tm) (s1 u) <| cwn (oStA (n := 1) (fs := f_api_Lattice) u u z25 tm tm) (s2 u u) <| .nil) <| pSeq <| wRet ?_
  obtain rfl := so h
  exact pR1 (.inl u) u (.box (n := 1) (fs := f_api_Lattice) (u := ⟨x13, lCut a0.Up 0 (if 10 < (a0.Up.length : Int) then 10 else (a0.Up.length : Int))⟩) u u ⟨u, u, tv⟩ t25 <| .nil)
theorem reticentlaw11_rows.ok {a0 : api_Table} {r : api_Table} (h : reticentlaw11_rows.f a0 = some r) : FnA PP 14 [(kR f_api_Table).sig a0] ((kR f_api_Table).sig r) := by
 refine fnIntro Tryz.func14 u (by kernel_rfl) fun H0 w0 => ?_
 unfold reticentlaw11_rows.f at h
 refine wSeq <| rx (c1 <| cw (oAlloc (id := 2) (ls := [.d (kN api_Row) []]) ze28 (fun g => ⟨[(.slice none 0 0)], _, u, zN g.H, u⟩)) tv <| .nil) <| pSeq <| wSeq <| rx (cw (oAlloc (id := 3) (ls := [.d (kN api_Row) []]) ze28 (fun g => ⟨[(.slice none 0 0)], _, u, zN g.H, u⟩)) tv <| .nil) <| pSeq <| wSeq <| wSeq ?_
 obtain ⟨hc1, h⟩ := ib h
 refine rx (c4 <| c1 <| cp (oMin tm (cI (by decide))) (s1 u) <| cp (oCutHi u26 z61 hc1.1 hc1.2 tm tm) (s2 u u) <| c2 <| .nil) <| pSeq <| wNilL (kR f_api_Row) 61 5150 (n := 0) (k := 0) u u u ?_
 obtain ⟨o1, h, hk1⟩ := bd h
 refine wK1 (fun x16 => x16 = o1) (fun x16 => [(2, .p 2 0), (3, .p 3 0)]) (fun x16 => [.row 5150 61 (kR f_api_Row) x16, .box 3 28 [.v 5150], .box 2 28 [.d (kN api_Row) []]]) ?_ ?_
 ·refine wBlock (wLoop ?_)
  refine lW (pc2 o1 (fun v14 v15 => [(2, .p 2 0), (3, .p 3 0), (12, .d ((kL (kR f_api_Row)).sig (lCut a0.Rows 0 (if 15 < (a0.Rows.length : Int) then 15 else (a0.Rows.length : Int))))), (13, .d (ki.sig ((lCut a0.Rows 0 (if 15 < (a0.Rows.length : Int) then 15 else (a0.Rows.length : Int))).length : Int))), (14, .d (ki.sig v15))]) (fun v14 v15 => [.row 5150 61 (kR f_api_Row) v14, .box 3 28 [.v 5150], .box 2 28 [.d (kN api_Row) []]]) (reticentlaw11_rows.l0.partial_correctness a0) ?_ _ _ h) ⟨u, u, u, u, u, tv⟩ u
  clear h
  intro f' ih v14 v15 h
  refine wSeq <| rx (c1 <| .nil) <| pSeq <| wSeq ?_
  obtain ⟨hp17, h⟩ | ⟨hp17, h⟩ := ik h
  ·refine wCT hp17.1 tm (s1 u) <| wSkip <| pSeq <| wSeq <| wBlock <| wSeq ?_
   obtain ⟨y18, hy18, h⟩ := bd h
   refine rx (cp (oIdx u26 z61 hy18 tm tm) (s2 u u) <| c1 <| cw (oAlloc (id := 5) (ls := Z61) ze61 zl61) tv <| cwn (oStA (n := 0) (fs := f_api_Row) u u z61 tm tm) (s2 u u) <| .nil) <| pSeq ?_
   obtain ⟨hc19, h⟩ := ib h
   obtain ⟨hc20, h⟩ := ib h
   obtain ⟨hc21, h⟩ := ib h
   obtain ⟨hc22, h⟩ := ib h
   exact rdx hm (c1 <| cr (oLdN (n := 2) (k := 0) u u u t26 tm) (s1 u) <| c1 <| cr (oLdB (n := 0) (k := 0) u u u t59 tm) (s1 u) <| c1 <| cr (oLdB (n := 0) (k := 0) u u u t59 tm) (s1 u) <| c1 <| cp (oMin tm (cI (by decide))) (s1 u) <| cp (oCutHi u59 z3 hc19.1 hc19.2 tm tm) (s2 u u) <| c1 <| cr (oLdB (n := 0) (k := 1) u u u t59 tm) (s1 u) <| c1 <| cr (oLdB (n := 0) (k := 1) u u u t59 tm) (s1 u) <| c1 <| cp (oMin tm (cI (by decide))) (s1 u) <| cp (oCutHi u59 z3 hc20.1 hc20.2 tm tm) (s2 u u) <| c1 <| cr (oLdB (n := 0) (k := 2) u u u t59 tm) (s1 u) <| c1 <| cr (oLdB (n := 0) (k := 2) u u u t59 tm) (s1 u) <| c1 <| cp (oMin tm (cI (by decide))) (s1 u) <| cp (oCutHi u59 z3 hc21.1 hc21.2 tm tm) (s2 u u) <| cp (oBuild (fs := f_api_Row) (u := ⟨lCut y18.May 0 (if 45 < (y18.May.length : Int) then 45 else (y18.May.length : Int)), lCut y18.Res 0 (if 45 < (y18.Res.length : Int) then 45 else (y18.Res.length : Int)), lCut y18.Pc 0 (if 45 < (y18.Pc.length : Int) then 45 else (y18.Pc.length : Int))⟩) u ze61 pl61 po61 (.op (zc := [(.slice none 0 0)]) tm u (.op (zc := [(.slice none 0 0)]) tm u (.op (zc := [(.slice none 0 0)]) tm u .nil)))) (s3 u u u) <| cp (oLit (d := (kR f_api_Row)) el26 (by decide) u u u (e1 tm e0)) (s1 u) <| cw (oApp (n := 1) (id' := 43) el26 (by decide) u (by decide) hc22 tm tm) (s2 u u) <| c1 <| cwn (oStN (n := 2) (m := 1) (k := 0) u u u u z26 u tm tm) (s2 u u) <| .nil) <| pBlkN <| pSeq <| rx (c2 <| .nil) <| pDrop (.cons _ (.cons_cons _ (.cons_cons _ (.cons_cons _ .slnil)))) <| pSub (Γ' := [(2, .p 2 0), (3, .p 3 0), (12, .d ((kL (kR f_api_Row)).sig (lCut a0.Rows 0 (if 15 < (a0.Rows.length : Int) then 15 else (a0.Rows.length : Int))))), (13, .d (ki.sig ((lCut a0.Rows 0 (if 15 < (a0.Rows.length : Int) then 15 else (a0.Rows.length : Int))).length : Int))), (14, .d (ki.sig (IntKind.i64.wrap (v15 + 1))))]) (sb u) <| pRen 43 5150 u <| pLoop (lW (ih _ _ h) ⟨u, u, u, u, u, tv⟩ u)
  ·exact wCF hp17.1 tm (s1 u) <| wExit <| pThenX <| pThenX <| pBlkX <| pJ1 _ (so h) (sb u) u
 ·rintro x16 rfl
  replace h := hk1
  refine pSeq <| wSeq <| wFrzR (n := 0) (id := 5150) [] u u tv <| rx (cr (oLdA (n := 0) (fs := f_api_Table) (u := ⟨x16⟩) u ⟨u, tv⟩ t28 tm) (s1 u) <| cwn (oStA (n := 1) (fs := f_api_Table) u u z28 tm tm) (s2 u u) <| .nil) <| pSeq <| wRet ?_
  obtain rfl := so h
  exact pR1 (.inl u) u (.box (n := 1) (fs := f_api_Table) (u := ⟨x16⟩) u u ⟨u, tv⟩ t28 <| .nil)
theorem reticentlaw11_cut.ok {a0 : api_State} {r : api_State} (h : reticentlaw11_cut.f a0 = some r) : FnA PP 15 [(kR f_api_State).sig a0] ((kR f_api_State).sig r) := by
 refine fnIntro Tryz.func15 u (by kernel_rfl) fun H0 w0 => ?_
 unfold reticentlaw11_cut.f at h
 refine wSeq <| rx (cw (oBoxP (id := 1) (d := (kR f_api_State)) (ls := [.d ki a0.Pc.V, .d ki a0.Pc.L, .d (kL (kR f_api_Instr)) a0.Code, .d (kL (kR f_api_Atom)) a0.Mem, .d (kL (kR f_api_Slot)) a0.Stack, .d (kL (kR f_api_Atom)) a0.Out]) pt35 u tm) (s1 u) <| cw (oAlloc (id := 2) (ls := Z35) ze35 zl35) tv <| .nil) <| pSeq <| wSeq ?_
 obtain ⟨hc1, h⟩ := ib h
 obtain ⟨hc2, h⟩ := ib h
 obtain ⟨hc3, h⟩ := ib h
 obtain ⟨hc4, h⟩ := ib h
 refine rdx hm (c1 <| cr (oLdB (n := 1) (k := 2) u u u t31 tm) (s1 u) <| c1 <| cr (oLdB (n := 1) (k := 2) u u u t31 tm) (s1 u) <| c1 <| cp (oMin tm (cI (by decide))) (s1 u) <| cp (oCutHi u31 z74 hc1.1 hc1.2 tm tm) (s2 u u) <| c1 <| cr (oLdB (n := 1) (k := 3) u u u t32 tm) (s1 u) <| c1 <| cr (oLdB (n := 1) (k := 3) u u u t32 tm) (s1 u) <| c1 <| cp (oMin tm (cI (by decide))) (s1 u) <| cp (oCutHi u32 z30 hc2.1 hc2.2 tm tm) (s2 u u) <| c1 <| cr (oLdB (n := 1) (k := 4) u u u t33 tm) (s1 u) <| c1 <| cr (oLdB (n := 1) (k := 4) u u u t33 tm) (s1 u) <| c1 <| cp (oMin tm (cI (by decide))) (s1 u) <| cp (oCutHi u33 z76 hc3.1 hc3.2 tm tm) (s2 u u) <| c1 <| cr (oLdB (n := 1) (k := 5) u u u t32 tm) (s1 u) <| c1 <| cr (oLdB (n := 1) (k := 5) u u u t32 tm) (s1 u) <| c1 <| cp (oMin tm (cI (by decide))) (s1 u) <| cp (oCutHi u32 z30 hc4.1 hc4.2 tm tm) (s2 u u) <| c1 <| cwn (oSt (n := 1) (k := 2) u u u u z31 tm tm) (s2 u u) <| c1 <| cwn (oSt (n := 1) (k := 3) u u u u z32 tm tm) (s2 u u) <| c1 <| cwn (oSt (n := 1) (k := 4) u u u u z33 tm tm) (s2 u u) <| c1 <| cwn (oSt (n := 1) (k := 5) u u u u z32 tm tm) (s2 u u) <| .nil) <| pSeq <| wSeq <| rx (cr (oLdP (n := 1) (k := 0) (m := 6) (d := (kR f_api_State)) (u := (⟨a0.Pc, lCut a0.Code 0 (if 15 < (a0.Code.length : Int) then 15 else (a0.Code.length : Int)), lCut a0.Mem 0 (if 15 < (a0.Mem.length : Int) then 15 else (a0.Mem.length : Int)), lCut a0.Stack 0 (if 15 < (a0.Stack.length : Int) then 15 else (a0.Stack.length : Int)), lCut a0.Out 0 (if 15 < (a0.Out.length : Int) then 15 else (a0.Out.length : Int))⟩ : api_State)) pt35 u u u t35 tm) (s1 u) <| cwn (oStP (n := 0) (k := 0) (m := 6) (d := (kR f_api_State)) (u := (⟨a0.Pc, lCut a0.Code 0 (if 15 < (a0.Code.length : Int) then 15 else (a0.Code.length : Int)), lCut a0.Mem 0 (if 15 < (a0.Mem.length : Int) then 15 else (a0.Mem.length : Int)), lCut a0.Stack 0 (if 15 < (a0.Stack.length : Int) then 15 else (a0.Stack.length : Int)), lCut a0.Out 0 (if 15 < (a0.Out.length : Int) then 15 else (a0.Out.length : Int))⟩ : api_State)) pt35 u u u z35 tm tm) (s2 u u) <| .nil) <| pSeq <| wRet ?_
 obtain rfl := so h
 exact pR1 (.inl u) u (.boxP (n := 0) (d := (kR f_api_State)) (u := (⟨a0.Pc, lCut a0.Code 0 (if 15 < (a0.Code.length : Int) then 15 else (a0.Code.length : Int)), lCut a0.Mem 0 (if 15 < (a0.Mem.length : Int) then 15 else (a0.Mem.length : Int)), lCut a0.Stack 0 (if 15 < (a0.Stack.length : Int) then 15 else (a0.Stack.length : Int)), lCut a0.Out 0 (if 15 < (a0.Out.length : Int) then 15 else (a0.Out.length : Int))⟩ : api_State)) u u pt35 u t35 <| .nil)
theorem lattice_name.ok {a0 : Str} {r : Bool} (h : lattice_name.f a0 = some r) : FnA PP 77 [kS.sig a0] (kB.sig r) := by
 refine fnIntro Tryz.func77 u (by kernel_rfl) fun H0 w0 => ?_
 unfold lattice_name.f at h
 refine wSeq <| rx (c1 <| .nil) <| pSeq <| wSeq <| wSeq <| rx (c1 <| cp (oLenS u9 tm) (s1 u) <| c1 <| .nil) <| pSeq ?_
 obtain ⟨o1, h, hk1⟩ := bd h
 refine wK0 (.inr () = o1) ([(0, .d (kS.sig a0))]) ([]) ?_ ?_
 ·refine wBlock (wLoop ?_)
  refine lW (pc1 o1 (fun v19 => [(0, .d (kS.sig a0)), (5, .d (ki.sig (a0.length : Int))), (6, .d (ki.sig v19))]) (fun v19 => []) (lattice_name.l0.partial_correctness a0) ?_ _ h) ⟨u, u, u, tv⟩ u
  clear h
  intro f' ih v19 h
  refine wSeq <| rx (c1 <| .nil) <| pSeq <| wSeq ?_
  obtain ⟨hp20, h⟩ | ⟨hp20, h⟩ := ik h
  ·refine wCT hp20.1 tm (s1 u) <| wSkip <| pSeq <| wSeq <| wBlock <| wSeq <| rx (c2 <| .nil) <| pSeq ?_
   obtain ⟨o2, h, hk2⟩ := bd h
   refine wJ1 (fun x24 => x24 = o2) (fun x24 => [(0, .d (kS.sig a0)), (5, .d (ki.sig (a0.length : Int))), (6, .d (ki.sig v19)), (18, .d (kB.sig x24))]) (fun x24 => []) ?_ ?_
   ·obtain ⟨hc25, h⟩ := ib h
    obtain ⟨hp26, h⟩ | ⟨hp26, h⟩ := ik h
    ·exact rx (c2 <| cp (oIdxS u9 hc25.1 hc25.2 tm tm) (s2 u u) <| c6 <| c1 <| .nil) <| pJ1 _ (so h) (sb u) u
    ·obtain ⟨hc27, h⟩ := ib h
     exact rx (c2 <| cp (oIdxS u9 hc25.1 hc25.2 tm tm) (s2 u u) <| c4 <| cgB (dF hp26.1) u u (oIdxS u9 hc27.1 hc27.2 tm tm) (s2 u u) <| c2 <| .nil) <| pJ1 _ (so h) (sb u) u
   ·rintro x24 rfl
    replace h := hk2
    obtain ⟨hp28, h⟩ | ⟨hp28, h⟩ := ik h
    ·refine wBT hp28.1 tm (s1 u) <| wSeq <| rx (c1 <| .nil) <| pSeq <| wRet <| pBlkR <| pThenR <| pThenR <| pBlkR <| pThenR ?_
     obtain rfl := so h
     replace h := hk1
     refine pThenR ?_
     obtain rfl := so h
     exact pR1 (.inl u) u (.tmp u <| .nil)
    ·exact wBF hp28.1 tm (s1 u) <| wSkip <| pBlkN <| pSeq <| rx (c2 <| .nil) <| pLoop (lW (ih _ h) ⟨u, u, u, tv⟩ u)
  ·exact wCF hp20.1 tm (s1 u) <| wExit <| pThenX <| pThenX <| pBlkX <| pJ0 (so h) (sb u) u
 ·rintro rfl
  replace h := hk1
  refine pSeq ?_
  obtain ⟨o1, h, hk1⟩ := bd h
  refine wJ1 (fun x30 => x30 = o1) (fun x30 => [(2, .d (kB.sig x30))]) (fun x30 => []) ?_ ?_
  ·obtain ⟨hp31, h⟩ | ⟨hp31, h⟩ := ik h
   ·exact rx (c1 <| cp (oSNe u tm (cS (by decide))) (s1 u) <| c6 <| .nil) <| pJ1 _ (so h) (sb u) u
   ·exact rx (c1 <| cp (oSNe u tm (cS (by decide))) (s1 u) <| c2 <| cgB (nt hp31.1) u u (oLenS u9 tm) (s1 u) <| c3 <| .nil) <| pJ1 _ (so h) (sb u) u
  ·rintro x30 rfl
   replace h := hk1
   refine wRet ?_
   obtain rfl := so h
   exact pR1 (.inl u) u (.tmp u <| .nil)
theorem slices_Index_string_string.ok {a0 : List Str} {a1 : Str} {r : Int} (h : slices_Index_string_string.f a0 a1 = some r) : FnA PP 115 [(kL kS).sig a0, kS.sig a1] (ki.sig r) := by
 refine fnIntro Tryz.func115 u (by kernel_rfl) fun H0 w0 => ?_
 unfold slices_Index_string_string.f at h
 refine wSeq <| rx (c1 <| .nil) <| pSeq <| wSeq <| wSeq <| rx (c3 <| .nil) <| pSeq ?_
 obtain ⟨o1, h, hk1⟩ := bd h
 refine wK0 (.inr () = o1) ([]) ([]) ?_ ?_
 ·refine wBlock (wLoop ?_)
  refine lW (pc1 o1 (fun v7 => [(0, .d ((kL kS).sig a0)), (1, .d (kS.sig a1)), (7, .d (ki.sig (a0.length : Int))), (8, .d (ki.sig v7))]) (fun v7 => []) (slices_Index_string_string.l0.partial_correctness a0 a1) ?_ _ h) ⟨u, u, u, u, tv⟩ u
  clear h
  intro f' ih v7 h
  refine wSeq <| rx (c1 <| .nil) <| pSeq <| wSeq ?_
  obtain ⟨hp8, h⟩ | ⟨hp8, h⟩ := ik h
  ·refine wCT hp8.1 tm (s1 u) <| wSkip <| pSeq <| wSeq <| wBlock <| wSeq <| rx (c2 <| .nil) <| pSeq <| wSeq ?_
   obtain ⟨y9, hy9, h⟩ := bd h
   refine rx (c3 <| cp (oIdx u22 z9 hy9 tm tm) (s2 u u) <| c1 <| cp (oSEq u tm tm) (s2 u u) <| .nil) <| pSeq ?_
   obtain ⟨hp10, h⟩ | ⟨hp10, h⟩ := ik h
   ·refine wCT hp10.1 tm (s1 u) <| wSeq <| rx (c2 <| .nil) <| pSeq <| wRet <| pBlkR <| pThenR <| pThenR <| pBlkR <| pThenR ?_
    obtain rfl := so h
    replace h := hk1
    refine pThenR ?_
    obtain rfl := so h
    exact pR1 (.inl u) u (.tmp u <| .nil)
   ·exact wCF hp10.1 tm (s1 u) <| wSkip <| pBlkN <| pSeq <| rx (c2 <| .nil) <| pLoop (lW (ih _ h) ⟨u, u, u, u, tv⟩ u)
  ·exact wCF hp8.1 tm (s1 u) <| wExit <| pThenX <| pThenX <| pBlkX <| pJ0 (so h) tv u
 ·rintro rfl
  replace h := hk1
  refine pSeq <| wSeq <| rx (c1 <| .nil) <| pSeq <| wRet ?_
  obtain rfl := so h
  exact pR1 (.inl u) u (.tmp u <| .nil)
theorem slices_Contains_string_string.ok {a0 : List Str} {a1 : Str} {r : Bool} (h : slices_Contains_string_string.f a0 a1 = some r) : FnA PP 78 [(kL kS).sig a0, kS.sig a1] (kB.sig r) := by
 refine fnIntro Tryz.func78 u (by kernel_rfl) fun H0 w0 => ?_
 unfold slices_Contains_string_string.f at h
 refine wSeq <| rx (c1 <| .nil) <| pSeq <| wSeq ?_
 obtain ⟨y1, hy1, h⟩ := bd h
 refine rx (c2 <| cC (slices_Index_string_string.ok hy1) <| c2 <| .nil) <| pSeq <| wRet ?_
 obtain rfl := so h
 exact pR1 (.inl u) u (.tmp u <| .nil)
theorem lattice_may.ok {a0 : api_Lattice} {r : Bool} (h : lattice_may.f a0 = some r) : FnA PP 39 [(kR f_api_Lattice).sig a0] (kB.sig r) := by
 refine fnIntro Tryz.func39 u (by kernel_rfl) fun H0 w0 => ?_
 unfold lattice_may.f at h
 refine wSeq <| rx (c2 <| .nil) <| pSeq <| wSeq <| rx (c4 <| .nil) <| pSeq <| wSeq ?_
 obtain ⟨o1, h, hk1⟩ := bd h
 refine wJ1 (fun x3 => x3 = o1) (fun x3 => [(1, .d (sP (kR f_api_Lattice) a0)), (3, .d (ki.sig (a0.Up.length : Int))), (21, .d (kB.sig x3))]) (fun x3 => []) ?_ ?_
 ·obtain ⟨hp4, h⟩ | ⟨hp4, h⟩ := ik h
  ·exact rx (c12 <| c1 <| .nil) <| pJ1 _ (so h) (sb u) u
  ·obtain ⟨hp5, h⟩ | ⟨hp5, h⟩ := ik h
   ·exact rx (c12 <| c1 <| .nil) <| pJ1 _ (so h) (sb u) u
   ·exact rx (c12 <| c1 <| .nil) <| pJ1 _ (so h) (sb u) u
 ·rintro x3 rfl
  replace h := hk1
  obtain ⟨hp6, h⟩ | ⟨hp6, h⟩ := ik h
  ·refine wBT hp6.1 tm (s1 u) <| wSeq <| rx (c1 <| .nil) <| pSeq <| wRet <| pThenR ?_
   obtain rfl := so h
   exact pR1 (.inl u) u (.tmp u <| .nil)
  ·refine wBF hp6.1 tm (s1 u) <| wSkip <| pSeq <| wSeq <| wSeq <| rx (c4 <| .nil) <| pSeq ?_
   obtain ⟨o1, h, hk1⟩ := bd h
   refine wK0 (.inr () = o1) ([]) ([]) ?_ ?_
   ·refine wBlock (wLoop ?_)
    refine lW (pc1 o1 (fun v43 => [(1, .d (sP (kR f_api_Lattice) a0)), (3, .d (ki.sig (a0.Up.length : Int))), (23, .d ((kL kS).sig a0.Names)), (24, .d (ki.sig (a0.Names.length : Int))), (25, .d (ki.sig v43))]) (fun v43 => []) (lattice_may.l0.partial_correctness a0) ?_ _ h) ⟨u, u, u, u, u, tv⟩ u
    clear h
    intro f' ih v43 h
    refine wSeq <| rx (c1 <| .nil) <| pSeq <| wSeq ?_
    obtain ⟨hp44, h⟩ | ⟨hp44, h⟩ := ik h
    ·refine wCT hp44.1 tm (s1 u) <| wSkip <| pSeq <| wSeq <| wBlock <| wSeq ?_
     obtain ⟨y45, hy45, h⟩ := bd h
     refine rx (c1 <| cp (oIdx u22 z9 hy45 tm tm) (s2 u u) <| c3 <| .nil) <| pSeq ?_
     obtain ⟨o2, h, hk2⟩ := bd h
     refine wJ1 (fun x53 => x53 = o2) (fun x53 => [(1, .d (sP (kR f_api_Lattice) a0)), (3, .d (ki.sig (a0.Up.length : Int))), (23, .d ((kL kS).sig a0.Names)), (24, .d (ki.sig (a0.Names.length : Int))), (25, .d (ki.sig v43)), (50, .d (kB.sig x53))]) (fun x53 => []) ?_ ?_
     ·obtain ⟨y54, hy54, h⟩ := bd h
      obtain ⟨hp55, h⟩ | ⟨hp55, h⟩ := ik h
      ·exact rx (c1 <| cC (lattice_name.ok hy54) <| c12 <| c6 <| c1 <| .nil) <| pJ1 _ (so h) (sb u) u
      ·obtain ⟨hc56, h⟩ := ib h
       obtain ⟨y57, hy57, h⟩ := bd h
       obtain ⟨hp58, h⟩ | ⟨hp58, h⟩ := ik h
       ·exact rx (c1 <| cC (lattice_name.ok hy54) <| c4 <| c1 <| cgB (nb hp55.1) u u (oCutHi u22 z9 hc56.1 hc56.2 tm tm) (s2 u u) <| c1 <| cgB (nb hp55.1) u u (oCall u (slices_Contains_string_string.ok hy57) b78 (oc tm (oc tm o0))) (s2 u u) <| c8 <| c3 <| .nil) <| pJ1 _ (so h) (sb u) u
       ·obtain ⟨y59, hy59, h⟩ := bd h
        obtain ⟨hc60, h⟩ := ib h
        exact rx (c1 <| cC (lattice_name.ok hy54) <| c4 <| c1 <| cgB (nb hp55.1) u u (oCutHi u22 z9 hc56.1 hc56.2 tm tm) (s2 u u) <| c1 <| cgB (nb hp55.1) u u (oCall u (slices_Contains_string_string.ok hy57) b78 (oc tm (oc tm o0))) (s2 u u) <| c4 <| c1 <| cgB (nb hp58.1) u u (oIdx u23 z71 hy59 tm tm) (s2 u u) <| c2 <| cgB (nb hp58.1) u u (oShr hc60 tm tm) (s2 u u) <| c2 <| .nil) <| pJ1 _ (so h) (sb u) u
     ·rintro x53 rfl
      replace h := hk2
      obtain ⟨hp61, h⟩ | ⟨hp61, h⟩ := ik h
      ·refine wBT hp61.1 tm (s1 u) <| wSeq <| rx (c1 <| .nil) <| pSeq <| wRet <| pBlkR <| pThenR <| pThenR <| pBlkR <| pThenR ?_
       obtain rfl := so h
       replace h := hk1
       refine pThenR ?_
       obtain rfl := so h
       exact pR1 (.inl u) u (.tmp u <| .nil)
      ·exact wBF hp61.1 tm (s1 u) <| wSkip <| pBlkN <| pSeq <| rx (c2 <| .nil) <| pLoop (lW (ih _ h) ⟨u, u, u, u, u, tv⟩ u)
    ·exact wCF hp44.1 tm (s1 u) <| wExit <| pThenX <| pThenX <| pBlkX <| pJ0 (so h) tv u
   ·rintro rfl
    replace h := hk1
    refine pSeq <| wSeq <| rx (c1 <| .nil) <| pSeq <| wRet ?_
    obtain rfl := so h
    exact pR1 (.inl u) u (.tmp u <| .nil)
theorem lattice_pairs_1.ok {a1 : Int} : FnY PP 80 (fun z => ki.sig z) (fun z => ki.sig z) [sP ki a1] (fun {σ} a_y a_s => lattice_pairs_1.f a_y a_s a1) := by
 refine fnIntroY 7777 Tryz.func80 u (by kernel_rfl) (fun σ A a_y a_s a_r h bs H0 w0 => ?_)
 replace h : lattice_pairs_1.f a_y a_s a1 = some a_r := h
 unfold lattice_pairs_1.f at h
 refine wSeq <| rx (c2 <| .nil) <| pSeq ?_
 obtain ⟨o1, h, hk1⟩ := bd h
 refine wK1 (fun x29 => .inr x29 = o1) (fun x29 => []) (fun x29 => [.abs 7777 A x29]) ?_ ?_
 ·refine wBlock (wLoop ?_)
  refine lW (pc2 o1 (fun v27 v28 => [(0, .d (sYield PP A a_y (fun z => ki.sig z) (fun z => ki.sig z))), (1, .d (sP ki a1)), (5, .d (ki.sig a1)), (6, .d (ki.sig v28))]) (fun v27 v28 => [.abs 7777 A v27]) (lattice_pairs_1.l2.partial_correctness a_y a1) ?_ _ _ h) ⟨u, u, u, u, tv⟩ u
  clear h
  intro f' ih v27 v28 h
  refine wSeq <| rx (c1 <| .nil) <| pSeq <| wSeq ?_
  obtain ⟨hp30, h⟩ | ⟨hp30, h⟩ := ik h
  ·refine wCT hp30.1 tm (s1 u) <| wSkip <| pSeq <| wSeq <| wBlock <| wSeq <| rx (c2 <| .nil) <| pSeq <| wSeq <| rx (c2 <| .nil) <| pSeq ?_
   obtain ⟨o2, h, hk2⟩ := bd h
   refine wK1 (fun x39 => .inr x39 = o2) (fun x39 => [(0, .d (sYield PP A a_y (fun z => ki.sig z) (fun z => ki.sig z))), (1, .d (sP ki a1)), (5, .d (ki.sig a1)), (6, .d (ki.sig v28))]) (fun x39 => [.abs 7777 A x39]) ?_ ?_
   ·refine wBlock (wLoop ?_)
    refine lW (pc2 o2 (fun v37 v38 => [(0, .d (sYield PP A a_y (fun z => ki.sig z) (fun z => ki.sig z))), (1, .d (sP ki a1)), (3, .d (ki.sig v28)), (5, .d (ki.sig a1)), (6, .d (ki.sig v28)), (9, .d (ki.sig a1)), (10, .d (ki.sig v38))]) (fun v37 v38 => [.abs 7777 A v37]) (lattice_pairs_1.l3.partial_correctness a_y a1 v28) ?_ _ _ h) ⟨u, u, u, u, u, u, u, tv⟩ u
    clear h
    intro f' ih v37 v38 h
    refine wSeq <| rx (c1 <| .nil) <| pSeq <| wSeq ?_
    obtain ⟨hp40, h⟩ | ⟨hp40, h⟩ := ik h
    ·refine wCT hp40.1 tm (s1 u) <| wSkip <| pSeq <| wSeq <| wBlock <| wSeq <| rx (c2 <| .nil) <| pSeq <| wSeq ?_
     obtain ⟨y41, hy41, h⟩ := bd h
     refine rx (c3 <| cm (oYield (n := 0) (id' := 16) u hy41 tm tm tm) (s3 u u u) <| c1 <| .nil) <| pSeq ?_
     obtain ⟨hp42, h⟩ | ⟨hp42, h⟩ := ik h
     ·refine wBT hp42.1 tm (s1 u) <| wRet <| pBlkR <| pThenR <| pThenR <| pBlkR <| pThenR ?_
      obtain rfl := so h
      replace h := hk2
      refine pBlkR <| pThenR <| pThenR <| pBlkR <| pThenR ?_
      obtain rfl := so h
      replace h := hk1
      obtain rfl := so h
      exact pRY (n := 0) (.inl u) u u u
     ·exact wBF hp42.1 tm (s1 u) <| wSkip <| pBlkN <| pSeq <| rx (c2 <| .nil) <| pSub (Γ' := [(0, .d (sYield PP A a_y (fun z => ki.sig z) (fun z => ki.sig z))), (1, .d (sP ki a1)), (3, .d (ki.sig v28)), (5, .d (ki.sig a1)), (6, .d (ki.sig v28)), (9, .d (ki.sig a1)), (10, .d (ki.sig (IntKind.i64.wrap (v38 + 1))))]) (sb u) <| pRen 16 7777 u <| pLoop (lW (ih _ _ h) ⟨u, u, u, u, u, u, u, tv⟩ u)
    ·exact wCF hp40.1 tm (s1 u) <| wExit <| pThenX <| pThenX <| pBlkX <| pJ1 _ (so h) (sb u) u
   ·rintro x39 rfl
    replace h := hk2
    exact pBlkN <| pSeq <| rx (c2 <| .nil) <| pLoop (lW (ih _ _ h) ⟨u, u, u, u, tv⟩ u)
  ·exact wCF hp30.1 tm (s1 u) <| wExit <| pThenX <| pThenX <| pBlkX <| pJ1 _ (so h) tv u
 ·rintro x29 rfl
  replace h := hk1
  obtain rfl := so h
  exact pRY (n := 0) (.inr u) u u u
theorem lattice_pairs.ok {a0 : Int} {r : Int} (h : lattice_pairs.f a0 = some r) : FnA PP 41 [ki.sig a0] ((sClo 80 [sP ki r])) := by
 refine fnIntro Tryz.func41 u (by kernel_rfl) fun H0 w0 => ?_
 unfold lattice_pairs.f at h
 refine wSeq <| rx (c1 <| cp (oAs cV) tv <| .nil) <| pSeq <| wSeq <| rx (cp (oMkC (caps := [sP ki a0]) u (oc tm o0)) (s1 u) <| c1 <| .nil) <| pSeq <| wRet ?_
 obtain rfl := so h
 exact pR1 (.inl u) u (.tmp u <| .nil)
theorem lattice_flows.ok {a0 : api_Lattice} {a1 : Int} {a2 : Int} {r : Bool} (h : lattice_flows.f a0 a1 a2 = some r) : FnA PP 79 [(kR f_api_Lattice).sig a0, ki.sig a1, ki.sig a2] (kB.sig r) := by
 refine fnIntro Tryz.func79 u (by kernel_rfl) fun H0 w0 => ?_
 unfold lattice_flows.f at h
 refine wSeq <| rx (c2 <| .nil) <| pSeq <| wSeq ?_
 obtain ⟨y1, hy1, h⟩ := bd h
 obtain ⟨hc2, h⟩ := ib h
 refine rx (c3 <| cp (oIdx u23 z71 hy1 tm tm) (s2 u u) <| c2 <| cp (oShr hc2 tm tm) (s2 u u) <| cp (oAnd tm (cI (by decide))) (s1 u) <| c2 <| .nil) <| pSeq <| wRet ?_
 obtain rfl := so h
 exact pR1 (.inl u) u (.tmp u <| .nil)
theorem lattice_order.ok {a0 : api_Lattice} {r : Bool} (h : lattice_order.f a0 = some r) : FnA PP 40 [(kR f_api_Lattice).sig a0] (kB.sig r) := by
 refine fnIntro Tryz.func40 u (by kernel_rfl) fun H0 w0 => ?_
 unfold lattice_order.f at h
 refine wSeq <| rx (c1 <| cw (oAlloc (id := 2) (ls := [.d kB false]) ze4 (fun g => ⟨[(.bool false)], _, u, zB g.H, u⟩)) tv <| .nil) <| pSeq <| wSeq <| wSeq ?_
 obtain ⟨y1, hy1, h⟩ := bd h
 refine rx (c3 <| cC (lattice_pairs.ok hy1) <| .nil) <| pSeq <| wBlock ?_
 obtain ⟨y53, hy53, h⟩ := bd h
 refine wRange (Γ' := [(1, .d (sP (kR f_api_Lattice) a0)), (2, .p 2 0)]) (Γ2 := fun v27 v28 => [(1, .d (sP (kR f_api_Lattice) a0)), (2, .p 2 0), (3, .d (ki.sig v27)), (4, .d (ki.sig v28))]) (fun (v26 : Unit) => [.box 2 4 [.d kB false]]) (fun (v26 : Unit) v27 v28 => [.box 2 4 [.d kB false]]) [Code.ret] [2] (lattice_order.y0 a0) () u (lattice_pairs_1.ok (a1 := y1)) b80 hy53 u ⟨u, u, tv⟩ u u u ?_ ?_ ?_
 ·intro X H0 w0 l pv v26 v27 v28
  exact wSeq <| rx (c1 <| .nil) <| pSeq <| rx (c1 <| .nil) <| qA ⟨u, u, u, u, tv⟩
 ·intro X H0 w0 l pv v26 v27 v28 o h
  unfold lattice_order.y0 at h
  refine wBlock <| wSeq ?_
  obtain ⟨o2, h, hk2⟩ := bd h
  refine wJ1 (fun x35 => x35 = o2) (fun x35 => [(1, .d (sP (kR f_api_Lattice) a0)), (2, .p 2 0), (3, .d (ki.sig v27)), (4, .d (ki.sig v28)), (37, .d (kB.sig x35))]) (fun x35 => [.box 2 4 [.d kB false]]) ?_ ?_
  ·obtain ⟨hp36, h⟩ | ⟨hp36, h⟩ := ik h
   ·obtain ⟨y37, hy37, h⟩ := bd h
    obtain ⟨hp38, h⟩ | ⟨hp38, h⟩ := ik h
    ·exact rx (c6 <| c1 <| cgB (dT hp36.1) u u (oCall u (lattice_flows.ok hy37) b79 (oc tm (oc tm (oc tm o0)))) (s3 u u u) <| c6 <| c1 <| csU u u <| csU u u <| csU u u <| csU u u <| c2 <| csU u u <| csU u u <| csU u u <| csU u u <| c2 <| .nil) <| pJ1 _ (so h) (sb u) u
    ·exact rx (c6 <| c1 <| cgB (dT hp36.1) u u (oCall u (lattice_flows.ok hy37) b79 (oc tm (oc tm (oc tm o0)))) (s3 u u u) <| c12 <| c6 <| c1 <| .nil) <| pJ1 _ (so h) (sb u) u
   ·obtain ⟨y39, hy39, h⟩ := bd h
    obtain ⟨hp40, h⟩ | ⟨hp40, h⟩ := ik h
    ·obtain ⟨y41, hy41, h⟩ := bd h
     exact rx (c12 <| c6 <| cgB (nt hp36.1) u u (oCall u (lattice_flows.ok hy39) b79 (oc tm (oc tm (oc tm o0)))) (s3 u u u) <| c4 <| c1 <| cgB hp40.1 u u (oCall u (lattice_flows.ok hy41) b79 (oc tm (oc tm (oc tm o0)))) (s3 u u u) <| c2 <| .nil) <| pJ1 _ (so h) (sb u) u
    ·exact rx (c12 <| c6 <| cgB (nt hp36.1) u u (oCall u (lattice_flows.ok hy39) b79 (oc tm (oc tm (oc tm o0)))) (s3 u u u) <| c8 <| .nil) <| pJ1 _ (so h) (sb u) u
  ·rintro x35 rfl
   replace h := hk2
   obtain ⟨hp42, h⟩ | ⟨hp42, h⟩ := ik h
   ·refine wBT hp42.1 tm (s1 u) <| wSeq <| rx (cwn (oSt (n := 0) (k := 0) u u u u z4 tm cB) (s1 u) <| .nil) <| pSeq <| wRet <| pThenR <| pBlkR ?_
    obtain rfl := so h
    exact qR u
   ·refine wBF hp42.1 tm (s1 u) <| wSkip <| pSeq ?_
    obtain ⟨o2, h, hk2⟩ := bd h
    refine wJ1 (fun x47 => x47 = o2) (fun x47 => [(2, .p 2 0), (55, .d (kB.sig x47))]) (fun x47 => [.box 2 4 [.d kB false]]) ?_ ?_
    ·obtain ⟨y48, hy48, h⟩ := bd h
     obtain ⟨hp49, h⟩ | ⟨hp49, h⟩ := ik h
     ·obtain ⟨y50, hy50, h⟩ := bd h
      obtain ⟨y51, hy51, h⟩ := bd h
      exact rdx hm (c3 <| cC (lattice_flows.ok hy48) <| c4 <| cgB hp49.1 u u (oIdx u23 z71 hy50 tm tm) (s2 u u) <| c4 <| cgB hp49.1 u u (oIdx u23 z71 hy51 tm tm) (s2 u u) <| c1 <| cgB hp49.1 u u (oAndNot tm tm) (s2 u u) <| c2 <| .nil) <| pJ1 _ (so h) (sb u) u
     ·exact rdx hm (c3 <| cC (lattice_flows.ok hy48) <| c12 <| c2 <| .nil) <| pJ1 _ (so h) (sb u) u
    ·rintro x47 rfl
     replace h := hk2
     obtain ⟨hp52, h⟩ | ⟨hp52, h⟩ := ik h
     ·refine wBT hp52.1 tm (s1 u) <| wSeq <| rx (cwn (oSt (n := 0) (k := 0) u u u u z4 tm cB) (s1 u) <| .nil) <| pSeq <| wRet <| pBlkR ?_
      obtain rfl := so h
      exact qR u
     ·refine wBF hp52.1 tm (s1 u) <| wSkip <| pBlkN ?_
      obtain rfl := so h
      exact qN
 ·obtain ⟨hj53, h⟩ | ⟨hj53, h⟩ := ic h
  ·refine jp0 hj53 <| pBlkN <| pSeq <| wSeq <| rx (cwn (oSt (n := 0) (k := 0) u u u u z4 tm cB) (s1 u) <| .nil) <| pSeq <| wRet ?_
   obtain rfl := so h
   exact pR1 (.inl u) u (.boxV (n := 0) u u t4 <| .nil)
  ·obtain ⟨hj53, h⟩ | ⟨hj53, h⟩ := ic h
   ·refine jpR hj53 u <| pBlkR <| pThenR ?_
    obtain rfl := so h
    exact pR1 (.inl u) u (.boxV (n := 0) u u t4 <| .nil)
   ·cases h
theorem slices_IndexFunc_uint32_uint32.ok {a0 : List Int} {a1 : Int -> Option Bool} {r : Int} (h : slices_IndexFunc_uint32_uint32.f a0 a1 = some r) : FnA PP 81 [(kL (kI .u32)).sig a0, (sFun PP (rl1 (kI .u32) kB a1))] (ki.sig r) := by
 refine fnIntro Tryz.func81 u (by kernel_rfl) fun H0 w0 => ?_
 unfold slices_IndexFunc_uint32_uint32.f at h
 refine wSeq <| rx (c1 <| .nil) <| pSeq <| wSeq <| wSeq <| rx (c3 <| .nil) <| pSeq ?_
 obtain ⟨o1, h, hk1⟩ := bd h
 refine wK0 (.inr () = o1) ([]) ([]) ?_ ?_
 ·refine wBlock (wLoop ?_)
  refine lW (pc1 o1 (fun v9 => [(0, .d ((kL (kI .u32)).sig a0)), (1, .d ((sFun PP (rl1 (kI .u32) kB a1)))), (7, .d (ki.sig (a0.length : Int))), (8, .d (ki.sig v9))]) (fun v9 => []) (slices_IndexFunc_uint32_uint32.l0.partial_correctness a0 a1) ?_ _ h) ⟨u, u, u, u, tv⟩ u
  clear h
  intro f' ih v9 h
  refine wSeq <| rx (c1 <| .nil) <| pSeq <| wSeq ?_
  obtain ⟨hp10, h⟩ | ⟨hp10, h⟩ := ik h
  ·refine wCT hp10.1 tm (s1 u) <| wSkip <| pSeq <| wSeq <| wBlock <| wSeq <| rx (c2 <| .nil) <| pSeq <| wSeq ?_
   obtain ⟨y11, hy11, h⟩ := bd h
   obtain ⟨y12, hy12, h⟩ := bd h
   refine rx (c3 <| cp (oIdx u23 z71 hy11 tm tm) (s2 u u) <| c1 <| cp (oCallV u (rl1i (f := a1) hy12) tm (oc tm o0)) (s2 u u) <| .nil) <| pSeq ?_
   obtain ⟨hp13, h⟩ | ⟨hp13, h⟩ := ik h
   ·refine wBT hp13.1 tm (s1 u) <| wSeq <| rx (c2 <| .nil) <| pSeq <| wRet <| pBlkR <| pThenR <| pThenR <| pBlkR <| pThenR ?_
    obtain rfl := so h
    replace h := hk1
    refine pThenR ?_
    obtain rfl := so h
    exact pR1 (.inl u) u (.tmp u <| .nil)
   ·exact wBF hp13.1 tm (s1 u) <| wSkip <| pBlkN <| pSeq <| rx (c2 <| .nil) <| pLoop (lW (ih _ h) ⟨u, u, u, u, tv⟩ u)
  ·exact wCF hp10.1 tm (s1 u) <| wExit <| pThenX <| pThenX <| pBlkX <| pJ0 (so h) tv u
 ·rintro rfl
  replace h := hk1
  refine pSeq <| wSeq <| rx (c1 <| .nil) <| pSeq <| wRet ?_
  obtain rfl := so h
  exact pR1 (.inl u) u (.tmp u <| .nil)
theorem lattice_join_1.ok {a0 : Int} {a1 : Int} {r : Bool} (h : lattice_join_1.f a0 a1 = some r) : FnA PP 82 [(kI .u32).sig a0, sP (kI .u32) a1] (kB.sig r) := by
 refine fnIntro Tryz.func82 u (by kernel_rfl) fun H0 w0 => ?_
 unfold lattice_join_1.f at h
 refine wSeq <| rx (c1 <| .nil) <| pSeq <| wSeq <| rx (c4 <| .nil) <| pSeq <| wRet ?_
 obtain rfl := so h
 exact pR1 (.inl u) u (.tmp u <| .nil)
theorem lattice_join.ok {a0 : api_Lattice} {a1 : Int} {a2 : Int} {r : Int} (h : lattice_join.f a0 a1 a2 = some r) : FnA PP 42 [(kR f_api_Lattice).sig a0, ki.sig a1, ki.sig a2] (ki.sig r) := by
 refine fnIntro Tryz.func42 u (by kernel_rfl) fun H0 w0 => ?_
 unfold lattice_join.f at h
 refine wSeq <| rx (c2 <| .nil) <| pSeq <| wSeq ?_
 obtain ⟨y1, hy1, h⟩ := bd h
 obtain ⟨y2, hy2, h⟩ := bd h
 refine rdx hm (c3 <| cp (oIdx u23 z71 hy1 tm tm) (s2 u u) <| c4 <| cp (oIdx u23 z71 hy2 tm tm) (s2 u u) <| c1 <| cp (oAnd tm tm) (s2 u u) <| cw (oAlloc (id := 7) (ls := [.d (kI .u32) 0]) ze71 (fun g => ⟨[(.int .u32 0)], _, u, zI_u32 g.H, u⟩)) tv <| cwn (oSt (n := 0) (k := 0) u u u u z71 tm tm) (s2 u u) <| .nil) <| pSeq <| wSeq <| wFrzV 7 (n := 0) (id := 7) u u u ?_
 obtain ⟨y3, hy3, h⟩ := bd h
 refine rx (c2 <| cp (oMkF (Rl := rl1 (kI .u32) kB (fun z0 => lattice_join_1.f z0 (bAnd .u32 y1 y2))) u b82 (rl1e lattice_join_1.ok) (oc tm o0)) (s1 u) <| cC (slices_IndexFunc_uint32_uint32.ok hy3) <| c1 <| .nil) <| pSeq <| wRet ?_
 obtain rfl := so h
 exact pR1 (.inl u) u (.tmp u <| .nil)
theorem lattice_down.ok {a0 : api_Lattice} {a1 : Int} {r : Int} (h : lattice_down.f a0 a1 = some r) : FnA PP 83 [(kR f_api_Lattice).sig a0, ki.sig a1] ((kI .u32).sig r) := by
 refine fnIntro Tryz.func83 u (by kernel_rfl) fun H0 w0 => ?_
 unfold lattice_down.f at h
 refine wSeq <| rx (c2 <| .nil) <| pSeq <| wSeq <| rx (c1 <| .nil) <| pSeq <| wSeq <| wSeq <| rx (c4 <| .nil) <| pSeq ?_
 obtain ⟨o1, h, hk1⟩ := bd h
 refine wK1 (fun x10 => x10 = o1) (fun x10 => [(5, .d ((kI .u32).sig x10))]) (fun x10 => []) ?_ ?_
 ·refine wBlock (wLoop ?_)
  refine lW (pc2 o1 (fun v8 v9 => [(1, .d (ki.sig a1)), (2, .d (sP (kR f_api_Lattice) a0)), (5, .d ((kI .u32).sig v9)), (9, .d (ki.sig (a0.Up.length : Int))), (10, .d (ki.sig v8))]) (fun v8 v9 => []) (lattice_down.l0.partial_correctness a0 a1) ?_ _ _ h) ⟨u, u, u, u, u, tv⟩ u
  clear h
  intro f' ih v8 v9 h
  refine wSeq <| rx (c1 <| .nil) <| pSeq <| wSeq ?_
  obtain ⟨hp11, h⟩ | ⟨hp11, h⟩ := ik h
  ·refine wCT hp11.1 tm (s1 u) <| wSkip <| pSeq <| wSeq <| wBlock <| wSeq <| rx (c2 <| .nil) <| pSeq ?_
   obtain ⟨y12, hy12, h⟩ := bd h
   obtain ⟨hc13, h⟩ := ib h
   obtain ⟨hc14, h⟩ := ib h
   exact rx (c4 <| cp (oIdx u23 z71 hy12 tm tm) (s2 u u) <| c2 <| cp (oShr hc13 tm tm) (s2 u u) <| cp (oAnd tm (cI (by decide))) (s1 u) <| c1 <| cp (oShl hc14 tm tm) (s2 u u) <| cp (oOr tm tm) (s2 u u) <| c1 <| .nil) <| pBlkN <| pSeq <| rx (c2 <| .nil) <| pLoop (lW (ih _ _ h) ⟨u, u, u, u, u, tv⟩ u)
  ·exact wCF hp11.1 tm (s1 u) <| wExit <| pThenX <| pThenX <| pBlkX <| pJ1 _ (so h) (sb u) u
 ·rintro x10 rfl
  replace h := hk1
  refine pSeq <| wSeq <| rx (c2 <| .nil) <| pSeq <| wRet ?_
  obtain rfl := so h
  exact pR1 (.inl u) u (.tmp u <| .nil)
theorem lattice_meet.ok {a0 : api_Lattice} {a1 : Int} {a2 : Int} {r : Int} (h : lattice_meet.f a0 a1 a2 = some r) : FnA PP 43 [(kR f_api_Lattice).sig a0, ki.sig a1, ki.sig a2] (ki.sig r) := by
 refine fnIntro Tryz.func43 u (by kernel_rfl) fun H0 w0 => ?_
 unfold lattice_meet.f at h
 refine wSeq <| rx (c2 <| .nil) <| pSeq <| wSeq ?_
 obtain ⟨y1, hy1, h⟩ := bd h
 obtain ⟨y2, hy2, h⟩ := bd h
 refine rdx hm (c2 <| cC (lattice_down.ok hy1) <| c2 <| cC (lattice_down.ok hy2) <| cp (oAnd tm tm) (s2 u u) <| c1 <| .nil) <| pSeq <| wSeq <| wSeq <| rx (c4 <| .nil) <| pSeq ?_
 obtain ⟨o1, h, hk1⟩ := bd h
 refine wK0 (.inr () = o1) ([]) ([]) ?_ ?_
 ·refine wBlock (wLoop ?_)
  refine lW (pc1 o1 (fun v9 => [(3, .d (sP (kR f_api_Lattice) a0)), (7, .d ((kI .u32).sig (bAnd .u32 y1 y2))), (18, .d (ki.sig (a0.Up.length : Int))), (19, .d (ki.sig v9))]) (fun v9 => []) (lattice_meet.l0.partial_correctness a0 y1 y2) ?_ _ h) ⟨u, u, u, u, tv⟩ u
  clear h
  intro f' ih v9 h
  refine wSeq <| rx (c1 <| .nil) <| pSeq <| wSeq ?_
  obtain ⟨hp10, h⟩ | ⟨hp10, h⟩ := ik h
  ·refine wCT hp10.1 tm (s1 u) <| wSkip <| pSeq <| wSeq <| wBlock <| wSeq <| rx (c2 <| .nil) <| pSeq <| wSeq ?_
   obtain ⟨y11, hy11, h⟩ := bd h
   refine rx (c2 <| cC (lattice_down.ok hy11) <| c2 <| .nil) <| pSeq ?_
   obtain ⟨hp12, h⟩ | ⟨hp12, h⟩ := ik h
   ·refine wCT hp12.1 tm (s1 u) <| wSeq <| rx (c2 <| .nil) <| pSeq <| wRet <| pBlkR <| pThenR <| pThenR <| pBlkR <| pThenR ?_
    obtain rfl := so h
    replace h := hk1
    refine pThenR ?_
    obtain rfl := so h
    exact pR1 (.inl u) u (.tmp u <| .nil)
   ·exact wCF hp12.1 tm (s1 u) <| wSkip <| pBlkN <| pSeq <| rx (c2 <| .nil) <| pLoop (lW (ih _ h) ⟨u, u, u, u, tv⟩ u)
  ·exact wCF hp10.1 tm (s1 u) <| wExit <| pThenX <| pThenX <| pBlkX <| pJ0 (so h) tv u
 ·rintro rfl
  replace h := hk1
  refine pSeq <| wSeq <| rx (c1 <| .nil) <| pSeq <| wRet ?_
  obtain rfl := so h
  exact pR1 (.inl u) u (.tmp u <| .nil)
theorem lattice_Check.ok {a0 : api_Lattice} {r : Int} (h : lattice_Check.f a0 = some r) : FnA PP 22 [(kR f_api_Lattice).sig a0] (ki.sig r) := by
 refine fnIntro Tryz.func22 u (by kernel_rfl) fun H0 w0 => ?_
 unfold lattice_Check.f at h
 refine wSeq <| rx (c1 <| cw (oAlloc (id := 2) (ls := [.d ki 0]) ze39 (fun g => ⟨[(.int .i64 0)], _, u, zI_i64 g.H, u⟩)) tv <| .nil) <| pSeq <| wSeq <| wBlock <| wSeq ?_
 obtain ⟨y1, hy1, h⟩ := bd h
 refine rx (c1 <| cC (lattice_may.ok hy1) <| c2 <| .nil) <| pSeq ?_
 obtain ⟨hp2, h⟩ | ⟨hp2, h⟩ := ik h
 ·refine wBT hp2.1 tm (s1 u) <| wSeq <| rx (cwn (oSt (n := 0) (k := 0) u u u u z39 tm (cI (by decide))) (s1 u) <| .nil) <| pSeq <| wRet <| pBlkR <| pThenR ?_
  obtain rfl := so h
  exact pR1 (.inl u) u (.boxV (n := 0) u u t39 <| .nil)
 ·refine wBF hp2.1 tm (s1 u) <| wSeq ?_
  obtain ⟨y3, hy3, h⟩ := bd h
  refine rx (c1 <| cC (lattice_order.ok hy3) <| c2 <| .nil) <| pSeq ?_
  obtain ⟨hp4, h⟩ | ⟨hp4, h⟩ := ik h
  ·refine wBT hp4.1 tm (s1 u) <| wSeq <| rx (cwn (oSt (n := 0) (k := 0) u u u u z39 tm (cI (by decide))) (s1 u) <| .nil) <| pSeq <| wRet <| pBlkR <| pThenR ?_
   obtain rfl := so h
   exact pR1 (.inl u) u (.boxV (n := 0) u u t39 <| .nil)
  ·refine wBF hp4.1 tm (s1 u) <| wSkip <| pBlkN <| pSeq <| wSeq <| wSeq ?_
   obtain ⟨y5, hy5, h⟩ := bd h
   refine rx (c3 <| cC (lattice_pairs.ok hy5) <| .nil) <| pSeq <| wBlock ?_
   obtain ⟨y33, hy33, h⟩ := bd h
   refine wRange (Γ' := [(1, .d (sP (kR f_api_Lattice) a0)), (2, .p 2 0)]) (Γ2 := fun v23 v24 => [(1, .d (sP (kR f_api_Lattice) a0)), (2, .p 2 0), (3, .d (ki.sig v23)), (4, .d (ki.sig v24))]) (fun (v22 : Int) => [.box 2 39 [.d ki v22]]) (fun (v22 : Int) v23 v24 => [.box 2 39 [.d ki v22]]) [Code.ret] [2] (lattice_Check.y0 a0) 0 u (lattice_pairs_1.ok (a1 := y5)) b80 hy33 u ⟨u, u, tv⟩ u u u ?_ ?_ ?_
   ·intro X H0 w0 l pv v22 v23 v24
    exact wSeq <| rx (c1 <| .nil) <| pSeq <| rx (c1 <| .nil) <| qA ⟨u, u, u, u, tv⟩
   ·intro X H0 w0 l pv v22 v23 v24 o h
    unfold lattice_Check.y0 at h
    refine wBlock ?_
    obtain ⟨o2, h, hk2⟩ := bd h
    refine wJ1 (fun x28 => x28 = o2) (fun x28 => [(2, .p 2 0), (30, .d (kB.sig x28))]) (fun x28 => [.box 2 39 [.d ki v22]]) ?_ ?_
    ·obtain ⟨y29, hy29, h⟩ := bd h
     obtain ⟨hp30, h⟩ | ⟨hp30, h⟩ := ik h
     ·exact rx (c3 <| cC (lattice_join.ok hy29) <| c8 <| .nil) <| pJ1 _ (so h) (sb u) u
     ·obtain ⟨y31, hy31, h⟩ := bd h
      exact rx (c3 <| cC (lattice_join.ok hy29) <| c4 <| c1 <| cgB (dF hp30.1) u u (oCall u (lattice_meet.ok hy31) b43 (oc tm (oc tm (oc tm o0)))) (s3 u u u) <| c2 <| .nil) <| pJ1 _ (so h) (sb u) u
    ·rintro x28 rfl
     replace h := hk2
     obtain ⟨hp32, h⟩ | ⟨hp32, h⟩ := ik h
     ·refine wBT hp32.1 tm (s1 u) <| wSeq <| rx (cwn (oSt (n := 0) (k := 0) u u u u z39 tm (cI (by decide))) (s1 u) <| .nil) <| pSeq <| wRet <| pBlkR ?_
      obtain rfl := so h
      exact qR u
     ·refine wBF hp32.1 tm (s1 u) <| wSkip <| pBlkN ?_
      obtain rfl := so h
      exact qN
   ·obtain ⟨hj33, h⟩ | ⟨hj33, h⟩ := ic h
    ·refine jp0 hj33 <| pBlkN <| pSeq <| wSeq <| rx (cwn (oSt (n := 0) (k := 0) u u u u z39 tm (cI (by decide))) (s1 u) <| .nil) <| pSeq <| wRet ?_
     obtain rfl := so h
     exact pR1 (.inl u) u (.boxV (n := 0) u u t39 <| .nil)
    ·obtain ⟨hj33, h⟩ | ⟨hj33, h⟩ := ic h
     ·refine jpR hj33 u <| pBlkR <| pThenR ?_
      obtain rfl := so h
      exact pR1 (.inl u) u (.boxV (n := 0) u u t39 <| .nil)
     ·cases h
theorem rule_made_1.ok {a0 : Bool} {a1 : List Bool} {r : (List Bool) × Bool} (h : rule_made_1.f a0 a1 = some r) : FnS PP 133 [.d (kB.sig a0), .p 70100 0] [.box 70100 183 [.v 70101], .row 70101 161 kB a1] [70100] (.d (kB.sig r.2)) [.box 70100 183 [.v 70101], .row 70101 161 kB r.1] := by
 refine fnIntroS Tryz.func133 u (by kernel_rfl) fun X H0 w0 pv => ?_
 unfold rule_made_1.f at h
 refine wSeq <| rx (c1 <| .nil) <| pSeq <| wSeq <| rx (cr (oLdN (n := 0) (k := 0) u u u t183 tm) (s1 u) <| cr (oLenR (n := 1) u183 u tm) (s1 u) <| c2 <| .nil) <| pSeq <| wSeq <| wWeak (Γ' := [(0, .d (kB.sig a0)), (1, .p 70100 0), (4, .d (ki.sig (IntKind.i64.wrap ((a1.length : Int) - 1))))]) (sb u) <| wRen 70101 3510000 u ?_
 obtain ⟨o1, h, hk1⟩ := bd h
 refine wJ1 (fun x5 => x5 = o1) (fun x5 => [(1, .p 70100 0), (4, .d (ki.sig (IntKind.i64.wrap ((a1.length : Int) - 1)))), (26, .d (kB.sig x5))]) (fun x5 => [.box 70100 183 [.v 3510000], .row 3510000 161 kB a1]) ?_ ?_
 ·obtain ⟨hp6, h⟩ | ⟨hp6, h⟩ := ik h
  ·exact rx (c12 <| c6 <| c1 <| .nil) <| pJ1 _ (so h) (sb u) u
  ·obtain ⟨y7, hy7, h⟩ := bd h
   obtain ⟨hp8, h⟩ | ⟨hp8, h⟩ := ik h
   ·obtain ⟨y9, hy9, h⟩ := bd h
    exact rx (c3 <| crgB (dF hp6.1) u u (oLdN (n := 0) (k := 0) u u u t183 tm) (s1 u) <| c1 <| crgB (dF hp6.1) u u (oIdxR (n := 1) u183 z161 u hy7 tm tm) (s2 u u) <| crgB (dF hp6.1) u u (oLdE (n := 1) u hy7 u t161 tm) (s1 u) <| c1 <| cgB (dF hp6.1) u u (oBNe u161 u tm tm) (s2 u u) <| c2 <| crgB (nf hp8.1) u u (oLdN (n := 0) (k := 0) u u u t183 tm) (s1 u) <| c2 <| crgB (nf hp8.1) u u (oIdxR (n := 1) u183 z161 u hy9 tm tm) (s2 u u) <| crgB (nf hp8.1) u u (oLdE (n := 1) u hy9 u t161 tm) (s1 u) <| c1 <| cgB (nf hp8.1) u u (oBNe u161 u tm tm) (s2 u u) <| c1 <| .nil) <| pJ1 _ (so h) (sb u) u
   ·exact rx (c3 <| crgB (dF hp6.1) u u (oLdN (n := 0) (k := 0) u u u t183 tm) (s1 u) <| c1 <| crgB (dF hp6.1) u u (oIdxR (n := 1) u183 z161 u hy7 tm tm) (s2 u u) <| crgB (dF hp6.1) u u (oLdE (n := 1) u hy7 u t161 tm) (s1 u) <| c1 <| cgB (dF hp6.1) u u (oBNe u161 u tm tm) (s2 u u) <| c8 <| c2 <| .nil) <| pJ1 _ (so h) (sb u) u
 ·rintro x5 rfl
  replace h := hk1
  obtain ⟨hp10, h⟩ | ⟨hp10, h⟩ := ik h
  ·refine wBT hp10.1 tm (s1 u) <| wSeq <| rx (c1 <| .nil) <| pSeq <| wRet <| pThenR ?_
   obtain rfl := so h
   exact pSub (Γ' := [(3, .d (kB.sig false))]) (sb u) <| pRen 3510000 70101 u <| pS1 [0, 1] u u (.inl u) u (.tmp u <| .nil)
  ·refine wBF hp10.1 tm (s1 u) <| wSkip <| pSeq <| wSeq ?_
   obtain ⟨hc11, h⟩ := ib h
   refine rx (cr (oLdN (n := 0) (k := 0) u u u t183 tm) (s1 u) <| c2 <| cw (oCutR (n := 1) (id' := 30) u183 z161 u hc11.1 hc11.2 tm tm) (s2 u u) <| cwn (oStN (n := 0) (m := 1) (k := 0) u u u u z183 u tm tm) (s2 u u) <| .nil) <| pSeq <| wSeq <| rx (c1 <| .nil) <| pSeq <| wRet ?_
   obtain rfl := so h
   exact pSub (Γ' := [(3, .d (kB.sig true))]) (sb u) <| pRen 30 70101 u <| pS1 [0, 1] u u (.inl u) u (.tmp u <| .nil)
theorem rule_made.ok {a0 : List Int} {r : Bool × Bool} (h : rule_made.f a0 = some r) : FnA PP 116 [(kL ki).sig a0] (tup [kB.sig r.1, kB.sig r.2]) := by
 refine fnIntro Tryz.func116 u (by kernel_rfl) fun H0 w0 => ?_
 unfold rule_made.f at h
 refine wSeq <| rx (c2 <| .nil) <| pSeq <| wSeq <| rx (cw (oAlloc (id := 4) (ls := [.d (kN Bool) []]) ze183 (fun g => ⟨[(.slice none 0 0)], _, u, zN g.H, u⟩)) tv <| .nil) <| pSeq <| wSeq <| rx (cp (oMkN (ids := [4]) (caps := [none]) u (oNp tm oN0)) (s1 u) <| c1 <| .nil) <| pSeq <| wSeq <| wSeq <| rx (c3 <| .nil) <| pSeq <| wNilL kB 161 5200 (n := 0) (k := 0) u u u ?_
 obtain ⟨o1, h, hk1⟩ := bd h
 refine wK1 (fun x271 => .inr x271 = o1) (fun x271 => [(0, .d ((kL ki).sig a0)), (4, .p 4 0)]) (fun x271 => [.row 5200 161 kB x271, .box 4 183 [.v 5200]]) ?_ ?_
 ·refine wBlock (wLoop ?_)
  refine lW (pc2 o1 (fun v269 v270 => [(0, .d ((kL ki).sig a0)), (4, .p 4 0), (5, .f [4] (sCloN 133 [none])), (10, .d ((kL ki).sig a0)), (11, .d (ki.sig (a0.length : Int))), (12, .d (ki.sig v270))]) (fun v269 v270 => [.row 5200 161 kB v269, .box 4 183 [.v 5200]]) (rule_made.l0.partial_correctness a0) ?_ _ _ h) ⟨u, u, u, u, u, u, tv⟩ u
  clear h
  intro f' ih v269 v270 h
  refine wSeq <| rx (c1 <| .nil) <| pSeq <| wSeq ?_
  obtain ⟨hp272, h⟩ | ⟨hp272, h⟩ := ik h
  ·refine wCT hp272.1 tm (s1 u) <| wSkip <| pSeq ?_
   obtain ⟨o2, h, hk2⟩ := bd h
   refine wJ1 (fun x339 => .inr x339 = o2) (fun x339 => [(0, .d ((kL ki).sig a0)), (4, .p 4 0), (5, .f [4] (sCloN 133 [none])), (10, .d ((kL ki).sig a0)), (11, .d (ki.sig (a0.length : Int))), (12, .d (ki.sig v270))]) (fun x339 => [.row 5200 161 kB x339, .box 4 183 [.v 5200]]) ?_ ?_
   ·refine wBlock <| wSeq ?_
    obtain ⟨y340, hy340, h⟩ := bd h
    refine rx (cp (oIdx u59 z3 hy340 tm tm) (s2 u u) <| c2 <| .nil) <| pSeq <| wSeq <| rx (c1 <| .nil) <| pSeq <| wSeq <| wSeq <| rx (c1 <| .nil) <| pSeq ?_
    obtain ⟨o3, h, hk3⟩ := bd h
    refine wK2 (fun x372 x373 => (x372, x373) = o3) (fun x372 x373 => [(0, .d ((kL ki).sig a0)), (4, .p 4 0), (5, .f [4] (sCloN 133 [none])), (8, .d (kB.sig x373)), (10, .d ((kL ki).sig a0)), (11, .d (ki.sig (a0.length : Int))), (12, .d (ki.sig v270))]) (fun x372 x373 => [.row 5200 161 kB x372, .box 4 183 [.v 5200]]) ?_ ?_
    ·refine wBlock <| wSeq <| wSeq <| rx (c2 <| .nil) <| pSeq ?_
     obtain ⟨hp374, h⟩ | ⟨hp374, h⟩ := ik h
     ·refine wCT hp374.1 tm (s1 u) <| wSkip <| pSeq <| wCT hp374.1 tm (s1 u) ?_
      obtain ⟨hc375, h⟩ := ib h
      exact rx (cr (oLdN (n := 1) (k := 0) u u u t183 tm) (s1 u) <| cp (oLit (d := kB) el183 (by decide) u u u (e1 cB e0)) tv <| cw (oApp (n := 0) (id' := 22) el183 (by decide) u (by decide) hc375 tm tm) (s2 u u) <| cwn (oStN (n := 1) (m := 0) (k := 0) u u u u z183 u tm tm) (s2 u u) <| .nil) <| pBlkN <| pSub (Γ' := [(0, .d ((kL ki).sig a0)), (4, .p 4 0), (5, .f [4] (sCloN 133 [none])), (8, .d (kB.sig true)), (10, .d ((kL ki).sig a0)), (11, .d (ki.sig (a0.length : Int))), (12, .d (ki.sig v270))]) (sb u) <| pRen 22 5200 u <| pJ2 _ _ (so h) (sb u) u
     ·refine wCF hp374.1 tm (s1 u) <| rx (c2 <| .nil) <| pSeq ?_
      obtain ⟨hp376, h⟩ | ⟨hp376, h⟩ := ik h
      ·refine wCT hp376.1 tm (s1 u) ?_
       obtain ⟨hc377, h⟩ := ib h
       exact rx (cr (oLdN (n := 1) (k := 0) u u u t183 tm) (s1 u) <| cp (oLit (d := kB) el183 (by decide) u u u (e1 cB e0)) tv <| cw (oApp (n := 0) (id' := 22) el183 (by decide) u (by decide) hc377 tm tm) (s2 u u) <| cwn (oStN (n := 1) (m := 0) (k := 0) u u u u z183 u tm tm) (s2 u u) <| .nil) <| pBlkN <| pSub (Γ' := [(0, .d ((kL ki).sig a0)), (4, .p 4 0), (5, .f [4] (sCloN 133 [none])), (8, .d (kB.sig true)), (10, .d ((kL ki).sig a0)), (11, .d (ki.sig (a0.length : Int))), (12, .d (ki.sig v270))]) (sb u) <| pRen 22 5200 u <| pJ2 _ _ (so h) (sb u) u
      ·refine wCF hp376.1 tm (s1 u) <| wSeq <| wSeq <| rx (c2 <| .nil) <| pSeq ?_
       obtain ⟨hp378, h⟩ | ⟨hp378, h⟩ := ik h
       ·refine wCT hp378.1 tm (s1 u) <| wSkip <| pSeq <| wCT hp378.1 tm (s1 u) ?_
        obtain ⟨hc379, h⟩ := ib h
        exact rx (cr (oLdN (n := 1) (k := 0) u u u t183 tm) (s1 u) <| cp (oLit (d := kB) el183 (by decide) u u u (e1 cB e0)) tv <| cw (oApp (n := 0) (id' := 32) el183 (by decide) u (by decide) hc379 tm tm) (s2 u u) <| cwn (oStN (n := 1) (m := 0) (k := 0) u u u u z183 u tm tm) (s2 u u) <| .nil) <| pBlkN <| pSub (Γ' := [(0, .d ((kL ki).sig a0)), (4, .p 4 0), (5, .f [4] (sCloN 133 [none])), (8, .d (kB.sig true)), (10, .d ((kL ki).sig a0)), (11, .d (ki.sig (a0.length : Int))), (12, .d (ki.sig v270))]) (sb u) <| pRen 32 5200 u <| pJ2 _ _ (so h) (sb u) u
       ·refine wCF hp378.1 tm (s1 u) <| wSeq <| rx (c2 <| .nil) <| pSeq ?_
        obtain ⟨hp380, h⟩ | ⟨hp380, h⟩ := ik h
        ·refine wCT hp380.1 tm (s1 u) <| wSkip <| pSeq <| wCT hp380.1 tm (s1 u) ?_
         obtain ⟨hc381, h⟩ := ib h
         exact rx (cr (oLdN (n := 1) (k := 0) u u u t183 tm) (s1 u) <| cp (oLit (d := kB) el183 (by decide) u u u (e1 cB e0)) tv <| cw (oApp (n := 0) (id' := 32) el183 (by decide) u (by decide) hc381 tm tm) (s2 u u) <| cwn (oStN (n := 1) (m := 0) (k := 0) u u u u z183 u tm tm) (s2 u u) <| .nil) <| pBlkN <| pSub (Γ' := [(0, .d ((kL ki).sig a0)), (4, .p 4 0), (5, .f [4] (sCloN 133 [none])), (8, .d (kB.sig true)), (10, .d ((kL ki).sig a0)), (11, .d (ki.sig (a0.length : Int))), (12, .d (ki.sig v270))]) (sb u) <| pRen 32 5200 u <| pJ2 _ _ (so h) (sb u) u
        ·refine wCF hp380.1 tm (s1 u) <| wSeq <| rx (c2 <| .nil) <| pSeq ?_
         obtain ⟨hp382, h⟩ | ⟨hp382, h⟩ := ik h
         ·refine wCT hp382.1 tm (s1 u) <| wSkip <| pSeq <| wCT hp382.1 tm (s1 u) ?_
          obtain ⟨hc383, h⟩ := ib h
          exact rx (cr (oLdN (n := 1) (k := 0) u u u t183 tm) (s1 u) <| cp (oLit (d := kB) el183 (by decide) u u u (e1 cB e0)) tv <| cw (oApp (n := 0) (id' := 32) el183 (by decide) u (by decide) hc383 tm tm) (s2 u u) <| cwn (oStN (n := 1) (m := 0) (k := 0) u u u u z183 u tm tm) (s2 u u) <| .nil) <| pBlkN <| pSub (Γ' := [(0, .d ((kL ki).sig a0)), (4, .p 4 0), (5, .f [4] (sCloN 133 [none])), (8, .d (kB.sig true)), (10, .d ((kL ki).sig a0)), (11, .d (ki.sig (a0.length : Int))), (12, .d (ki.sig v270))]) (sb u) <| pRen 32 5200 u <| pJ2 _ _ (so h) (sb u) u
         ·refine wCF hp382.1 tm (s1 u) <| wSeq <| rx (c2 <| .nil) <| pSeq ?_
          obtain ⟨hp384, h⟩ | ⟨hp384, h⟩ := ik h
          ·refine wCT hp384.1 tm (s1 u) <| wSkip <| pSeq <| wCT hp384.1 tm (s1 u) ?_
           obtain ⟨hc385, h⟩ := ib h
           exact rx (cr (oLdN (n := 1) (k := 0) u u u t183 tm) (s1 u) <| cp (oLit (d := kB) el183 (by decide) u u u (e1 cB e0)) tv <| cw (oApp (n := 0) (id' := 32) el183 (by decide) u (by decide) hc385 tm tm) (s2 u u) <| cwn (oStN (n := 1) (m := 0) (k := 0) u u u u z183 u tm tm) (s2 u u) <| .nil) <| pBlkN <| pSub (Γ' := [(0, .d ((kL ki).sig a0)), (4, .p 4 0), (5, .f [4] (sCloN 133 [none])), (8, .d (kB.sig true)), (10, .d ((kL ki).sig a0)), (11, .d (ki.sig (a0.length : Int))), (12, .d (ki.sig v270))]) (sb u) <| pRen 32 5200 u <| pJ2 _ _ (so h) (sb u) u
          ·refine wCF hp384.1 tm (s1 u) <| wSeq <| rx (c2 <| .nil) <| pSeq ?_
           obtain ⟨hp386, h⟩ | ⟨hp386, h⟩ := ik h
           ·refine wCT hp386.1 tm (s1 u) <| wSkip <| pSeq <| wCT hp386.1 tm (s1 u) ?_
            obtain ⟨hc387, h⟩ := ib h
            exact rx (cr (oLdN (n := 1) (k := 0) u u u t183 tm) (s1 u) <| cp (oLit (d := kB) el183 (by decide) u u u (e1 cB e0)) tv <| cw (oApp (n := 0) (id' := 32) el183 (by decide) u (by decide) hc387 tm tm) (s2 u u) <| cwn (oStN (n := 1) (m := 0) (k := 0) u u u u z183 u tm tm) (s2 u u) <| .nil) <| pBlkN <| pSub (Γ' := [(0, .d ((kL ki).sig a0)), (4, .p 4 0), (5, .f [4] (sCloN 133 [none])), (8, .d (kB.sig true)), (10, .d ((kL ki).sig a0)), (11, .d (ki.sig (a0.length : Int))), (12, .d (ki.sig v270))]) (sb u) <| pRen 32 5200 u <| pJ2 _ _ (so h) (sb u) u
           ·refine wCF hp386.1 tm (s1 u) <| rx (c2 <| .nil) <| pSeq ?_
            obtain ⟨hp388, h⟩ | ⟨hp388, h⟩ := ik h
            ·refine wCT hp388.1 tm (s1 u) ?_
             obtain ⟨hc389, h⟩ := ib h
             exact rx (cr (oLdN (n := 1) (k := 0) u u u t183 tm) (s1 u) <| cp (oLit (d := kB) el183 (by decide) u u u (e1 cB e0)) tv <| cw (oApp (n := 0) (id' := 32) el183 (by decide) u (by decide) hc389 tm tm) (s2 u u) <| cwn (oStN (n := 1) (m := 0) (k := 0) u u u u z183 u tm tm) (s2 u u) <| .nil) <| pBlkN <| pSub (Γ' := [(0, .d ((kL ki).sig a0)), (4, .p 4 0), (5, .f [4] (sCloN 133 [none])), (8, .d (kB.sig true)), (10, .d ((kL ki).sig a0)), (11, .d (ki.sig (a0.length : Int))), (12, .d (ki.sig v270))]) (sb u) <| pRen 32 5200 u <| pJ2 _ _ (so h) (sb u) u
            ·refine wCF hp388.1 tm (s1 u) <| wSeq <| wSeq <| rx (c2 <| .nil) <| pSeq ?_
             obtain ⟨hp390, h⟩ | ⟨hp390, h⟩ := ik h
             ·refine wCT hp390.1 tm (s1 u) <| wSkip <| pSeq <| wCT hp390.1 tm (s1 u) <| wSeq ?_
              obtain ⟨y391, hy391, h⟩ := bd h
              refine rx (c1 <| cm (oCallN (ins := [.d (kB.sig false)]) (caps := [none]) (kn := [70100]) (rest := []) (R' := [.row 510040 161 kB y391.1, .box 4 183 [.v 510040]]) (out' := .d (kB.sig y391.2)) [(70100, 4), (70101, 5200)] [(70101, 510040)] [1, 0] [] [1, 0] u tm (rule_made_1.ok hy391) u b133 (oE1 cB oE0) u u u u u u u u) (s1 u) <| c1 <| .nil) <| pSeq ?_
              obtain ⟨hc392, h⟩ := ib h
              exact rx (cr (oLdN (n := 1) (k := 0) u u u t183 tm) (s1 u) <| cp (oLit (d := kB) el183 (by decide) u u u (e1 cB e0)) tv <| cw (oApp (n := 0) (id' := 40) el183 (by decide) u (by decide) hc392 tm tm) (s2 u u) <| cwn (oStN (n := 1) (m := 0) (k := 0) u u u u z183 u tm tm) (s2 u u) <| .nil) <| pBlkN <| pSub (Γ' := [(0, .d ((kL ki).sig a0)), (4, .p 4 0), (5, .f [4] (sCloN 133 [none])), (8, .d (kB.sig y391.2)), (10, .d ((kL ki).sig a0)), (11, .d (ki.sig (a0.length : Int))), (12, .d (ki.sig v270))]) (sb u) <| pRen 40 5200 u <| pJ2 _ _ (so h) (sb u) u
             ·refine wCF hp390.1 tm (s1 u) <| rx (c2 <| .nil) <| pSeq ?_
              obtain ⟨hp393, h⟩ | ⟨hp393, h⟩ := ik h
              ·refine wCT hp393.1 tm (s1 u) <| wSeq ?_
               obtain ⟨y394, hy394, h⟩ := bd h
               refine rx (c1 <| cm (oCallN (ins := [.d (kB.sig false)]) (caps := [none]) (kn := [70100]) (rest := []) (R' := [.row 510040 161 kB y394.1, .box 4 183 [.v 510040]]) (out' := .d (kB.sig y394.2)) [(70100, 4), (70101, 5200)] [(70101, 510040)] [1, 0] [] [1, 0] u tm (rule_made_1.ok hy394) u b133 (oE1 cB oE0) u u u u u u u u) (s1 u) <| c1 <| .nil) <| pSeq ?_
               obtain ⟨hc395, h⟩ := ib h
               exact rx (cr (oLdN (n := 1) (k := 0) u u u t183 tm) (s1 u) <| cp (oLit (d := kB) el183 (by decide) u u u (e1 cB e0)) tv <| cw (oApp (n := 0) (id' := 40) el183 (by decide) u (by decide) hc395 tm tm) (s2 u u) <| cwn (oStN (n := 1) (m := 0) (k := 0) u u u u z183 u tm tm) (s2 u u) <| .nil) <| pBlkN <| pSub (Γ' := [(0, .d ((kL ki).sig a0)), (4, .p 4 0), (5, .f [4] (sCloN 133 [none])), (8, .d (kB.sig y394.2)), (10, .d ((kL ki).sig a0)), (11, .d (ki.sig (a0.length : Int))), (12, .d (ki.sig v270))]) (sb u) <| pRen 40 5200 u <| pJ2 _ _ (so h) (sb u) u
              ·refine wCF hp393.1 tm (s1 u) <| wSeq <| rx (c2 <| .nil) <| pSeq ?_
               obtain ⟨hp396, h⟩ | ⟨hp396, h⟩ := ik h
               ·refine wCT hp396.1 tm (s1 u) <| wSeq ?_
                obtain ⟨y397, hy397, h⟩ := bd h
                refine rx (c1 <| cm (oCallN (ins := [.d (kB.sig true)]) (caps := [none]) (kn := [70100]) (rest := []) (R' := [.row 540040 161 kB y397.1, .box 4 183 [.v 540040]]) (out' := .d (kB.sig y397.2)) [(70100, 4), (70101, 5200)] [(70101, 540040)] [1, 0] [] [1, 0] u tm (rule_made_1.ok hy397) u b133 (oE1 cB oE0) u u u u u u u u) (s1 u) <| c1 <| .nil) <| pSeq ?_
                obtain ⟨hc398, h⟩ := ib h
                exact rx (cr (oLdN (n := 1) (k := 0) u u u t183 tm) (s1 u) <| cp (oLit (d := kB) el183 (by decide) u u u (e1 cB e0)) tv <| cw (oApp (n := 0) (id' := 47) el183 (by decide) u (by decide) hc398 tm tm) (s2 u u) <| cwn (oStN (n := 1) (m := 0) (k := 0) u u u u z183 u tm tm) (s2 u u) <| .nil) <| pBlkN <| pSub (Γ' := [(0, .d ((kL ki).sig a0)), (4, .p 4 0), (5, .f [4] (sCloN 133 [none])), (8, .d (kB.sig y397.2)), (10, .d ((kL ki).sig a0)), (11, .d (ki.sig (a0.length : Int))), (12, .d (ki.sig v270))]) (sb u) <| pRen 47 5200 u <| pJ2 _ _ (so h) (sb u) u
               ·refine wCF hp396.1 tm (s1 u) <| wSeq <| wSeq <| rx (c2 <| .nil) <| pSeq ?_
                obtain ⟨hp399, h⟩ | ⟨hp399, h⟩ := ik h
                ·refine wCT hp399.1 tm (s1 u) <| wSkip <| pSeq <| wCT hp399.1 tm (s1 u) <| wSeq ?_
                 obtain ⟨y400, hy400, h⟩ := bd h
                 refine rx (c1 <| cm (oCallN (ins := [.d (kB.sig true)]) (caps := [none]) (kn := [70100]) (rest := []) (R' := [.row 580040 161 kB y400.1, .box 4 183 [.v 580040]]) (out' := .d (kB.sig y400.2)) [(70100, 4), (70101, 5200)] [(70101, 580040)] [1, 0] [] [1, 0] u tm (rule_made_1.ok hy400) u b133 (oE1 cB oE0) u u u u u u u u) (s1 u) <| c1 <| .nil) <| pSeq ?_
                 obtain ⟨hc401, h⟩ := ib h
                 exact rx (cr (oLdN (n := 1) (k := 0) u u u t183 tm) (s1 u) <| cp (oLit (d := kB) el183 (by decide) u u u (e1 cB e0)) tv <| cw (oApp (n := 0) (id' := 55) el183 (by decide) u (by decide) hc401 tm tm) (s2 u u) <| cwn (oStN (n := 1) (m := 0) (k := 0) u u u u z183 u tm tm) (s2 u u) <| .nil) <| pBlkN <| pSub (Γ' := [(0, .d ((kL ki).sig a0)), (4, .p 4 0), (5, .f [4] (sCloN 133 [none])), (8, .d (kB.sig y400.2)), (10, .d ((kL ki).sig a0)), (11, .d (ki.sig (a0.length : Int))), (12, .d (ki.sig v270))]) (sb u) <| pRen 55 5200 u <| pJ2 _ _ (so h) (sb u) u
                ·refine wCF hp399.1 tm (s1 u) <| rx (c2 <| .nil) <| pSeq ?_
                 obtain ⟨hp402, h⟩ | ⟨hp402, h⟩ := ik h
                 ·refine wCT hp402.1 tm (s1 u) <| wSeq ?_
                  obtain ⟨y403, hy403, h⟩ := bd h
                  refine rx (c1 <| cm (oCallN (ins := [.d (kB.sig true)]) (caps := [none]) (kn := [70100]) (rest := []) (R' := [.row 580040 161 kB y403.1, .box 4 183 [.v 580040]]) (out' := .d (kB.sig y403.2)) [(70100, 4), (70101, 5200)] [(70101, 580040)] [1, 0] [] [1, 0] u tm (rule_made_1.ok hy403) u b133 (oE1 cB oE0) u u u u u u u u) (s1 u) <| c1 <| .nil) <| pSeq ?_
                  obtain ⟨hc404, h⟩ := ib h
                  exact rx (cr (oLdN (n := 1) (k := 0) u u u t183 tm) (s1 u) <| cp (oLit (d := kB) el183 (by decide) u u u (e1 cB e0)) tv <| cw (oApp (n := 0) (id' := 55) el183 (by decide) u (by decide) hc404 tm tm) (s2 u u) <| cwn (oStN (n := 1) (m := 0) (k := 0) u u u u z183 u tm tm) (s2 u u) <| .nil) <| pBlkN <| pSub (Γ' := [(0, .d ((kL ki).sig a0)), (4, .p 4 0), (5, .f [4] (sCloN 133 [none])), (8, .d (kB.sig y403.2)), (10, .d ((kL ki).sig a0)), (11, .d (ki.sig (a0.length : Int))), (12, .d (ki.sig v270))]) (sb u) <| pRen 55 5200 u <| pJ2 _ _ (so h) (sb u) u
                 ·exact wCF hp402.1 tm (s1 u) <| rx (c1 <| .nil) <| pBlkN <| pJ2 _ _ (so h) (sb u) u
    ·rintro x372 x373 rfl
     replace h := hk3
     refine pSeq <| wSeq <| rx (c2 <| .nil) <| pSeq ?_
     obtain ⟨hp405, h⟩ | ⟨hp405, h⟩ := ik h
     ·refine wBT hp405.1 tm (s1 u) <| wSeq <| rx (c2 <| .nil) <| pSeq <| wRet <| pBlkR <| pThenR ?_
      obtain rfl := so h
      replace h := hk2
      refine pThenR <| pBlkR <| pThenR ?_
      obtain rfl := so h
      replace h := hk1
      refine pThenR ?_
      obtain rfl := so h
      exact pRn (.inl u) u u (.tmp u <| .tmp u <| .nil)
     ·exact wBF hp405.1 tm (s1 u) <| wSkip <| pBlkN <| pJ1 _ (so h) (sb u) u
   ·rintro x339 rfl
    replace h := hk2
    exact rx (c2 <| .nil) <| pLoop (lW (ih _ _ h) ⟨u, u, u, u, u, u, tv⟩ u)
  ·exact wCF hp272.1 tm (s1 u) <| wExit <| pThenX <| pThenX <| pBlkX <| pJ1 _ (so h) (sb u) u
 ·rintro x271 rfl
  replace h := hk1
  refine pSeq <| wSeq ?_
  obtain ⟨o1, h, hk1⟩ := bd h
  refine wJ1 (fun x407 => x407 = o1) (fun x407 => [(4, .p 4 0), (66, .d (kB.sig x407))]) (fun x407 => [.row 5200 161 kB x271, .box 4 183 [.v 5200]]) ?_ ?_
  ·obtain ⟨hp408, h⟩ | ⟨hp408, h⟩ := ik h
   ·exact rx (cr (oLdN (n := 1) (k := 0) u u u t183 tm) (s1 u) <| cr (oLenR (n := 0) u183 u tm) (s1 u) <| c6 <| .nil) <| pJ1 _ (so h) (sb u) u
   ·exact rx (cr (oLdN (n := 1) (k := 0) u u u t183 tm) (s1 u) <| cr (oLenR (n := 0) u183 u tm) (s1 u) <| c6 <| .nil) <| pJ1 _ (so h) (sb u) u
  ·rintro x407 rfl
   replace h := hk1
   obtain ⟨hp409, h⟩ | ⟨hp409, h⟩ := ik h
   ·refine wBT hp409.1 tm (s1 u) <| wSeq <| rx (c2 <| .nil) <| pSeq <| wRet <| pThenR ?_
    obtain rfl := so h
    exact pRn (.inl u) u u (.tmp u <| .tmp u <| .nil)
   ·refine wBF hp409.1 tm (s1 u) <| wSkip <| pSeq <| wSeq ?_
    obtain ⟨y410, hy410, h⟩ := bd h
    refine rx (cr (oLdN (n := 1) (k := 0) u u u t183 tm) (s1 u) <| cr (oIdxR (n := 0) u183 z161 u hy410 tm (cI (by decide))) (s1 u) <| cr (oLdE (n := 0) u hy410 u t161 tm) (s1 u) <| c2 <| .nil) <| pSeq <| wRet ?_
    obtain rfl := so h
    exact pRn (.inl u) u u (.tmp u <| .tmp u <| .nil)
theorem rule_Right.ok {a0 : List Int} {a1 : Bool} {r : Bool} (h : rule_Right.f a0 a1 = some r) : FnA PP 84 [(kL ki).sig a0, kB.sig a1] (kB.sig r) := by
 refine fnIntro Tryz.func84 u (by kernel_rfl) fun H0 w0 => ?_
 unfold rule_Right.f at h
 refine wSeq <| rx (c1 <| .nil) <| pSeq <| wSeq ?_
 obtain ⟨y1, hy1, h⟩ := bd h
 refine rx (c1 <| cC (rule_made.ok hy1) <| c4 <| c1 <| .nil) <| pSeq ?_
 obtain ⟨o1, h, hk1⟩ := bd h
 refine wJ1 (fun x3 => x3 = o1) (fun x3 => [(4, .d (kB.sig x3))]) (fun x3 => []) ?_ ?_
 ·obtain ⟨hp4, h⟩ | ⟨hp4, h⟩ := ik h
  ·exact rx (c4 <| cgB hp4.1 u u (oBEq u4 u tm tm) (s2 u u) <| c2 <| .nil) <| pJ1 _ (so h) (sb u) u
  ·exact rx (c6 <| c1 <| .nil) <| pJ1 _ (so h) (sb u) u
 ·rintro x3 rfl
  replace h := hk1
  refine wRet ?_
  obtain rfl := so h
  exact pR1 (.inl u) u (.tmp u <| .nil)
theorem table_right.ok {a0 : api_Row} {r : Bool} (h : table_right.f a0 = some r) : FnA PP 44 [(kR f_api_Row).sig a0] (kB.sig r) := by
 refine fnIntro Tryz.func44 u (by kernel_rfl) fun H0 w0 => ?_
 unfold table_right.f at h
 refine wSeq <| rx (c2 <| .nil) <| pSeq ?_
 obtain ⟨o1, h, hk1⟩ := bd h
 refine wJ1 (fun x6 => x6 = o1) (fun x6 => [(2, .d (kB.sig x6))]) (fun x6 => []) ?_ ?_
 ·obtain ⟨y7, hy7, h⟩ := bd h
  obtain ⟨hp8, h⟩ | ⟨hp8, h⟩ := ik h
  ·obtain ⟨y9, hy9, h⟩ := bd h
   obtain ⟨hp10, h⟩ | ⟨hp10, h⟩ := ik h
   ·obtain ⟨y11, hy11, h⟩ := bd h
    exact rx (c2 <| cC (rule_Right.ok hy7) <| c3 <| cgB hp8.1 u u (oCall u (rule_Right.ok hy9) b84 (oc tm (oc cB o0))) (s1 u) <| c4 <| cgB hp10.1 u u (oCall u (rule_Right.ok hy11) b84 (oc tm (oc cB o0))) (s1 u) <| c2 <| .nil) <| pJ1 _ (so h) (sb u) u
   ·exact rx (c2 <| cC (rule_Right.ok hy7) <| c3 <| cgB hp8.1 u u (oCall u (rule_Right.ok hy9) b84 (oc tm (oc cB o0))) (s1 u) <| c6 <| c1 <| .nil) <| pJ1 _ (so h) (sb u) u
  ·exact rx (c2 <| cC (rule_Right.ok hy7) <| c8 <| c3 <| .nil) <| pJ1 _ (so h) (sb u) u
 ·rintro x6 rfl
  replace h := hk1
  refine wRet ?_
  obtain rfl := so h
  exact pR1 (.inl u) u (.tmp u <| .nil)
theorem rule_Uses.ok {a0 : List Int} {r : Int × Int} (h : rule_Uses.f a0 = some r) : FnA PP 117 [(kL ki).sig a0] (tup [(kI .u32).sig r.1, ki.sig r.2]) := by
 refine fnIntro Tryz.func117 u (by kernel_rfl) fun H0 w0 => ?_
 unfold rule_Uses.f at h
 refine wSeq <| rx (c2 <| .nil) <| pSeq <| wSeq <| wSeq ?_
 obtain ⟨y1, hy1, h⟩ := bd h
 refine rx (c1 <| cC (rule_made.ok hy1) <| c4 <| c1 <| .nil) <| pSeq <| wSeq <| rx (c2 <| .nil) <| pSeq ?_
 obtain ⟨hp2, h⟩ | ⟨hp2, h⟩ := ik h
 ·refine wBT hp2.1 tm (s1 u) <| wSeq <| rx (c2 <| .nil) <| pSeq <| wRet <| pThenR ?_
  obtain rfl := so h
  exact pRn (.inl u) u u (.tmp u <| .tmp u <| .nil)
 ·refine wBF hp2.1 tm (s1 u) <| wSkip <| pSeq <| wSeq <| rx (c1 <| .nil) <| pSeq <| wSeq <| wSeq <| rx (c3 <| .nil) <| pSeq ?_
  obtain ⟨o1, h, hk1⟩ := bd h
  refine wK1 (fun x33 => x33 = o1) (fun x33 => [(6, .d ((kI .u32).sig x33))]) (fun x33 => []) ?_ ?_
  ·refine wBlock (wLoop ?_)
   refine lW (pc2 o1 (fun v31 v32 => [(6, .d ((kI .u32).sig v32)), (16, .d ((kL ki).sig a0)), (17, .d (ki.sig (a0.length : Int))), (18, .d (ki.sig v31))]) (fun v31 v32 => []) (rule_Uses.l0.partial_correctness a0) ?_ _ _ h) ⟨u, u, u, u, tv⟩ u
   clear h
   intro f' ih v31 v32 h
   refine wSeq <| rx (c1 <| .nil) <| pSeq <| wSeq ?_
   obtain ⟨hp34, h⟩ | ⟨hp34, h⟩ := ik h
   ·refine wCT hp34.1 tm (s1 u) <| wSkip <| pSeq ?_
    obtain ⟨o2, h, hk2⟩ := bd h
    refine wJ1 (fun x41 => x41 = o2) (fun x41 => [(6, .d ((kI .u32).sig x41)), (16, .d ((kL ki).sig a0)), (17, .d (ki.sig (a0.length : Int))), (18, .d (ki.sig v31))]) (fun x41 => []) ?_ ?_
    ·refine wBlock <| wSeq ?_
     obtain ⟨y42, hy42, h⟩ := bd h
     refine rx (cp (oIdx u59 z3 hy42 tm tm) (s2 u u) <| c2 <| .nil) <| pSeq ?_
     obtain ⟨o3, h, hk3⟩ := bd h
     refine wJ1 (fun x44 => x44 = o3) (fun x44 => [(6, .d ((kI .u32).sig v32)), (8, .d (ki.sig y42)), (16, .d ((kL ki).sig a0)), (17, .d (ki.sig (a0.length : Int))), (18, .d (ki.sig v31)), (27, .d (kB.sig x44))]) (fun x44 => []) ?_ ?_
     ·obtain ⟨hp45, h⟩ | ⟨hp45, h⟩ := ik h
      ·exact rx (c6 <| .nil) <| pJ1 _ (so h) (sb u) u
      ·exact rx (c6 <| .nil) <| pJ1 _ (so h) (sb u) u
     ·rintro x44 rfl
      replace h := hk3
      obtain ⟨hp46, h⟩ | ⟨hp46, h⟩ := ik h
      ·refine wBT hp46.1 tm (s1 u) ?_
       obtain ⟨hc47, h⟩ := ib h
       exact rx (c3 <| cp (oShl hc47 (cI (by decide)) tm) (s1 u) <| cp (oOr tm tm) (s2 u u) <| c1 <| .nil) <| pBlkN <| pJ1 _ (so h) (sb u) u
      ·exact wBF hp46.1 tm (s1 u) <| wSkip <| pBlkN <| pJ1 _ (so h) (sb u) u
    ·rintro x41 rfl
     replace h := hk2
     exact rx (c2 <| .nil) <| pLoop (lW (ih _ _ h) ⟨u, u, u, u, tv⟩ u)
   ·exact wCF hp34.1 tm (s1 u) <| wExit <| pThenX <| pThenX <| pBlkX <| pJ1 _ (so h) (sb u) u
  ·rintro x33 rfl
   replace h := hk1
   refine pSeq <| wSeq <| rx (c3 <| .nil) <| pSeq <| wRet ?_
   obtain rfl := so h
   exact pRn (.inl u) u u (.tmp u <| .tmp u <| .nil)
theorem table_has.ok {a0 : Int} {a1 : List Int} {r : Bool} (h : table_has.f a0 a1 = some r) : FnA PP 85 [ki.sig a0, (kL ki).sig a1] (kB.sig r) := by
 refine fnIntro Tryz.func85 u (by kernel_rfl) fun H0 w0 => ?_
 unfold table_has.f at h
 refine wSeq <| rx (c1 <| .nil) <| pSeq <| wSeq ?_
 obtain ⟨y1, hy1, h⟩ := bd h
 refine rx (c1 <| cC (rule_Uses.ok hy1) <| c4 <| c1 <| .nil) <| pSeq ?_
 obtain ⟨o1, h, hk1⟩ := bd h
 refine wJ1 (fun x5 => x5 = o1) (fun x5 => [(4, .d (kB.sig x5))]) (fun x5 => []) ?_ ?_
 ·obtain ⟨hp6, h⟩ | ⟨hp6, h⟩ := ik h
  ·obtain ⟨y7, hy7, h⟩ := bd h
   obtain ⟨hc8, h⟩ := ib h
   exact rx (c4 <| c1 <| cgB (dT hp6.1) u u (oIdxG gm0 u166 u z3 hy7 tm) (s1 u) <| c2 <| cgB (dT hp6.1) u u (oShr hc8 tm tm) (s2 u u) <| c3 <| .nil) <| pJ1 _ (so h) (sb u) u
  ·exact rx (c12 <| .nil) <| pJ1 _ (so h) (sb u) u
 ·rintro x5 rfl
  replace h := hk1
  refine wRet ?_
  obtain rfl := so h
  exact pR1 (.inl u) u (.tmp u <| .nil)
theorem table_suits.ok {a0 : Int} {a1 : api_Row} {r : Bool} (h : table_suits.f a0 a1 = some r) : FnA PP 45 [ki.sig a0, (kR f_api_Row).sig a1] (kB.sig r) := by
 refine fnIntro Tryz.func45 u (by kernel_rfl) fun H0 w0 => ?_
 unfold table_suits.f at h
 refine wSeq <| rx (c2 <| .nil) <| pSeq ?_
 obtain ⟨o1, h, hk1⟩ := bd h
 refine wJ1 (fun x6 => x6 = o1) (fun x6 => [(4, .d (kB.sig x6))]) (fun x6 => []) ?_ ?_
 ·obtain ⟨y7, hy7, h⟩ := bd h
  obtain ⟨hp8, h⟩ | ⟨hp8, h⟩ := ik h
  ·obtain ⟨y9, hy9, h⟩ := bd h
   obtain ⟨hp10, h⟩ | ⟨hp10, h⟩ := ik h
   ·obtain ⟨y11, hy11, h⟩ := bd h
    exact rx (c3 <| cC (table_has.ok hy7) <| c4 <| cgB hp8.1 u u (oCall u (table_has.ok hy9) b85 (oc tm (oc tm o0))) (s2 u u) <| c4 <| c1 <| cgB hp10.1 u u (oCall u (table_has.ok hy11) b85 (oc tm (oc tm o0))) (s2 u u) <| c2 <| .nil) <| pJ1 _ (so h) (sb u) u
   ·exact rx (c3 <| cC (table_has.ok hy7) <| c4 <| cgB hp8.1 u u (oCall u (table_has.ok hy9) b85 (oc tm (oc tm o0))) (s2 u u) <| c8 <| .nil) <| pJ1 _ (so h) (sb u) u
  ·exact rx (c3 <| cC (table_has.ok hy7) <| c12 <| c1 <| .nil) <| pJ1 _ (so h) (sb u) u
 ·rintro x6 rfl
  replace h := hk1
  refine wRet ?_
  obtain rfl := so h
  exact pR1 (.inl u) u (.tmp u <| .nil)
theorem table_Check.ok {a0 : api_Table} {r : Int × Int} (h : table_Check.f a0 = some r) : FnA PP 23 [(kR f_api_Table).sig a0] (tup [ki.sig r.1, ki.sig r.2]) := by
 refine fnIntro Tryz.func23 u (by kernel_rfl) fun H0 w0 => ?_
 unfold table_Check.f at h
 refine wSeq <| rx (c3 <| .nil) <| pSeq <| wSeq <| wSeq <| rx (c4 <| .nil) <| pSeq ?_
 obtain ⟨hp1, h⟩ | ⟨hp1, h⟩ := ik h
 ·refine wNT hp1.1 tm (s1 u) <| wSkip <| pSeq <| wSeq <| wSeq <| rx (c4 <| .nil) <| pSeq ?_
  obtain ⟨o1, h, hk1⟩ := bd h
  refine wK0 (.inr () = o1) ([]) ([]) ?_ ?_
  ·refine wBlock (wLoop ?_)
   refine lW (pc1 o1 (fun v14 => [(11, .d ((kL (kR f_api_Row)).sig a0.Rows)), (12, .d (ki.sig (a0.Rows.length : Int))), (13, .d (ki.sig v14))]) (fun v14 => []) (table_Check.l0.partial_correctness a0) ?_ _ h) ⟨u, u, u, tv⟩ u
   clear h
   intro f' ih v14 h
   refine wSeq <| rx (c1 <| .nil) <| pSeq <| wSeq ?_
   obtain ⟨hp15, h⟩ | ⟨hp15, h⟩ := ik h
   ·refine wCT hp15.1 tm (s1 u) <| wSkip <| pSeq <| wSeq <| wBlock <| wSeq ?_
    obtain ⟨y16, hy16, h⟩ := bd h
    refine rx (c1 <| cp (oIdx u26 z61 hy16 tm tm) (s2 u u) <| c1 <| cw (oAlloc (id := 5) (ls := Z61) ze61 zl61) tv <| c1 <| cwn (oStA (n := 0) (fs := f_api_Row) u u z61 tm tm) (s2 u u) <| .nil) <| pSeq <| wBlock <| wSeq ?_
    obtain ⟨y17, hy17, h⟩ := bd h
    refine rx (cr (oLdA (n := 0) (fs := f_api_Row) (u := ⟨y16.May, y16.Res, y16.Pc⟩) u ⟨u, u, u, tv⟩ t61 tm) (s1 u) <| cC (table_right.ok hy17) <| c2 <| .nil) <| pSeq ?_
    obtain ⟨hp18, h⟩ | ⟨hp18, h⟩ := ik h
    ·refine wBT hp18.1 tm (s1 u) <| wSeq <| rx (c3 <| .nil) <| pSeq <| wRet <| pBlkR <| pBlkR <| pThenR <| pThenR <| pBlkR <| pThenR ?_
     obtain rfl := so h
     replace h := hk1
     refine pThenR ?_
     obtain rfl := so h
     exact pRn (.inl u) u u (.tmp u <| .tmp u <| .nil)
    ·refine wBF hp18.1 tm (s1 u) <| wSeq ?_
     obtain ⟨y19, hy19, h⟩ := bd h
     refine rx (c1 <| cr (oLdA (n := 0) (fs := f_api_Row) (u := ⟨y16.May, y16.Res, y16.Pc⟩) u ⟨u, u, u, tv⟩ t61 tm) (s1 u) <| cC (table_suits.ok hy19) <| c2 <| .nil) <| pSeq ?_
     obtain ⟨hp20, h⟩ | ⟨hp20, h⟩ := ik h
     ·refine wBT hp20.1 tm (s1 u) <| wSeq <| rx (c3 <| .nil) <| pSeq <| wRet <| pBlkR <| pBlkR <| pThenR <| pThenR <| pBlkR <| pThenR ?_
      obtain rfl := so h
      replace h := hk1
      refine pThenR ?_
      obtain rfl := so h
      exact pRn (.inl u) u u (.tmp u <| .tmp u <| .nil)
     ·exact wBF hp20.1 tm (s1 u) <| wSkip <| pBlkN <| pBlkN <| pSeq <| rx (c2 <| .nil) <| pDrop (.cons _ .slnil) <| pLoop (lW (ih _ h) ⟨u, u, u, tv⟩ u)
   ·exact wCF hp15.1 tm (s1 u) <| wExit <| pThenX <| pThenX <| pBlkX <| pJ0 (so h) tv u
  ·rintro rfl
   replace h := hk1
   refine pSeq <| wSeq <| rx (c2 <| .nil) <| pSeq <| wRet ?_
   obtain rfl := so h
   exact pRn (.inl u) u u (.tmp u <| .tmp u <| .nil)
 ·refine wNF hp1.1 tm (s1 u) <| wSeq <| rx (c2 <| .nil) <| pSeq <| wRet <| pThenR ?_
  obtain rfl := so h
  exact pRn (.inl u) u u (.tmp u <| .tmp u <| .nil)
theorem state_value.ok {a0 : Int} {r : Bool} (h : state_value.f a0 = some r) : FnA PP 48 [ki.sig a0] (kB.sig r) := by
 refine fnIntro Tryz.func48 u (by kernel_rfl) fun H0 w0 => ?_
 unfold state_value.f at h
 refine wSeq <| rx (c1 <| .nil) <| pSeq ?_
 obtain ⟨o1, h, hk1⟩ := bd h
 refine wJ1 (fun x2 => x2 = o1) (fun x2 => [(2, .d (kB.sig x2))]) (fun x2 => []) ?_ ?_
 ·obtain ⟨hp3, h⟩ | ⟨hp3, h⟩ := ik h
  ·exact rx (c6 <| c1 <| .nil) <| pJ1 _ (so h) (sb u) u
  ·exact rx (c6 <| c1 <| .nil) <| pJ1 _ (so h) (sb u) u
 ·rintro x2 rfl
  replace h := hk1
  refine wRet ?_
  obtain rfl := so h
  exact pR1 (.inl u) u (.tmp u <| .nil)
theorem state_place.ok {a0 : Int} {r : Bool} (h : state_place.f a0 = some r) : FnA PP 50 [ki.sig a0] (kB.sig r) := by
 refine fnIntro Tryz.func50 u (by kernel_rfl) fun H0 w0 => ?_
 unfold state_place.f at h
 refine wSeq <| rx (c1 <| .nil) <| pSeq ?_
 obtain ⟨o1, h, hk1⟩ := bd h
 refine wJ1 (fun x2 => x2 = o1) (fun x2 => [(2, .d (kB.sig x2))]) (fun x2 => []) ?_ ?_
 ·obtain ⟨hp3, h⟩ | ⟨hp3, h⟩ := ik h
  ·exact rx (c6 <| c1 <| .nil) <| pJ1 _ (so h) (sb u) u
  ·exact rx (c6 <| c1 <| .nil) <| pJ1 _ (so h) (sb u) u
 ·rintro x2 rfl
  replace h := hk1
  refine wRet ?_
  obtain rfl := so h
  exact pR1 (.inl u) u (.tmp u <| .nil)
theorem code_spans_1_1.ok {a0 : Int} {a1 : Int} {a2 : Int} {r : Bool} (h : code_spans_1_1.f a0 a1 a2 = some r) : FnA PP 135 [ki.sig a0, sP ki a1, sP ki a2] (kB.sig r) := by
 refine fnIntro Tryz.func135 u (by kernel_rfl) fun H0 w0 => ?_
 unfold code_spans_1_1.f at h
 refine wSeq <| rx (c1 <| .nil) <| pSeq ?_
 obtain ⟨o1, h, hk1⟩ := bd h
 refine wJ1 (fun x2 => x2 = o1) (fun x2 => [(4, .d (kB.sig x2))]) (fun x2 => []) ?_ ?_
 ·obtain ⟨hp3, h⟩ | ⟨hp3, h⟩ := ik h
  ·exact rx (c8 <| c1 <| .nil) <| pJ1 _ (so h) (sb u) u
  ·exact rx (c8 <| c1 <| .nil) <| pJ1 _ (so h) (sb u) u
 ·rintro x2 rfl
  replace h := hk1
  refine wRet ?_
  obtain rfl := so h
  exact pR1 (.inl u) u (.tmp u <| .nil)
theorem code_spans_1.ok {a0 : Int} {a1 : Int} {r : Int -> Option Bool} (h : code_spans_1.f a0 a1 = some r) : FnA PP 134 [ki.sig a0, ki.sig a1] ((sFun PP (rl1 ki kB r))) := by
 refine fnIntro Tryz.func134 u (by kernel_rfl) fun H0 w0 => ?_
 unfold code_spans_1.f at h
 refine wSeq <| rx (c2 <| cp (oAs cV) tv <| .nil) <| pSeq <| wSeq <| rx (cp (oMkF (Rl := rl1 ki kB (fun z0 => code_spans_1_1.f z0 a0 a1)) u b135 (rl1e code_spans_1_1.ok) (oc tm (oc tm o0))) (s2 u u) <| c1 <| .nil) <| pSeq <| wRet ?_
 obtain rfl := so h
 exact pR1 (.inl u) u (.tmp u <| .nil)
theorem code_spans.ok {r : List (Int × (Option (Int -> Option Bool)))} (h : code_spans.f = some r) : FnA PP 118 [] ((sMap ki (kFn PP (rl1 ki kB)) r)) := by
 refine fnIntro Tryz.func118 u (by kernel_rfl) fun H0 w0 => ?_
 unfold code_spans.f at h
 refine wSeq <| rx (cp (oAs cV) tv <| .nil) <| pSeq <| wSeq <| rx (cp (oAs (oFn b134 (rl2sn (o := (fun r => (sFun PP (rl1 ki kB r)))) code_spans_1.ok))) tv <| .nil) <| pSeq <| wSeq ?_
 obtain ⟨y1, hy1, h⟩ := bd h
 obtain ⟨y2, hy2, h⟩ := bd h
 obtain ⟨y3, hy3, h⟩ := bd h
 obtain ⟨y4, hy4, h⟩ := bd h
 refine rx (cw (oMkMap (id := 2) (dk := ki) (dv := (kFn PP (rl1 ki kB)))) tv <| c1 <| cp (oCallV u (rl2si (o := (fun r => (sFun PP (rl1 ki kB r)))) (f := code_spans_1.f) hy1) tm (oc (cI (by decide)) (oc (cI (by decide)) o0))) (s1 u) <| cwn (oInsert (n := 0) (dk := ki) (dv := (kFn PP (rl1 ki kB))) u u168 mk3 u u tm (cI (by decide)) (oSome tm)) (s2 u u) <| c1 <| cp (oCallV u (rl2si (o := (fun r => (sFun PP (rl1 ki kB r)))) (f := code_spans_1.f) hy2) tm (oc (cI (by decide)) (oc (cI (by decide)) o0))) (s1 u) <| cwn (oInsert (n := 0) (dk := ki) (dv := (kFn PP (rl1 ki kB))) u u168 mk3 u u tm (cI (by decide)) (oSome tm)) (s2 u u) <| c1 <| cp (oCallV u (rl2si (o := (fun r => (sFun PP (rl1 ki kB r)))) (f := code_spans_1.f) hy3) tm (oc (cI (by decide)) (oc (cI (by decide)) o0))) (s1 u) <| cwn (oInsert (n := 0) (dk := ki) (dv := (kFn PP (rl1 ki kB))) u u168 mk3 u u tm (cI (by decide)) (oSome tm)) (s2 u u) <| c1 <| cp (oCallV u (rl2si (o := (fun r => (sFun PP (rl1 ki kB r)))) (f := code_spans_1.f) hy4) tm (oc (cI (by decide)) (oc (cI (by decide)) o0))) (s1 u) <| cwn (oInsert (n := 0) (dk := ki) (dv := (kFn PP (rl1 ki kB))) u u168 mk3 u u tm (cI (by decide)) (oSome tm)) (s2 u u) <| c2 <| .nil) <| pSeq <| wFrzM (n := 0) (id := 2) 0 u u <| wRet ?_
 obtain rfl := so h
 exact pR1 (.inl u) u (.tmp u <| .nil)
theorem code_right.ok {a0 : Int} {a1 : api_Instr} {r : Bool} (h : code_right.f a0 a1 = some r) : FnA PP 87 [ki.sig a0, (kR f_api_Instr).sig a1] (kB.sig r) := by
 refine fnIntro Tryz.func87 u (by kernel_rfl) fun H0 w0 => ?_
 unfold code_right.f at h
 refine wSeq <| rx (c2 <| .nil) <| pSeq <| wSeq ?_
 obtain ⟨o1, h, hk1⟩ := bd h
 refine wJ1 (fun x2 => x2 = o1) (fun x2 => [(0, .d (ki.sig a0)), (3, .d (sP (kR f_api_Instr) a1)), (14, .d (kB.sig x2))]) (fun x2 => []) ?_ ?_
 ·obtain ⟨hp3, h⟩ | ⟨hp3, h⟩ := ik h
  ·exact rx (c8 <| .nil) <| pJ1 _ (so h) (sb u) u
  ·exact rx (c8 <| .nil) <| pJ1 _ (so h) (sb u) u
 ·rintro x2 rfl
  replace h := hk1
  obtain ⟨hp4, h⟩ | ⟨hp4, h⟩ := ik h
  ·refine wBT hp4.1 tm (s1 u) <| wSeq <| rx (c1 <| .nil) <| pSeq <| wRet <| pThenR ?_
   obtain rfl := so h
   exact pR1 (.inl u) u (.tmp u <| .nil)
  ·refine wBF hp4.1 tm (s1 u) <| wSkip <| pSeq <| wSeq <| wSeq ?_
   obtain ⟨y5, hy5, h⟩ := bd h
   refine rdx hm (cC (code_spans.ok hy5) <| c2 <| cp (oLookup u168 mk3 zv99 zFn u tm tm) (s2 u u) <| c4 <| c1 <| .nil) <| pSeq ?_
   obtain ⟨o1, h, hk1⟩ := bd h
   refine wJ1 (fun x12 => x12 = o1) (fun x12 => [(0, .d (ki.sig a0)), (3, .d (sP (kR f_api_Instr) a1)), (38, .d (kB.sig x12))]) (fun x12 => []) ?_ ?_
   ·obtain ⟨hp13, h⟩ | ⟨hp13, h⟩ := ik h
    ·obtain ⟨y14, hy14, h⟩ := bd h
     obtain ⟨y15, hy15, h⟩ := bd h
     obtain ⟨hp16, h⟩ | ⟨hp16, h⟩ := ik h
     ·exact rx (c4 <| c1 <| cgB hp13.1 u u (oCallV u (rl1i (f := y14) hy15) (oGot hy14 tm) (oc tm o0)) (s2 u u) <| c6 <| csU u u <| csU u u <| csU u u <| c2 <| .nil) <| pJ1 _ (so h) (sb u) u
     ·obtain ⟨hp17, h⟩ | ⟨hp17, h⟩ := ik h
      ·exact rx (c4 <| c1 <| cgB hp13.1 u u (oCallV u (rl1i (f := y14) hy15) (oGot hy14 tm) (oc tm o0)) (s2 u u) <| c8 <| c3 <| .nil) <| pJ1 _ (so h) (sb u) u
      ·exact rx (c4 <| c1 <| cgB hp13.1 u u (oCallV u (rl1i (f := y14) hy15) (oGot hy14 tm) (oc tm o0)) (s2 u u) <| c8 <| c3 <| .nil) <| pJ1 _ (so h) (sb u) u
    ·obtain ⟨hp18, h⟩ | ⟨hp18, h⟩ := ik h
     ·exact rx (c12 <| c4 <| c1 <| .nil) <| pJ1 _ (so h) (sb u) u
     ·exact rx (c12 <| c4 <| c1 <| .nil) <| pJ1 _ (so h) (sb u) u
   ·rintro x12 rfl
    replace h := hk1
    obtain ⟨hp19, h⟩ | ⟨hp19, h⟩ := ik h
    ·refine wBT hp19.1 tm (s1 u) <| wSeq <| rx (c1 <| .nil) <| pSeq <| wRet <| pThenR ?_
     obtain rfl := so h
     exact pR1 (.inl u) u (.tmp u <| .nil)
    ·refine wBF hp19.1 tm (s1 u) <| wSkip <| pSeq <| wSeq <| wSeq <| rx (c3 <| .nil) <| pSeq ?_
     obtain ⟨hp20, h⟩ | ⟨hp20, h⟩ := ik h
     ·refine wCT hp20.1 tm (s1 u) ?_
      obtain ⟨o1, h, hk1⟩ := bd h
      refine wJ1 (fun x22 => x22 = o1) (fun x22 => [(4, .d (kB.sig x22))]) (fun x22 => []) ?_ ?_
      ·obtain ⟨hp23, h⟩ | ⟨hp23, h⟩ := ik h
       ·exact rx (c8 <| c2 <| .nil) <| pJ1 _ (so h) (sb u) u
       ·exact rx (c8 <| c2 <| .nil) <| pJ1 _ (so h) (sb u) u
      ·rintro x22 rfl
       replace h := hk1
       refine wRet <| pThenR ?_
       obtain rfl := so h
       exact pR1 (.inl u) u (.tmp u <| .nil)
     ·refine wCF hp20.1 tm (s1 u) <| wSkip <| pSeq <| wSeq <| rx (c4 <| .nil) <| pSeq <| wRet ?_
      obtain rfl := so h
      exact pR1 (.inl u) u (.tmp u <| .nil)
theorem slices_IndexFunc_api_Instr_api_Instr.ok {a0 : List api_Instr} {a1 : api_Instr -> Option Bool} {r : Int} (h : slices_IndexFunc_api_Instr_api_Instr.f a0 a1 = some r) : FnA PP 119 [(kL (kR f_api_Instr)).sig a0, (sFun PP (rl1 (kR f_api_Instr) kB a1))] (ki.sig r) := by
 refine fnIntro Tryz.func119 u (by kernel_rfl) fun H0 w0 => ?_
 unfold slices_IndexFunc_api_Instr_api_Instr.f at h
 refine wSeq <| rx (c1 <| .nil) <| pSeq <| wSeq <| wSeq <| rx (c3 <| .nil) <| pSeq ?_
 obtain ⟨o1, h, hk1⟩ := bd h
 refine wK0 (.inr () = o1) ([]) ([]) ?_ ?_
 ·refine wBlock (wLoop ?_)
  refine lW (pc1 o1 (fun v9 => [(0, .d ((kL (kR f_api_Instr)).sig a0)), (1, .d ((sFun PP (rl1 (kR f_api_Instr) kB a1)))), (7, .d (ki.sig (a0.length : Int))), (8, .d (ki.sig v9))]) (fun v9 => []) (slices_IndexFunc_api_Instr_api_Instr.l0.partial_correctness a0 a1) ?_ _ h) ⟨u, u, u, u, tv⟩ u
  clear h
  intro f' ih v9 h
  refine wSeq <| rx (c1 <| .nil) <| pSeq <| wSeq ?_
  obtain ⟨hp10, h⟩ | ⟨hp10, h⟩ := ik h
  ·refine wCT hp10.1 tm (s1 u) <| wSkip <| pSeq <| wSeq <| wBlock <| wSeq <| rx (c2 <| .nil) <| pSeq <| wSeq ?_
   obtain ⟨y11, hy11, h⟩ := bd h
   obtain ⟨y12, hy12, h⟩ := bd h
   refine rx (c3 <| cp (oIdx u31 z74 hy11 tm tm) (s2 u u) <| c1 <| cp (oCallV u (rl1i (f := a1) hy12) tm (oc tm o0)) (s2 u u) <| .nil) <| pSeq ?_
   obtain ⟨hp13, h⟩ | ⟨hp13, h⟩ := ik h
   ·refine wBT hp13.1 tm (s1 u) <| wSeq <| rx (c2 <| .nil) <| pSeq <| wRet <| pBlkR <| pThenR <| pThenR <| pBlkR <| pThenR ?_
    obtain rfl := so h
    replace h := hk1
    refine pThenR ?_
    obtain rfl := so h
    exact pR1 (.inl u) u (.tmp u <| .nil)
   ·exact wBF hp13.1 tm (s1 u) <| wSkip <| pBlkN <| pSeq <| rx (c2 <| .nil) <| pLoop (lW (ih _ h) ⟨u, u, u, u, tv⟩ u)
  ·exact wCF hp10.1 tm (s1 u) <| wExit <| pThenX <| pThenX <| pBlkX <| pJ0 (so h) tv u
 ·rintro rfl
  replace h := hk1
  refine pSeq <| wSeq <| rx (c1 <| .nil) <| pSeq <| wRet ?_
  obtain rfl := so h
  exact pR1 (.inl u) u (.tmp u <| .nil)
theorem slices_ContainsFunc_api_Instr_api_Instr.ok {a0 : List api_Instr} {a1 : api_Instr -> Option Bool} {r : Bool} (h : slices_ContainsFunc_api_Instr_api_Instr.f a0 a1 = some r) : FnA PP 88 [(kL (kR f_api_Instr)).sig a0, (sFun PP (rl1 (kR f_api_Instr) kB a1))] (kB.sig r) := by
 refine fnIntro Tryz.func88 u (by kernel_rfl) fun H0 w0 => ?_
 unfold slices_ContainsFunc_api_Instr_api_Instr.f at h
 refine wSeq <| rx (c1 <| .nil) <| pSeq <| wSeq ?_
 obtain ⟨y1, hy1, h⟩ := bd h
 refine rx (c2 <| cC (slices_IndexFunc_api_Instr_api_Instr.ok hy1) <| c2 <| .nil) <| pSeq <| wRet ?_
 obtain rfl := so h
 exact pR1 (.inl u) u (.tmp u <| .nil)
theorem code_Right_1.ok {a0 : api_Instr} {a1 : api_Lattice} {r : Bool} (h : code_Right_1.f a0 a1 = some r) : FnA PP 86 [(kR f_api_Instr).sig a0, sP (kR f_api_Lattice) a1] (kB.sig r) := by
 refine fnIntro Tryz.func86 u (by kernel_rfl) fun H0 w0 => ?_
 unfold code_Right_1.f at h
 refine wSeq <| rx (c2 <| .nil) <| pSeq <| wSeq ?_
 obtain ⟨y1, hy1, h⟩ := bd h
 refine rx (c4 <| cC (code_right.ok hy1) <| c2 <| .nil) <| pSeq <| wRet ?_
 obtain rfl := so h
 exact pR1 (.inl u) u (.tmp u <| .nil)
theorem code_Right.ok {a0 : api_Lattice} {a1 : List api_Instr} {r : Bool} (h : code_Right.f a0 a1 = some r) : FnA PP 51 [(kR f_api_Lattice).sig a0, (kL (kR f_api_Instr)).sig a1] (kB.sig r) := by
 refine fnIntro Tryz.func51 u (by kernel_rfl) fun H0 w0 => ?_
 unfold code_Right.f at h
 refine wSeq <| rx (c2 <| .nil) <| pSeq <| wSeq <| rx (cp (oMkF (Rl := rl1 (kR f_api_Instr) kB (fun z0 => code_Right_1.f z0 a0)) u b86 (rl1e code_Right_1.ok) (oc tm o0)) (s1 u) <| c1 <| .nil) <| pSeq ?_
 obtain ⟨o1, h, hk1⟩ := bd h
 refine wJ1 (fun x5 => x5 = o1) (fun x5 => [(4, .d (kB.sig x5))]) (fun x5 => []) ?_ ?_
 ·obtain ⟨y6, hy6, h⟩ := bd h
  obtain ⟨hp7, h⟩ | ⟨hp7, h⟩ := ik h
  ·obtain ⟨hp8, h⟩ | ⟨hp8, h⟩ := ik h
   ·obtain ⟨y9, hy9, h⟩ := bd h
    exact rx (c1 <| cC (lattice_Check.ok hy6) <| c8 <| c1 <| cgB (dT hp8.1) u u (oCall u (slices_ContainsFunc_api_Instr_api_Instr.ok hy9) b88 (oc tm (oc tm o0))) (s2 u u) <| c3 <| .nil) <| pJ1 _ (so h) (sb u) u
   ·exact rx (c1 <| cC (lattice_Check.ok hy6) <| c12 <| c1 <| .nil) <| pJ1 _ (so h) (sb u) u
  ·exact rx (c1 <| cC (lattice_Check.ok hy6) <| c12 <| c1 <| .nil) <| pJ1 _ (so h) (sb u) u
 ·rintro x5 rfl
  replace h := hk1
  refine wRet ?_
  obtain rfl := so h
  exact pR1 (.inl u) u (.tmp u <| .nil)
theorem slices_IndexFunc_api_Atom_api_Atom.ok {a0 : List api_Atom} {a1 : api_Atom -> Option Bool} {r : Int} (h : slices_IndexFunc_api_Atom_api_Atom.f a0 a1 = some r) : FnA PP 89 [(kL (kR f_api_Atom)).sig a0, (sFun PP (rl1 (kR f_api_Atom) kB a1))] (ki.sig r) := by
 refine fnIntro Tryz.func89 u (by kernel_rfl) fun H0 w0 => ?_
 unfold slices_IndexFunc_api_Atom_api_Atom.f at h
 refine wSeq <| rx (c1 <| .nil) <| pSeq <| wSeq <| wSeq <| rx (c3 <| .nil) <| pSeq ?_
 obtain ⟨o1, h, hk1⟩ := bd h
 refine wK0 (.inr () = o1) ([]) ([]) ?_ ?_
 ·refine wBlock (wLoop ?_)
  refine lW (pc1 o1 (fun v9 => [(0, .d ((kL (kR f_api_Atom)).sig a0)), (1, .d ((sFun PP (rl1 (kR f_api_Atom) kB a1)))), (7, .d (ki.sig (a0.length : Int))), (8, .d (ki.sig v9))]) (fun v9 => []) (slices_IndexFunc_api_Atom_api_Atom.l0.partial_correctness a0 a1) ?_ _ h) ⟨u, u, u, u, tv⟩ u
  clear h
  intro f' ih v9 h
  refine wSeq <| rx (c1 <| .nil) <| pSeq <| wSeq ?_
  obtain ⟨hp10, h⟩ | ⟨hp10, h⟩ := ik h
  ·refine wCT hp10.1 tm (s1 u) <| wSkip <| pSeq <| wSeq <| wBlock <| wSeq <| rx (c2 <| .nil) <| pSeq <| wSeq ?_
   obtain ⟨y11, hy11, h⟩ := bd h
   obtain ⟨y12, hy12, h⟩ := bd h
   refine rx (c3 <| cp (oIdx u32 z30 hy11 tm tm) (s2 u u) <| c1 <| cp (oCallV u (rl1i (f := a1) hy12) tm (oc tm o0)) (s2 u u) <| .nil) <| pSeq ?_
   obtain ⟨hp13, h⟩ | ⟨hp13, h⟩ := ik h
   ·refine wBT hp13.1 tm (s1 u) <| wSeq <| rx (c2 <| .nil) <| pSeq <| wRet <| pBlkR <| pThenR <| pThenR <| pBlkR <| pThenR ?_
    obtain rfl := so h
    replace h := hk1
    refine pThenR ?_
    obtain rfl := so h
    exact pR1 (.inl u) u (.tmp u <| .nil)
   ·exact wBF hp13.1 tm (s1 u) <| wSkip <| pBlkN <| pSeq <| rx (c2 <| .nil) <| pLoop (lW (ih _ h) ⟨u, u, u, u, tv⟩ u)
  ·exact wCF hp10.1 tm (s1 u) <| wExit <| pThenX <| pThenX <| pBlkX <| pJ0 (so h) tv u
 ·rintro rfl
  replace h := hk1
  refine pSeq <| wSeq <| rx (c1 <| .nil) <| pSeq <| wRet ?_
  obtain rfl := so h
  exact pR1 (.inl u) u (.tmp u <| .nil)
theorem slices_ContainsFunc_api_Atom_api_Atom.ok {a0 : List api_Atom} {a1 : api_Atom -> Option Bool} {r : Bool} (h : slices_ContainsFunc_api_Atom_api_Atom.f a0 a1 = some r) : FnA PP 52 [(kL (kR f_api_Atom)).sig a0, (sFun PP (rl1 (kR f_api_Atom) kB a1))] (kB.sig r) := by
 refine fnIntro Tryz.func52 u (by kernel_rfl) fun H0 w0 => ?_
 unfold slices_ContainsFunc_api_Atom_api_Atom.f at h
 refine wSeq <| rx (c1 <| .nil) <| pSeq <| wSeq ?_
 obtain ⟨y1, hy1, h⟩ := bd h
 refine rx (c2 <| cC (slices_IndexFunc_api_Atom_api_Atom.ok hy1) <| c2 <| .nil) <| pSeq <| wRet ?_
 obtain rfl := so h
 exact pR1 (.inl u) u (.tmp u <| .nil)
theorem slices_IndexFunc_api_Slot_api_Slot.ok {a0 : List api_Slot} {a1 : api_Slot -> Option Bool} {r : Int} (h : slices_IndexFunc_api_Slot_api_Slot.f a0 a1 = some r) : FnA PP 90 [(kL (kR f_api_Slot)).sig a0, (sFun PP (rl1 (kR f_api_Slot) kB a1))] (ki.sig r) := by
 refine fnIntro Tryz.func90 u (by kernel_rfl) fun H0 w0 => ?_
 unfold slices_IndexFunc_api_Slot_api_Slot.f at h
 refine wSeq <| rx (c1 <| .nil) <| pSeq <| wSeq <| wSeq <| rx (c3 <| .nil) <| pSeq ?_
 obtain ⟨o1, h, hk1⟩ := bd h
 refine wK0 (.inr () = o1) ([]) ([]) ?_ ?_
 ·refine wBlock (wLoop ?_)
  refine lW (pc1 o1 (fun v9 => [(0, .d ((kL (kR f_api_Slot)).sig a0)), (1, .d ((sFun PP (rl1 (kR f_api_Slot) kB a1)))), (7, .d (ki.sig (a0.length : Int))), (8, .d (ki.sig v9))]) (fun v9 => []) (slices_IndexFunc_api_Slot_api_Slot.l0.partial_correctness a0 a1) ?_ _ h) ⟨u, u, u, u, tv⟩ u
  clear h
  intro f' ih v9 h
  refine wSeq <| rx (c1 <| .nil) <| pSeq <| wSeq ?_
  obtain ⟨hp10, h⟩ | ⟨hp10, h⟩ := ik h
  ·refine wCT hp10.1 tm (s1 u) <| wSkip <| pSeq <| wSeq <| wBlock <| wSeq <| rx (c2 <| .nil) <| pSeq <| wSeq ?_
   obtain ⟨y11, hy11, h⟩ := bd h
   obtain ⟨y12, hy12, h⟩ := bd h
   refine rx (c3 <| cp (oIdx u33 z76 hy11 tm tm) (s2 u u) <| c1 <| cp (oCallV u (rl1i (f := a1) hy12) tm (oc tm o0)) (s2 u u) <| .nil) <| pSeq ?_
   obtain ⟨hp13, h⟩ | ⟨hp13, h⟩ := ik h
   ·refine wBT hp13.1 tm (s1 u) <| wSeq <| rx (c2 <| .nil) <| pSeq <| wRet <| pBlkR <| pThenR <| pThenR <| pBlkR <| pThenR ?_
    obtain rfl := so h
    replace h := hk1
    refine pThenR ?_
    obtain rfl := so h
    exact pR1 (.inl u) u (.tmp u <| .nil)
   ·exact wBF hp13.1 tm (s1 u) <| wSkip <| pBlkN <| pSeq <| rx (c2 <| .nil) <| pLoop (lW (ih _ h) ⟨u, u, u, u, tv⟩ u)
  ·exact wCF hp10.1 tm (s1 u) <| wExit <| pThenX <| pThenX <| pBlkX <| pJ0 (so h) tv u
 ·rintro rfl
  replace h := hk1
  refine pSeq <| wSeq <| rx (c1 <| .nil) <| pSeq <| wRet ?_
  obtain rfl := so h
  exact pR1 (.inl u) u (.tmp u <| .nil)
theorem slices_ContainsFunc_api_Slot_api_Slot.ok {a0 : List api_Slot} {a1 : api_Slot -> Option Bool} {r : Bool} (h : slices_ContainsFunc_api_Slot_api_Slot.f a0 a1 = some r) : FnA PP 53 [(kL (kR f_api_Slot)).sig a0, (sFun PP (rl1 (kR f_api_Slot) kB a1))] (kB.sig r) := by
 refine fnIntro Tryz.func53 u (by kernel_rfl) fun H0 w0 => ?_
 unfold slices_ContainsFunc_api_Slot_api_Slot.f at h
 refine wSeq <| rx (c1 <| .nil) <| pSeq <| wSeq ?_
 obtain ⟨y1, hy1, h⟩ := bd h
 refine rx (c2 <| cC (slices_IndexFunc_api_Slot_api_Slot.ok hy1) <| c2 <| .nil) <| pSeq <| wRet ?_
 obtain rfl := so h
 exact pR1 (.inl u) u (.tmp u <| .nil)
theorem state_Right_1.ok {a0 : Int} {a1 : api_Lattice} {r : Bool} (h : state_Right_1.f a0 a1 = some r) : FnA PP 46 [ki.sig a0, sP (kR f_api_Lattice) a1] (kB.sig r) := by
 refine fnIntro Tryz.func46 u (by kernel_rfl) fun H0 w0 => ?_
 unfold state_Right_1.f at h
 refine wSeq <| rx (c1 <| .nil) <| pSeq ?_
 obtain ⟨o1, h, hk1⟩ := bd h
 refine wJ1 (fun x2 => x2 = o1) (fun x2 => [(3, .d (kB.sig x2))]) (fun x2 => []) ?_ ?_
 ·obtain ⟨hp3, h⟩ | ⟨hp3, h⟩ := ik h
  ·exact rx (c8 <| c2 <| .nil) <| pJ1 _ (so h) (sb u) u
  ·exact rx (c8 <| c2 <| .nil) <| pJ1 _ (so h) (sb u) u
 ·rintro x2 rfl
  replace h := hk1
  refine wRet ?_
  obtain rfl := so h
  exact pR1 (.inl u) u (.tmp u <| .nil)
theorem state_Right_2.ok {a0 : api_Atom} {a1 : Option (Int -> Option Bool)} {r : Bool} (h : state_Right_2.f a0 a1 = some r) : FnA PP 47 [(kR f_api_Atom).sig a0, sP (kFn PP (rl1 ki kB)) a1] (kB.sig r) := by
 refine fnIntro Tryz.func47 u (by kernel_rfl) fun H0 w0 => ?_
 unfold state_Right_2.f at h
 refine wSeq <| rx (c2 <| .nil) <| pSeq ?_
 obtain ⟨o1, h, hk1⟩ := bd h
 refine wJ1 (fun x5 => x5 = o1) (fun x5 => [(3, .d (kB.sig x5))]) (fun x5 => []) ?_ ?_
 ·obtain ⟨y6, hy6, h⟩ := bd h
  obtain ⟨hp7, h⟩ | ⟨hp7, h⟩ := ik h
  ·exact rx (c2 <| cC (state_value.ok hy6) <| c8 <| c1 <| .nil) <| pJ1 _ (so h) (sb u) u
  ·obtain ⟨y8, hy8, h⟩ := bd h
   obtain ⟨y9, hy9, h⟩ := bd h
   exact rx (c2 <| cC (state_value.ok hy6) <| c4 <| c1 <| cgB (nb hp7.1) u u (oCallV u (rl1i (f := y8) hy9) (oGot hy8 tm) (oc tm o0)) (s2 u u) <| c3 <| .nil) <| pJ1 _ (so h) (sb u) u
 ·rintro x5 rfl
  replace h := hk1
  refine wRet ?_
  obtain rfl := so h
  exact pR1 (.inl u) u (.tmp u <| .nil)
theorem state_Right_3.ok {a0 : api_Slot} {a1 : Option (Int -> Option Bool)} {r : Bool} (h : state_Right_3.f a0 a1 = some r) : FnA PP 49 [(kR f_api_Slot).sig a0, sP (kFn PP (rl1 ki kB)) a1] (kB.sig r) := by
 refine fnIntro Tryz.func49 u (by kernel_rfl) fun H0 w0 => ?_
 unfold state_Right_3.f at h
 refine wSeq <| rx (c2 <| .nil) <| pSeq ?_
 obtain ⟨o1, h, hk1⟩ := bd h
 refine wJ1 (fun x11 => x11 = o1) (fun x11 => [(3, .d (kB.sig x11))]) (fun x11 => []) ?_ ?_
 ·obtain ⟨y12, hy12, h⟩ := bd h
  obtain ⟨y13, hy13, h⟩ := bd h
  obtain ⟨hp14, h⟩ | ⟨hp14, h⟩ := ik h
  ·exact rx (c3 <| cp (oCallV u (rl1i (f := y12) hy13) (oGot hy12 tm) (oc tm o0)) (s2 u u) <| c6 <| csU u u <| csU u u <| csU u u <| csU u u <| c6 <| csU u u <| csU u u <| csU u u <| csU u u <| c3 <| .nil) <| pJ1 _ (so h) (sb u) u
  ·obtain ⟨hp15, h⟩ | ⟨hp15, h⟩ := ik h
   ·obtain ⟨y16, hy16, h⟩ := bd h
    obtain ⟨hp17, h⟩ | ⟨hp17, h⟩ := ik h
    ·exact rx (c3 <| cp (oCallV u (rl1i (f := y12) hy13) (oGot hy12 tm) (oc tm o0)) (s2 u u) <| c8 <| cgB hp15.1 u u (oCall u (state_value.ok hy16) b48 (oc tm o0)) (s1 u) <| c6 <| c1 <| csU u u <| csU u u <| csU u u <| csU u u <| c3 <| .nil) <| pJ1 _ (so h) (sb u) u
    ·obtain ⟨hp18, h⟩ | ⟨hp18, h⟩ := ik h
     ·obtain ⟨y19, hy19, h⟩ := bd h
      exact rx (c3 <| cp (oCallV u (rl1i (f := y12) hy13) (oGot hy12 tm) (oc tm o0)) (s2 u u) <| c8 <| cgB hp15.1 u u (oCall u (state_value.ok hy16) b48 (oc tm o0)) (s1 u) <| c8 <| c1 <| cgB hp18.1 u u (oCall u (state_place.ok hy19) b50 (oc tm o0)) (s1 u) <| c4 <| .nil) <| pJ1 _ (so h) (sb u) u
     ·exact rx (c3 <| cp (oCallV u (rl1i (f := y12) hy13) (oGot hy12 tm) (oc tm o0)) (s2 u u) <| c8 <| cgB hp15.1 u u (oCall u (state_value.ok hy16) b48 (oc tm o0)) (s1 u) <| c12 <| c2 <| .nil) <| pJ1 _ (so h) (sb u) u
   ·obtain ⟨hp20, h⟩ | ⟨hp20, h⟩ := ik h
    ·obtain ⟨y21, hy21, h⟩ := bd h
     exact rx (c3 <| cp (oCallV u (rl1i (f := y12) hy13) (oGot hy12 tm) (oc tm o0)) (s2 u u) <| c12 <| c6 <| cgB hp20.1 u u (oCall u (state_place.ok hy21) b50 (oc tm o0)) (s1 u) <| c4 <| .nil) <| pJ1 _ (so h) (sb u) u
    ·exact rx (c3 <| cp (oCallV u (rl1i (f := y12) hy13) (oGot hy12 tm) (oc tm o0)) (s2 u u) <| c12 <| c8 <| c3 <| .nil) <| pJ1 _ (so h) (sb u) u
 ·rintro x11 rfl
  replace h := hk1
  refine wRet ?_
  obtain rfl := so h
  exact pR1 (.inl u) u (.tmp u <| .nil)
theorem state_Right.ok {a0 : api_Lattice} {a1 : api_State} {r : Bool} (h : state_Right.f a0 a1 = some r) : FnA PP 24 [(kR f_api_Lattice).sig a0, (kR f_api_State).sig a1] (kB.sig r) := by
 refine fnIntro Tryz.func24 u (by kernel_rfl) fun H0 w0 => ?_
 unfold state_Right.f at h
 refine wSeq <| rx (c3 <| .nil) <| pSeq <| wSeq <| rx (cp (oMkF (Rl := rl1 ki kB (fun z0 => state_Right_1.f z0 a0)) u b46 (rl1e state_Right_1.ok) (oc tm o0)) (s1 u) <| cw (oAlloc (id := 5) (ls := [.d (kFn PP (rl1 ki kB)) none]) ze99 (fun g => ⟨[.nilFunc], _, u, zFn g.H, u⟩)) tv <| cwn (oSt (n := 0) (k := 0) u u u u z99 tm (oSome tm)) (s2 u u) <| .nil) <| pSeq <| wSeq <| wFrzV 5 (n := 0) (id := 5) u u u <| rx (cp (oMkF (Rl := rl1 (kR f_api_Atom) kB (fun z0 => state_Right_2.f z0 (some (fun z0 => state_Right_1.f z0 a0)))) u b47 (rl1e state_Right_2.ok) (oc tm o0)) (s1 u) <| c1 <| .nil) <| pSeq <| wSeq <| rx (cp (oMkF (Rl := rl1 (kR f_api_Slot) kB (fun z0 => state_Right_3.f z0 (some (fun z0 => state_Right_1.f z0 a0)))) u b49 (rl1e state_Right_3.ok) (oc tm o0)) (s1 u) <| c1 <| .nil) <| pSeq ?_
 obtain ⟨o1, h, hk1⟩ := bd h
 refine wJ1 (fun x3 => x3 = o1) (fun x3 => [(2, .d (sP (kR f_api_Lattice) a0)), (3, .d (sP (kR f_api_State) a1)), (5, .d (sP (kFn PP (rl1 ki kB)) (some (fun z0 => state_Right_1.f z0 a0)))), (6, .d ((sFun PP (rl1 (kR f_api_Atom) kB (fun z0 => state_Right_2.f z0 (some (fun z0 => state_Right_1.f z0 a0))))))), (7, .d ((sFun PP (rl1 (kR f_api_Slot) kB (fun z0 => state_Right_3.f z0 (some (fun z0 => state_Right_1.f z0 a0))))))), (8, .d (kB.sig x3))]) (fun x3 => []) ?_ ?_
 ·obtain ⟨hp4, h⟩ | ⟨hp4, h⟩ := ik h
  ·obtain ⟨hp5, h⟩ | ⟨hp5, h⟩ := ik h
   ·exact rx (c12 <| c4 <| c1 <| .nil) <| pJ1 _ (so h) (sb u) u
   ·exact rx (c12 <| c4 <| c1 <| .nil) <| pJ1 _ (so h) (sb u) u
  ·exact rx (c12 <| c4 <| c1 <| .nil) <| pJ1 _ (so h) (sb u) u
 ·rintro x3 rfl
  replace h := hk1
  obtain ⟨o1, h, hk1⟩ := bd h
  refine wJ1 (fun x19 => x19 = o1) (fun x19 => [(4, .d (kB.sig x19))]) (fun x19 => []) ?_ ?_
  ·obtain ⟨y20, hy20, h⟩ := bd h
   obtain ⟨hp21, h⟩ | ⟨hp21, h⟩ := ik h
   ·obtain ⟨y22, hy22, h⟩ := bd h
    obtain ⟨hp23, h⟩ | ⟨hp23, h⟩ := ik h
    ·obtain ⟨y24, hy24, h⟩ := bd h
     obtain ⟨y25, hy25, h⟩ := bd h
     obtain ⟨hp26, h⟩ | ⟨hp26, h⟩ := ik h
     ·obtain ⟨hp27, h⟩ | ⟨hp27, h⟩ := ik h
      ·obtain ⟨y28, hy28, h⟩ := bd h
       obtain ⟨hp29, h⟩ | ⟨hp29, h⟩ := ik h
       ·obtain ⟨y30, hy30, h⟩ := bd h
        obtain ⟨hp31, h⟩ | ⟨hp31, h⟩ := ik h
        ·obtain ⟨y32, hy32, h⟩ := bd h
         exact rx (c3 <| cC (code_Right.ok hy20) <| c4 <| cgB hp21.1 u u (oCall u (state_place.ok hy22) b50 (oc tm o0)) (s1 u) <| c6 <| cgB hp23.1 u u (oCallV u (rl1i (f := y24) hy25) (oGot hy24 tm) (oc tm o0)) (s2 u u) <| c8 <| cgB hp27.1 u u (oCall u (slices_ContainsFunc_api_Atom_api_Atom.ok hy28) b52 (oc tm (oc tm o0))) (s2 u u) <| c6 <| cgB hp29.1 u u (oCall u (slices_ContainsFunc_api_Slot_api_Slot.ok hy30) b53 (oc tm (oc tm o0))) (s2 u u) <| c6 <| cgB hp31.1 u u (oCall u (slices_ContainsFunc_api_Atom_api_Atom.ok hy32) b52 (oc tm (oc tm o0))) (s2 u u) <| c3 <| .nil) <| pJ1 _ (so h) (sb u) u
        ·exact rx (c3 <| cC (code_Right.ok hy20) <| c4 <| cgB hp21.1 u u (oCall u (state_place.ok hy22) b50 (oc tm o0)) (s1 u) <| c6 <| cgB hp23.1 u u (oCallV u (rl1i (f := y24) hy25) (oGot hy24 tm) (oc tm o0)) (s2 u u) <| c8 <| cgB hp27.1 u u (oCall u (slices_ContainsFunc_api_Atom_api_Atom.ok hy28) b52 (oc tm (oc tm o0))) (s2 u u) <| c6 <| cgB hp29.1 u u (oCall u (slices_ContainsFunc_api_Slot_api_Slot.ok hy30) b53 (oc tm (oc tm o0))) (s2 u u) <| c8 <| c2 <| .nil) <| pJ1 _ (so h) (sb u) u
       ·exact rx (c3 <| cC (code_Right.ok hy20) <| c4 <| cgB hp21.1 u u (oCall u (state_place.ok hy22) b50 (oc tm o0)) (s1 u) <| c6 <| cgB hp23.1 u u (oCallV u (rl1i (f := y24) hy25) (oGot hy24 tm) (oc tm o0)) (s2 u u) <| c8 <| cgB hp27.1 u u (oCall u (slices_ContainsFunc_api_Atom_api_Atom.ok hy28) b52 (oc tm (oc tm o0))) (s2 u u) <| c12 <| c4 <| c1 <| .nil) <| pJ1 _ (so h) (sb u) u
      ·exact rx (c3 <| cC (code_Right.ok hy20) <| c4 <| cgB hp21.1 u u (oCall u (state_place.ok hy22) b50 (oc tm o0)) (s1 u) <| c6 <| cgB hp23.1 u u (oCallV u (rl1i (f := y24) hy25) (oGot hy24 tm) (oc tm o0)) (s2 u u) <| c12 <| c12 <| c2 <| .nil) <| pJ1 _ (so h) (sb u) u
     ·exact rx (c3 <| cC (code_Right.ok hy20) <| c4 <| cgB hp21.1 u u (oCall u (state_place.ok hy22) b50 (oc tm o0)) (s1 u) <| c6 <| cgB hp23.1 u u (oCallV u (rl1i (f := y24) hy25) (oGot hy24 tm) (oc tm o0)) (s2 u u) <| c12 <| c12 <| c2 <| .nil) <| pJ1 _ (so h) (sb u) u
    ·exact rx (c3 <| cC (code_Right.ok hy20) <| c4 <| cgB hp21.1 u u (oCall u (state_place.ok hy22) b50 (oc tm o0)) (s1 u) <| c12 <| c12 <| c8 <| c1 <| .nil) <| pJ1 _ (so h) (sb u) u
   ·exact rx (c3 <| cC (code_Right.ok hy20) <| c12 <| c12 <| c12 <| c2 <| .nil) <| pJ1 _ (so h) (sb u) u
  ·rintro x19 rfl
   replace h := hk1
   refine wRet ?_
   obtain rfl := so h
   exact pR1 (.inl u) u (.tmp u <| .nil)
theorem step_need.ok {a0 : Bool} {z : Pn ⊕ Unit} (h : step_need.f a0 = some z) : FnZ PP 55 [.d (kB.sig a0)] [] [] 105 (fun (r : Unit) => .d (tup [])) (fun (r : Unit) => []) z := by
 refine fnIntroZ Tryz.func55 u (by kernel_rfl) fun X H0 w0 pv => ?_
 unfold step_need.f at h
 refine wSeq <| rx (c2 <| .nil) <| pSeq ?_
 obtain ⟨hp1, h⟩ | ⟨hp1, h⟩ := ik h
 ·refine wBT hp1.1 tm (s1 u) <| wT0 <| wTk 0 1 (cp (oMkX 3 cb105 (cI (by decide))) tv <| .nil) (by kernel_rfl) u <| wTx (Γp := []) 1 u (oPanic tm) u u (s1 u) tv ?_
  obtain rfl := so h
  exact pX
 ·refine wBF hp1.1 tm (s1 u) <| wSkip ?_
  obtain rfl := so h
  exact pZ <| pSn [] u u (.inr u) u u (.nil)
theorem step_need.okR {a0 : Bool} {r : Unit} (h : step_need.f a0 = some (.inr r)) : FnS PP 55 [.d (kB.sig a0)] [] [] (.d (tup [])) [] := step_need.ok h
theorem step_need.okP {a0 : Bool} {n : Pn} (h : step_need.f a0 = some (.inl n)) : FnX PP 55 [.d (kB.sig a0)] [] (pvv 105 n) := step_need.ok h
theorem slices_IndexFunc_int_int.ok {a0 : List Int} {a1 : Int -> Option Bool} {r : Int} (h : slices_IndexFunc_int_int.f a0 a1 = some r) : FnA PP 136 [(kL ki).sig a0, (sFun PP (rl1 ki kB a1))] (ki.sig r) := by
 refine fnIntro Tryz.func136 u (by kernel_rfl) fun H0 w0 => ?_
 unfold slices_IndexFunc_int_int.f at h
 refine wSeq <| rx (c1 <| .nil) <| pSeq <| wSeq <| wSeq <| rx (c3 <| .nil) <| pSeq ?_
 obtain ⟨o1, h, hk1⟩ := bd h
 refine wK0 (.inr () = o1) ([]) ([]) ?_ ?_
 ·refine wBlock (wLoop ?_)
  refine lW (pc1 o1 (fun v9 => [(0, .d ((kL ki).sig a0)), (1, .d ((sFun PP (rl1 ki kB a1)))), (7, .d (ki.sig (a0.length : Int))), (8, .d (ki.sig v9))]) (fun v9 => []) (slices_IndexFunc_int_int.l0.partial_correctness a0 a1) ?_ _ h) ⟨u, u, u, u, tv⟩ u
  clear h
  intro f' ih v9 h
  refine wSeq <| rx (c1 <| .nil) <| pSeq <| wSeq ?_
  obtain ⟨hp10, h⟩ | ⟨hp10, h⟩ := ik h
  ·refine wCT hp10.1 tm (s1 u) <| wSkip <| pSeq <| wSeq <| wBlock <| wSeq <| rx (c2 <| .nil) <| pSeq <| wSeq ?_
   obtain ⟨y11, hy11, h⟩ := bd h
   obtain ⟨y12, hy12, h⟩ := bd h
   refine rx (c3 <| cp (oIdx u59 z3 hy11 tm tm) (s2 u u) <| c1 <| cp (oCallV u (rl1i (f := a1) hy12) tm (oc tm o0)) (s2 u u) <| .nil) <| pSeq ?_
   obtain ⟨hp13, h⟩ | ⟨hp13, h⟩ := ik h
   ·refine wBT hp13.1 tm (s1 u) <| wSeq <| rx (c2 <| .nil) <| pSeq <| wRet <| pBlkR <| pThenR <| pThenR <| pBlkR <| pThenR ?_
    obtain rfl := so h
    replace h := hk1
    refine pThenR ?_
    obtain rfl := so h
    exact pR1 (.inl u) u (.tmp u <| .nil)
   ·exact wBF hp13.1 tm (s1 u) <| wSkip <| pBlkN <| pSeq <| rx (c2 <| .nil) <| pLoop (lW (ih _ h) ⟨u, u, u, u, tv⟩ u)
  ·exact wCF hp10.1 tm (s1 u) <| wExit <| pThenX <| pThenX <| pBlkX <| pJ0 (so h) tv u
 ·rintro rfl
  replace h := hk1
  refine pSeq <| wSeq <| rx (c1 <| .nil) <| pSeq <| wRet ?_
  obtain rfl := so h
  exact pR1 (.inl u) u (.tmp u <| .nil)
theorem slices_ContainsFunc_int_int.ok {a0 : List Int} {a1 : Int -> Option Bool} {r : Bool} (h : slices_ContainsFunc_int_int.f a0 a1 = some r) : FnA PP 120 [(kL ki).sig a0, (sFun PP (rl1 ki kB a1))] (kB.sig r) := by
 refine fnIntro Tryz.func120 u (by kernel_rfl) fun H0 w0 => ?_
 unfold slices_ContainsFunc_int_int.f at h
 refine wSeq <| rx (c1 <| .nil) <| pSeq <| wSeq ?_
 obtain ⟨y1, hy1, h⟩ := bd h
 refine rx (c2 <| cC (slices_IndexFunc_int_int.ok hy1) <| c2 <| .nil) <| pSeq <| wRet ?_
 obtain rfl := so h
 exact pR1 (.inl u) u (.tmp u <| .nil)
theorem lattice_there_1.ok {a0 : Int} {a1 : api_Lattice} {r : Bool} (h : lattice_there_1.f a0 a1 = some r) : FnA PP 121 [ki.sig a0, sP (kR f_api_Lattice) a1] (kB.sig r) := by
 refine fnIntro Tryz.func121 u (by kernel_rfl) fun H0 w0 => ?_
 unfold lattice_there_1.f at h
 refine wSeq <| rx (c1 <| .nil) <| pSeq ?_
 obtain ⟨o1, h, hk1⟩ := bd h
 refine wJ1 (fun x2 => x2 = o1) (fun x2 => [(3, .d (kB.sig x2))]) (fun x2 => []) ?_ ?_
 ·obtain ⟨hp3, h⟩ | ⟨hp3, h⟩ := ik h
  ·exact rx (c8 <| c2 <| .nil) <| pJ1 _ (so h) (sb u) u
  ·exact rx (c8 <| c2 <| .nil) <| pJ1 _ (so h) (sb u) u
 ·rintro x2 rfl
  replace h := hk1
  refine wRet ?_
  obtain rfl := so h
  exact pR1 (.inl u) u (.tmp u <| .nil)
theorem lattice_there.ok {a0 : api_Lattice} {a1 : List Int} {r : Int} (h : lattice_there.f a0 a1 = some r) : FnA PP 91 [(kR f_api_Lattice).sig a0, (kL ki).sig a1] (ki.sig r) := by
 refine fnIntro Tryz.func91 u (by kernel_rfl) fun H0 w0 => ?_
 unfold lattice_there.f at h
 refine wSeq <| rx (c2 <| .nil) <| pSeq <| wSeq <| wSeq ?_
 obtain ⟨y1, hy1, h⟩ := bd h
 refine rx (c1 <| cC (lattice_Check.ok hy1) <| c1 <| .nil) <| pSeq <| wSeq <| rx (c2 <| .nil) <| pSeq ?_
 obtain ⟨hp2, h⟩ | ⟨hp2, h⟩ := ik h
 ·refine wNT hp2.1 tm (s1 u) <| wSkip <| pSeq <| wSeq <| wSeq ?_
  obtain ⟨y3, hy3, h⟩ := bd h
  refine rx (c1 <| cp (oMkF (Rl := rl1 ki kB (fun z0 => lattice_there_1.f z0 a0)) u b121 (rl1e lattice_there_1.ok) (oc tm o0)) (s1 u) <| cC (slices_ContainsFunc_int_int.ok hy3) <| .nil) <| pSeq ?_
  obtain ⟨hp4, h⟩ | ⟨hp4, h⟩ := ik h
  ·refine wBT hp4.1 tm (s1 u) <| wSeq <| rx (c1 <| .nil) <| pSeq <| wRet <| pThenR ?_
   obtain rfl := so h
   exact pR1 (.inl u) u (.tmp u <| .nil)
  ·refine wBF hp4.1 tm (s1 u) <| wSkip <| pSeq <| wSeq <| rx (c1 <| .nil) <| pSeq <| wRet ?_
   obtain rfl := so h
   exact pR1 (.inl u) u (.tmp u <| .nil)
 ·refine wNF hp2.1 tm (s1 u) <| wSeq <| rx (c2 <| .nil) <| pSeq <| wRet <| pThenR ?_
  obtain rfl := so h
  exact pR1 (.inl u) u (.tmp u <| .nil)
theorem slices_Index_uint32_uint32.ok {a0 : List Int} {a1 : Int} {r : Int} (h : slices_Index_uint32_uint32.f a0 a1 = some r) : FnA PP 92 [(kL (kI .u32)).sig a0, (kI .u32).sig a1] (ki.sig r) := by
 refine fnIntro Tryz.func92 u (by kernel_rfl) fun H0 w0 => ?_
 unfold slices_Index_uint32_uint32.f at h
 refine wSeq <| rx (c1 <| .nil) <| pSeq <| wSeq <| wSeq <| rx (c3 <| .nil) <| pSeq ?_
 obtain ⟨o1, h, hk1⟩ := bd h
 refine wK0 (.inr () = o1) ([]) ([]) ?_ ?_
 ·refine wBlock (wLoop ?_)
  refine lW (pc1 o1 (fun v7 => [(0, .d ((kL (kI .u32)).sig a0)), (1, .d ((kI .u32).sig a1)), (7, .d (ki.sig (a0.length : Int))), (8, .d (ki.sig v7))]) (fun v7 => []) (slices_Index_uint32_uint32.l0.partial_correctness a0 a1) ?_ _ h) ⟨u, u, u, u, tv⟩ u
  clear h
  intro f' ih v7 h
  refine wSeq <| rx (c1 <| .nil) <| pSeq <| wSeq ?_
  obtain ⟨hp8, h⟩ | ⟨hp8, h⟩ := ik h
  ·refine wCT hp8.1 tm (s1 u) <| wSkip <| pSeq <| wSeq <| wBlock <| wSeq <| rx (c2 <| .nil) <| pSeq <| wSeq ?_
   obtain ⟨y9, hy9, h⟩ := bd h
   refine rx (c3 <| cp (oIdx u23 z71 hy9 tm tm) (s2 u u) <| c2 <| .nil) <| pSeq ?_
   obtain ⟨hp10, h⟩ | ⟨hp10, h⟩ := ik h
   ·refine wCT hp10.1 tm (s1 u) <| wSeq <| rx (c2 <| .nil) <| pSeq <| wRet <| pBlkR <| pThenR <| pThenR <| pBlkR <| pThenR ?_
    obtain rfl := so h
    replace h := hk1
    refine pThenR ?_
    obtain rfl := so h
    exact pR1 (.inl u) u (.tmp u <| .nil)
   ·exact wCF hp10.1 tm (s1 u) <| wSkip <| pBlkN <| pSeq <| rx (c2 <| .nil) <| pLoop (lW (ih _ h) ⟨u, u, u, u, tv⟩ u)
  ·exact wCF hp8.1 tm (s1 u) <| wExit <| pThenX <| pThenX <| pBlkX <| pJ0 (so h) tv u
 ·rintro rfl
  replace h := hk1
  refine pSeq <| wSeq <| rx (c1 <| .nil) <| pSeq <| wRet ?_
  obtain rfl := so h
  exact pR1 (.inl u) u (.tmp u <| .nil)
theorem lattice_Bottom.ok {a0 : api_Lattice} {r : Int × Int} (h : lattice_Bottom.f a0 = some r) : FnA PP 56 [(kR f_api_Lattice).sig a0] (tup [ki.sig r.1, ki.sig r.2]) := by
 refine fnIntro Tryz.func56 u (by kernel_rfl) fun H0 w0 => ?_
 unfold lattice_Bottom.f at h
 refine wSeq <| rx (c3 <| .nil) <| pSeq <| wSeq <| wSeq ?_
 obtain ⟨y1, hy1, h⟩ := bd h
 refine rx (c1 <| cp (oCall u (lattice_there.ok hy1) b91 (oc tm (oc (cN (d := ki)) o0))) (s1 u) <| c1 <| .nil) <| pSeq <| wSeq <| rx (c2 <| .nil) <| pSeq ?_
 obtain ⟨hp2, h⟩ | ⟨hp2, h⟩ := ik h
 ·refine wNT hp2.1 tm (s1 u) <| wSkip <| pSeq <| wSeq ?_
  obtain ⟨hc3, h⟩ := ib h
  refine rx (c3 <| cp (oShl hc3 (cI (by decide)) tm) (s1 u) <| c2 <| .nil) <| pSeq <| wSeq ?_
  obtain ⟨y4, hy4, h⟩ := bd h
  refine rx (c3 <| cC (slices_Index_uint32_uint32.ok hy4) <| c2 <| .nil) <| pSeq <| wRet ?_
  obtain rfl := so h
  exact pRn (.inl u) u u (.tmp u <| .tmp u <| .nil)
 ·refine wNF hp2.1 tm (s1 u) <| wSeq <| rx (c3 <| .nil) <| pSeq <| wRet <| pThenR ?_
  obtain rfl := so h
  exact pRn (.inl u) u u (.tmp u <| .tmp u <| .nil)
theorem step_machine_nothing.ok {a0 : step_machine} {r : step_machine} (h : step_machine_nothing.f a0 = some r) : FnS PP 93 [.p 70000 0] [.box 70000 111 (L111 a0)] [70000] (.d (tup [])) [.box 70000 111 (L111 r)] := by
 refine fnIntroS Tryz.func93 u (by kernel_rfl) fun X H0 w0 pv => ?_
 unfold step_machine_nothing.f at h
 refine wSkip ?_
 obtain rfl := so h
 exact pSn [0] u u (.inr u) u u (.nil)
theorem step_machine_pushes.ok {a0 : step_machine} {r : step_machine} (h : step_machine_pushes.f a0 = some r) : FnS PP 94 [.p 70000 0] [.box 70000 111 (L111 a0)] [70000] (.d (tup [])) [.box 70000 111 (L111 r)] := by
 refine fnIntroS Tryz.func94 u (by kernel_rfl) fun X H0 w0 pv => ?_
 unfold step_machine_pushes.f at h
 refine rdx hm (c4 <| c1 <| cr (oLdK (n := 0) (k := 10) u u (by kernel_rfl) t3 tm) (s1 u) <| c2 <| cp (oIdxA 0 0 u u109 z3 u tm (cI (by decide))) (s1 u) <| cwn (oStK (n := 0) (k := 21) u u u (by kernel_rfl) z3 tm tm) (s2 u u) <| .nil) ?_
 obtain rfl := so h
 exact pSn [0] u u (.inr u) u u (.nil)
theorem step_machine_atom.ok {a0 : step_machine} {a1 : Int} {z : Pn ⊕ (step_machine × api_Slot)} (h : step_machine_atom.f a0 a1 = some z) : FnZ PP 122 [.p 70000 0, .d (ki.sig a1)] [.box 70000 111 (L111 a0)] [70000] 105 (fun (r : step_machine × api_Slot) => .d ((kR f_api_Slot).sig r.2)) (fun (r : step_machine × api_Slot) => [.box 70000 111 (L111 r.1)]) z := by
 refine fnIntroZ Tryz.func122 u (by kernel_rfl) fun X H0 w0 pv => ?_
 unfold step_machine_atom.f at h
 refine wSeq <| rx (cw (oAlloc (id := 4) (ls := Z76) ze76 zl76) tv <| .nil) <| pSeq <| wSeq <| rx (c4 <| cr (oLdK (n := 1) (k := 6) u u (by kernel_rfl) t33 tm) (s1 u) <| c4 <| c1 <| .nil) <| pSeq ?_
 obtain ⟨o1, h, hk1⟩ := bd h
 refine wJ0 (.inr () = o1) ([(0, .p 70000 0), (4, .p 4 0), (5, .d (ki.sig (IntKind.i64.wrap ((IntKind.i64.wrap ((a0.s_.Stack.length : Int) - 1)) - a1))))]) ([.box 4 76 [.d kB false, .d ki 0, .d ki 0], .box 70000 111 (L111 a0)]) ?_ ?_
 ·obtain ⟨hp9, h⟩ | ⟨hp9, h⟩ := ik h
  ·obtain ⟨y10, hy10, h⟩ := bd h
   refine wT0 <| wTk 0 14 (c6 <| c1 <| crgB (dT hp9.1) u u (oLdK (n := 1) (k := 6) u u (by kernel_rfl) t33 tm) (s1 u) <| c1 <| cgB (dT hp9.1) u u (oIdx u33 z76 hy10 tm tm) (s2 u u) <| c4 <| .nil) (by kernel_rfl) u ?_
   obtain ⟨z11, hz11, h⟩ := bd h
   rcases z11 with p12 | y13
   ·refine wTx (Γp := []) 14 u (oCallX (rest := [.box 4 76 [.d kB false, .d ki 0, .d ki 0], .box 70000 111 (L111 a0)]) [] [] [0, 1] u (step_need.okP hz11) b55 (oE1 tm oE0) u u) u u (s1 u) tv <| pThenP ?_
    obtain rfl := so h
    replace h := hk1
    obtain rfl := so h
    exact pX
   ·exact wTe 14 (cm (oCallS (rest := [.box 4 76 [.d kB false, .d ki 0, .d ki 0], .box 70000 111 (L111 a0)]) (R' := [.box 4 76 [.d kB false, .d ki 0, .d ki 0], .box 70000 111 (L111 a0)]) (out' := .d (tup [])) [] [] [] [0, 1] [0, 1] u (step_need.okR hz11) b55 (oE1 tm oE0) u u u u u u u u) (s1 u) <| .nil) (by kernel_rfl) <| pJ0 (so h) (sb u) u
  ·refine wT0 <| wTk 0 14 (c12 <| c2 <| .nil) (by kernel_rfl) u ?_
   obtain ⟨z14, hz14, h⟩ := bd h
   rcases z14 with p15 | y16
   ·refine wTx (Γp := []) 14 u (oCallX (rest := [.box 4 76 [.d kB false, .d ki 0, .d ki 0], .box 70000 111 (L111 a0)]) [] [] [0, 1] u (step_need.okP hz14) b55 (oE1 tm oE0) u u) u u (s1 u) tv <| pThenP ?_
    obtain rfl := so h
    replace h := hk1
    obtain rfl := so h
    exact pX
   ·exact wTe 14 (cm (oCallS (rest := [.box 4 76 [.d kB false, .d ki 0, .d ki 0], .box 70000 111 (L111 a0)]) (R' := [.box 4 76 [.d kB false, .d ki 0, .d ki 0], .box 70000 111 (L111 a0)]) (out' := .d (tup [])) [] [] [] [0, 1] [0, 1] u (step_need.okR hz14) b55 (oE1 tm oE0) u u u u u u u u) (s1 u) <| .nil) (by kernel_rfl) <| pJ0 (so h) (sb u) u
 ·rintro rfl
  replace h := hk1
  refine wSeq ?_
  obtain ⟨y17, hy17, h⟩ := bd h
  refine rx (c4 <| cr (oLdK (n := 1) (k := 6) u u (by kernel_rfl) t33 tm) (s1 u) <| c1 <| cp (oIdx u33 z76 hy17 tm tm) (s2 u u) <| c1 <| cwn (oStA (n := 0) (fs := f_api_Slot) u u z76 tm tm) (s2 u u) <| .nil) <| pSeq <| wRet ?_
  obtain rfl := so h
  exact pZ <| pS1 [1] u u (.inl u) u (.box (n := 0) (fs := f_api_Slot) (u := ⟨y17.Ret, y17.V, y17.L⟩) u u ⟨u, u, u, tv⟩ t76 <| .nil)
theorem step_machine_atom.okR {a0 : step_machine} {a1 : Int} {r : step_machine × api_Slot} (h : step_machine_atom.f a0 a1 = some (.inr r)) : FnS PP 122 [.p 70000 0, .d (ki.sig a1)] [.box 70000 111 (L111 a0)] [70000] (.d ((kR f_api_Slot).sig r.2)) [.box 70000 111 (L111 r.1)] := step_machine_atom.ok h
theorem step_machine_atom.okP {a0 : step_machine} {a1 : Int} {n : Pn} (h : step_machine_atom.f a0 a1 = some (.inl n)) : FnX PP 122 [.p 70000 0, .d (ki.sig a1)] [.box 70000 111 (L111 a0)] (pvv 105 n) := step_machine_atom.ok h
theorem step_machine_first.ok {a0 : step_machine} {z : Pn ⊕ step_machine} (h : step_machine_first.f a0 = some z) : FnZ PP 95 [.p 70000 0] [.box 70000 111 (L111 a0)] [70000] 105 (fun (r : step_machine) => .d (tup [])) (fun (r : step_machine) => [.box 70000 111 (L111 r)]) z := by
 refine fnIntroZ Tryz.func95 u (by kernel_rfl) fun X H0 w0 pv => ?_
 unfold step_machine_first.f at h
 refine wSeq <| wT0 <| wTk 0 2 (c2 <| .nil) (by kernel_rfl) u ?_
 obtain ⟨z1, hz1, h⟩ := bd h
 rcases z1 with p2 | y3
 ·refine wTx (Γp := []) 2 u (oCallX (rest := []) [(70000, 70000)] [0] [] u (step_machine_atom.okP hz1) b122 (oE1 tm (oE1 (cI (by decide)) oE0)) u u) u u (s1 u) tv <| pThenP ?_
  obtain rfl := so h
  exact pX
 ·refine wTe 2 (cm (oCallS (rest := []) (R' := [.box 70000 111 (L111 y3.1)]) (out' := .d ((kR f_api_Slot).sig y3.2)) [(70000, 70000)] [] [0] [] [0] u (step_machine_atom.okR hz1) b122 (oE1 tm (oE1 (cI (by decide)) oE0)) u u u u u u u u) (s1 u) <| c2 <| cwn (oStPK (n := 0) (k := 11) (m := 3) (d := (kR f_api_Slot)) (u := y3.2) pt76 u u (by kernel_rfl) z76 tm tm) (s2 u u) <| .nil) (by kernel_rfl) <| pSeq <| wSeq <| rx (c4 <| c1 <| cr (oLdK (n := 0) (k := 6) u u (by kernel_rfl) t33 tm) (s1 u) <| c4 <| cwn (oStK (n := 0) (k := 20) u u u (by kernel_rfl) z3 tm tm) (s2 u u) <| .nil) <| pSeq <| rdx hm (c4 <| c1 <| cr (oLdK (n := 0) (k := 13) u u (by kernel_rfl) t3 tm) (s1 u) <| c2 <| cp (oIdxA 0 0 u u109 z3 u tm (cI (by decide))) (s1 u) <| cwn (oStK (n := 0) (k := 21) u u u (by kernel_rfl) z3 tm tm) (s2 u u) <| .nil) ?_
  obtain rfl := so h
  exact pZ <| pSn [0] u u (.inr u) u u (.nil)
theorem step_machine_first.okR {a0 : step_machine} {r : step_machine} (h : step_machine_first.f a0 = some (.inr r)) : FnS PP 95 [.p 70000 0] [.box 70000 111 (L111 a0)] [70000] (.d (tup [])) [.box 70000 111 (L111 r)] := step_machine_first.ok h
theorem step_machine_first.okP {a0 : step_machine} {n : Pn} (h : step_machine_first.f a0 = some (.inl n)) : FnX PP 95 [.p 70000 0] [.box 70000 111 (L111 a0)] (pvv 105 n) := step_machine_first.ok h
theorem step_machine_both.ok {a0 : step_machine} {z : Pn ⊕ step_machine} (h : step_machine_both.f a0 = some z) : FnZ PP 96 [.p 70000 0] [.box 70000 111 (L111 a0)] [70000] 105 (fun (r : step_machine) => .d (tup [])) (fun (r : step_machine) => [.box 70000 111 (L111 r)]) z := by
 refine fnIntroZ Tryz.func96 u (by kernel_rfl) fun X H0 w0 pv => ?_
 unfold step_machine_both.f at h
 refine wSeq <| wT0 <| wTk 0 1 (c1 <| .nil) (by kernel_rfl) u ?_
 obtain ⟨z1, hz1, h⟩ := bd h
 rcases z1 with p2 | y3
 ·refine wTx (Γp := []) 1 u (oCallX (rest := []) [(70000, 70000)] [0] [] u (step_machine_first.okP hz1) b95 (oE1 tm oE0) u u) u u (s1 u) tv <| pThenP ?_
  obtain rfl := so h
  exact pX
 ·refine wTe 1 (cm (oCallS (rest := []) (R' := [.box 70000 111 (L111 y3)]) (out' := .d (tup [])) [(70000, 70000)] [] [0] [] [0] u (step_machine_first.okR hz1) b95 (oE1 tm oE0) u u u u u u u u) (s1 u) <| .nil) (by kernel_rfl) <| pSeq <| wSeq <| wT0 <| wTk 0 2 (c2 <| .nil) (by kernel_rfl) u ?_
  obtain ⟨z4, hz4, h⟩ := bd h
  rcases z4 with p5 | y6
  ·refine wTx (Γp := []) 2 u (oCallX (rest := []) [(70000, 70000)] [0] [] u (step_machine_atom.okP hz4) b122 (oE1 tm (oE1 (cI (by decide)) oE0)) u u) u u (s1 u) tv <| pThenP ?_
   obtain rfl := so h
   exact pX
  ·refine wTe 2 (cm (oCallS (rest := []) (R' := [.box 70000 111 (L111 y6.1)]) (out' := .d ((kR f_api_Slot).sig y6.2)) [(70000, 70000)] [] [0] [] [0] u (step_machine_atom.okR hz4) b122 (oE1 tm (oE1 (cI (by decide)) oE0)) u u u u u u u u) (s1 u) <| c2 <| cwn (oStPK (n := 0) (k := 14) (m := 3) (d := (kR f_api_Slot)) (u := y6.2) pt76 u u (by kernel_rfl) z76 tm tm) (s2 u u) <| .nil) (by kernel_rfl) <| pSeq <| wSeq <| rx (c3 <| cr (oLdK (n := 0) (k := 20) u u (by kernel_rfl) t3 tm) (s1 u) <| c3 <| cwn (oStK (n := 0) (k := 20) u u u (by kernel_rfl) z3 tm tm) (s2 u u) <| .nil) <| pSeq <| rdx hm (c4 <| c1 <| cr (oLdK (n := 0) (k := 16) u u (by kernel_rfl) t3 tm) (s1 u) <| c2 <| cp (oIdxA 1 1 u u109 z3 u tm (cI (by decide))) (s1 u) <| cwn (oStK (n := 0) (k := 22) u u u (by kernel_rfl) z3 tm tm) (s2 u u) <| .nil) ?_
   obtain rfl := so h
   exact pZ <| pSn [0] u u (.inr u) u u (.nil)
theorem step_machine_both.okR {a0 : step_machine} {r : step_machine} (h : step_machine_both.f a0 = some (.inr r)) : FnS PP 96 [.p 70000 0] [.box 70000 111 (L111 a0)] [70000] (.d (tup [])) [.box 70000 111 (L111 r)] := step_machine_both.ok h
theorem step_machine_both.okP {a0 : step_machine} {n : Pn} (h : step_machine_both.f a0 = some (.inl n)) : FnX PP 96 [.p 70000 0] [.box 70000 111 (L111 a0)] (pvv 105 n) := step_machine_both.ok h
theorem step_machine_cell.ok {a0 : step_machine} {z : Pn ⊕ (step_machine × Int)} (h : step_machine_cell.f a0 = some z) : FnZ PP 123 [.p 70000 0] [.box 70000 111 (L111 a0)] [70000] 105 (fun (r : step_machine × Int) => .d (ki.sig r.2)) (fun (r : step_machine × Int) => [.box 70000 111 (L111 r.1)]) z := by
 refine fnIntroZ Tryz.func123 u (by kernel_rfl) fun X H0 w0 pv => ?_
 unfold step_machine_cell.f at h
 refine wSeq <| rx (c1 <| .nil) <| pSeq ?_
 obtain ⟨o1, h, hk1⟩ := bd h
 refine wJ0 (.inr () = o1) ([(0, .p 70000 0)]) ([.box 70000 111 (L111 a0)]) ?_ ?_
 ·obtain ⟨hp8, h⟩ | ⟨hp8, h⟩ := ik h
  ·obtain ⟨z9, hz9, h⟩ := bd h
   rcases z9 with p10 | y11
   ·refine rgXD (Γp := []) hm (c4 <| cr (oLdK (n := 0) (k := 12) u u (by kernel_rfl) t3 tm) (s1 u) <| c6 <| crgB (dT hp8.1) u u (oLdK (n := 0) (k := 12) u u (by kernel_rfl) t3 tm) (s1 u) <| c4 <| crgB (dT hp8.1) u u (oLdK (n := 0) (k := 5) u u (by kernel_rfl) t32 tm) (s1 u) <| c3 <| cb (oCallX (rest := [.box 70000 111 (L111 a0)]) [] [] [0] u (step_need.okP hz9) b55 (oE1 tm oE0) u u) (s1 u) <| .nil) (by kernel_rfl) (by kernel_rfl) tv <| pThenP ?_
    obtain rfl := so h
    replace h := hk1
    obtain rfl := so h
    exact pX
   ·exact rdx hm (c4 <| cr (oLdK (n := 0) (k := 12) u u (by kernel_rfl) t3 tm) (s1 u) <| c6 <| crgB (dT hp8.1) u u (oLdK (n := 0) (k := 12) u u (by kernel_rfl) t3 tm) (s1 u) <| c4 <| crgB (dT hp8.1) u u (oLdK (n := 0) (k := 5) u u (by kernel_rfl) t32 tm) (s1 u) <| c3 <| cm (oCallS (rest := [.box 70000 111 (L111 a0)]) (R' := [.box 70000 111 (L111 a0)]) (out' := .d (tup [])) [] [] [] [0] [0] u (step_need.okR hz9) b55 (oE1 tm oE0) u u u u u u u u) (s1 u) <| .nil) <| pJ0 (so h) (sb u) u
  ·obtain ⟨z12, hz12, h⟩ := bd h
   rcases z12 with p13 | y14
   ·refine rgXD (Γp := []) hm (c4 <| cr (oLdK (n := 0) (k := 12) u u (by kernel_rfl) t3 tm) (s1 u) <| c12 <| c3 <| cb (oCallX (rest := [.box 70000 111 (L111 a0)]) [] [] [0] u (step_need.okP hz12) b55 (oE1 tm oE0) u u) (s1 u) <| .nil) (by kernel_rfl) (by kernel_rfl) tv <| pThenP ?_
    obtain rfl := so h
    replace h := hk1
    obtain rfl := so h
    exact pX
   ·exact rdx hm (c4 <| cr (oLdK (n := 0) (k := 12) u u (by kernel_rfl) t3 tm) (s1 u) <| c12 <| c3 <| cm (oCallS (rest := [.box 70000 111 (L111 a0)]) (R' := [.box 70000 111 (L111 a0)]) (out' := .d (tup [])) [] [] [] [0] [0] u (step_need.okR hz12) b55 (oE1 tm oE0) u u u u u u u u) (s1 u) <| .nil) <| pJ0 (so h) (sb u) u
 ·rintro rfl
  replace h := hk1
  refine wSeq <| rx (c4 <| cr (oLdK (n := 0) (k := 12) u u (by kernel_rfl) t3 tm) (s1 u) <| c1 <| .nil) <| pSeq <| wRet ?_
  obtain rfl := so h
  exact pZ <| pS1 [0] u u (.inl u) u (.tmp u <| .nil)
theorem step_machine_cell.okR {a0 : step_machine} {r : step_machine × Int} (h : step_machine_cell.f a0 = some (.inr r)) : FnS PP 123 [.p 70000 0] [.box 70000 111 (L111 a0)] [70000] (.d (ki.sig r.2)) [.box 70000 111 (L111 r.1)] := step_machine_cell.ok h
theorem step_machine_cell.okP {a0 : step_machine} {n : Pn} (h : step_machine_cell.f a0 = some (.inl n)) : FnX PP 123 [.p 70000 0] [.box 70000 111 (L111 a0)] (pvv 105 n) := step_machine_cell.ok h
theorem step_machine_loads.ok {a0 : step_machine} {z : Pn ⊕ step_machine} (h : step_machine_loads.f a0 = some z) : FnZ PP 97 [.p 70000 0] [.box 70000 111 (L111 a0)] [70000] 105 (fun (r : step_machine) => .d (tup [])) (fun (r : step_machine) => [.box 70000 111 (L111 r)]) z := by
 refine fnIntroZ Tryz.func97 u (by kernel_rfl) fun X H0 w0 pv => ?_
 unfold step_machine_loads.f at h
 refine wSeq <| wT0 <| wTk 0 1 (c1 <| .nil) (by kernel_rfl) u ?_
 obtain ⟨z1, hz1, h⟩ := bd h
 rcases z1 with p2 | y3
 ·refine wTx (Γp := []) 1 u (oCallX (rest := []) [(70000, 70000)] [0] [] u (step_machine_first.okP hz1) b95 (oE1 tm oE0) u u) u u (s1 u) tv <| pThenP ?_
  obtain rfl := so h
  exact pX
 ·refine wTe 1 (cm (oCallS (rest := []) (R' := [.box 70000 111 (L111 y3)]) (out' := .d (tup [])) [(70000, 70000)] [] [0] [] [0] u (step_machine_first.okR hz1) b95 (oE1 tm oE0) u u u u u u u u) (s1 u) <| .nil) (by kernel_rfl) <| pSeq <| wSeq <| wT0 <| wTk 0 1 (c1 <| .nil) (by kernel_rfl) u ?_
  obtain ⟨z4, hz4, h⟩ := bd h
  rcases z4 with p5 | y6
  ·refine wTx (Γp := []) 1 u (oCallX (rest := []) [(70000, 70000)] [0] [] u (step_machine_cell.okP hz4) b123 (oE1 tm oE0) u u) u u (s1 u) tv <| pThenP ?_
   obtain rfl := so h
   exact pX
  ·refine wTe 1 (cm (oCallS (rest := []) (R' := [.box 70000 111 (L111 y6.1)]) (out' := .d (ki.sig y6.2)) [(70000, 70000)] [] [0] [] [0] u (step_machine_cell.okR hz4) b123 (oE1 tm oE0) u u u u u u u u) (s1 u) <| c1 <| .nil) (by kernel_rfl) <| pSeq ?_
   obtain ⟨y7, hy7, h⟩ := bd h
   refine rdx hm (c4 <| c1 <| cr (oLdK (n := 0) (k := 5) u u (by kernel_rfl) t32 tm) (s1 u) <| c1 <| cp (oIdx u32 z30 hy7 tm tm) (s2 u u) <| c4 <| cp (oIdxA 1 1 u u109 z3 u tm (cI (by decide))) (s1 u) <| cwn (oStK (n := 0) (k := 22) u u u (by kernel_rfl) z3 tm tm) (s2 u u) <| .nil) ?_
   obtain rfl := so h
   exact pZ <| pSn [0] u u (.inr u) u u (.nil)
theorem step_machine_loads.okR {a0 : step_machine} {r : step_machine} (h : step_machine_loads.f a0 = some (.inr r)) : FnS PP 97 [.p 70000 0] [.box 70000 111 (L111 a0)] [70000] (.d (tup [])) [.box 70000 111 (L111 r)] := step_machine_loads.ok h
theorem step_machine_loads.okP {a0 : step_machine} {n : Pn} (h : step_machine_loads.f a0 = some (.inl n)) : FnX PP 97 [.p 70000 0] [.box 70000 111 (L111 a0)] (pvv 105 n) := step_machine_loads.ok h
theorem step_machine_stores.ok {a0 : step_machine} {z : Pn ⊕ step_machine} (h : step_machine_stores.f a0 = some z) : FnZ PP 98 [.p 70000 0] [.box 70000 111 (L111 a0)] [70000] 105 (fun (r : step_machine) => .d (tup [])) (fun (r : step_machine) => [.box 70000 111 (L111 r)]) z := by
 refine fnIntroZ Tryz.func98 u (by kernel_rfl) fun X H0 w0 pv => ?_
 unfold step_machine_stores.f at h
 refine wSeq <| wT0 <| wTk 0 1 (c1 <| .nil) (by kernel_rfl) u ?_
 obtain ⟨z1, hz1, h⟩ := bd h
 rcases z1 with p2 | y3
 ·refine wTx (Γp := []) 1 u (oCallX (rest := []) [(70000, 70000)] [0] [] u (step_machine_both.okP hz1) b96 (oE1 tm oE0) u u) u u (s1 u) tv <| pThenP ?_
  obtain rfl := so h
  exact pX
 ·refine wTe 1 (cm (oCallS (rest := []) (R' := [.box 70000 111 (L111 y3)]) (out' := .d (tup [])) [(70000, 70000)] [] [0] [] [0] u (step_machine_both.okR hz1) b96 (oE1 tm oE0) u u u u u u u u) (s1 u) <| .nil) (by kernel_rfl) <| pSeq <| wSeq <| wT0 <| wTk 0 1 (c1 <| .nil) (by kernel_rfl) u ?_
  obtain ⟨z4, hz4, h⟩ := bd h
  rcases z4 with p5 | y6
  ·refine wTx (Γp := []) 1 u (oCallX (rest := []) [(70000, 70000)] [0] [] u (step_machine_cell.okP hz4) b123 (oE1 tm oE0) u u) u u (s1 u) tv <| pThenP ?_
   obtain rfl := so h
   exact pX
  ·refine wTe 1 (cm (oCallS (rest := []) (R' := [.box 70000 111 (L111 y6.1)]) (out' := .d (ki.sig y6.2)) [(70000, 70000)] [] [0] [] [0] u (step_machine_cell.okR hz4) b123 (oE1 tm oE0) u u u u u u u u) (s1 u) <| c1 <| .nil) (by kernel_rfl) <| pSeq ?_
   obtain ⟨y7, hy7, h⟩ := bd h
   refine rdx hm (c4 <| c1 <| cr (oLdK (n := 0) (k := 5) u u (by kernel_rfl) t32 tm) (s1 u) <| c1 <| cp (oIdx u32 z30 hy7 tm tm) (s2 u u) <| c4 <| cp (oIdxA 2 2 u u109 z3 u tm (cI (by decide))) (s1 u) <| cwn (oStK (n := 0) (k := 23) u u u (by kernel_rfl) z3 tm tm) (s2 u u) <| .nil) ?_
   obtain rfl := so h
   exact pZ <| pSn [0] u u (.inr u) u u (.nil)
theorem step_machine_stores.okR {a0 : step_machine} {r : step_machine} (h : step_machine_stores.f a0 = some (.inr r)) : FnS PP 98 [.p 70000 0] [.box 70000 111 (L111 a0)] [70000] (.d (tup [])) [.box 70000 111 (L111 r)] := step_machine_stores.ok h
theorem step_machine_stores.okP {a0 : step_machine} {n : Pn} (h : step_machine_stores.f a0 = some (.inl n)) : FnX PP 98 [.p 70000 0] [.box 70000 111 (L111 a0)] (pvv 105 n) := step_machine_stores.ok h
theorem step_machine_goes.ok {a0 : step_machine} {z : Pn ⊕ step_machine} (h : step_machine_goes.f a0 = some z) : FnZ PP 99 [.p 70000 0] [.box 70000 111 (L111 a0)] [70000] 105 (fun (r : step_machine) => .d (tup [])) (fun (r : step_machine) => [.box 70000 111 (L111 r)]) z := by
 refine fnIntroZ Tryz.func99 u (by kernel_rfl) fun X H0 w0 pv => ?_
 unfold step_machine_goes.f at h
 refine wSeq <| wT0 <| wTk 0 1 (c1 <| .nil) (by kernel_rfl) u ?_
 obtain ⟨z1, hz1, h⟩ := bd h
 rcases z1 with p2 | y3
 ·refine wTx (Γp := []) 1 u (oCallX (rest := []) [(70000, 70000)] [0] [] u (step_machine_first.okP hz1) b95 (oE1 tm oE0) u u) u u (s1 u) tv <| pThenP ?_
  obtain rfl := so h
  exact pX
 ·refine wTe 1 (cm (oCallS (rest := []) (R' := [.box 70000 111 (L111 y3)]) (out' := .d (tup [])) [(70000, 70000)] [] [0] [] [0] u (step_machine_first.okR hz1) b95 (oE1 tm oE0) u u u u u u u u) (s1 u) <| .nil) (by kernel_rfl) <| pSeq ?_
  obtain ⟨o1, h, hk1⟩ := bd h
  refine wK0 (.inr () = o1) ([]) ([.box 70000 111 (L111 y3)]) ?_ ?_
  ·obtain ⟨hp11, h⟩ | ⟨hp11, h⟩ := ik h
   ·refine wT0 <| wTk 0 14 (c4 <| cr (oLdK (n := 0) (k := 12) u u (by kernel_rfl) t3 tm) (s1 u) <| c6 <| crgB (dT hp11.1) u u (oLdK (n := 0) (k := 12) u u (by kernel_rfl) t3 tm) (s1 u) <| c2 <| .nil) (by kernel_rfl) u ?_
    obtain ⟨z12, hz12, h⟩ := bd h
    rcases z12 with p13 | y14
    ·refine wTx (Γp := []) 14 u (oCallX (rest := [.box 70000 111 (L111 y3)]) [] [] [0] u (step_need.okP hz12) b55 (oE1 tm oE0) u u) u u (s1 u) tv <| pThenP ?_
     obtain rfl := so h
     replace h := hk1
     obtain rfl := so h
     exact pX
    ·exact wTe 14 (cm (oCallS (rest := [.box 70000 111 (L111 y3)]) (R' := [.box 70000 111 (L111 y3)]) (out' := .d (tup [])) [] [] [] [0] [0] u (step_need.okR hz12) b55 (oE1 tm oE0) u u u u u u u u) (s1 u) <| .nil) (by kernel_rfl) <| pJ0 (so h) tv u
   ·refine wT0 <| wTk 0 14 (c4 <| cr (oLdK (n := 0) (k := 12) u u (by kernel_rfl) t3 tm) (s1 u) <| c8 <| c1 <| .nil) (by kernel_rfl) u ?_
    obtain ⟨z15, hz15, h⟩ := bd h
    rcases z15 with p16 | y17
    ·refine wTx (Γp := []) 14 u (oCallX (rest := [.box 70000 111 (L111 y3)]) [] [] [0] u (step_need.okP hz15) b55 (oE1 tm oE0) u u) u u (s1 u) tv <| pThenP ?_
     obtain rfl := so h
     replace h := hk1
     obtain rfl := so h
     exact pX
    ·exact wTe 14 (cm (oCallS (rest := [.box 70000 111 (L111 y3)]) (R' := [.box 70000 111 (L111 y3)]) (out' := .d (tup [])) [] [] [] [0] [0] u (step_need.okR hz15) b55 (oE1 tm oE0) u u u u u u u u) (s1 u) <| .nil) (by kernel_rfl) <| pJ0 (so h) tv u
  ·rintro rfl
   replace h := hk1
   obtain rfl := so h
   exact pZ <| pSn [0] u u (.inr u) u u (.nil)
theorem step_machine_goes.okR {a0 : step_machine} {r : step_machine} (h : step_machine_goes.f a0 = some (.inr r)) : FnS PP 99 [.p 70000 0] [.box 70000 111 (L111 a0)] [70000] (.d (tup [])) [.box 70000 111 (L111 r)] := step_machine_goes.ok h
theorem step_machine_goes.okP {a0 : step_machine} {n : Pn} (h : step_machine_goes.f a0 = some (.inl n)) : FnX PP 99 [.p 70000 0] [.box 70000 111 (L111 a0)] (pvv 105 n) := step_machine_goes.ok h
theorem step_machine_calls.ok {a0 : step_machine} {z : Pn ⊕ step_machine} (h : step_machine_calls.f a0 = some z) : FnZ PP 100 [.p 70000 0] [.box 70000 111 (L111 a0)] [70000] 105 (fun (r : step_machine) => .d (tup [])) (fun (r : step_machine) => [.box 70000 111 (L111 r)]) z := by
 refine fnIntroZ Tryz.func100 u (by kernel_rfl) fun X H0 w0 pv => ?_
 unfold step_machine_calls.f at h
 refine wSeq <| wT0 <| wTk 0 1 (c1 <| .nil) (by kernel_rfl) u ?_
 obtain ⟨z1, hz1, h⟩ := bd h
 rcases z1 with p2 | y3
 ·refine wTx (Γp := []) 1 u (oCallX (rest := []) [(70000, 70000)] [0] [] u (step_machine_goes.okP hz1) b99 (oE1 tm oE0) u u) u u (s1 u) tv <| pThenP ?_
  obtain rfl := so h
  exact pX
 ·refine wTe 1 (cm (oCallS (rest := []) (R' := [.box 70000 111 (L111 y3)]) (out' := .d (tup [])) [(70000, 70000)] [] [0] [] [0] u (step_machine_goes.okR hz1) b99 (oE1 tm oE0) u u u u u u u u) (s1 u) <| .nil) (by kernel_rfl) <| pSeq <| wSeq <| rx (c4 <| cr (oLdK (n := 0) (k := 9) u u (by kernel_rfl) t3 tm) (s1 u) <| c1 <| .nil) <| pSeq ?_
  obtain ⟨o1, h, hk1⟩ := bd h
  refine wK1 (fun x14 => .inr x14 = o1) (fun x14 => []) (fun x14 => [.box 70000 111 (L111 x14)]) ?_ ?_
  ·refine wBlock (wLoop ?_)
   refine lW (pc2 o1 (fun v12 v13 => [(0, .p 70000 0), (9, .d (ki.sig y3.x_.N)), (10, .d (ki.sig v13))]) (fun v12 v13 => [.box 70000 111 (L111 v12)]) (step_machine_calls.l0.partial_correctness y3) ?_ _ _ h) ⟨u, u, u, tv⟩ u
   clear h
   intro f' ih v12 v13 h
   refine wSeq <| rx (c1 <| .nil) <| pSeq <| wSeq ?_
   obtain ⟨hp15, h⟩ | ⟨hp15, h⟩ := ik h
   ·refine wCT hp15.1 tm (s1 u) <| wSkip <| pSeq <| wSeq <| wBlock <| wSeq <| rx (c2 <| .nil) <| pSeq <| wT0 <| wTk 0 3 (c3 <| .nil) (by kernel_rfl) u ?_
    obtain ⟨z16, hz16, h⟩ := bd h
    rcases z16 with p17 | y18
    ·refine wTx (Γp := []) 3 u (oCallX (rest := []) [(70000, 70000)] [0] [] u (step_machine_atom.okP hz16) b122 (oE1 tm (oE1 tm oE0)) u u) u u (s2 u u) tv <| pBlkP <| pThenP <| pThenP <| pBlkP <| pThenP ?_
     obtain rfl := so h
     replace h := hk1
     obtain rfl := so h
     exact pX
    ·exact wTe 3 (cm (oCallS (rest := []) (R' := [.box 70000 111 (L111 y18.1)]) (out' := .d ((kR f_api_Slot).sig y18.2)) [(70000, 70000)] [] [0] [] [0] u (step_machine_atom.okR hz16) b122 (oE1 tm (oE1 tm oE0)) u u u u u u u u) (s2 u u) <| .nil) (by kernel_rfl) <| pBlkN <| pSeq <| rx (c2 <| .nil) <| pLoop (lW (ih _ _ h) ⟨u, u, u, tv⟩ u)
   ·exact wCF hp15.1 tm (s1 u) <| wExit <| pThenX <| pThenX <| pBlkX <| pJ1 _ (so h) tv u
  ·rintro x14 rfl
   replace h := hk1
   obtain rfl := so h
   exact pZ <| pSn [0] u u (.inr u) u u (.nil)
theorem step_machine_calls.okR {a0 : step_machine} {r : step_machine} (h : step_machine_calls.f a0 = some (.inr r)) : FnS PP 100 [.p 70000 0] [.box 70000 111 (L111 a0)] [70000] (.d (tup [])) [.box 70000 111 (L111 r)] := step_machine_calls.ok h
theorem step_machine_calls.okP {a0 : step_machine} {n : Pn} (h : step_machine_calls.f a0 = some (.inl n)) : FnX PP 100 [.p 70000 0] [.box 70000 111 (L111 a0)] (pvv 105 n) := step_machine_calls.ok h
theorem step_machine_returns.ok {a0 : step_machine} {z : Pn ⊕ step_machine} (h : step_machine_returns.f a0 = some z) : FnZ PP 101 [.p 70000 0] [.box 70000 111 (L111 a0)] [70000] 105 (fun (r : step_machine) => .d (tup [])) (fun (r : step_machine) => [.box 70000 111 (L111 r)]) z := by
 refine fnIntroZ Tryz.func101 u (by kernel_rfl) fun X H0 w0 pv => ?_
 unfold step_machine_returns.f at h
 refine wSeq <| rx (c4 <| c1 <| cr (oLdK (n := 0) (k := 6) u u (by kernel_rfl) t33 tm) (s1 u) <| c3 <| cwn (oStK (n := 0) (k := 20) u u u (by kernel_rfl) z3 tm tm) (s2 u u) <| .nil) <| pSeq <| wSeq <| wSeq <| rx (c4 <| cr (oLdK (n := 0) (k := 9) u u (by kernel_rfl) t3 tm) (s1 u) <| c1 <| .nil) <| pSeq ?_
 obtain ⟨hp1, h⟩ | ⟨hp1, h⟩ := ik h
 ·refine wCT hp1.1 tm (s1 u) <| wT0 <| wTk 0 1 (c1 <| .nil) (by kernel_rfl) u ?_
  obtain ⟨z2, hz2, h⟩ := bd h
  rcases z2 with p3 | y4
  ·refine wTx (Γp := []) 1 u (oCallX (rest := []) [(70000, 70000)] [0] [] u (step_machine_first.okP hz2) b95 (oE1 tm oE0) u u) u u (s1 u) tv <| pThenP ?_
   obtain rfl := so h
   exact pX
  ·refine wTe 1 (cm (oCallS (rest := []) (R' := [.box 70000 111 (L111 y4)]) (out' := .d (tup [])) [(70000, 70000)] [] [0] [] [0] u (step_machine_first.okR hz2) b95 (oE1 tm oE0) u u u u u u u u) (s1 u) <| .nil) (by kernel_rfl) <| pSeq ?_
   obtain ⟨o1, h, hk1⟩ := bd h
   refine wJ1 (fun x18 => x18 = o1) (fun x18 => [(0, .p 70000 0)]) (fun x18 => [.box 70000 111 [.d (kL kS) y4.l_.Names, .d (kL (kI .u32)) y4.l_.Up, .d ki y4.s_.Pc.V, .d ki y4.s_.Pc.L, .d (kL (kR f_api_Instr)) y4.s_.Code, .d (kL (kR f_api_Atom)) y4.s_.Mem, .d (kL (kR f_api_Slot)) y4.s_.Stack, .d (kL (kR f_api_Atom)) y4.s_.Out, .d ki y4.x_.Op, .d ki y4.x_.N, .d ki y4.x_.L, .d kB y4.a_.Ret, .d ki y4.a_.V, .d ki y4.a_.L, .d kB y4.b_.Ret, .d ki y4.b_.V, .d ki y4.b_.L, .d kB y4.r_.Ret, .d ki y4.r_.V, .d ki y4.r_.L, .d ki x18, .d ki y4.one_.x0_, .d ki y4.one_.x1_, .d ki y4.one_.x2_]]) ?_ ?_
   ·refine wBlock (wLoop ?_)
    refine lW (pc1 o1 (fun v17 => [(0, .p 70000 0)]) (fun v17 => [.box 70000 111 [.d (kL kS) y4.l_.Names, .d (kL (kI .u32)) y4.l_.Up, .d ki y4.s_.Pc.V, .d ki y4.s_.Pc.L, .d (kL (kR f_api_Instr)) y4.s_.Code, .d (kL (kR f_api_Atom)) y4.s_.Mem, .d (kL (kR f_api_Slot)) y4.s_.Stack, .d (kL (kR f_api_Atom)) y4.s_.Out, .d ki y4.x_.Op, .d ki y4.x_.N, .d ki y4.x_.L, .d kB y4.a_.Ret, .d ki y4.a_.V, .d ki y4.a_.L, .d kB y4.b_.Ret, .d ki y4.b_.V, .d ki y4.b_.L, .d kB y4.r_.Ret, .d ki y4.r_.V, .d ki y4.r_.L, .d ki v17, .d ki y4.one_.x0_, .d ki y4.one_.x1_, .d ki y4.one_.x2_]]) (step_machine_returns.l0.partial_correctness y4) ?_ _ h) ⟨u, tv⟩ u
    clear h
    intro f' ih v17 h
    refine wSeq ?_
    obtain ⟨o2, h, hk2⟩ := bd h
    refine wJ1 (fun x21 => x21 = o2) (fun x21 => [(0, .p 70000 0), (39, .d (kB.sig x21))]) (fun x21 => [.box 70000 111 [.d (kL kS) y4.l_.Names, .d (kL (kI .u32)) y4.l_.Up, .d ki y4.s_.Pc.V, .d ki y4.s_.Pc.L, .d (kL (kR f_api_Instr)) y4.s_.Code, .d (kL (kR f_api_Atom)) y4.s_.Mem, .d (kL (kR f_api_Slot)) y4.s_.Stack, .d (kL (kR f_api_Atom)) y4.s_.Out, .d ki y4.x_.Op, .d ki y4.x_.N, .d ki y4.x_.L, .d kB y4.a_.Ret, .d ki y4.a_.V, .d ki y4.a_.L, .d kB y4.b_.Ret, .d ki y4.b_.V, .d ki y4.b_.L, .d kB y4.r_.Ret, .d ki y4.r_.V, .d ki y4.r_.L, .d ki v17, .d ki y4.one_.x0_, .d ki y4.one_.x1_, .d ki y4.one_.x2_]]) ?_ ?_
    ·obtain ⟨hp22, h⟩ | ⟨hp22, h⟩ := ik h
     ·obtain ⟨y23, hy23, h⟩ := bd h
      exact rdx hm (c3 <| cr (oLdK (n := 0) (k := 20) u u (by kernel_rfl) t3 tm) (s1 u) <| c6 <| crgB (dT hp22.1) u u (oLdK (n := 0) (k := 6) u u (by kernel_rfl) t33 tm) (s1 u) <| c3 <| crgB (dT hp22.1) u u (oLdK (n := 0) (k := 20) u u (by kernel_rfl) t3 tm) (s1 u) <| c1 <| cgB (dT hp22.1) u u (oIdx u33 z76 hy23 tm tm) (s2 u u) <| c4 <| .nil) <| pJ1 _ (so h) (sb u) u
     ·exact rdx hm (c3 <| cr (oLdK (n := 0) (k := 20) u u (by kernel_rfl) t3 tm) (s1 u) <| c12 <| c4 <| c1 <| .nil) <| pJ1 _ (so h) (sb u) u
    ·rintro x21 rfl
     replace h := hk2
     obtain ⟨hp24, h⟩ | ⟨hp24, h⟩ := ik h
     ·exact wBT hp24.1 tm (s1 u) <| wSkip <| pSeq <| wBlock <| rx (c3 <| cr (oLdK (n := 0) (k := 20) u u (by kernel_rfl) t3 tm) (s1 u) <| c3 <| cwn (oStK (n := 0) (k := 20) u u u (by kernel_rfl) z3 tm tm) (s2 u u) <| .nil) <| pBlkN <| pLoop (lW (ih _ h) ⟨u, tv⟩ u)
     ·exact wBF hp24.1 tm (s1 u) <| wExit <| pThenX <| pThenX <| pBlkX <| pJ1 _ (so h) (sb u) u
   ·rintro x18 rfl
    replace h := hk1
    refine wSeq <| wT0 <| wTk 0 5 (c3 <| cr (oLdK (n := 0) (k := 20) u u (by kernel_rfl) t3 tm) (s1 u) <| c1 <| .nil) (by kernel_rfl) u ?_
    obtain ⟨z25, hz25, h⟩ := bd h
    rcases z25 with p26 | y27
    ·refine wTx (Γp := []) 5 u (oCallX (rest := [.box 70000 111 [.d (kL kS) y4.l_.Names, .d (kL (kI .u32)) y4.l_.Up, .d ki y4.s_.Pc.V, .d ki y4.s_.Pc.L, .d (kL (kR f_api_Instr)) y4.s_.Code, .d (kL (kR f_api_Atom)) y4.s_.Mem, .d (kL (kR f_api_Slot)) y4.s_.Stack, .d (kL (kR f_api_Atom)) y4.s_.Out, .d ki y4.x_.Op, .d ki y4.x_.N, .d ki y4.x_.L, .d kB y4.a_.Ret, .d ki y4.a_.V, .d ki y4.a_.L, .d kB y4.b_.Ret, .d ki y4.b_.V, .d ki y4.b_.L, .d kB y4.r_.Ret, .d ki y4.r_.V, .d ki y4.r_.L, .d ki x18, .d ki y4.one_.x0_, .d ki y4.one_.x1_, .d ki y4.one_.x2_]]) [] [] [0] u (step_need.okP hz25) b55 (oE1 tm oE0) u u) u u (s1 u) tv <| pThenP ?_
     obtain rfl := so h
     exact pX
    ·refine wTe 5 (cm (oCallS (rest := [.box 70000 111 [.d (kL kS) y4.l_.Names, .d (kL (kI .u32)) y4.l_.Up, .d ki y4.s_.Pc.V, .d ki y4.s_.Pc.L, .d (kL (kR f_api_Instr)) y4.s_.Code, .d (kL (kR f_api_Atom)) y4.s_.Mem, .d (kL (kR f_api_Slot)) y4.s_.Stack, .d (kL (kR f_api_Atom)) y4.s_.Out, .d ki y4.x_.Op, .d ki y4.x_.N, .d ki y4.x_.L, .d kB y4.a_.Ret, .d ki y4.a_.V, .d ki y4.a_.L, .d kB y4.b_.Ret, .d ki y4.b_.V, .d ki y4.b_.L, .d kB y4.r_.Ret, .d ki y4.r_.V, .d ki y4.r_.L, .d ki x18, .d ki y4.one_.x0_, .d ki y4.one_.x1_, .d ki y4.one_.x2_]]) (R' := [.box 70000 111 [.d (kL kS) y4.l_.Names, .d (kL (kI .u32)) y4.l_.Up, .d ki y4.s_.Pc.V, .d ki y4.s_.Pc.L, .d (kL (kR f_api_Instr)) y4.s_.Code, .d (kL (kR f_api_Atom)) y4.s_.Mem, .d (kL (kR f_api_Slot)) y4.s_.Stack, .d (kL (kR f_api_Atom)) y4.s_.Out, .d ki y4.x_.Op, .d ki y4.x_.N, .d ki y4.x_.L, .d kB y4.a_.Ret, .d ki y4.a_.V, .d ki y4.a_.L, .d kB y4.b_.Ret, .d ki y4.b_.V, .d ki y4.b_.L, .d kB y4.r_.Ret, .d ki y4.r_.V, .d ki y4.r_.L, .d ki x18, .d ki y4.one_.x0_, .d ki y4.one_.x1_, .d ki y4.one_.x2_]]) (out' := .d (tup [])) [] [] [] [0] [0] u (step_need.okR hz25) b55 (oE1 tm oE0) u u u u u u u u) (s1 u) <| .nil) (by kernel_rfl) <| pSeq <| wSeq <| rx (c3 <| cr (oLdK (n := 0) (k := 20) u u (by kernel_rfl) t3 tm) (s1 u) <| c3 <| cwn (oStK (n := 0) (k := 20) u u u (by kernel_rfl) z3 tm tm) (s2 u u) <| .nil) <| pSeq <| wSeq ?_
     obtain ⟨y28, hy28, h⟩ := bd h
     refine rdx hm (c4 <| c1 <| cr (oLdK (n := 0) (k := 6) u u (by kernel_rfl) t33 tm) (s1 u) <| c3 <| cr (oLdK (n := 0) (k := 20) u u (by kernel_rfl) t3 tm) (s1 u) <| cp (oIdx u33 z76 hy28 tm tm) (s2 u u) <| c3 <| cwn (oStPK (n := 0) (k := 17) (m := 3) (d := (kR f_api_Slot)) (u := y28) pt76 u u (by kernel_rfl) z76 tm tm) (s2 u u) <| .nil) <| pSeq <| rdx hm (c4 <| c1 <| cr (oLdK (n := 0) (k := 19) u u (by kernel_rfl) t3 tm) (s1 u) <| c2 <| cp (oIdxA 1 1 u u109 z3 u tm (cI (by decide))) (s1 u) <| cwn (oStK (n := 0) (k := 22) u u u (by kernel_rfl) z3 tm tm) (s2 u u) <| .nil) ?_
     obtain rfl := so h
     exact pZ <| pSn [0] u u (.inr u) u u (.nil)
 ·refine wCF hp1.1 tm (s1 u) <| wSkip <| pSeq ?_
  obtain ⟨o1, h, hk1⟩ := bd h
  refine wJ1 (fun x42 => x42 = o1) (fun x42 => [(0, .p 70000 0)]) (fun x42 => [.box 70000 111 [.d (kL kS) a0.l_.Names, .d (kL (kI .u32)) a0.l_.Up, .d ki a0.s_.Pc.V, .d ki a0.s_.Pc.L, .d (kL (kR f_api_Instr)) a0.s_.Code, .d (kL (kR f_api_Atom)) a0.s_.Mem, .d (kL (kR f_api_Slot)) a0.s_.Stack, .d (kL (kR f_api_Atom)) a0.s_.Out, .d ki a0.x_.Op, .d ki a0.x_.N, .d ki a0.x_.L, .d kB a0.a_.Ret, .d ki a0.a_.V, .d ki a0.a_.L, .d kB a0.b_.Ret, .d ki a0.b_.V, .d ki a0.b_.L, .d kB a0.r_.Ret, .d ki a0.r_.V, .d ki a0.r_.L, .d ki x42, .d ki a0.one_.x0_, .d ki a0.one_.x1_, .d ki a0.one_.x2_]]) ?_ ?_
  ·refine wBlock (wLoop ?_)
   refine lW (pc1 o1 (fun v41 => [(0, .p 70000 0)]) (fun v41 => [.box 70000 111 [.d (kL kS) a0.l_.Names, .d (kL (kI .u32)) a0.l_.Up, .d ki a0.s_.Pc.V, .d ki a0.s_.Pc.L, .d (kL (kR f_api_Instr)) a0.s_.Code, .d (kL (kR f_api_Atom)) a0.s_.Mem, .d (kL (kR f_api_Slot)) a0.s_.Stack, .d (kL (kR f_api_Atom)) a0.s_.Out, .d ki a0.x_.Op, .d ki a0.x_.N, .d ki a0.x_.L, .d kB a0.a_.Ret, .d ki a0.a_.V, .d ki a0.a_.L, .d kB a0.b_.Ret, .d ki a0.b_.V, .d ki a0.b_.L, .d kB a0.r_.Ret, .d ki a0.r_.V, .d ki a0.r_.L, .d ki v41, .d ki a0.one_.x0_, .d ki a0.one_.x1_, .d ki a0.one_.x2_]]) (step_machine_returns.l1.partial_correctness a0) ?_ _ h) ⟨u, tv⟩ u
   clear h
   intro f' ih v41 h
   refine wSeq ?_
   obtain ⟨o2, h, hk2⟩ := bd h
   refine wJ1 (fun x45 => x45 = o2) (fun x45 => [(0, .p 70000 0), (39, .d (kB.sig x45))]) (fun x45 => [.box 70000 111 [.d (kL kS) a0.l_.Names, .d (kL (kI .u32)) a0.l_.Up, .d ki a0.s_.Pc.V, .d ki a0.s_.Pc.L, .d (kL (kR f_api_Instr)) a0.s_.Code, .d (kL (kR f_api_Atom)) a0.s_.Mem, .d (kL (kR f_api_Slot)) a0.s_.Stack, .d (kL (kR f_api_Atom)) a0.s_.Out, .d ki a0.x_.Op, .d ki a0.x_.N, .d ki a0.x_.L, .d kB a0.a_.Ret, .d ki a0.a_.V, .d ki a0.a_.L, .d kB a0.b_.Ret, .d ki a0.b_.V, .d ki a0.b_.L, .d kB a0.r_.Ret, .d ki a0.r_.V, .d ki a0.r_.L, .d ki v41, .d ki a0.one_.x0_, .d ki a0.one_.x1_, .d ki a0.one_.x2_]]) ?_ ?_
   ·obtain ⟨hp46, h⟩ | ⟨hp46, h⟩ := ik h
    ·obtain ⟨y47, hy47, h⟩ := bd h
     exact rdx hm (c3 <| cr (oLdK (n := 0) (k := 20) u u (by kernel_rfl) t3 tm) (s1 u) <| c6 <| crgB (dT hp46.1) u u (oLdK (n := 0) (k := 6) u u (by kernel_rfl) t33 tm) (s1 u) <| c3 <| crgB (dT hp46.1) u u (oLdK (n := 0) (k := 20) u u (by kernel_rfl) t3 tm) (s1 u) <| c1 <| cgB (dT hp46.1) u u (oIdx u33 z76 hy47 tm tm) (s2 u u) <| c4 <| .nil) <| pJ1 _ (so h) (sb u) u
    ·exact rdx hm (c3 <| cr (oLdK (n := 0) (k := 20) u u (by kernel_rfl) t3 tm) (s1 u) <| c12 <| c4 <| c1 <| .nil) <| pJ1 _ (so h) (sb u) u
   ·rintro x45 rfl
    replace h := hk2
    obtain ⟨hp48, h⟩ | ⟨hp48, h⟩ := ik h
    ·exact wBT hp48.1 tm (s1 u) <| wSkip <| pSeq <| wBlock <| rx (c3 <| cr (oLdK (n := 0) (k := 20) u u (by kernel_rfl) t3 tm) (s1 u) <| c3 <| cwn (oStK (n := 0) (k := 20) u u u (by kernel_rfl) z3 tm tm) (s2 u u) <| .nil) <| pBlkN <| pLoop (lW (ih _ h) ⟨u, tv⟩ u)
    ·exact wBF hp48.1 tm (s1 u) <| wExit <| pThenX <| pThenX <| pBlkX <| pJ1 _ (so h) (sb u) u
  ·rintro x42 rfl
   replace h := hk1
   refine wSeq <| wT0 <| wTk 0 5 (c3 <| cr (oLdK (n := 0) (k := 20) u u (by kernel_rfl) t3 tm) (s1 u) <| c1 <| .nil) (by kernel_rfl) u ?_
   obtain ⟨z49, hz49, h⟩ := bd h
   rcases z49 with p50 | y51
   ·refine wTx (Γp := []) 5 u (oCallX (rest := [.box 70000 111 [.d (kL kS) a0.l_.Names, .d (kL (kI .u32)) a0.l_.Up, .d ki a0.s_.Pc.V, .d ki a0.s_.Pc.L, .d (kL (kR f_api_Instr)) a0.s_.Code, .d (kL (kR f_api_Atom)) a0.s_.Mem, .d (kL (kR f_api_Slot)) a0.s_.Stack, .d (kL (kR f_api_Atom)) a0.s_.Out, .d ki a0.x_.Op, .d ki a0.x_.N, .d ki a0.x_.L, .d kB a0.a_.Ret, .d ki a0.a_.V, .d ki a0.a_.L, .d kB a0.b_.Ret, .d ki a0.b_.V, .d ki a0.b_.L, .d kB a0.r_.Ret, .d ki a0.r_.V, .d ki a0.r_.L, .d ki x42, .d ki a0.one_.x0_, .d ki a0.one_.x1_, .d ki a0.one_.x2_]]) [] [] [0] u (step_need.okP hz49) b55 (oE1 tm oE0) u u) u u (s1 u) tv <| pThenP ?_
    obtain rfl := so h
    exact pX
   ·refine wTe 5 (cm (oCallS (rest := [.box 70000 111 [.d (kL kS) a0.l_.Names, .d (kL (kI .u32)) a0.l_.Up, .d ki a0.s_.Pc.V, .d ki a0.s_.Pc.L, .d (kL (kR f_api_Instr)) a0.s_.Code, .d (kL (kR f_api_Atom)) a0.s_.Mem, .d (kL (kR f_api_Slot)) a0.s_.Stack, .d (kL (kR f_api_Atom)) a0.s_.Out, .d ki a0.x_.Op, .d ki a0.x_.N, .d ki a0.x_.L, .d kB a0.a_.Ret, .d ki a0.a_.V, .d ki a0.a_.L, .d kB a0.b_.Ret, .d ki a0.b_.V, .d ki a0.b_.L, .d kB a0.r_.Ret, .d ki a0.r_.V, .d ki a0.r_.L, .d ki x42, .d ki a0.one_.x0_, .d ki a0.one_.x1_, .d ki a0.one_.x2_]]) (R' := [.box 70000 111 [.d (kL kS) a0.l_.Names, .d (kL (kI .u32)) a0.l_.Up, .d ki a0.s_.Pc.V, .d ki a0.s_.Pc.L, .d (kL (kR f_api_Instr)) a0.s_.Code, .d (kL (kR f_api_Atom)) a0.s_.Mem, .d (kL (kR f_api_Slot)) a0.s_.Stack, .d (kL (kR f_api_Atom)) a0.s_.Out, .d ki a0.x_.Op, .d ki a0.x_.N, .d ki a0.x_.L, .d kB a0.a_.Ret, .d ki a0.a_.V, .d ki a0.a_.L, .d kB a0.b_.Ret, .d ki a0.b_.V, .d ki a0.b_.L, .d kB a0.r_.Ret, .d ki a0.r_.V, .d ki a0.r_.L, .d ki x42, .d ki a0.one_.x0_, .d ki a0.one_.x1_, .d ki a0.one_.x2_]]) (out' := .d (tup [])) [] [] [] [0] [0] u (step_need.okR hz49) b55 (oE1 tm oE0) u u u u u u u u) (s1 u) <| .nil) (by kernel_rfl) <| pSeq <| wSeq <| rx (c3 <| cr (oLdK (n := 0) (k := 20) u u (by kernel_rfl) t3 tm) (s1 u) <| c3 <| cwn (oStK (n := 0) (k := 20) u u u (by kernel_rfl) z3 tm tm) (s2 u u) <| .nil) <| pSeq <| wSeq ?_
    obtain ⟨y52, hy52, h⟩ := bd h
    refine rdx hm (c4 <| c1 <| cr (oLdK (n := 0) (k := 6) u u (by kernel_rfl) t33 tm) (s1 u) <| c3 <| cr (oLdK (n := 0) (k := 20) u u (by kernel_rfl) t3 tm) (s1 u) <| cp (oIdx u33 z76 hy52 tm tm) (s2 u u) <| c3 <| cwn (oStPK (n := 0) (k := 17) (m := 3) (d := (kR f_api_Slot)) (u := y52) pt76 u u (by kernel_rfl) z76 tm tm) (s2 u u) <| .nil) <| pSeq <| rdx hm (c4 <| c1 <| cr (oLdK (n := 0) (k := 19) u u (by kernel_rfl) t3 tm) (s1 u) <| c2 <| cp (oIdxA 1 1 u u109 z3 u tm (cI (by decide))) (s1 u) <| cwn (oStK (n := 0) (k := 22) u u u (by kernel_rfl) z3 tm tm) (s2 u u) <| .nil) ?_
    obtain rfl := so h
    exact pZ <| pSn [0] u u (.inr u) u u (.nil)
theorem step_machine_returns.okR {a0 : step_machine} {r : step_machine} (h : step_machine_returns.f a0 = some (.inr r)) : FnS PP 101 [.p 70000 0] [.box 70000 111 (L111 a0)] [70000] (.d (tup [])) [.box 70000 111 (L111 r)] := step_machine_returns.ok h
theorem step_machine_returns.okP {a0 : step_machine} {n : Pn} (h : step_machine_returns.f a0 = some (.inl n)) : FnX PP 101 [.p 70000 0] [.box 70000 111 (L111 a0)] (pvv 105 n) := step_machine_returns.ok h

end Go.Proofs.YtmegdednaimgcaaGreatDoor.TT
