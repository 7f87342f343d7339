import Derived.Test.YtmegdednaimgcaaDoorCln
import Derived.Test.YtmegdednaimgcaaDoorDTT
import Derived.Test.YtmegdednaimgcaaDoorProg
set_option linter.unusedVariables false
set_option maxRecDepth 10000
set_option maxHeartbeats 2000000
namespace Go.Proofs.YtmegdednaimgcaaDoor.TT
open Go Go.Proofs.YtmegdednaimgcaaDoor.Ab

theorem hm : Tryd.prog.follows .mixedOrders = true := by kernel_rfl
theorem zL : ∀ {α : Type} {d : Kd α} (H : FH), (kL d).reps H [.slice none 0 0] [] := fun _ => ⟨none, 0, rfl, Nat.le_refl _, by omega, by simp [big], .inl rfl⟩
theorem ze25 : zeroIs Tryd.prog 25 [(.slice none 0 0), (.slice none 0 0)] := by unfold zeroIs; kernel_rfl
theorem o25_1 : fofs Tryd.prog 25 1 = some 1 := by kernel_rfl
theorem t23 : tinf Tryd.prog 23 = some (false, 1) := by kernel_rfl
theorem u23 : Tryd.prog.underlying 23 = some (.slice 65) := by kernel_rfl
theorem z65 : sizeIs Tryd.prog 65 1 := by unfold sizeIs; kernel_rfl
theorem pl25 : places Tryd.prog 25 = some [(0, 1), (1, 1)] := by kernel_rfl
theorem po25_0 : ∀ q f, f_api_Lattice_n0[q]? = some f → ([(0, 1), (1, 1)] : List (Nat × Nat))[q]? = some (offF f_api_Lattice_n0 q, f.d.sz) := fun q f h => by
  unfold f_api_Lattice_n0 at h
  match q, h with
  | 0, h => cases h; rfl
  | 1, h => cases h; rfl
  | n + 2, h => simp at h
theorem z25 : sizeIs Tryd.prog 25 2 := by unfold sizeIs; kernel_rfl
theorem o25_0 : fofs Tryd.prog 25 0 = some 0 := by kernel_rfl
theorem t22 : tinf Tryd.prog 22 = some (false, 1) := by kernel_rfl
theorem u22 : Tryd.prog.underlying 22 = some (.slice 9) := by kernel_rfl
theorem z9 : sizeIs Tryd.prog 9 1 := by unfold sizeIs; kernel_rfl
theorem t9 : tinf Tryd.prog 9 = some (false, 1) := by kernel_rfl
theorem u9 : Tryd.prog.underlying 9 = some (.string) := by kernel_rfl
theorem el22 : ElTy Tryd.prog 22 9 1 16 := ⟨by kernel_rfl, by kernel_rfl⟩
theorem z22 : sizeIs Tryd.prog 22 1 := by unfold sizeIs; kernel_rfl
theorem t25 : tinf Tryd.prog 25 = some (true, 2) := by kernel_rfl
theorem ze28 : zeroIs Tryd.prog 28 [(.slice none 0 0)] := by unfold zeroIs; kernel_rfl
theorem o28_0 : fofs Tryd.prog 28 0 = some 0 := by kernel_rfl
theorem t26 : tinf Tryd.prog 26 = some (false, 1) := by kernel_rfl
theorem u26 : Tryd.prog.underlying 26 = some (.slice 46) := by kernel_rfl
theorem z46 : sizeIs Tryd.prog 46 3 := by unfold sizeIs; kernel_rfl
theorem t46 : tinf Tryd.prog 46 = some (true, 3) := by kernel_rfl
theorem ze46 : zeroIs Tryd.prog 46 [(.slice none 0 0), (.slice none 0 0), (.slice none 0 0)] := by unfold zeroIs; kernel_rfl
theorem o46_0 : fofs Tryd.prog 46 0 = some 0 := by kernel_rfl
theorem t44 : tinf Tryd.prog 44 = some (false, 1) := by kernel_rfl
theorem u44 : Tryd.prog.underlying 44 = some (.slice 3) := by kernel_rfl
theorem z3 : sizeIs Tryd.prog 3 1 := by unfold sizeIs; kernel_rfl
theorem o46_1 : fofs Tryd.prog 46 1 = some 1 := by kernel_rfl
theorem o46_2 : fofs Tryd.prog 46 2 = some 2 := by kernel_rfl
theorem pl46 : places Tryd.prog 46 = some [(0, 1), (1, 1), (2, 1)] := by kernel_rfl
theorem po46 : ∀ q f, f_api_Row[q]? = some f → ([(0, 1), (1, 1), (2, 1)] : List (Nat × Nat))[q]? = some (offF f_api_Row q, f.d.sz) := fun q f h => by
  unfold f_api_Row at h
  match q, h with
  | 0, h => cases h; rfl
  | 1, h => cases h; rfl
  | 2, h => cases h; rfl
  | n + 3, h => simp at h
theorem el26 : ElTy Tryd.prog 26 46 3 72 := ⟨by kernel_rfl, by kernel_rfl⟩
theorem z26 : sizeIs Tryd.prog 26 1 := by unfold sizeIs; kernel_rfl
theorem t28 : tinf Tryd.prog 28 = some (true, 1) := by kernel_rfl
theorem z28 : sizeIs Tryd.prog 28 1 := by unfold sizeIs; kernel_rfl
theorem zI_i64 : ∀ H, (kI .i64).reps H [.int .i64 0] 0 := fun _ => ⟨rfl, by decide⟩
theorem ze35 : zeroIs Tryd.prog 35 [(.int .i64 0), (.int .i64 0), (.slice none 0 0), (.slice none 0 0), (.slice none 0 0), (.slice none 0 0)] := by unfold zeroIs; kernel_rfl
theorem o35_1 : fofs Tryd.prog 35 1 = some 2 := by kernel_rfl
theorem t31 : tinf Tryd.prog 31 = some (false, 1) := by kernel_rfl
theorem u31 : Tryd.prog.underlying 31 = some (.slice 48) := by kernel_rfl
theorem z48 : sizeIs Tryd.prog 48 3 := by unfold sizeIs; kernel_rfl
theorem o35_2 : fofs Tryd.prog 35 2 = some 3 := by kernel_rfl
theorem t32 : tinf Tryd.prog 32 = some (false, 1) := by kernel_rfl
theorem u32 : Tryd.prog.underlying 32 = some (.slice 30) := by kernel_rfl
theorem z30 : sizeIs Tryd.prog 30 2 := by unfold sizeIs; kernel_rfl
theorem o35_3 : fofs Tryd.prog 35 3 = some 4 := by kernel_rfl
theorem t33 : tinf Tryd.prog 33 = some (false, 1) := by kernel_rfl
theorem u33 : Tryd.prog.underlying 33 = some (.slice 68) := by kernel_rfl
theorem z68 : sizeIs Tryd.prog 68 3 := by unfold sizeIs; kernel_rfl
theorem o35_4 : fofs Tryd.prog 35 4 = some 5 := by kernel_rfl
theorem z31 : sizeIs Tryd.prog 31 1 := by unfold sizeIs; kernel_rfl
theorem z32 : sizeIs Tryd.prog 32 1 := by unfold sizeIs; kernel_rfl
theorem z33 : sizeIs Tryd.prog 33 1 := by unfold sizeIs; kernel_rfl
theorem t35 : tinf Tryd.prog 35 = some (true, 6) := by kernel_rfl
theorem z35 : sizeIs Tryd.prog 35 6 := by unfold sizeIs; kernel_rfl
theorem b85 : bodied Tryd.prog 85 := by unfold bodied; kernel_rfl
theorem b57 : bodied Tryd.prog 57 := by unfold bodied; kernel_rfl
theorem b58 : bodied Tryd.prog 58 := by unfold bodied; kernel_rfl
theorem t65 : tinf Tryd.prog 65 = some (false, 1) := by kernel_rfl
theorem t3 : tinf Tryd.prog 3 = some (false, 1) := by kernel_rfl
theorem zB : ∀ H, kB.reps H [.bool false] false := fun _ => rfl
theorem ze4 : zeroIs Tryd.prog 4 [(.bool false)] := by unfold zeroIs; kernel_rfl
theorem b39 : bodied Tryd.prog 39 := by unfold bodied; kernel_rfl
theorem b59 : bodied Tryd.prog 59 := by unfold bodied; kernel_rfl
theorem z4 : sizeIs Tryd.prog 4 1 := by unfold sizeIs; kernel_rfl
theorem t4 : tinf Tryd.prog 4 = some (false, 1) := by kernel_rfl
theorem b60 : bodied Tryd.prog 60 := by unfold bodied; kernel_rfl
theorem zI_u32 : ∀ H, (kI .u32).reps H [.int .u32 0] 0 := fun _ => ⟨rfl, by decide⟩
theorem ze65 : zeroIs Tryd.prog 65 [(.int .u32 0)] := by unfold zeroIs; kernel_rfl
theorem b62 : bodied Tryd.prog 62 := by unfold bodied; kernel_rfl
theorem b61 : bodied Tryd.prog 61 := by unfold bodied; kernel_rfl
theorem b63 : bodied Tryd.prog 63 := by unfold bodied; kernel_rfl
theorem ze39 : zeroIs Tryd.prog 39 [(.int .i64 0)] := by unfold zeroIs; kernel_rfl
theorem b37 : bodied Tryd.prog 37 := by unfold bodied; kernel_rfl
theorem z39 : sizeIs Tryd.prog 39 1 := by unfold sizeIs; kernel_rfl
theorem t39 : tinf Tryd.prog 39 = some (false, 1) := by kernel_rfl
theorem b38 : bodied Tryd.prog 38 := by unfold bodied; kernel_rfl
theorem b40 : bodied Tryd.prog 40 := by unfold bodied; kernel_rfl
theorem b41 : bodied Tryd.prog 41 := by unfold bodied; kernel_rfl
theorem ze152 : zeroIs Tryd.prog 152 [(.slice none 0 0)] := by unfold zeroIs; kernel_rfl
theorem t152 : tinf Tryd.prog 152 = some (false, 1) := by kernel_rfl
theorem u152 : Tryd.prog.underlying 152 = some (.slice 136) := by kernel_rfl
theorem z136 : sizeIs Tryd.prog 136 1 := by unfold sizeIs; kernel_rfl
theorem t136 : tinf Tryd.prog 136 = some (false, 1) := by kernel_rfl
theorem u136 : Tryd.prog.underlying 136 = some (.bool) := by kernel_rfl
theorem z152 : sizeIs Tryd.prog 152 1 := by unfold sizeIs; kernel_rfl
theorem el152 : ElTy Tryd.prog 152 136 1 1 := ⟨by kernel_rfl, by kernel_rfl⟩
theorem b100 : bodied Tryd.prog 100 := by unfold bodied; kernel_rfl
theorem b86 : bodied Tryd.prog 86 := by unfold bodied; kernel_rfl
theorem u4 : Tryd.prog.underlying 4 = some (.bool) := by kernel_rfl
theorem b64 : bodied Tryd.prog 64 := by unfold bodied; kernel_rfl
theorem b87 : bodied Tryd.prog 87 := by unfold bodied; kernel_rfl
theorem gm0 : GlobIs (kI .i64) 0 gl0 := globI (.head _) (by kernel_rfl)
theorem u141 : Tryd.prog.underlying 141 = some (.array 13 3) := by kernel_rfl
theorem b65 : bodied Tryd.prog 65 := by unfold bodied; kernel_rfl
theorem b42 : bodied Tryd.prog 42 := by unfold bodied; kernel_rfl
theorem b43 : bodied Tryd.prog 43 := by unfold bodied; kernel_rfl
theorem b99 : bodied Tryd.prog 99 := by unfold bodied; kernel_rfl
theorem b98 : bodied Tryd.prog 98 := by unfold bodied; kernel_rfl
theorem u132 : Tryd.prog.underlying 132 = some (.map 3 69) := by kernel_rfl
theorem u3 : Tryd.prog.underlying 3 = some (.int .i64) := by kernel_rfl
theorem mk3 : MKey Tryd.prog 3 (.int .i64) (kI .i64) := keyI u3
theorem o48_0 : fofs Tryd.prog 48 0 = some 0 := by kernel_rfl
theorem b83 : bodied Tryd.prog 83 := by unfold bodied; kernel_rfl
theorem zv69 : zeroV Tryd.prog 69 .nilFunc := by unfold zeroV; kernel_rfl
theorem o48_1 : fofs Tryd.prog 48 1 = some 1 := by kernel_rfl
theorem o48_2 : fofs Tryd.prog 48 2 = some 2 := by kernel_rfl
theorem t48 : tinf Tryd.prog 48 = some (true, 3) := by kernel_rfl
theorem b84 : bodied Tryd.prog 84 := by unfold bodied; kernel_rfl
theorem b52 : bodied Tryd.prog 52 := by unfold bodied; kernel_rfl
theorem b51 : bodied Tryd.prog 51 := by unfold bodied; kernel_rfl
theorem b22 : bodied Tryd.prog 22 := by unfold bodied; kernel_rfl
theorem b53 : bodied Tryd.prog 53 := by unfold bodied; kernel_rfl
theorem t30 : tinf Tryd.prog 30 = some (true, 2) := by kernel_rfl
theorem b54 : bodied Tryd.prog 54 := by unfold bodied; kernel_rfl
theorem t68 : tinf Tryd.prog 68 = some (true, 3) := by kernel_rfl
theorem b55 : bodied Tryd.prog 55 := by unfold bodied; kernel_rfl
theorem b27 : bodied Tryd.prog 27 := by unfold bodied; kernel_rfl
theorem ze69 : zeroIs Tryd.prog 69 [.nilFunc] := by unfold zeroIs; kernel_rfl
theorem z69 : sizeIs Tryd.prog 69 1 := by unfold sizeIs; kernel_rfl
theorem o30_0 : fofs Tryd.prog 30 0 = some 0 := by kernel_rfl
theorem b29 : bodied Tryd.prog 29 := by unfold bodied; kernel_rfl
theorem t69 : tinf Tryd.prog 69 = some (false, 1) := by kernel_rfl
theorem o30_1 : fofs Tryd.prog 30 1 = some 1 := by kernel_rfl
theorem b28 : bodied Tryd.prog 28 := by unfold bodied; kernel_rfl
theorem o68_2 : fofs Tryd.prog 68 2 = some 2 := by kernel_rfl
theorem o68_0 : fofs Tryd.prog 68 0 = some 0 := by kernel_rfl
theorem o68_1 : fofs Tryd.prog 68 1 = some 1 := by kernel_rfl
theorem b31 : bodied Tryd.prog 31 := by unfold bodied; kernel_rfl
theorem b30 : bodied Tryd.prog 30 := by unfold bodied; kernel_rfl
theorem b32 : bodied Tryd.prog 32 := by unfold bodied; kernel_rfl
theorem o35_0 : fofs Tryd.prog 35 0 = some 0 := by kernel_rfl
theorem b33 : bodied Tryd.prog 33 := by unfold bodied; kernel_rfl
theorem b34 : bodied Tryd.prog 34 := by unfold bodied; kernel_rfl
theorem cb86 : conB Tryd.prog 86 = true := by kernel_rfl
theorem b101 : bodied Tryd.prog 101 := by unfold bodied; kernel_rfl
theorem b89 : bodied Tryd.prog 89 := by unfold bodied; kernel_rfl
theorem b88 : bodied Tryd.prog 88 := by unfold bodied; kernel_rfl
theorem b66 : bodied Tryd.prog 66 := by unfold bodied; kernel_rfl
theorem b67 : bodied Tryd.prog 67 := by unfold bodied; kernel_rfl
theorem o92_2 : fofs Tryd.prog 92 2 = some 8 := by kernel_rfl
theorem o92_7 : fofs Tryd.prog 92 7 = some 21 := by kernel_rfl
theorem u90 : Tryd.prog.underlying 90 = some (.array 3 3) := by kernel_rfl
theorem ze68 : zeroIs Tryd.prog 68 [(.bool false), (.int .i64 0), (.int .i64 0)] := by unfold zeroIs; kernel_rfl
theorem o92_1 : fofs Tryd.prog 92 1 = some 2 := by kernel_rfl
theorem b45 : bodied Tryd.prog 45 := by unfold bodied; kernel_rfl
theorem b90 : bodied Tryd.prog 90 := by unfold bodied; kernel_rfl
theorem o92_3 : fofs Tryd.prog 92 3 = some 11 := by kernel_rfl
theorem o92_6 : fofs Tryd.prog 92 6 = some 20 := by kernel_rfl
theorem b70 : bodied Tryd.prog 70 := by unfold bodied; kernel_rfl
theorem o92_4 : fofs Tryd.prog 92 4 = some 14 := by kernel_rfl
theorem b91 : bodied Tryd.prog 91 := by unfold bodied; kernel_rfl
theorem b71 : bodied Tryd.prog 71 := by unfold bodied; kernel_rfl
theorem b74 : bodied Tryd.prog 74 := by unfold bodied; kernel_rfl
theorem o92_5 : fofs Tryd.prog 92 5 = some 17 := by kernel_rfl
theorem u114 : Tryd.prog.underlying 114 = some (.map 3 1) := by kernel_rfl
theorem zv1 : zeroV Tryd.prog 1 .nilFunc := by unfold zeroV; kernel_rfl
theorem b68 : bodied Tryd.prog 68 := by unfold bodied; kernel_rfl
theorem b69 : bodied Tryd.prog 69 := by unfold bodied; kernel_rfl
theorem b72 : bodied Tryd.prog 72 := by unfold bodied; kernel_rfl
theorem b73 : bodied Tryd.prog 73 := by unfold bodied; kernel_rfl
theorem b75 : bodied Tryd.prog 75 := by unfold bodied; kernel_rfl
theorem b76 : bodied Tryd.prog 76 := by unfold bodied; kernel_rfl
theorem b92 : bodied Tryd.prog 92 := by unfold bodied; kernel_rfl
theorem o123_2 : fofs Tryd.prog 123 2 = some 3 := by kernel_rfl
theorem t121 : tinf Tryd.prog 121 = some (false, 1) := by kernel_rfl
theorem el121 : ElTy Tryd.prog 121 119 1 16 := ⟨by kernel_rfl, by kernel_rfl⟩
theorem z121 : sizeIs Tryd.prog 121 1 := by unfold sizeIs; kernel_rfl
theorem u5 : Tryd.prog.underlying 5 = some (.int .u8) := by kernel_rfl
theorem b103 : bodied Tryd.prog 103 := by unfold bodied; kernel_rfl
theorem b102 : bodied Tryd.prog 102 := by unfold bodied; kernel_rfl
theorem u121 : Tryd.prog.underlying 121 = some (.slice 119) := by kernel_rfl
theorem z119 : sizeIs Tryd.prog 119 1 := by unfold sizeIs; kernel_rfl
theorem t119 : tinf Tryd.prog 119 = some (false, 1) := by kernel_rfl
theorem el44 : ElTy Tryd.prog 44 3 1 8 := ⟨by kernel_rfl, by kernel_rfl⟩
theorem cb116 : conB Tryd.prog 116 = true := by kernel_rfl
theorem zv116 : zeroV Tryd.prog 116 (.bool false) := by unfold zeroV; kernel_rfl
theorem cb125 : conB Tryd.prog 125 = true := by kernel_rfl
theorem zv125 : zeroV Tryd.prog 125 (.int .i64 0) := by unfold zeroV; kernel_rfl
theorem o123_0 : fofs Tryd.prog 123 0 = some 0 := by kernel_rfl
theorem b104 : bodied Tryd.prog 104 := by unfold bodied; kernel_rfl
theorem b105 : bodied Tryd.prog 105 := by unfold bodied; kernel_rfl
theorem b106 : bodied Tryd.prog 106 := by unfold bodied; kernel_rfl
theorem b93 : bodied Tryd.prog 93 := by unfold bodied; kernel_rfl
theorem b46 : bodied Tryd.prog 46 := by unfold bodied; kernel_rfl
theorem b94 : bodied Tryd.prog 94 := by unfold bodied; kernel_rfl
theorem o123_1 : fofs Tryd.prog 123 1 = some 2 := by kernel_rfl
theorem b95 : bodied Tryd.prog 95 := by unfold bodied; kernel_rfl
theorem b96 : bodied Tryd.prog 96 := by unfold bodied; kernel_rfl
theorem b77 : bodied Tryd.prog 77 := by unfold bodied; kernel_rfl
theorem pl123 : places Tryd.prog 123 = some [(0, 2), (2, 1), (3, 1)] := by kernel_rfl
theorem po123_2 : ∀ q f, f_judge_judge_n2[q]? = some f → ([(0, 2), (2, 1), (3, 1)] : List (Nat × Nat))[q]? = some (offF f_judge_judge_n2 q, f.d.sz) := fun q f h => by
  unfold f_judge_judge_n2 at h
  match q, h with
  | 0, h => cases h; rfl
  | 1, h => cases h; rfl
  | 2, h => cases h; rfl
  | n + 3, h => simp at h
theorem ze123 : zeroIs Tryd.prog 123 [(.slice none 0 0), (.slice none 0 0), (.slice none 0 0), (.slice none 0 0)] := by unfold zeroIs; kernel_rfl
theorem b78 : bodied Tryd.prog 78 := by unfold bodied; kernel_rfl
theorem pl68 : places Tryd.prog 68 = some [(0, 1), (1, 1), (2, 1)] := by kernel_rfl
theorem po68 : ∀ q f, f_api_Slot[q]? = some f → ([(0, 1), (1, 1), (2, 1)] : List (Nat × Nat))[q]? = some (offF f_api_Slot q, f.d.sz) := fun q f h => by
  unfold f_api_Slot at h
  match q, h with
  | 0, h => cases h; rfl
  | 1, h => cases h; rfl
  | 2, h => cases h; rfl
  | n + 3, h => simp at h
theorem el33 : ElTy Tryd.prog 33 68 3 24 := ⟨by kernel_rfl, by kernel_rfl⟩
theorem u149 : Tryd.prog.underlying 149 = some (.slice 33) := by kernel_rfl
theorem zR_api_Slot : ∀ H, (kR f_api_Slot).reps H [(.bool false), (.int .i64 0), (.int .i64 0)] (⟨false, 0, 0⟩ : api_Slot) := fun H => ⟨[(.bool false)], _, rfl, zB H, ⟨[(.int .i64 0)], _, rfl, zI_i64 H, ⟨[(.int .i64 0)], _, rfl, zI_i64 H, rfl⟩⟩⟩
theorem b97 : bodied Tryd.prog 97 := by unfold bodied; kernel_rfl
theorem b79 : bodied Tryd.prog 79 := by unfold bodied; kernel_rfl
theorem b80 : bodied Tryd.prog 80 := by unfold bodied; kernel_rfl
theorem el32 : ElTy Tryd.prog 32 30 2 16 := ⟨by kernel_rfl, by kernel_rfl⟩
theorem b81 : bodied Tryd.prog 81 := by unfold bodied; kernel_rfl
theorem pl30 : places Tryd.prog 30 = some [(0, 1), (1, 1)] := by kernel_rfl
theorem po30 : ∀ q f, f_api_Atom[q]? = some f → ([(0, 1), (1, 1)] : List (Nat × Nat))[q]? = some (offF f_api_Atom q, f.d.sz) := fun q f h => by
  unfold f_api_Atom at h
  match q, h with
  | 0, h => cases h; rfl
  | 1, h => cases h; rfl
  | n + 2, h => simp at h
theorem ze30 : zeroIs Tryd.prog 30 [(.int .i64 0), (.int .i64 0)] := by unfold zeroIs; kernel_rfl
theorem el149 : ElTy Tryd.prog 149 33 1 24 := ⟨by kernel_rfl, by kernel_rfl⟩
theorem b82 : bodied Tryd.prog 82 := by unfold bodied; kernel_rfl
theorem ze3 : zeroIs Tryd.prog 3 [(.int .i64 0)] := by unfold zeroIs; kernel_rfl
theorem po90 : ∀ q f, f_S90[q]? = some f → (q * 1, 1) = (offF f_S90 q, f.d.sz) := fun q f h => by
  unfold f_S90 at h
  match q, h with
  | 0, h => cases h; rfl
  | 1, h => cases h; rfl
  | 2, h => cases h; rfl
  | n + 3, h => simp at h
theorem ze90 : zeroIs Tryd.prog 90 [(.int .i64 0), (.int .i64 0), (.int .i64 0)] := by unfold zeroIs; kernel_rfl
theorem pl92 : places Tryd.prog 92 = some [(0, 2), (2, 6), (8, 3), (11, 3), (14, 3), (17, 3), (20, 1), (21, 3)] := by kernel_rfl
theorem po92 : ∀ q f, f_step_machine[q]? = some f → ([(0, 2), (2, 6), (8, 3), (11, 3), (14, 3), (17, 3), (20, 1), (21, 3)] : List (Nat × Nat))[q]? = some (offF f_step_machine q, f.d.sz) := fun q f h => by
  unfold f_step_machine at h
  match q, h with
  | 0, h => cases h; rfl
  | 1, h => cases h; rfl
  | 2, h => cases h; rfl
  | 3, h => cases h; rfl
  | 4, h => cases h; rfl
  | 5, h => cases h; rfl
  | 6, h => cases h; rfl
  | 7, h => cases h; rfl
  | n + 8, h => simp at h
theorem ze92 : zeroIs Tryd.prog 92 [(.slice none 0 0), (.slice none 0 0), (.int .i64 0), (.int .i64 0), (.slice none 0 0), (.slice none 0 0), (.slice none 0 0), (.slice none 0 0), (.int .i64 0), (.int .i64 0), (.int .i64 0), (.bool false), (.int .i64 0), (.int .i64 0), (.bool false), (.int .i64 0), (.int .i64 0), (.bool false), (.int .i64 0), (.int .i64 0), (.int .i64 0), (.int .i64 0), (.int .i64 0), (.int .i64 0)] := by unfold zeroIs; kernel_rfl
theorem b47 : bodied Tryd.prog 47 := by unfold bodied; kernel_rfl
theorem b48 : bodied Tryd.prog 48 := by unfold bodied; kernel_rfl
theorem b49 : bodied Tryd.prog 49 := by unfold bodied; kernel_rfl
theorem b50 : bodied Tryd.prog 50 := by unfold bodied; kernel_rfl
theorem b13 : bodied Tryd.prog 13 := by unfold bodied; kernel_rfl
theorem u20 : Tryd.prog.underlying 20 = some (.interface #[]) := by kernel_rfl
theorem b44 : bodied Tryd.prog 44 := by unfold bodied; kernel_rfl
theorem b23 : bodied Tryd.prog 23 := by unfold bodied; kernel_rfl
theorem zR_api_Atom : ∀ H, (kR f_api_Atom).reps H [(.int .i64 0), (.int .i64 0)] (⟨0, 0⟩ : api_Atom) := fun H => ⟨[(.int .i64 0)], _, rfl, zI_i64 H, ⟨[(.int .i64 0)], _, rfl, zI_i64 H, rfl⟩⟩
theorem pl35 : places Tryd.prog 35 = some [(0, 2), (2, 1), (3, 1), (4, 1), (5, 1)] := by kernel_rfl
theorem po35 : ∀ q f, f_api_State[q]? = some f → ([(0, 2), (2, 1), (3, 1), (4, 1), (5, 1)] : List (Nat × Nat))[q]? = some (offF f_api_State q, f.d.sz) := fun q f h => by
  unfold f_api_State at h
  match q, h with
  | 0, h => cases h; rfl
  | 1, h => cases h; rfl
  | 2, h => cases h; rfl
  | 3, h => cases h; rfl
  | 4, h => cases h; rfl
  | n + 5, h => simp at h
theorem b24 : bodied Tryd.prog 24 := by unfold bodied; kernel_rfl
theorem b9 : bodied Tryd.prog 9 := by unfold bodied; kernel_rfl
theorem b35 : bodied Tryd.prog 35 := by unfold bodied; kernel_rfl
theorem ze55 : zeroIs Tryd.prog 55 [(.slice none 0 0)] := by unfold zeroIs; kernel_rfl
theorem b36 : bodied Tryd.prog 36 := by unfold bodied; kernel_rfl
theorem t55 : tinf Tryd.prog 55 = some (false, 1) := by kernel_rfl
theorem el55 : ElTy Tryd.prog 55 35 6 112 := ⟨by kernel_rfl, by kernel_rfl⟩
theorem z55 : sizeIs Tryd.prog 55 1 := by unfold sizeIs; kernel_rfl
theorem b56 : bodied Tryd.prog 56 := by unfold bodied; kernel_rfl
theorem pl28 : places Tryd.prog 28 = some [(0, 1)] := by kernel_rfl
theorem po28 : ∀ q f, f_api_Table[q]? = some f → ([(0, 1)] : List (Nat × Nat))[q]? = some (offF f_api_Table q, f.d.sz) := fun q f h => by
  unfold f_api_Table at h
  match q, h with
  | 0, h => cases h; rfl
  | n + 1, h => simp at h
theorem el23 : ElTy Tryd.prog 23 65 1 4 := ⟨by kernel_rfl, by kernel_rfl⟩
theorem po25 : ∀ q f, f_api_Lattice[q]? = some f → ([(0, 1), (1, 1)] : List (Nat × Nat))[q]? = some (offF f_api_Lattice q, f.d.sz) := fun q f h => by
  unfold f_api_Lattice at h
  match q, h with
  | 0, h => cases h; rfl
  | 1, h => cases h; rfl
  | n + 2, h => simp at h
theorem pl48 : places Tryd.prog 48 = some [(0, 1), (1, 1), (2, 1)] := by kernel_rfl
theorem po48 : ∀ q f, f_api_Instr[q]? = some f → ([(0, 1), (1, 1), (2, 1)] : List (Nat × Nat))[q]? = some (offF f_api_Instr q, f.d.sz) := fun q f h => by
  unfold f_api_Instr at h
  match q, h with
  | 0, h => cases h; rfl
  | 1, h => cases h; rfl
  | 2, h => cases h; rfl
  | n + 3, h => simp at h
theorem ze48 : zeroIs Tryd.prog 48 [(.int .i64 0), (.int .i64 0), (.int .i64 0)] := by unfold zeroIs; kernel_rfl
theorem el31 : ElTy Tryd.prog 31 48 3 24 := ⟨by kernel_rfl, by kernel_rfl⟩
theorem b25 : bodied Tryd.prog 25 := by unfold bodied; kernel_rfl
theorem b19 : bodied Tryd.prog 19 := by unfold bodied; kernel_rfl
theorem u55 : Tryd.prog.underlying 55 = some (.slice 35) := by kernel_rfl
theorem eqk48 : EqK Tryd.prog (kR f_api_Instr) 48 2 := eqKR (fs := [(true, 0, 3), (true, 1, 3), (true, 2, 3)]) (by kernel_rfl) (by kernel_rfl) (.cons rfl t3 (eqKI u3) (.cons rfl t3 (eqKI u3) (.cons rfl t3 (eqKI u3) .nil))) (fun x y => by cases x; cases y; simp [api_Instr.mk.injEq, Bool.decide_and])
theorem eg48 : Tryd.prog.eqGuardType Tryd.prog.depth 48 = false := by kernel_rfl
theorem eqk30 : EqK Tryd.prog (kR f_api_Atom) 30 2 := eqKR (fs := [(true, 0, 3), (true, 1, 3)]) (by kernel_rfl) (by kernel_rfl) (.cons rfl t3 (eqKI u3) (.cons rfl t3 (eqKI u3) .nil)) (fun x y => by cases x; cases y; simp [api_Atom.mk.injEq, Bool.decide_and])
theorem eg30 : Tryd.prog.eqGuardType Tryd.prog.depth 30 = false := by kernel_rfl
theorem b14 : bodied Tryd.prog 14 := by unfold bodied; kernel_rfl
theorem b26 : bodied Tryd.prog 26 := by unfold bodied; kernel_rfl
theorem eqk68 : EqK Tryd.prog (kR f_api_Slot) 68 2 := eqKR (fs := [(true, 0, 4), (true, 1, 3), (true, 2, 3)]) (by kernel_rfl) (by kernel_rfl) (.cons rfl t4 (eqKB u4) (.cons rfl t3 (eqKI u3) (.cons rfl t3 (eqKI u3) .nil))) (fun x y => by cases x; cases y; simp [api_Slot.mk.injEq, Bool.decide_and])
theorem eg68 : Tryd.prog.eqGuardType Tryd.prog.depth 68 = false := by kernel_rfl
theorem b12 : bodied Tryd.prog 12 := by unfold bodied; kernel_rfl
theorem b16 : bodied Tryd.prog 16 := by unfold bodied; kernel_rfl
theorem b17 : bodied Tryd.prog 17 := by unfold bodied; kernel_rfl
theorem b18 : bodied Tryd.prog 18 := by unfold bodied; kernel_rfl
theorem b21 : bodied Tryd.prog 21 := by unfold bodied; kernel_rfl
theorem b20 : bodied Tryd.prog 20 := by unfold bodied; kernel_rfl

theorem reticentlaw11_few.ok {a0 : api_Lattice} {r : api_Lattice} (h : reticentlaw11_few.f a0 = some r) : FnA Tryd.prog 16 [(kR f_api_Lattice).sig a0] ((kR f_api_Lattice).sig r) := by
  refine fnIntro Tryd.func16 rfl (by kernel_rfl) fun H0 w0 => ?_
  unfold reticentlaw11_few.f at h
  refine wSeq ?_
  refine rg (cp (oBox tm) (s1 rfl) <| cw (oAlloc (id := 2) (ls := [.d (kN Str) [], .d (kL (kI .u32)) []]) ze25 (fun g => ⟨[(.slice none 0 0)], _, rfl, zN g.H, ⟨[(.slice none 0 0)], _, rfl, zL g.H, rfl⟩⟩)) trivial <| .nil) (by kernel_rfl) ?_
  refine pSeq ?_
  refine wSeq ?_
  obtain ⟨hc1, h⟩ := ib h
  refine rg (cp (oFld (fs := f_api_Lattice) (k := 1) rfl o25_1 tm) (s1 rfl) <| cp (oLd t23 tm) (s1 rfl) <| cp (oFld (fs := f_api_Lattice) (k := 1) rfl o25_1 tm) (s1 rfl) <| cp (oLd t23 tm) (s1 rfl) <| cp (oLenL u23 tm) (s1 rfl) <| cp (oMin tm (cI (by decide))) (s1 rfl) <| cp (oCutHi u23 z65 hc1.1 hc1.2 tm tm) (s2 rfl rfl) <| cp (oBuild (fs := f_api_Lattice_n0) (u := ⟨[], lCut a0.Up 0 (if 10 < (a0.Up.length : Int) then 10 else (a0.Up.length : Int))⟩) rfl ze25 pl25 po25_0 (.ze (zc := [(.slice none 0 0)]) zN (.op (zc := [(.slice none 0 0)]) tm rfl .nil))) (s1 rfl) <| cw (oAlloc (id := 3) (ls := [.d (kN Str) [], .d (kL (kI .u32)) []]) ze25 (fun g => ⟨[(.slice none 0 0)], _, rfl, zN g.H, ⟨[(.slice none 0 0)], _, rfl, zL g.H, rfl⟩⟩)) trivial <| cwn (oStA (n := 0) (fs := f_api_Lattice_n0) rfl rfl z25 tm tm) (s2 rfl rfl) <| .nil) (by kernel_rfl) ?_
  refine pSeq ?_
  refine wSeq ?_
  refine wSeq ?_
  obtain ⟨hc2, h⟩ := ib h
  refine rg (cp (oFld (fs := f_api_Lattice) (k := 0) rfl o25_0 tm) (s1 rfl) <| cp (oLd t22 tm) (s1 rfl) <| cp (oFld (fs := f_api_Lattice) (k := 0) rfl o25_0 tm) (s1 rfl) <| cp (oLd t22 tm) (s1 rfl) <| cp (oLenL u22 tm) (s1 rfl) <| cp (oMin tm (cI (by decide))) (s1 rfl) <| cp (oCutHi u22 z9 hc2.1 hc2.2 tm tm) (s2 rfl rfl) <| cp (oLenL u22 tm) (s1 rfl) <| cp (oMv (cI (by decide))) trivial <| .nil) (by kernel_rfl) ?_
  refine pSeq ?_
  refine wNilL kS 9 5150 (n := 0) (k := 0) rfl rfl rfl ?_
  obtain ⟨o1, h, hk1⟩ := bd h
  refine wK1 (fun x13 => x13 = o1) (fun x13 => [(2, .p 2 0), (3, .p 3 0)]) (fun x13 => [.row 5150 9 kS x13, .box 3 25 [.v 5150, .d (kL (kI .u32)) (lCut a0.Up 0 (if 10 < (a0.Up.length : Int) then 10 else (a0.Up.length : Int)))], .box 2 25 [.d (kN Str) [], .d (kL (kI .u32)) []]]) ?_ ?_
  · refine wBlock (wLoop ?_)
    refine lW (pc2 o1 (fun v11 v12 => [(2, .p 2 0), (3, .p 3 0), (20, .d ((kL kS).sig (lCut a0.Names 0 (if 10 < (a0.Names.length : Int) then 10 else (a0.Names.length : Int))))), (21, .d ((kI .i64).sig ((lCut a0.Names 0 (if 10 < (a0.Names.length : Int) then 10 else (a0.Names.length : Int))).length : Int))), (22, .d ((kI .i64).sig v12))]) (fun v11 v12 => [.row 5150 9 kS v11, .box 3 25 [.v 5150, .d (kL (kI .u32)) (lCut a0.Up 0 (if 10 < (a0.Up.length : Int) then 10 else (a0.Up.length : Int)))], .box 2 25 [.d (kN Str) [], .d (kL (kI .u32)) []]]) (reticentlaw11_few.l0.partial_correctness a0) ?_ _ _ h) ⟨rfl, rfl, rfl, rfl, rfl, trivial⟩ rfl
    clear h
    intro f' ih v11 v12 h
    refine wSeq ?_
    refine rg (cp (oLt rfl tm tm) (s2 rfl rfl) <| .nil) (by kernel_rfl) ?_
    refine pSeq ?_
    refine wSeq ?_
    rcases ic h with ⟨hp14, h⟩ | ⟨hp14, h⟩
    · refine wCT hp14 tm (s1 rfl) ?_
      refine wSkip ?_
      refine pSeq ?_
      refine wSeq ?_
      refine wBlock ?_
      refine wSeq ?_
      obtain ⟨y15, hy15, h⟩ := bd h
      refine rg (cp (oIdx u22 z9 hy15 tm tm) (s2 rfl rfl) <| cp (oLd t9 tm) (s1 rfl) <| cp (oAs tm) (s1 rfl) <| .nil) (by kernel_rfl) ?_
      refine pSeq ?_
      obtain ⟨hc16, h⟩ := ib h
      obtain ⟨hc17, h⟩ := ib h
      refine rgD hm (cp (oFldP o25_0 tm) (s1 rfl) <| cr (oLdN (n := 1) (k := 0) rfl rfl rfl t22 tm) (s1 rfl) <| cp (oMv tm) (s1 rfl) <| cp (oMv tm) (s1 rfl) <| cp (oLenS u9 tm) (s1 rfl) <| cp (oMin tm (cI (by decide))) (s1 rfl) <| cp (oCutSH u9 hc16.1 hc16.2 tm tm) (s2 rfl rfl) <| cp (oLit (d := kS) el22 (by decide) rfl rfl rfl (e1 tm e0)) (s1 rfl) <| cw (oApp (n := 0) (id' := 34) el22 (by decide) rfl (by decide) hc17 tm tm) (s2 rfl rfl) <| cp (oFldP o25_0 tm) (s1 rfl) <| cwn (oStN (n := 1) (m := 0) (k := 0) rfl rfl rfl rfl z22 rfl tm tm) (s2 rfl rfl) <| .nil) (by kernel_rfl) (by kernel_rfl) ?_
      refine pBlkN ?_
      refine pSeq ?_
      refine rg (cp (oAdd tm (cI (by decide))) (s1 rfl) <| cp (oMv tm) (s1 rfl) <| .nil) (by kernel_rfl) ?_
      refine pSub (Γ' := [(2, .p 2 0), (3, .p 3 0), (20, .d ((kL kS).sig (lCut a0.Names 0 (if 10 < (a0.Names.length : Int) then 10 else (a0.Names.length : Int))))), (21, .d ((kI .i64).sig ((lCut a0.Names 0 (if 10 < (a0.Names.length : Int) then 10 else (a0.Names.length : Int))).length : Int))), (22, .d ((kI .i64).sig (IntKind.i64.wrap (v12 + 1))))]) ⟨rfl, rfl, rfl, rfl, rfl, trivial⟩ ?_
      refine pRen 34 5150 rfl ?_
      exact pLoop (lW (ih _ _ h) ⟨rfl, rfl, rfl, rfl, rfl, trivial⟩ rfl)
    · refine wCF hp14 tm (s1 rfl) ?_
      refine wExit ?_
      refine pThenX ?_
      refine pThenX ?_
      refine pBlkX ?_
      exact pJ1 _ (so h) ⟨rfl, rfl, trivial⟩ rfl
  · rintro x13 rfl
    replace h := hk1
    refine pSeq ?_
    refine wSeq ?_
    refine wFrzR (n := 0) (id := 5150) [] rfl rfl trivial ?_
    refine rg (cr (oLdA (n := 0) (fs := f_api_Lattice) (u := ⟨x13, lCut a0.Up 0 (if 10 < (a0.Up.length : Int) then 10 else (a0.Up.length : Int))⟩) rfl ⟨rfl, rfl, trivial⟩ t25 tm) (s1 rfl) <| cwn (oStA (n := 1) (fs := f_api_Lattice) rfl rfl z25 tm tm) (s2 rfl rfl) <| .nil) (by kernel_rfl) ?_
    refine pSeq ?_
    refine wRet ?_
    obtain rfl := so h
    exact pR1 (.inl rfl) rfl (.box (n := 1) (fs := f_api_Lattice) (u := ⟨x13, lCut a0.Up 0 (if 10 < (a0.Up.length : Int) then 10 else (a0.Up.length : Int))⟩) rfl rfl ⟨rfl, rfl, trivial⟩ t25 <| .nil)

theorem reticentlaw11_rows.ok {a0 : api_Table} {r : api_Table} (h : reticentlaw11_rows.f a0 = some r) : FnA Tryd.prog 17 [(kR f_api_Table).sig a0] ((kR f_api_Table).sig r) := by
  refine fnIntro Tryd.func17 rfl (by kernel_rfl) fun H0 w0 => ?_
  unfold reticentlaw11_rows.f at h
  refine wSeq ?_
  refine rg (cp (oBox tm) (s1 rfl) <| cw (oAlloc (id := 2) (ls := [.d (kN api_Row) []]) ze28 (fun g => ⟨[(.slice none 0 0)], _, rfl, zN g.H, rfl⟩)) trivial <| .nil) (by kernel_rfl) ?_
  refine pSeq ?_
  refine wSeq ?_
  refine rg (cw (oAlloc (id := 3) (ls := [.d (kN api_Row) []]) ze28 (fun g => ⟨[(.slice none 0 0)], _, rfl, zN g.H, rfl⟩)) trivial <| .nil) (by kernel_rfl) ?_
  refine pSeq ?_
  refine wSeq ?_
  refine wSeq ?_
  obtain ⟨hc1, h⟩ := ib h
  refine rg (cp (oFld (fs := f_api_Table) (k := 0) rfl o28_0 tm) (s1 rfl) <| cp (oLd t26 tm) (s1 rfl) <| cp (oFld (fs := f_api_Table) (k := 0) rfl o28_0 tm) (s1 rfl) <| cp (oLd t26 tm) (s1 rfl) <| cp (oLenL u26 tm) (s1 rfl) <| cp (oMin tm (cI (by decide))) (s1 rfl) <| cp (oCutHi u26 z46 hc1.1 hc1.2 tm tm) (s2 rfl rfl) <| cp (oLenL u26 tm) (s1 rfl) <| cp (oMv (cI (by decide))) trivial <| .nil) (by kernel_rfl) ?_
  refine pSeq ?_
  refine wNilL (kR f_api_Row) 46 5150 (n := 0) (k := 0) rfl rfl rfl ?_
  obtain ⟨o1, h, hk1⟩ := bd h
  refine wK1 (fun x16 => x16 = o1) (fun x16 => [(2, .p 2 0), (3, .p 3 0)]) (fun x16 => [.row 5150 46 (kR f_api_Row) x16, .box 3 28 [.v 5150], .box 2 28 [.d (kN api_Row) []]]) ?_ ?_
  · refine wBlock (wLoop ?_)
    refine lW (pc2 o1 (fun v14 v15 => [(2, .p 2 0), (3, .p 3 0), (12, .d ((kL (kR f_api_Row)).sig (lCut a0.Rows 0 (if 15 < (a0.Rows.length : Int) then 15 else (a0.Rows.length : Int))))), (13, .d ((kI .i64).sig ((lCut a0.Rows 0 (if 15 < (a0.Rows.length : Int) then 15 else (a0.Rows.length : Int))).length : Int))), (14, .d ((kI .i64).sig v15))]) (fun v14 v15 => [.row 5150 46 (kR f_api_Row) v14, .box 3 28 [.v 5150], .box 2 28 [.d (kN api_Row) []]]) (reticentlaw11_rows.l0.partial_correctness a0) ?_ _ _ h) ⟨rfl, rfl, rfl, rfl, rfl, trivial⟩ rfl
    clear h
    intro f' ih v14 v15 h
    refine wSeq ?_
    refine rg (cp (oLt rfl tm tm) (s2 rfl rfl) <| .nil) (by kernel_rfl) ?_
    refine pSeq ?_
    refine wSeq ?_
    rcases ic h with ⟨hp17, h⟩ | ⟨hp17, h⟩
    · refine wCT hp17 tm (s1 rfl) ?_
      refine wSkip ?_
      refine pSeq ?_
      refine wSeq ?_
      refine wBlock ?_
      refine wSeq ?_
      obtain ⟨y18, hy18, h⟩ := bd h
      refine rg (cp (oIdx u26 z46 hy18 tm tm) (s2 rfl rfl) <| cp (oLd t46 tm) (s1 rfl) <| cw (oAlloc (id := 5) (ls := [.d (kL (kI .i64)) [], .d (kL (kI .i64)) [], .d (kL (kI .i64)) []]) ze46 (fun g => ⟨[(.slice none 0 0)], _, rfl, zL g.H, ⟨[(.slice none 0 0)], _, rfl, zL g.H, ⟨[(.slice none 0 0)], _, rfl, zL g.H, rfl⟩⟩⟩)) trivial <| cwn (oStA (n := 0) (fs := f_api_Row) rfl rfl z46 tm tm) (s2 rfl rfl) <| .nil) (by kernel_rfl) ?_
      refine pSeq ?_
      obtain ⟨hc19, h⟩ := ib h
      obtain ⟨hc20, h⟩ := ib h
      obtain ⟨hc21, h⟩ := ib h
      obtain ⟨hc22, h⟩ := ib h
      refine rgD hm (cp (oFldP o28_0 tm) (s1 rfl) <| cr (oLdN (n := 2) (k := 0) rfl rfl rfl t26 tm) (s1 rfl) <| cp (oFldP o46_0 tm) (s1 rfl) <| cr (oLdB (n := 0) (k := 0) rfl rfl rfl t44 tm) (s1 rfl) <| cp (oFldP o46_0 tm) (s1 rfl) <| cr (oLdB (n := 0) (k := 0) rfl rfl rfl t44 tm) (s1 rfl) <| cp (oLenL u44 tm) (s1 rfl) <| cp (oMin tm (cI (by decide))) (s1 rfl) <| cp (oCutHi u44 z3 hc19.1 hc19.2 tm tm) (s2 rfl rfl) <| cp (oFldP o46_1 tm) (s1 rfl) <| cr (oLdB (n := 0) (k := 1) rfl rfl rfl t44 tm) (s1 rfl) <| cp (oFldP o46_1 tm) (s1 rfl) <| cr (oLdB (n := 0) (k := 1) rfl rfl rfl t44 tm) (s1 rfl) <| cp (oLenL u44 tm) (s1 rfl) <| cp (oMin tm (cI (by decide))) (s1 rfl) <| cp (oCutHi u44 z3 hc20.1 hc20.2 tm tm) (s2 rfl rfl) <| cp (oFldP o46_2 tm) (s1 rfl) <| cr (oLdB (n := 0) (k := 2) rfl rfl rfl t44 tm) (s1 rfl) <| cp (oFldP o46_2 tm) (s1 rfl) <| cr (oLdB (n := 0) (k := 2) rfl rfl rfl t44 tm) (s1 rfl) <| cp (oLenL u44 tm) (s1 rfl) <| cp (oMin tm (cI (by decide))) (s1 rfl) <| cp (oCutHi u44 z3 hc21.1 hc21.2 tm tm) (s2 rfl rfl) <| cp (oBuild (fs := f_api_Row) (u := ⟨lCut y18.May 0 (if 45 < (y18.May.length : Int) then 45 else (y18.May.length : Int)), lCut y18.Res 0 (if 45 < (y18.Res.length : Int) then 45 else (y18.Res.length : Int)), lCut y18.Pc 0 (if 45 < (y18.Pc.length : Int) then 45 else (y18.Pc.length : Int))⟩) rfl ze46 pl46 po46 (.op (zc := [(.slice none 0 0)]) tm rfl (.op (zc := [(.slice none 0 0)]) tm rfl (.op (zc := [(.slice none 0 0)]) tm rfl .nil)))) (s3 rfl rfl rfl) <| cp (oLit (d := (kR f_api_Row)) el26 (by decide) rfl rfl rfl (e1 tm e0)) (s1 rfl) <| cw (oApp (n := 1) (id' := 43) el26 (by decide) rfl (by decide) hc22 tm tm) (s2 rfl rfl) <| cp (oFldP o28_0 tm) (s1 rfl) <| cwn (oStN (n := 2) (m := 1) (k := 0) rfl rfl rfl rfl z26 rfl tm tm) (s2 rfl rfl) <| .nil) (by kernel_rfl) (by kernel_rfl) ?_
      refine pBlkN ?_
      refine pSeq ?_
      refine rg (cp (oAdd tm (cI (by decide))) (s1 rfl) <| cp (oMv tm) (s1 rfl) <| .nil) (by kernel_rfl) ?_
      refine pDrop (.cons _ (.cons_cons _ (.cons_cons _ (.cons_cons _ .slnil)))) ?_
      refine pSub (Γ' := [(2, .p 2 0), (3, .p 3 0), (12, .d ((kL (kR f_api_Row)).sig (lCut a0.Rows 0 (if 15 < (a0.Rows.length : Int) then 15 else (a0.Rows.length : Int))))), (13, .d ((kI .i64).sig ((lCut a0.Rows 0 (if 15 < (a0.Rows.length : Int) then 15 else (a0.Rows.length : Int))).length : Int))), (14, .d ((kI .i64).sig (IntKind.i64.wrap (v15 + 1))))]) ⟨rfl, rfl, rfl, rfl, rfl, trivial⟩ ?_
      refine pRen 43 5150 rfl ?_
      exact pLoop (lW (ih _ _ h) ⟨rfl, rfl, rfl, rfl, rfl, trivial⟩ rfl)
    · refine wCF hp17 tm (s1 rfl) ?_
      refine wExit ?_
      refine pThenX ?_
      refine pThenX ?_
      refine pBlkX ?_
      exact pJ1 _ (so h) ⟨rfl, rfl, trivial⟩ rfl
  · rintro x16 rfl
    replace h := hk1
    refine pSeq ?_
    refine wSeq ?_
    refine wFrzR (n := 0) (id := 5150) [] rfl rfl trivial ?_
    refine rg (cr (oLdA (n := 0) (fs := f_api_Table) (u := ⟨x16⟩) rfl ⟨rfl, trivial⟩ t28 tm) (s1 rfl) <| cwn (oStA (n := 1) (fs := f_api_Table) rfl rfl z28 tm tm) (s2 rfl rfl) <| .nil) (by kernel_rfl) ?_
    refine pSeq ?_
    refine wRet ?_
    obtain rfl := so h
    exact pR1 (.inl rfl) rfl (.box (n := 1) (fs := f_api_Table) (u := ⟨x16⟩) rfl rfl ⟨rfl, trivial⟩ t28 <| .nil)

theorem reticentlaw11_cut.ok {a0 : api_State} {r : api_State} (h : reticentlaw11_cut.f a0 = some r) : FnA Tryd.prog 18 [(kR f_api_State).sig a0] ((kR f_api_State).sig r) := by
  refine fnIntro Tryd.func18 rfl (by kernel_rfl) fun H0 w0 => ?_
  unfold reticentlaw11_cut.f at h
  refine wSeq ?_
  refine rg (cw (oBoxP (id := 1) (d := (kR f_api_State)) (ls := [.d (kI .i64) a0.Pc.V, .d (kI .i64) a0.Pc.L, .d (kL (kR f_api_Instr)) a0.Code, .d (kL (kR f_api_Atom)) a0.Mem, .d (kL (kR f_api_Slot)) a0.Stack, .d (kL (kR f_api_Atom)) a0.Out]) (lfS (lfC (lfS (lfC lf1 (lfC lf1 lfN))) (lfC lf1 (lfC lf1 (lfC lf1 (lfC lf1 lfN)))))) rfl tm) (s1 rfl) <| cw (oAlloc (id := 2) (ls := [.d (kI .i64) 0, .d (kI .i64) 0, .d (kL (kR f_api_Instr)) [], .d (kL (kR f_api_Atom)) [], .d (kL (kR f_api_Slot)) [], .d (kL (kR f_api_Atom)) []]) ze35 (fun g => ⟨[(.int .i64 0)], _, rfl, zI_i64 g.H, ⟨[(.int .i64 0)], _, rfl, zI_i64 g.H, ⟨[(.slice none 0 0)], _, rfl, zL g.H, ⟨[(.slice none 0 0)], _, rfl, zL g.H, ⟨[(.slice none 0 0)], _, rfl, zL g.H, ⟨[(.slice none 0 0)], _, rfl, zL g.H, rfl⟩⟩⟩⟩⟩⟩)) trivial <| .nil) (by kernel_rfl) ?_
  refine pSeq ?_
  refine wSeq ?_
  obtain ⟨hc1, h⟩ := ib h
  obtain ⟨hc2, h⟩ := ib h
  obtain ⟨hc3, h⟩ := ib h
  obtain ⟨hc4, h⟩ := ib h
  refine rgD hm (cp (oFldP o35_1 tm) (s1 rfl) <| cr (oLdB (n := 1) (k := 2) rfl rfl rfl t31 tm) (s1 rfl) <| cp (oFldP o35_1 tm) (s1 rfl) <| cr (oLdB (n := 1) (k := 2) rfl rfl rfl t31 tm) (s1 rfl) <| cp (oLenL u31 tm) (s1 rfl) <| cp (oMin tm (cI (by decide))) (s1 rfl) <| cp (oCutHi u31 z48 hc1.1 hc1.2 tm tm) (s2 rfl rfl) <| cp (oFldP o35_2 tm) (s1 rfl) <| cr (oLdB (n := 1) (k := 3) rfl rfl rfl t32 tm) (s1 rfl) <| cp (oFldP o35_2 tm) (s1 rfl) <| cr (oLdB (n := 1) (k := 3) rfl rfl rfl t32 tm) (s1 rfl) <| cp (oLenL u32 tm) (s1 rfl) <| cp (oMin tm (cI (by decide))) (s1 rfl) <| cp (oCutHi u32 z30 hc2.1 hc2.2 tm tm) (s2 rfl rfl) <| cp (oFldP o35_3 tm) (s1 rfl) <| cr (oLdB (n := 1) (k := 4) rfl rfl rfl t33 tm) (s1 rfl) <| cp (oFldP o35_3 tm) (s1 rfl) <| cr (oLdB (n := 1) (k := 4) rfl rfl rfl t33 tm) (s1 rfl) <| cp (oLenL u33 tm) (s1 rfl) <| cp (oMin tm (cI (by decide))) (s1 rfl) <| cp (oCutHi u33 z68 hc3.1 hc3.2 tm tm) (s2 rfl rfl) <| cp (oFldP o35_4 tm) (s1 rfl) <| cr (oLdB (n := 1) (k := 5) rfl rfl rfl t32 tm) (s1 rfl) <| cp (oFldP o35_4 tm) (s1 rfl) <| cr (oLdB (n := 1) (k := 5) rfl rfl rfl t32 tm) (s1 rfl) <| cp (oLenL u32 tm) (s1 rfl) <| cp (oMin tm (cI (by decide))) (s1 rfl) <| cp (oCutHi u32 z30 hc4.1 hc4.2 tm tm) (s2 rfl rfl) <| cp (oFldP o35_1 tm) (s1 rfl) <| cwn (oSt (n := 1) (k := 2) rfl rfl rfl rfl z31 tm tm) (s2 rfl rfl) <| cp (oFldP o35_2 tm) (s1 rfl) <| cwn (oSt (n := 1) (k := 3) rfl rfl rfl rfl z32 tm tm) (s2 rfl rfl) <| cp (oFldP o35_3 tm) (s1 rfl) <| cwn (oSt (n := 1) (k := 4) rfl rfl rfl rfl z33 tm tm) (s2 rfl rfl) <| cp (oFldP o35_4 tm) (s1 rfl) <| cwn (oSt (n := 1) (k := 5) rfl rfl rfl rfl z32 tm tm) (s2 rfl rfl) <| .nil) (by kernel_rfl) (by kernel_rfl) ?_
  refine pSeq ?_
  refine wSeq ?_
  refine rg (cr (oLdP (n := 1) (k := 0) (m := 6) (d := (kR f_api_State)) (u := (⟨a0.Pc, lCut a0.Code 0 (if 15 < (a0.Code.length : Int) then 15 else (a0.Code.length : Int)), lCut a0.Mem 0 (if 15 < (a0.Mem.length : Int) then 15 else (a0.Mem.length : Int)), lCut a0.Stack 0 (if 15 < (a0.Stack.length : Int) then 15 else (a0.Stack.length : Int)), lCut a0.Out 0 (if 15 < (a0.Out.length : Int) then 15 else (a0.Out.length : Int))⟩ : api_State)) (lfS (lfC (lfS (lfC lf1 (lfC lf1 lfN))) (lfC lf1 (lfC lf1 (lfC lf1 (lfC lf1 lfN)))))) rfl rfl rfl t35 tm) (s1 rfl) <| cwn (oStP (n := 0) (k := 0) (m := 6) (d := (kR f_api_State)) (u := (⟨a0.Pc, lCut a0.Code 0 (if 15 < (a0.Code.length : Int) then 15 else (a0.Code.length : Int)), lCut a0.Mem 0 (if 15 < (a0.Mem.length : Int) then 15 else (a0.Mem.length : Int)), lCut a0.Stack 0 (if 15 < (a0.Stack.length : Int) then 15 else (a0.Stack.length : Int)), lCut a0.Out 0 (if 15 < (a0.Out.length : Int) then 15 else (a0.Out.length : Int))⟩ : api_State)) (lfS (lfC (lfS (lfC lf1 (lfC lf1 lfN))) (lfC lf1 (lfC lf1 (lfC lf1 (lfC lf1 lfN)))))) rfl rfl rfl z35 tm tm) (s2 rfl rfl) <| .nil) (by kernel_rfl) ?_
  refine pSeq ?_
  refine wRet ?_
  obtain rfl := so h
  exact pR1 (.inl rfl) rfl (.boxP (n := 0) (d := (kR f_api_State)) (u := (⟨a0.Pc, lCut a0.Code 0 (if 15 < (a0.Code.length : Int) then 15 else (a0.Code.length : Int)), lCut a0.Mem 0 (if 15 < (a0.Mem.length : Int) then 15 else (a0.Mem.length : Int)), lCut a0.Stack 0 (if 15 < (a0.Stack.length : Int) then 15 else (a0.Stack.length : Int)), lCut a0.Out 0 (if 15 < (a0.Out.length : Int) then 15 else (a0.Out.length : Int))⟩ : api_State)) rfl rfl (lfS (lfC (lfS (lfC lf1 (lfC lf1 lfN))) (lfC lf1 (lfC lf1 (lfC lf1 (lfC lf1 lfN)))))) rfl t35 <| .nil)

theorem lattice_name.ok {a0 : Str} {r : Bool} (h : lattice_name.f a0 = some r) : FnA Tryd.prog 57 [kS.sig a0] (kB.sig r) := by
  refine fnIntro Tryd.func57 rfl (by kernel_rfl) fun H0 w0 => ?_
  unfold lattice_name.f at h
  refine wSeq ?_
  refine rg (cp (oAs cB) trivial <| .nil) (by kernel_rfl) ?_
  refine pSeq ?_
  refine wSeq ?_
  refine wSeq ?_
  refine rg (cp (oMv tm) (s1 rfl) <| cp (oLenS u9 tm) (s1 rfl) <| cp (oMv (cI (by decide))) trivial <| .nil) (by kernel_rfl) ?_
  refine pSeq ?_
  obtain ⟨o1, h, hk1⟩ := bd h
  refine wK0 (.inr () = o1) ([(0, .d (kS.sig a0))]) ([]) ?_ ?_
  · refine wBlock (wLoop ?_)
    refine lW (pc1 o1 (fun v19 => [(0, .d (kS.sig a0)), (5, .d ((kI .i64).sig (a0.length : Int))), (6, .d ((kI .i64).sig v19))]) (fun v19 => []) (lattice_name.l0.partial_correctness a0) ?_ _ h) ⟨rfl, rfl, rfl, trivial⟩ rfl
    clear h
    intro f' ih v19 h
    refine wSeq ?_
    refine rg (cp (oLt rfl tm tm) (s2 rfl rfl) <| .nil) (by kernel_rfl) ?_
    refine pSeq ?_
    refine wSeq ?_
    rcases ic h with ⟨hp20, h⟩ | ⟨hp20, h⟩
    · refine wCT hp20 tm (s1 rfl) ?_
      refine wSkip ?_
      refine pSeq ?_
      refine wSeq ?_
      refine wBlock ?_
      refine wSeq ?_
      refine rg (cp (oMv tm) (s1 rfl) <| cp (oAs tm) (s1 rfl) <| .nil) (by kernel_rfl) ?_
      refine pSeq ?_
      obtain ⟨o2, h, hk2⟩ := bd h
      refine wJ1 (fun x24 => x24 = o2) (fun x24 => [(0, .d (kS.sig a0)), (5, .d ((kI .i64).sig (a0.length : Int))), (6, .d ((kI .i64).sig v19)), (18, .d (kB.sig x24))]) (fun x24 => []) ?_ ?_
      · obtain ⟨hc25, h⟩ := ib h
        rcases ic h with ⟨hp26, h⟩ | ⟨hp26, h⟩
        · refine rg (cp (oMv tm) (s1 rfl) <| cp (oMv tm) (s1 rfl) <| cp (oIdxS u9 hc25.1 hc25.2 tm tm) (s2 rfl rfl) <| cp (oLt rfl tm (cI (by decide))) (s1 rfl) <| cp (oMv tm) (s1 rfl) <| csB (decide_eq_true hp26) rfl rfl <| csB (decide_eq_true hp26) rfl rfl <| csB (decide_eq_true hp26) rfl rfl <| csB (decide_eq_true hp26) rfl rfl <| cp (oPkT (decide_eq_true hp26) tm cB) (s1 rfl) <| .nil) (by kernel_rfl) ?_
          exact pJ1 _ (so h) ⟨rfl, rfl, rfl, rfl, trivial⟩ rfl
        · obtain ⟨hc27, h⟩ := ib h
          refine rg (cp (oMv tm) (s1 rfl) <| cp (oMv tm) (s1 rfl) <| cp (oIdxS u9 hc25.1 hc25.2 tm tm) (s2 rfl rfl) <| cp (oLt rfl tm (cI (by decide))) (s1 rfl) <| cp (oMv tm) (s1 rfl) <| cgB (decide_eq_false hp26) rfl rfl (oMv tm) (s1 rfl) <| cgB (decide_eq_false hp26) rfl rfl (oMv tm) (s1 rfl) <| cgB (decide_eq_false hp26) rfl rfl (oIdxS u9 hc27.1 hc27.2 tm tm) (s2 rfl rfl) <| cgB (decide_eq_false hp26) rfl rfl (oGt rfl tm (cI (by decide))) (s1 rfl) <| cp (oPkF (decide_eq_false hp26) tm tm) (s2 rfl rfl) <| .nil) (by kernel_rfl) ?_
          exact pJ1 _ (so h) ⟨rfl, rfl, rfl, rfl, trivial⟩ rfl
      · rintro x24 rfl
        replace h := hk2
        rcases ic h with ⟨hp28, h⟩ | ⟨hp28, h⟩
        · refine wBT hp28 tm (s1 rfl) ?_
          refine wSeq ?_
          refine rg (cp (oAs cB) trivial <| .nil) (by kernel_rfl) ?_
          refine pSeq ?_
          refine wRet ?_
          refine pBlkR ?_
          refine pThenR ?_
          refine pThenR ?_
          refine pBlkR ?_
          refine pThenR ?_
          obtain rfl := so h
          replace h := hk1
          refine pThenR ?_
          obtain rfl := so h
          exact pR1 (.inl rfl) rfl (.tmp rfl <| .nil)
        · refine wBF hp28 tm (s1 rfl) ?_
          refine wSkip ?_
          refine pBlkN ?_
          refine pSeq ?_
          refine rg (cp (oAdd tm (cI (by decide))) (s1 rfl) <| cp (oMv tm) (s1 rfl) <| .nil) (by kernel_rfl) ?_
          exact pLoop (lW (ih _ h) ⟨rfl, rfl, rfl, trivial⟩ rfl)
    · refine wCF hp20 tm (s1 rfl) ?_
      refine wExit ?_
      refine pThenX ?_
      refine pThenX ?_
      refine pBlkX ?_
      exact pJ0 (so h) ⟨rfl, trivial⟩ rfl
  · rintro rfl
    replace h := hk1
    refine pSeq ?_
    obtain ⟨o1, h, hk1⟩ := bd h
    refine wJ1 (fun x30 => x30 = o1) (fun x30 => [(2, .d (kB.sig x30))]) (fun x30 => []) ?_ ?_
    · rcases ic h with ⟨hp31, h⟩ | ⟨hp31, h⟩
      · refine rg (cp (oMv tm) (s1 rfl) <| cp (oSNe rfl tm (cS (by decide))) (s1 rfl) <| cp (oMv tm) (s1 rfl) <| csB (nf hp31) rfl rfl <| csB (nf hp31) rfl rfl <| csB (nf hp31) rfl rfl <| cp (oPkF (nf hp31) tm cB) (s1 rfl) <| cp (oAs tm) (s1 rfl) <| .nil) (by kernel_rfl) ?_
        exact pJ1 _ (so h) ⟨rfl, trivial⟩ rfl
      · refine rg (cp (oMv tm) (s1 rfl) <| cp (oSNe rfl tm (cS (by decide))) (s1 rfl) <| cp (oMv tm) (s1 rfl) <| cgB (nt hp31) rfl rfl (oMv tm) (s1 rfl) <| cgB (nt hp31) rfl rfl (oLenS u9 tm) (s1 rfl) <| cgB (nt hp31) rfl rfl (oLe rfl tm (cI (by decide))) (s1 rfl) <| cp (oPkT (nt hp31) tm tm) (s2 rfl rfl) <| cp (oAs tm) (s1 rfl) <| .nil) (by kernel_rfl) ?_
        exact pJ1 _ (so h) ⟨rfl, trivial⟩ rfl
    · rintro x30 rfl
      replace h := hk1
      refine wRet ?_
      obtain rfl := so h
      exact pR1 (.inl rfl) rfl (.tmp rfl <| .nil)

theorem slices_Index_string_string.ok {a0 : List Str} {a1 : Str} {r : Int} (h : slices_Index_string_string.f a0 a1 = some r) : FnA Tryd.prog 85 [(kL kS).sig a0, kS.sig a1] ((kI .i64).sig r) := by
  refine fnIntro Tryd.func85 rfl (by kernel_rfl) fun H0 w0 => ?_
  unfold slices_Index_string_string.f at h
  refine wSeq ?_
  refine rg (cp (oAs (cI (by decide))) trivial <| .nil) (by kernel_rfl) ?_
  refine pSeq ?_
  refine wSeq ?_
  refine wSeq ?_
  refine rg (cp (oMv tm) (s1 rfl) <| cp (oLenL u22 tm) (s1 rfl) <| cp (oMv (cI (by decide))) trivial <| .nil) (by kernel_rfl) ?_
  refine pSeq ?_
  obtain ⟨o1, h, hk1⟩ := bd h
  refine wK0 (.inr () = o1) ([]) ([]) ?_ ?_
  · refine wBlock (wLoop ?_)
    refine lW (pc1 o1 (fun v7 => [(0, .d ((kL kS).sig a0)), (1, .d (kS.sig a1)), (7, .d ((kI .i64).sig (a0.length : Int))), (8, .d ((kI .i64).sig v7))]) (fun v7 => []) (slices_Index_string_string.l0.partial_correctness a0 a1) ?_ _ h) ⟨rfl, rfl, rfl, rfl, trivial⟩ rfl
    clear h
    intro f' ih v7 h
    refine wSeq ?_
    refine rg (cp (oLt rfl tm tm) (s2 rfl rfl) <| .nil) (by kernel_rfl) ?_
    refine pSeq ?_
    refine wSeq ?_
    rcases ic h with ⟨hp8, h⟩ | ⟨hp8, h⟩
    · refine wCT hp8 tm (s1 rfl) ?_
      refine wSkip ?_
      refine pSeq ?_
      refine wSeq ?_
      refine wBlock ?_
      refine wSeq ?_
      refine rg (cp (oMv tm) (s1 rfl) <| cp (oAs tm) (s1 rfl) <| .nil) (by kernel_rfl) ?_
      refine pSeq ?_
      refine wSeq ?_
      obtain ⟨y9, hy9, h⟩ := bd h
      refine rg (cp (oMv tm) (s1 rfl) <| cp (oMv tm) (s1 rfl) <| cp (oMv tm) (s1 rfl) <| cp (oIdx u22 z9 hy9 tm tm) (s2 rfl rfl) <| cp (oLd t9 tm) (s1 rfl) <| cp (oSEq rfl tm tm) (s2 rfl rfl) <| .nil) (by kernel_rfl) ?_
      refine pSeq ?_
      rcases ic h with ⟨hp10, h⟩ | ⟨hp10, h⟩
      · refine wCT hp10 tm (s1 rfl) ?_
        refine wSeq ?_
        refine rg (cp (oMv tm) (s1 rfl) <| cp (oAs tm) (s1 rfl) <| .nil) (by kernel_rfl) ?_
        refine pSeq ?_
        refine wRet ?_
        refine pBlkR ?_
        refine pThenR ?_
        refine pThenR ?_
        refine pBlkR ?_
        refine pThenR ?_
        obtain rfl := so h
        replace h := hk1
        refine pThenR ?_
        obtain rfl := so h
        exact pR1 (.inl rfl) rfl (.tmp rfl <| .nil)
      · refine wCF hp10 tm (s1 rfl) ?_
        refine wSkip ?_
        refine pBlkN ?_
        refine pSeq ?_
        refine rg (cp (oAdd tm (cI (by decide))) (s1 rfl) <| cp (oMv tm) (s1 rfl) <| .nil) (by kernel_rfl) ?_
        exact pLoop (lW (ih _ h) ⟨rfl, rfl, rfl, rfl, trivial⟩ rfl)
    · refine wCF hp8 tm (s1 rfl) ?_
      refine wExit ?_
      refine pThenX ?_
      refine pThenX ?_
      refine pBlkX ?_
      exact pJ0 (so h) trivial rfl
  · rintro rfl
    replace h := hk1
    refine pSeq ?_
    refine wSeq ?_
    refine rg (cp (oAs (cI (by decide))) trivial <| .nil) (by kernel_rfl) ?_
    refine pSeq ?_
    refine wRet ?_
    obtain rfl := so h
    exact pR1 (.inl rfl) rfl (.tmp rfl <| .nil)

theorem slices_Contains_string_string.ok {a0 : List Str} {a1 : Str} {r : Bool} (h : slices_Contains_string_string.f a0 a1 = some r) : FnA Tryd.prog 58 [(kL kS).sig a0, kS.sig a1] (kB.sig r) := by
  refine fnIntro Tryd.func58 rfl (by kernel_rfl) fun H0 w0 => ?_
  unfold slices_Contains_string_string.f at h
  refine wSeq ?_
  refine rg (cp (oAs cB) trivial <| .nil) (by kernel_rfl) ?_
  refine pSeq ?_
  refine wSeq ?_
  obtain ⟨y1, hy1, h⟩ := bd h
  refine rg (cp (oMv tm) (s1 rfl) <| cp (oMv tm) (s1 rfl) <| cp (oCall rfl (slices_Index_string_string.ok hy1) b85 (opds_cons tm (opds_cons tm opds_nil))) (s2 rfl rfl) <| cp (oGe rfl tm (cI (by decide))) (s1 rfl) <| cp (oAs tm) (s1 rfl) <| .nil) (by kernel_rfl) ?_
  refine pSeq ?_
  refine wRet ?_
  obtain rfl := so h
  exact pR1 (.inl rfl) rfl (.tmp rfl <| .nil)

theorem lattice_may.ok {a0 : api_Lattice} {r : Bool} (h : lattice_may.f a0 = some r) : FnA Tryd.prog 37 [(kR f_api_Lattice).sig a0] (kB.sig r) := by
  refine fnIntro Tryd.func37 rfl (by kernel_rfl) fun H0 w0 => ?_
  unfold lattice_may.f at h
  refine wSeq ?_
  refine rg (cp (oBox tm) (s1 rfl) <| cp (oAs cB) trivial <| .nil) (by kernel_rfl) ?_
  refine pSeq ?_
  refine wSeq ?_
  refine rg (cp (oFld (fs := f_api_Lattice) (k := 1) rfl o25_1 tm) (s1 rfl) <| cp (oLd t23 tm) (s1 rfl) <| cp (oLenL u23 tm) (s1 rfl) <| cp (oAs tm) (s1 rfl) <| .nil) (by kernel_rfl) ?_
  refine pSeq ?_
  refine wSeq ?_
  obtain ⟨o1, h, hk1⟩ := bd h
  refine wJ1 (fun x3 => x3 = o1) (fun x3 => [(1, .d (sP (kR f_api_Lattice) a0)), (3, .d ((kI .i64).sig (a0.Up.length : Int))), (21, .d (kB.sig x3))]) (fun x3 => []) ?_ ?_
  · rcases ic h with ⟨hp4, h⟩ | ⟨hp4, h⟩
    · refine rg (cp (oMv tm) (s1 rfl) <| cp (oLt rfl tm (cI (by decide))) (s1 rfl) <| cp (oMv tm) (s1 rfl) <| csB (decide_eq_true hp4) rfl rfl <| csB (decide_eq_true hp4) rfl rfl <| cp (oPkT (decide_eq_true hp4) tm cB) (s1 rfl) <| cp (oMv tm) (s1 rfl) <| csB rfl rfl rfl <| csB rfl rfl rfl <| csB rfl rfl rfl <| csB rfl rfl rfl <| csB rfl rfl rfl <| cp (oPkT rfl tm cB) (s1 rfl) <| .nil) (by kernel_rfl) ?_
      exact pJ1 _ (so h) ⟨rfl, rfl, rfl, trivial⟩ rfl
    · rcases ic h with ⟨hp5, h⟩ | ⟨hp5, h⟩
      · refine rg (cp (oMv tm) (s1 rfl) <| cp (oLt rfl tm (cI (by decide))) (s1 rfl) <| cp (oMv tm) (s1 rfl) <| cgB (decide_eq_false hp4) rfl rfl (oMv tm) (s1 rfl) <| cgB (decide_eq_false hp4) rfl rfl (oGt rfl tm (cI (by decide))) (s1 rfl) <| cp (oPkF (decide_eq_false hp4) tm tm) (s2 rfl rfl) <| cp (oMv tm) (s1 rfl) <| csB (decide_eq_true hp5) rfl rfl <| csB (decide_eq_true hp5) rfl rfl <| csB (decide_eq_true hp5) rfl rfl <| csB (decide_eq_true hp5) rfl rfl <| csB (decide_eq_true hp5) rfl rfl <| cp (oPkT (decide_eq_true hp5) tm cB) (s1 rfl) <| .nil) (by kernel_rfl) ?_
        exact pJ1 _ (so h) ⟨rfl, rfl, rfl, trivial⟩ rfl
      · refine rg (cp (oMv tm) (s1 rfl) <| cp (oLt rfl tm (cI (by decide))) (s1 rfl) <| cp (oMv tm) (s1 rfl) <| cgB (decide_eq_false hp4) rfl rfl (oMv tm) (s1 rfl) <| cgB (decide_eq_false hp4) rfl rfl (oGt rfl tm (cI (by decide))) (s1 rfl) <| cp (oPkF (decide_eq_false hp4) tm tm) (s2 rfl rfl) <| cp (oMv tm) (s1 rfl) <| cgB (decide_eq_false hp5) rfl rfl (oFld (fs := f_api_Lattice) (k := 0) rfl o25_0 tm) (s1 rfl) <| cgB (decide_eq_false hp5) rfl rfl (oLd t22 tm) (s1 rfl) <| cgB (decide_eq_false hp5) rfl rfl (oLenL u22 tm) (s1 rfl) <| cgB (decide_eq_false hp5) rfl rfl (oMv tm) (s1 rfl) <| cgB (decide_eq_false hp5) rfl rfl (oNe rfl tm tm) (s2 rfl rfl) <| cp (oPkF (decide_eq_false hp5) tm tm) (s2 rfl rfl) <| .nil) (by kernel_rfl) ?_
        exact pJ1 _ (so h) ⟨rfl, rfl, rfl, trivial⟩ rfl
  · rintro x3 rfl
    replace h := hk1
    rcases ic h with ⟨hp6, h⟩ | ⟨hp6, h⟩
    · refine wBT hp6 tm (s1 rfl) ?_
      refine wSeq ?_
      refine rg (cp (oAs cB) trivial <| .nil) (by kernel_rfl) ?_
      refine pSeq ?_
      refine wRet ?_
      refine pThenR ?_
      obtain rfl := so h
      exact pR1 (.inl rfl) rfl (.tmp rfl <| .nil)
    · refine wBF hp6 tm (s1 rfl) ?_
      refine wSkip ?_
      refine pSeq ?_
      refine wSeq ?_
      refine wSeq ?_
      refine rg (cp (oFld (fs := f_api_Lattice) (k := 0) rfl o25_0 tm) (s1 rfl) <| cp (oLd t22 tm) (s1 rfl) <| cp (oLenL u22 tm) (s1 rfl) <| cp (oMv (cI (by decide))) trivial <| .nil) (by kernel_rfl) ?_
      refine pSeq ?_
      obtain ⟨o1, h, hk1⟩ := bd h
      refine wK0 (.inr () = o1) ([]) ([]) ?_ ?_
      · refine wBlock (wLoop ?_)
        refine lW (pc1 o1 (fun v43 => [(1, .d (sP (kR f_api_Lattice) a0)), (3, .d ((kI .i64).sig (a0.Up.length : Int))), (23, .d ((kL kS).sig a0.Names)), (24, .d ((kI .i64).sig (a0.Names.length : Int))), (25, .d ((kI .i64).sig v43))]) (fun v43 => []) (lattice_may.l0.partial_correctness a0) ?_ _ h) ⟨rfl, rfl, rfl, rfl, rfl, trivial⟩ rfl
        clear h
        intro f' ih v43 h
        refine wSeq ?_
        refine rg (cp (oLt rfl tm tm) (s2 rfl rfl) <| .nil) (by kernel_rfl) ?_
        refine pSeq ?_
        refine wSeq ?_
        rcases ic h with ⟨hp44, h⟩ | ⟨hp44, h⟩
        · refine wCT hp44 tm (s1 rfl) ?_
          refine wSkip ?_
          refine pSeq ?_
          refine wSeq ?_
          refine wBlock ?_
          refine wSeq ?_
          obtain ⟨y45, hy45, h⟩ := bd h
          refine rg (cp (oMv tm) (s1 rfl) <| cp (oIdx u22 z9 hy45 tm tm) (s2 rfl rfl) <| cp (oLd t9 tm) (s1 rfl) <| cp (oAs tm) (s1 rfl) <| cp (oAs tm) (s1 rfl) <| .nil) (by kernel_rfl) ?_
          refine pSeq ?_
          obtain ⟨o2, h, hk2⟩ := bd h
          refine wJ1 (fun x53 => x53 = o2) (fun x53 => [(1, .d (sP (kR f_api_Lattice) a0)), (3, .d ((kI .i64).sig (a0.Up.length : Int))), (23, .d ((kL kS).sig a0.Names)), (24, .d ((kI .i64).sig (a0.Names.length : Int))), (25, .d ((kI .i64).sig v43)), (50, .d (kB.sig x53))]) (fun x53 => []) ?_ ?_
          · obtain ⟨y54, hy54, h⟩ := bd h
            rcases ic h with ⟨hp55, h⟩ | ⟨hp55, h⟩
            · refine rg (cp (oMv tm) (s1 rfl) <| cp (oCall rfl (lattice_name.ok hy54) b57 (opds_cons tm opds_nil)) (s1 rfl) <| cp (oNot tm) (s1 rfl) <| cp (oMv tm) (s1 rfl) <| csB hp55 rfl rfl <| csB hp55 rfl rfl <| csB hp55 rfl rfl <| csB hp55 rfl rfl <| csB hp55 rfl rfl <| csB hp55 rfl rfl <| cp (oPkT hp55 tm cB) (s1 rfl) <| cp (oMv tm) (s1 rfl) <| csB rfl rfl rfl <| csB rfl rfl rfl <| csB rfl rfl rfl <| csB rfl rfl rfl <| csB rfl rfl rfl <| csB rfl rfl rfl <| csB rfl rfl rfl <| csB rfl rfl rfl <| cp (oPkT rfl tm cB) (s1 rfl) <| .nil) (by kernel_rfl) ?_
              exact pJ1 _ (so h) ⟨rfl, rfl, rfl, rfl, rfl, rfl, trivial⟩ rfl
            · obtain ⟨hc56, h⟩ := ib h
              obtain ⟨y57, hy57, h⟩ := bd h
              rcases ic h with ⟨hp58, h⟩ | ⟨hp58, h⟩
              · refine rg (cp (oMv tm) (s1 rfl) <| cp (oCall rfl (lattice_name.ok hy54) b57 (opds_cons tm opds_nil)) (s1 rfl) <| cp (oNot tm) (s1 rfl) <| cp (oMv tm) (s1 rfl) <| cgB (nb hp55) rfl rfl (oFld (fs := f_api_Lattice) (k := 0) rfl o25_0 tm) (s1 rfl) <| cgB (nb hp55) rfl rfl (oLd t22 tm) (s1 rfl) <| cgB (nb hp55) rfl rfl (oMv tm) (s1 rfl) <| cgB (nb hp55) rfl rfl (oCutHi u22 z9 hc56.1 hc56.2 tm tm) (s2 rfl rfl) <| cgB (nb hp55) rfl rfl (oMv tm) (s1 rfl) <| cgB (nb hp55) rfl rfl (oCall rfl (slices_Contains_string_string.ok hy57) b58 (opds_cons tm (opds_cons tm opds_nil))) (s2 rfl rfl) <| cp (oPkF (nb hp55) tm tm) (s2 rfl rfl) <| cp (oMv tm) (s1 rfl) <| csB hp58 rfl rfl <| csB hp58 rfl rfl <| csB hp58 rfl rfl <| csB hp58 rfl rfl <| csB hp58 rfl rfl <| csB hp58 rfl rfl <| csB hp58 rfl rfl <| csB hp58 rfl rfl <| cp (oPkT hp58 tm cB) (s1 rfl) <| .nil) (by kernel_rfl) ?_
                exact pJ1 _ (so h) ⟨rfl, rfl, rfl, rfl, rfl, rfl, trivial⟩ rfl
              · obtain ⟨y59, hy59, h⟩ := bd h
                obtain ⟨hc60, h⟩ := ib h
                refine rg (cp (oMv tm) (s1 rfl) <| cp (oCall rfl (lattice_name.ok hy54) b57 (opds_cons tm opds_nil)) (s1 rfl) <| cp (oNot tm) (s1 rfl) <| cp (oMv tm) (s1 rfl) <| cgB (nb hp55) rfl rfl (oFld (fs := f_api_Lattice) (k := 0) rfl o25_0 tm) (s1 rfl) <| cgB (nb hp55) rfl rfl (oLd t22 tm) (s1 rfl) <| cgB (nb hp55) rfl rfl (oMv tm) (s1 rfl) <| cgB (nb hp55) rfl rfl (oCutHi u22 z9 hc56.1 hc56.2 tm tm) (s2 rfl rfl) <| cgB (nb hp55) rfl rfl (oMv tm) (s1 rfl) <| cgB (nb hp55) rfl rfl (oCall rfl (slices_Contains_string_string.ok hy57) b58 (opds_cons tm (opds_cons tm opds_nil))) (s2 rfl rfl) <| cp (oPkF (nb hp55) tm tm) (s2 rfl rfl) <| cp (oMv tm) (s1 rfl) <| cgB (nb hp58) rfl rfl (oFld (fs := f_api_Lattice) (k := 1) rfl o25_1 tm) (s1 rfl) <| cgB (nb hp58) rfl rfl (oLd t23 tm) (s1 rfl) <| cgB (nb hp58) rfl rfl (oMv tm) (s1 rfl) <| cgB (nb hp58) rfl rfl (oIdx u23 z65 hy59 tm tm) (s2 rfl rfl) <| cgB (nb hp58) rfl rfl (oLd t65 tm) (s1 rfl) <| cgB (nb hp58) rfl rfl (oMv tm) (s1 rfl) <| cgB (nb hp58) rfl rfl (oShr hc60 tm tm) (s2 rfl rfl) <| cgB (nb hp58) rfl rfl (oNe rfl tm (cI (by decide))) (s1 rfl) <| cp (oPkF (nb hp58) tm tm) (s2 rfl rfl) <| .nil) (by kernel_rfl) ?_
                exact pJ1 _ (so h) ⟨rfl, rfl, rfl, rfl, rfl, rfl, trivial⟩ rfl
          · rintro x53 rfl
            replace h := hk2
            rcases ic h with ⟨hp61, h⟩ | ⟨hp61, h⟩
            · refine wBT hp61 tm (s1 rfl) ?_
              refine wSeq ?_
              refine rg (cp (oAs cB) trivial <| .nil) (by kernel_rfl) ?_
              refine pSeq ?_
              refine wRet ?_
              refine pBlkR ?_
              refine pThenR ?_
              refine pThenR ?_
              refine pBlkR ?_
              refine pThenR ?_
              obtain rfl := so h
              replace h := hk1
              refine pThenR ?_
              obtain rfl := so h
              exact pR1 (.inl rfl) rfl (.tmp rfl <| .nil)
            · refine wBF hp61 tm (s1 rfl) ?_
              refine wSkip ?_
              refine pBlkN ?_
              refine pSeq ?_
              refine rg (cp (oAdd tm (cI (by decide))) (s1 rfl) <| cp (oMv tm) (s1 rfl) <| .nil) (by kernel_rfl) ?_
              exact pLoop (lW (ih _ h) ⟨rfl, rfl, rfl, rfl, rfl, trivial⟩ rfl)
        · refine wCF hp44 tm (s1 rfl) ?_
          refine wExit ?_
          refine pThenX ?_
          refine pThenX ?_
          refine pBlkX ?_
          exact pJ0 (so h) trivial rfl
      · rintro rfl
        replace h := hk1
        refine pSeq ?_
        refine wSeq ?_
        refine rg (cp (oAs cB) trivial <| .nil) (by kernel_rfl) ?_
        refine pSeq ?_
        refine wRet ?_
        obtain rfl := so h
        exact pR1 (.inl rfl) rfl (.tmp rfl <| .nil)

theorem lattice_pairs_1.ok {a1 : Int} : FnY Tryd.prog 60 (fun z => (kI .i64).sig z) (fun z => (kI .i64).sig z) [sP (kI .i64) a1] (fun {σ} a_y a_s => lattice_pairs_1.f a_y a_s a1) := by
  refine fnIntroY 7777 Tryd.func60 rfl (by kernel_rfl) (fun σ A a_y a_s a_r h bs H0 w0 => ?_)
  replace h : lattice_pairs_1.f a_y a_s a1 = some a_r := h
  unfold lattice_pairs_1.f at h
  refine wSeq ?_
  refine rg (cp (oLd t3 tm) (s1 rfl) <| cp (oMv (cI (by decide))) trivial <| .nil) (by kernel_rfl) ?_
  refine pSeq ?_
  obtain ⟨o1, h, hk1⟩ := bd h
  refine wK1 (fun x29 => .inr x29 = o1) (fun x29 => []) (fun x29 => [.abs 7777 A x29]) ?_ ?_
  · refine wBlock (wLoop ?_)
    refine lW (pc2 o1 (fun v27 v28 => [(0, .d (sYield Tryd.prog A a_y (fun z => (kI .i64).sig z) (fun z => (kI .i64).sig z))), (1, .d (sP (kI .i64) a1)), (5, .d ((kI .i64).sig a1)), (6, .d ((kI .i64).sig v28))]) (fun v27 v28 => [.abs 7777 A v27]) (lattice_pairs_1.l2.partial_correctness a_y a1) ?_ _ _ h) ⟨rfl, rfl, rfl, rfl, trivial⟩ rfl
    clear h
    intro f' ih v27 v28 h
    refine wSeq ?_
    refine rg (cp (oLt rfl tm tm) (s2 rfl rfl) <| .nil) (by kernel_rfl) ?_
    refine pSeq ?_
    refine wSeq ?_
    rcases ic h with ⟨hp30, h⟩ | ⟨hp30, h⟩
    · refine wCT hp30 tm (s1 rfl) ?_
      refine wSkip ?_
      refine pSeq ?_
      refine wSeq ?_
      refine wBlock ?_
      refine wSeq ?_
      refine rg (cp (oMv tm) (s1 rfl) <| cp (oAs tm) (s1 rfl) <| .nil) (by kernel_rfl) ?_
      refine pSeq ?_
      refine wSeq ?_
      refine rg (cp (oLd t3 tm) (s1 rfl) <| cp (oMv (cI (by decide))) trivial <| .nil) (by kernel_rfl) ?_
      refine pSeq ?_
      obtain ⟨o2, h, hk2⟩ := bd h
      refine wK1 (fun x39 => .inr x39 = o2) (fun x39 => [(0, .d (sYield Tryd.prog A a_y (fun z => (kI .i64).sig z) (fun z => (kI .i64).sig z))), (1, .d (sP (kI .i64) a1)), (5, .d ((kI .i64).sig a1)), (6, .d ((kI .i64).sig v28))]) (fun x39 => [.abs 7777 A x39]) ?_ ?_
      · refine wBlock (wLoop ?_)
        refine lW (pc2 o2 (fun v37 v38 => [(0, .d (sYield Tryd.prog A a_y (fun z => (kI .i64).sig z) (fun z => (kI .i64).sig z))), (1, .d (sP (kI .i64) a1)), (3, .d ((kI .i64).sig v28)), (5, .d ((kI .i64).sig a1)), (6, .d ((kI .i64).sig v28)), (9, .d ((kI .i64).sig a1)), (10, .d ((kI .i64).sig v38))]) (fun v37 v38 => [.abs 7777 A v37]) (lattice_pairs_1.l3.partial_correctness a_y a1 v28) ?_ _ _ h) ⟨rfl, rfl, rfl, rfl, rfl, rfl, rfl, trivial⟩ rfl
        clear h
        intro f' ih v37 v38 h
        refine wSeq ?_
        refine rg (cp (oLt rfl tm tm) (s2 rfl rfl) <| .nil) (by kernel_rfl) ?_
        refine pSeq ?_
        refine wSeq ?_
        rcases ic h with ⟨hp40, h⟩ | ⟨hp40, h⟩
        · refine wCT hp40 tm (s1 rfl) ?_
          refine wSkip ?_
          refine pSeq ?_
          refine wSeq ?_
          refine wBlock ?_
          refine wSeq ?_
          refine rg (cp (oMv tm) (s1 rfl) <| cp (oAs tm) (s1 rfl) <| .nil) (by kernel_rfl) ?_
          refine pSeq ?_
          refine wSeq ?_
          obtain ⟨y41, hy41, h⟩ := bd h
          refine rg (cp (oMv tm) (s1 rfl) <| cp (oMv tm) (s1 rfl) <| cp (oMv tm) (s1 rfl) <| cm (oYield (n := 0) (id' := 16) rfl hy41 tm tm tm) (s3 rfl rfl rfl) <| cp (oNot tm) (s1 rfl) <| .nil) (by kernel_rfl) ?_
          refine pSeq ?_
          rcases ic h with ⟨hp42, h⟩ | ⟨hp42, h⟩
          · refine wBT hp42 tm (s1 rfl) ?_
            refine wRet ?_
            refine pBlkR ?_
            refine pThenR ?_
            refine pThenR ?_
            refine pBlkR ?_
            refine pThenR ?_
            obtain rfl := so h
            replace h := hk2
            refine pBlkR ?_
            refine pThenR ?_
            refine pThenR ?_
            refine pBlkR ?_
            refine pThenR ?_
            obtain rfl := so h
            replace h := hk1
            obtain rfl := so h
            exact pRY (n := 0) (.inl rfl) rfl rfl rfl
          · refine wBF hp42 tm (s1 rfl) ?_
            refine wSkip ?_
            refine pBlkN ?_
            refine pSeq ?_
            refine rg (cp (oAdd tm (cI (by decide))) (s1 rfl) <| cp (oMv tm) (s1 rfl) <| .nil) (by kernel_rfl) ?_
            refine pSub (Γ' := [(0, .d (sYield Tryd.prog A a_y (fun z => (kI .i64).sig z) (fun z => (kI .i64).sig z))), (1, .d (sP (kI .i64) a1)), (3, .d ((kI .i64).sig v28)), (5, .d ((kI .i64).sig a1)), (6, .d ((kI .i64).sig v28)), (9, .d ((kI .i64).sig a1)), (10, .d ((kI .i64).sig (IntKind.i64.wrap (v38 + 1))))]) ⟨rfl, rfl, rfl, rfl, rfl, rfl, rfl, trivial⟩ ?_
            refine pRen 16 7777 rfl ?_
            exact pLoop (lW (ih _ _ h) ⟨rfl, rfl, rfl, rfl, rfl, rfl, rfl, trivial⟩ rfl)
        · refine wCF hp40 tm (s1 rfl) ?_
          refine wExit ?_
          refine pThenX ?_
          refine pThenX ?_
          refine pBlkX ?_
          exact pJ1 _ (so h) ⟨rfl, rfl, rfl, rfl, trivial⟩ rfl
      · rintro x39 rfl
        replace h := hk2
        refine pBlkN ?_
        refine pSeq ?_
        refine rg (cp (oAdd tm (cI (by decide))) (s1 rfl) <| cp (oMv tm) (s1 rfl) <| .nil) (by kernel_rfl) ?_
        exact pLoop (lW (ih _ _ h) ⟨rfl, rfl, rfl, rfl, trivial⟩ rfl)
    · refine wCF hp30 tm (s1 rfl) ?_
      refine wExit ?_
      refine pThenX ?_
      refine pThenX ?_
      refine pBlkX ?_
      exact pJ1 _ (so h) trivial rfl
  · rintro x29 rfl
    replace h := hk1
    obtain rfl := so h
    exact pRY (n := 0) (.inr rfl) rfl rfl rfl

theorem lattice_pairs.ok {a0 : Int} {r : Int} (h : lattice_pairs.f a0 = some r) : FnA Tryd.prog 39 [(kI .i64).sig a0] ((sClo 60 [sP (kI .i64) r])) := by
  refine fnIntro Tryd.func39 rfl (by kernel_rfl) fun H0 w0 => ?_
  unfold lattice_pairs.f at h
  refine wSeq ?_
  refine rg (cp (oBox tm) (s1 rfl) <| cp (oAs cV) trivial <| .nil) (by kernel_rfl) ?_
  refine pSeq ?_
  refine wSeq ?_
  refine rg (cp (oMkC (caps := [sP (kI .i64) a0]) rfl (opds_cons tm opds_nil)) (s1 rfl) <| cp (oAs tm) (s1 rfl) <| .nil) (by kernel_rfl) ?_
  refine pSeq ?_
  refine wRet ?_
  obtain rfl := so h
  exact pR1 (.inl rfl) rfl (.tmp rfl <| .nil)

theorem lattice_flows.ok {a0 : api_Lattice} {a1 : Int} {a2 : Int} {r : Bool} (h : lattice_flows.f a0 a1 a2 = some r) : FnA Tryd.prog 59 [(kR f_api_Lattice).sig a0, (kI .i64).sig a1, (kI .i64).sig a2] (kB.sig r) := by
  refine fnIntro Tryd.func59 rfl (by kernel_rfl) fun H0 w0 => ?_
  unfold lattice_flows.f at h
  refine wSeq ?_
  refine rg (cp (oBox tm) (s1 rfl) <| cp (oAs cB) trivial <| .nil) (by kernel_rfl) ?_
  refine pSeq ?_
  refine wSeq ?_
  obtain ⟨y1, hy1, h⟩ := bd h
  obtain ⟨hc2, h⟩ := ib h
  refine rg (cp (oFld (fs := f_api_Lattice) (k := 1) rfl o25_1 tm) (s1 rfl) <| cp (oLd t23 tm) (s1 rfl) <| cp (oMv tm) (s1 rfl) <| cp (oIdx u23 z65 hy1 tm tm) (s2 rfl rfl) <| cp (oLd t65 tm) (s1 rfl) <| cp (oMv tm) (s1 rfl) <| cp (oShr hc2 tm tm) (s2 rfl rfl) <| cp (oAnd tm (cI (by decide))) (s1 rfl) <| cp (oEq rfl tm (cI (by decide))) (s1 rfl) <| cp (oAs tm) (s1 rfl) <| .nil) (by kernel_rfl) ?_
  refine pSeq ?_
  refine wRet ?_
  obtain rfl := so h
  exact pR1 (.inl rfl) rfl (.tmp rfl <| .nil)

theorem lattice_order.ok {a0 : api_Lattice} {r : Bool} (h : lattice_order.f a0 = some r) : FnA Tryd.prog 38 [(kR f_api_Lattice).sig a0] (kB.sig r) := by
  refine fnIntro Tryd.func38 rfl (by kernel_rfl) fun H0 w0 => ?_
  unfold lattice_order.f at h
  refine wSeq ?_
  refine rg (cp (oBox tm) (s1 rfl) <| cw (oAlloc (id := 2) (ls := [.d kB false]) ze4 (fun g => ⟨[(.bool false)], _, rfl, zB g.H, rfl⟩)) trivial <| .nil) (by kernel_rfl) ?_
  refine pSeq ?_
  refine wSeq ?_
  refine wSeq ?_
  obtain ⟨y1, hy1, h⟩ := bd h
  refine rg (cp (oFld (fs := f_api_Lattice) (k := 1) rfl o25_1 tm) (s1 rfl) <| cp (oLd t23 tm) (s1 rfl) <| cp (oLenL u23 tm) (s1 rfl) <| cp (oCall rfl (lattice_pairs.ok hy1) b39 (opds_cons tm opds_nil)) (s1 rfl) <| .nil) (by kernel_rfl) ?_
  refine pSeq ?_
  refine wBlock ?_
  obtain ⟨y53, hy53, h⟩ := bd h
  refine wRange (Γ' := [(1, .d (sP (kR f_api_Lattice) a0)), (2, .p 2 0)]) (Γ2 := fun v27 v28 => [(1, .d (sP (kR f_api_Lattice) a0)), (2, .p 2 0), (3, .d ((kI .i64).sig v27)), (4, .d ((kI .i64).sig v28))]) (fun (v26 : Unit) => [.box 2 4 [.d kB false]]) (fun (v26 : Unit) v27 v28 => [.box 2 4 [.d kB false]]) [Code.ret] [2] (lattice_order.y0 a0) () rfl (lattice_pairs_1.ok (a1 := y1)) b60 hy53 rfl ⟨rfl, rfl, trivial⟩ rfl rfl rfl ?_ ?_ ?_
  · intro X H0 w0 l pv v26 v27 v28
    refine wSeq ?_
    refine rg (cp (oAs tm) (s1 rfl) <| .nil) (by kernel_rfl) ?_
    refine pSeq ?_
    refine rg (cp (oAs tm) (s1 rfl) <| .nil) (by kernel_rfl) ?_
    exact qA ⟨rfl, rfl, rfl, rfl, trivial⟩
  · intro X H0 w0 l pv v26 v27 v28 o h
    unfold lattice_order.y0 at h
    refine wBlock ?_
    refine wSeq ?_
    obtain ⟨o2, h, hk2⟩ := bd h
    refine wJ1 (fun x35 => x35 = o2) (fun x35 => [(1, .d (sP (kR f_api_Lattice) a0)), (2, .p 2 0), (3, .d ((kI .i64).sig v27)), (4, .d ((kI .i64).sig v28)), (37, .d (kB.sig x35))]) (fun x35 => [.box 2 4 [.d kB false]]) ?_ ?_
    · rcases ic h with ⟨hp36, h⟩ | ⟨hp36, h⟩
      · obtain ⟨y37, hy37, h⟩ := bd h
        rcases ic h with ⟨hp38, h⟩ | ⟨hp38, h⟩
        · refine rg (cp (oMv tm) (s1 rfl) <| cp (oMv tm) (s1 rfl) <| cp (oEq rfl tm tm) (s2 rfl rfl) <| cp (oMv tm) (s1 rfl) <| cgB (decide_eq_true hp36) rfl rfl (oLd t25 tm) (s1 rfl) <| cgB (decide_eq_true hp36) rfl rfl (oMv tm) (s1 rfl) <| cgB (decide_eq_true hp36) rfl rfl (oMv tm) (s1 rfl) <| cgB (decide_eq_true hp36) rfl rfl (oCall rfl (lattice_flows.ok hy37) b59 (opds_cons tm (opds_cons tm (opds_cons tm opds_nil)))) (s3 rfl rfl rfl) <| cgB (decide_eq_true hp36) rfl rfl (oNot tm) (s1 rfl) <| cp (oPkT (decide_eq_true hp36) tm tm) (s2 rfl rfl) <| cp (oMv tm) (s1 rfl) <| csB hp38 rfl rfl <| csB hp38 rfl rfl <| csB hp38 rfl rfl <| csB hp38 rfl rfl <| csU rfl rfl <| csU rfl rfl <| csU rfl rfl <| csU rfl rfl <| csB hp38 rfl rfl <| csB hp38 rfl rfl <| csU rfl rfl <| csU rfl rfl <| csU rfl rfl <| csU rfl rfl <| csB hp38 rfl rfl <| cp (oPkT hp38 tm cB) (s1 rfl) <| .nil) (by kernel_rfl) ?_
          exact pJ1 _ (so h) ⟨rfl, rfl, rfl, rfl, rfl, trivial⟩ rfl
        · refine rg (cp (oMv tm) (s1 rfl) <| cp (oMv tm) (s1 rfl) <| cp (oEq rfl tm tm) (s2 rfl rfl) <| cp (oMv tm) (s1 rfl) <| cgB (decide_eq_true hp36) rfl rfl (oLd t25 tm) (s1 rfl) <| cgB (decide_eq_true hp36) rfl rfl (oMv tm) (s1 rfl) <| cgB (decide_eq_true hp36) rfl rfl (oMv tm) (s1 rfl) <| cgB (decide_eq_true hp36) rfl rfl (oCall rfl (lattice_flows.ok hy37) b59 (opds_cons tm (opds_cons tm (opds_cons tm opds_nil)))) (s3 rfl rfl rfl) <| cgB (decide_eq_true hp36) rfl rfl (oNot tm) (s1 rfl) <| cp (oPkT (decide_eq_true hp36) tm tm) (s2 rfl rfl) <| cp (oMv tm) (s1 rfl) <| cgB (nb hp38) rfl rfl (oMv tm) (s1 rfl) <| cgB (nb hp38) rfl rfl (oMv tm) (s1 rfl) <| cgB (nb hp38) rfl rfl (oNe rfl tm tm) (s2 rfl rfl) <| cgB (nb hp38) rfl rfl (oMv tm) (s1 rfl) <| csB (nf hp36) rfl rfl <| csB (nf hp36) rfl rfl <| csB (nf hp36) rfl rfl <| csB (nf hp36) rfl rfl <| cgB (nb hp38) rfl rfl (oPkF (nf hp36) tm cB) (s1 rfl) <| cgB (nb hp38) rfl rfl (oMv tm) (s1 rfl) <| csB rfl rfl rfl <| csB rfl rfl rfl <| csB rfl rfl rfl <| csB rfl rfl rfl <| cgB (nb hp38) rfl rfl (oPkF rfl tm cB) (s1 rfl) <| cp (oPkF (nb hp38) tm tm) (s2 rfl rfl) <| .nil) (by kernel_rfl) ?_
          exact pJ1 _ (so h) ⟨rfl, rfl, rfl, rfl, rfl, trivial⟩ rfl
      · obtain ⟨y39, hy39, h⟩ := bd h
        rcases ic h with ⟨hp40, h⟩ | ⟨hp40, h⟩
        · obtain ⟨y41, hy41, h⟩ := bd h
          refine rg (cp (oMv tm) (s1 rfl) <| cp (oMv tm) (s1 rfl) <| cp (oEq rfl tm tm) (s2 rfl rfl) <| cp (oMv tm) (s1 rfl) <| csB (decide_eq_false hp36) rfl rfl <| csB (decide_eq_false hp36) rfl rfl <| csB (decide_eq_false hp36) rfl rfl <| csB (decide_eq_false hp36) rfl rfl <| csB (decide_eq_false hp36) rfl rfl <| cp (oPkF (decide_eq_false hp36) tm cB) (s1 rfl) <| cp (oMv tm) (s1 rfl) <| cgB rfl rfl rfl (oMv tm) (s1 rfl) <| cgB rfl rfl rfl (oMv tm) (s1 rfl) <| cgB rfl rfl rfl (oNe rfl tm tm) (s2 rfl rfl) <| cgB rfl rfl rfl (oMv tm) (s1 rfl) <| cgB (nt hp36) rfl rfl (oLd t25 tm) (s1 rfl) <| cgB (nt hp36) rfl rfl (oMv tm) (s1 rfl) <| cgB (nt hp36) rfl rfl (oMv tm) (s1 rfl) <| cgB (nt hp36) rfl rfl (oCall rfl (lattice_flows.ok hy39) b59 (opds_cons tm (opds_cons tm (opds_cons tm opds_nil)))) (s3 rfl rfl rfl) <| cgB rfl rfl rfl (oPkT (nt hp36) tm tm) (s2 rfl rfl) <| cgB rfl rfl rfl (oMv tm) (s1 rfl) <| cgB hp40 rfl rfl (oLd t25 tm) (s1 rfl) <| cgB hp40 rfl rfl (oMv tm) (s1 rfl) <| cgB hp40 rfl rfl (oMv tm) (s1 rfl) <| cgB hp40 rfl rfl (oCall rfl (lattice_flows.ok hy41) b59 (opds_cons tm (opds_cons tm (opds_cons tm opds_nil)))) (s3 rfl rfl rfl) <| cgB rfl rfl rfl (oPkT hp40 tm tm) (s2 rfl rfl) <| cp (oPkF rfl tm tm) (s2 rfl rfl) <| .nil) (by kernel_rfl) ?_
          exact pJ1 _ (so h) ⟨rfl, rfl, rfl, rfl, rfl, trivial⟩ rfl
        · refine rg (cp (oMv tm) (s1 rfl) <| cp (oMv tm) (s1 rfl) <| cp (oEq rfl tm tm) (s2 rfl rfl) <| cp (oMv tm) (s1 rfl) <| csB (decide_eq_false hp36) rfl rfl <| csB (decide_eq_false hp36) rfl rfl <| csB (decide_eq_false hp36) rfl rfl <| csB (decide_eq_false hp36) rfl rfl <| csB (decide_eq_false hp36) rfl rfl <| cp (oPkF (decide_eq_false hp36) tm cB) (s1 rfl) <| cp (oMv tm) (s1 rfl) <| cgB rfl rfl rfl (oMv tm) (s1 rfl) <| cgB rfl rfl rfl (oMv tm) (s1 rfl) <| cgB rfl rfl rfl (oNe rfl tm tm) (s2 rfl rfl) <| cgB rfl rfl rfl (oMv tm) (s1 rfl) <| cgB (nt hp36) rfl rfl (oLd t25 tm) (s1 rfl) <| cgB (nt hp36) rfl rfl (oMv tm) (s1 rfl) <| cgB (nt hp36) rfl rfl (oMv tm) (s1 rfl) <| cgB (nt hp36) rfl rfl (oCall rfl (lattice_flows.ok hy39) b59 (opds_cons tm (opds_cons tm (opds_cons tm opds_nil)))) (s3 rfl rfl rfl) <| cgB rfl rfl rfl (oPkT (nt hp36) tm tm) (s2 rfl rfl) <| cgB rfl rfl rfl (oMv tm) (s1 rfl) <| csB (nb hp40) rfl rfl <| csB (nb hp40) rfl rfl <| csB (nb hp40) rfl rfl <| csB (nb hp40) rfl rfl <| cgB rfl rfl rfl (oPkF (nb hp40) tm cB) (s1 rfl) <| cp (oPkF rfl tm tm) (s2 rfl rfl) <| .nil) (by kernel_rfl) ?_
          exact pJ1 _ (so h) ⟨rfl, rfl, rfl, rfl, rfl, trivial⟩ rfl
    · rintro x35 rfl
      replace h := hk2
      rcases ic h with ⟨hp42, h⟩ | ⟨hp42, h⟩
      · refine wBT hp42 tm (s1 rfl) ?_
        refine wSeq ?_
        refine rg (cwn (oSt (n := 0) (k := 0) rfl rfl rfl rfl z4 tm cB) (s1 rfl) <| .nil) (by kernel_rfl) ?_
        refine pSeq ?_
        refine wRet ?_
        refine pThenR ?_
        refine pBlkR ?_
        obtain rfl := so h
        exact qR rfl
      · refine wBF hp42 tm (s1 rfl) ?_
        refine wSkip ?_
        refine pSeq ?_
        obtain ⟨o2, h, hk2⟩ := bd h
        refine wJ1 (fun x47 => x47 = o2) (fun x47 => [(2, .p 2 0), (55, .d (kB.sig x47))]) (fun x47 => [.box 2 4 [.d kB false]]) ?_ ?_
        · obtain ⟨y48, hy48, h⟩ := bd h
          rcases ic h with ⟨hp49, h⟩ | ⟨hp49, h⟩
          · obtain ⟨y50, hy50, h⟩ := bd h
            obtain ⟨y51, hy51, h⟩ := bd h
            refine rgD hm (cp (oLd t25 tm) (s1 rfl) <| cp (oMv tm) (s1 rfl) <| cp (oMv tm) (s1 rfl) <| cp (oCall rfl (lattice_flows.ok hy48) b59 (opds_cons tm (opds_cons tm (opds_cons tm opds_nil)))) (s3 rfl rfl rfl) <| cp (oMv tm) (s1 rfl) <| cgB hp49 rfl rfl (oFld (fs := f_api_Lattice) (k := 1) rfl o25_1 tm) (s1 rfl) <| cgB hp49 rfl rfl (oLd t23 tm) (s1 rfl) <| cgB hp49 rfl rfl (oMv tm) (s1 rfl) <| cgB hp49 rfl rfl (oIdx u23 z65 hy50 tm tm) (s2 rfl rfl) <| cgB hp49 rfl rfl (oLd t65 tm) (s1 rfl) <| cgB hp49 rfl rfl (oFld (fs := f_api_Lattice) (k := 1) rfl o25_1 tm) (s1 rfl) <| cgB hp49 rfl rfl (oLd t23 tm) (s1 rfl) <| cgB hp49 rfl rfl (oMv tm) (s1 rfl) <| cgB hp49 rfl rfl (oIdx u23 z65 hy51 tm tm) (s2 rfl rfl) <| cgB hp49 rfl rfl (oLd t65 tm) (s1 rfl) <| cgB hp49 rfl rfl (oAndNot tm tm) (s2 rfl rfl) <| cgB hp49 rfl rfl (oNe rfl tm (cI (by decide))) (s1 rfl) <| cp (oPkT hp49 tm tm) (s2 rfl rfl) <| .nil) (by kernel_rfl) (by kernel_rfl) ?_
            exact pJ1 _ (so h) ⟨rfl, rfl, trivial⟩ rfl
          · refine rgD hm (cp (oLd t25 tm) (s1 rfl) <| cp (oMv tm) (s1 rfl) <| cp (oMv tm) (s1 rfl) <| cp (oCall rfl (lattice_flows.ok hy48) b59 (opds_cons tm (opds_cons tm (opds_cons tm opds_nil)))) (s3 rfl rfl rfl) <| cp (oMv tm) (s1 rfl) <| csB (nb hp49) rfl rfl <| csB (nb hp49) rfl rfl <| csB (nb hp49) rfl rfl <| csB (nb hp49) rfl rfl <| csB (nb hp49) rfl rfl <| csB (nb hp49) rfl rfl <| csB (nb hp49) rfl rfl <| csB (nb hp49) rfl rfl <| csB (nb hp49) rfl rfl <| csB (nb hp49) rfl rfl <| csB (nb hp49) rfl rfl <| csB (nb hp49) rfl rfl <| cp (oPkF (nb hp49) tm cB) (s1 rfl) <| .nil) (by kernel_rfl) (by kernel_rfl) ?_
            exact pJ1 _ (so h) ⟨rfl, rfl, trivial⟩ rfl
        · rintro x47 rfl
          replace h := hk2
          rcases ic h with ⟨hp52, h⟩ | ⟨hp52, h⟩
          · refine wBT hp52 tm (s1 rfl) ?_
            refine wSeq ?_
            refine rg (cwn (oSt (n := 0) (k := 0) rfl rfl rfl rfl z4 tm cB) (s1 rfl) <| .nil) (by kernel_rfl) ?_
            refine pSeq ?_
            refine wRet ?_
            refine pBlkR ?_
            obtain rfl := so h
            exact qR rfl
          · refine wBF hp52 tm (s1 rfl) ?_
            refine wSkip ?_
            refine pBlkN ?_
            obtain rfl := so h
            exact qN
  · rcases ic h with ⟨hj53, h⟩ | ⟨hj53, h⟩
    · refine jp0 hj53 ?_
      refine pBlkN ?_
      refine pSeq ?_
      refine wSeq ?_
      refine rg (cwn (oSt (n := 0) (k := 0) rfl rfl rfl rfl z4 tm cB) (s1 rfl) <| .nil) (by kernel_rfl) ?_
      refine pSeq ?_
      refine wRet ?_
      obtain rfl := so h
      exact pR1 (.inl rfl) rfl (.boxV (n := 0) rfl rfl t4 <| .nil)
    · rcases ic h with ⟨hj53, h⟩ | ⟨hj53, h⟩
      · refine jpR hj53 rfl ?_
        refine pBlkR ?_
        refine pThenR ?_
        obtain rfl := so h
        exact pR1 (.inl rfl) rfl (.boxV (n := 0) rfl rfl t4 <| .nil)
      · cases h

theorem slices_IndexFunc_uint32_uint32.ok {a0 : List Int} {a1 : Int → Option Bool} {r : Int} (h : slices_IndexFunc_uint32_uint32.f a0 a1 = some r) : FnA Tryd.prog 61 [(kL (kI .u32)).sig a0, (sFun Tryd.prog (rl1 (kI .u32) kB a1))] ((kI .i64).sig r) := by
  refine fnIntro Tryd.func61 rfl (by kernel_rfl) fun H0 w0 => ?_
  unfold slices_IndexFunc_uint32_uint32.f at h
  refine wSeq ?_
  refine rg (cp (oAs (cI (by decide))) trivial <| .nil) (by kernel_rfl) ?_
  refine pSeq ?_
  refine wSeq ?_
  refine wSeq ?_
  refine rg (cp (oMv tm) (s1 rfl) <| cp (oLenL u23 tm) (s1 rfl) <| cp (oMv (cI (by decide))) trivial <| .nil) (by kernel_rfl) ?_
  refine pSeq ?_
  obtain ⟨o1, h, hk1⟩ := bd h
  refine wK0 (.inr () = o1) ([]) ([]) ?_ ?_
  · refine wBlock (wLoop ?_)
    refine lW (pc1 o1 (fun v9 => [(0, .d ((kL (kI .u32)).sig a0)), (1, .d ((sFun Tryd.prog (rl1 (kI .u32) kB a1)))), (7, .d ((kI .i64).sig (a0.length : Int))), (8, .d ((kI .i64).sig v9))]) (fun v9 => []) (slices_IndexFunc_uint32_uint32.l0.partial_correctness a0 a1) ?_ _ h) ⟨rfl, rfl, rfl, rfl, trivial⟩ rfl
    clear h
    intro f' ih v9 h
    refine wSeq ?_
    refine rg (cp (oLt rfl tm tm) (s2 rfl rfl) <| .nil) (by kernel_rfl) ?_
    refine pSeq ?_
    refine wSeq ?_
    rcases ic h with ⟨hp10, h⟩ | ⟨hp10, h⟩
    · refine wCT hp10 tm (s1 rfl) ?_
      refine wSkip ?_
      refine pSeq ?_
      refine wSeq ?_
      refine wBlock ?_
      refine wSeq ?_
      refine rg (cp (oMv tm) (s1 rfl) <| cp (oAs tm) (s1 rfl) <| .nil) (by kernel_rfl) ?_
      refine pSeq ?_
      refine wSeq ?_
      obtain ⟨y11, hy11, h⟩ := bd h
      obtain ⟨y12, hy12, h⟩ := bd h
      refine rg (cp (oMv tm) (s1 rfl) <| cp (oMv tm) (s1 rfl) <| cp (oMv tm) (s1 rfl) <| cp (oIdx u23 z65 hy11 tm tm) (s2 rfl rfl) <| cp (oLd t65 tm) (s1 rfl) <| cp (oCallV rfl (rl1i (f := a1) hy12) tm (opds_cons tm opds_nil)) (s2 rfl rfl) <| .nil) (by kernel_rfl) ?_
      refine pSeq ?_
      rcases ic h with ⟨hp13, h⟩ | ⟨hp13, h⟩
      · refine wBT hp13 tm (s1 rfl) ?_
        refine wSeq ?_
        refine rg (cp (oMv tm) (s1 rfl) <| cp (oAs tm) (s1 rfl) <| .nil) (by kernel_rfl) ?_
        refine pSeq ?_
        refine wRet ?_
        refine pBlkR ?_
        refine pThenR ?_
        refine pThenR ?_
        refine pBlkR ?_
        refine pThenR ?_
        obtain rfl := so h
        replace h := hk1
        refine pThenR ?_
        obtain rfl := so h
        exact pR1 (.inl rfl) rfl (.tmp rfl <| .nil)
      · refine wBF hp13 tm (s1 rfl) ?_
        refine wSkip ?_
        refine pBlkN ?_
        refine pSeq ?_
        refine rg (cp (oAdd tm (cI (by decide))) (s1 rfl) <| cp (oMv tm) (s1 rfl) <| .nil) (by kernel_rfl) ?_
        exact pLoop (lW (ih _ h) ⟨rfl, rfl, rfl, rfl, trivial⟩ rfl)
    · refine wCF hp10 tm (s1 rfl) ?_
      refine wExit ?_
      refine pThenX ?_
      refine pThenX ?_
      refine pBlkX ?_
      exact pJ0 (so h) trivial rfl
  · rintro rfl
    replace h := hk1
    refine pSeq ?_
    refine wSeq ?_
    refine rg (cp (oAs (cI (by decide))) trivial <| .nil) (by kernel_rfl) ?_
    refine pSeq ?_
    refine wRet ?_
    obtain rfl := so h
    exact pR1 (.inl rfl) rfl (.tmp rfl <| .nil)

theorem lattice_join_1.ok {a0 : Int} {a1 : Int} {r : Bool} (h : lattice_join_1.f a0 a1 = some r) : FnA Tryd.prog 62 [(kI .u32).sig a0, sP (kI .u32) a1] (kB.sig r) := by
  refine fnIntro Tryd.func62 rfl (by kernel_rfl) fun H0 w0 => ?_
  unfold lattice_join_1.f at h
  refine wSeq ?_
  refine rg (cp (oAs cB) trivial <| .nil) (by kernel_rfl) ?_
  refine pSeq ?_
  refine wSeq ?_
  refine rg (cp (oMv tm) (s1 rfl) <| cp (oLd t65 tm) (s1 rfl) <| cp (oEq rfl tm tm) (s2 rfl rfl) <| cp (oAs tm) (s1 rfl) <| .nil) (by kernel_rfl) ?_
  refine pSeq ?_
  refine wRet ?_
  obtain rfl := so h
  exact pR1 (.inl rfl) rfl (.tmp rfl <| .nil)

theorem lattice_join.ok {a0 : api_Lattice} {a1 : Int} {a2 : Int} {r : Int} (h : lattice_join.f a0 a1 a2 = some r) : FnA Tryd.prog 40 [(kR f_api_Lattice).sig a0, (kI .i64).sig a1, (kI .i64).sig a2] ((kI .i64).sig r) := by
  refine fnIntro Tryd.func40 rfl (by kernel_rfl) fun H0 w0 => ?_
  unfold lattice_join.f at h
  refine wSeq ?_
  refine rg (cp (oBox tm) (s1 rfl) <| cp (oAs (cI (by decide))) trivial <| .nil) (by kernel_rfl) ?_
  refine pSeq ?_
  refine wSeq ?_
  obtain ⟨y1, hy1, h⟩ := bd h
  obtain ⟨y2, hy2, h⟩ := bd h
  refine rgD hm (cp (oFld (fs := f_api_Lattice) (k := 1) rfl o25_1 tm) (s1 rfl) <| cp (oLd t23 tm) (s1 rfl) <| cp (oMv tm) (s1 rfl) <| cp (oIdx u23 z65 hy1 tm tm) (s2 rfl rfl) <| cp (oLd t65 tm) (s1 rfl) <| cp (oFld (fs := f_api_Lattice) (k := 1) rfl o25_1 tm) (s1 rfl) <| cp (oLd t23 tm) (s1 rfl) <| cp (oMv tm) (s1 rfl) <| cp (oIdx u23 z65 hy2 tm tm) (s2 rfl rfl) <| cp (oLd t65 tm) (s1 rfl) <| cp (oAnd tm tm) (s2 rfl rfl) <| cw (oAlloc (id := 7) (ls := [.d (kI .u32) 0]) ze65 (fun g => ⟨[(.int .u32 0)], _, rfl, zI_u32 g.H, rfl⟩)) trivial <| cwn (oSt (n := 0) (k := 0) rfl rfl rfl rfl z65 tm tm) (s2 rfl rfl) <| .nil) (by kernel_rfl) (by kernel_rfl) ?_
  refine pSeq ?_
  refine wSeq ?_
  refine wFrzV 7 (n := 0) (id := 7) rfl rfl rfl ?_
  obtain ⟨y3, hy3, h⟩ := bd h
  refine rg (cp (oFld (fs := f_api_Lattice) (k := 1) rfl o25_1 tm) (s1 rfl) <| cp (oLd t23 tm) (s1 rfl) <| cp (oMkF (Rl := rl1 (kI .u32) kB (fun z0 => lattice_join_1.f z0 (bAnd .u32 y1 y2))) rfl b62 (rl1e lattice_join_1.ok) (opds_cons tm opds_nil)) (s1 rfl) <| cp (oCall rfl (slices_IndexFunc_uint32_uint32.ok hy3) b61 (opds_cons tm (opds_cons tm opds_nil))) (s2 rfl rfl) <| cp (oAs tm) (s1 rfl) <| .nil) (by kernel_rfl) ?_
  refine pSeq ?_
  refine wRet ?_
  obtain rfl := so h
  exact pR1 (.inl rfl) rfl (.tmp rfl <| .nil)

theorem lattice_down.ok {a0 : api_Lattice} {a1 : Int} {r : Int} (h : lattice_down.f a0 a1 = some r) : FnA Tryd.prog 63 [(kR f_api_Lattice).sig a0, (kI .i64).sig a1] ((kI .u32).sig r) := by
  refine fnIntro Tryd.func63 rfl (by kernel_rfl) fun H0 w0 => ?_
  unfold lattice_down.f at h
  refine wSeq ?_
  refine rg (cp (oBox tm) (s1 rfl) <| cp (oAs (cI (by decide))) trivial <| .nil) (by kernel_rfl) ?_
  refine pSeq ?_
  refine wSeq ?_
  refine rg (cp (oAs (cI (by decide))) trivial <| .nil) (by kernel_rfl) ?_
  refine pSeq ?_
  refine wSeq ?_
  refine wSeq ?_
  refine rg (cp (oFld (fs := f_api_Lattice) (k := 1) rfl o25_1 tm) (s1 rfl) <| cp (oLd t23 tm) (s1 rfl) <| cp (oLenL u23 tm) (s1 rfl) <| cp (oMv (cI (by decide))) trivial <| .nil) (by kernel_rfl) ?_
  refine pSeq ?_
  obtain ⟨o1, h, hk1⟩ := bd h
  refine wK1 (fun x10 => x10 = o1) (fun x10 => [(5, .d ((kI .u32).sig x10))]) (fun x10 => []) ?_ ?_
  · refine wBlock (wLoop ?_)
    refine lW (pc2 o1 (fun v8 v9 => [(1, .d ((kI .i64).sig a1)), (2, .d (sP (kR f_api_Lattice) a0)), (5, .d ((kI .u32).sig v9)), (9, .d ((kI .i64).sig (a0.Up.length : Int))), (10, .d ((kI .i64).sig v8))]) (fun v8 v9 => []) (lattice_down.l0.partial_correctness a0 a1) ?_ _ _ h) ⟨rfl, rfl, rfl, rfl, rfl, trivial⟩ rfl
    clear h
    intro f' ih v8 v9 h
    refine wSeq ?_
    refine rg (cp (oLt rfl tm tm) (s2 rfl rfl) <| .nil) (by kernel_rfl) ?_
    refine pSeq ?_
    refine wSeq ?_
    rcases ic h with ⟨hp11, h⟩ | ⟨hp11, h⟩
    · refine wCT hp11 tm (s1 rfl) ?_
      refine wSkip ?_
      refine pSeq ?_
      refine wSeq ?_
      refine wBlock ?_
      refine wSeq ?_
      refine rg (cp (oMv tm) (s1 rfl) <| cp (oAs tm) (s1 rfl) <| .nil) (by kernel_rfl) ?_
      refine pSeq ?_
      obtain ⟨y12, hy12, h⟩ := bd h
      obtain ⟨hc13, h⟩ := ib h
      obtain ⟨hc14, h⟩ := ib h
      refine rg (cp (oMv tm) (s1 rfl) <| cp (oFld (fs := f_api_Lattice) (k := 1) rfl o25_1 tm) (s1 rfl) <| cp (oLd t23 tm) (s1 rfl) <| cp (oMv tm) (s1 rfl) <| cp (oIdx u23 z65 hy12 tm tm) (s2 rfl rfl) <| cp (oLd t65 tm) (s1 rfl) <| cp (oMv tm) (s1 rfl) <| cp (oShr hc13 tm tm) (s2 rfl rfl) <| cp (oAnd tm (cI (by decide))) (s1 rfl) <| cp (oMv tm) (s1 rfl) <| cp (oShl hc14 tm tm) (s2 rfl rfl) <| cp (oOr tm tm) (s2 rfl rfl) <| cp (oAs tm) (s1 rfl) <| .nil) (by kernel_rfl) ?_
      refine pBlkN ?_
      refine pSeq ?_
      refine rg (cp (oAdd tm (cI (by decide))) (s1 rfl) <| cp (oMv tm) (s1 rfl) <| .nil) (by kernel_rfl) ?_
      exact pLoop (lW (ih _ _ h) ⟨rfl, rfl, rfl, rfl, rfl, trivial⟩ rfl)
    · refine wCF hp11 tm (s1 rfl) ?_
      refine wExit ?_
      refine pThenX ?_
      refine pThenX ?_
      refine pBlkX ?_
      exact pJ1 _ (so h) ⟨rfl, trivial⟩ rfl
  · rintro x10 rfl
    replace h := hk1
    refine pSeq ?_
    refine wSeq ?_
    refine rg (cp (oMv tm) (s1 rfl) <| cp (oAs tm) (s1 rfl) <| .nil) (by kernel_rfl) ?_
    refine pSeq ?_
    refine wRet ?_
    obtain rfl := so h
    exact pR1 (.inl rfl) rfl (.tmp rfl <| .nil)

theorem lattice_meet.ok {a0 : api_Lattice} {a1 : Int} {a2 : Int} {r : Int} (h : lattice_meet.f a0 a1 a2 = some r) : FnA Tryd.prog 41 [(kR f_api_Lattice).sig a0, (kI .i64).sig a1, (kI .i64).sig a2] ((kI .i64).sig r) := by
  refine fnIntro Tryd.func41 rfl (by kernel_rfl) fun H0 w0 => ?_
  unfold lattice_meet.f at h
  refine wSeq ?_
  refine rg (cp (oBox tm) (s1 rfl) <| cp (oAs (cI (by decide))) trivial <| .nil) (by kernel_rfl) ?_
  refine pSeq ?_
  refine wSeq ?_
  obtain ⟨y1, hy1, h⟩ := bd h
  obtain ⟨y2, hy2, h⟩ := bd h
  refine rgD hm (cp (oLd t25 tm) (s1 rfl) <| cp (oMv tm) (s1 rfl) <| cp (oCall rfl (lattice_down.ok hy1) b63 (opds_cons tm (opds_cons tm opds_nil))) (s2 rfl rfl) <| cp (oLd t25 tm) (s1 rfl) <| cp (oMv tm) (s1 rfl) <| cp (oCall rfl (lattice_down.ok hy2) b63 (opds_cons tm (opds_cons tm opds_nil))) (s2 rfl rfl) <| cp (oAnd tm tm) (s2 rfl rfl) <| cp (oAs tm) (s1 rfl) <| .nil) (by kernel_rfl) (by kernel_rfl) ?_
  refine pSeq ?_
  refine wSeq ?_
  refine wSeq ?_
  refine rg (cp (oFld (fs := f_api_Lattice) (k := 1) rfl o25_1 tm) (s1 rfl) <| cp (oLd t23 tm) (s1 rfl) <| cp (oLenL u23 tm) (s1 rfl) <| cp (oMv (cI (by decide))) trivial <| .nil) (by kernel_rfl) ?_
  refine pSeq ?_
  obtain ⟨o1, h, hk1⟩ := bd h
  refine wK0 (.inr () = o1) ([]) ([]) ?_ ?_
  · refine wBlock (wLoop ?_)
    refine lW (pc1 o1 (fun v9 => [(3, .d (sP (kR f_api_Lattice) a0)), (7, .d ((kI .u32).sig (bAnd .u32 y1 y2))), (18, .d ((kI .i64).sig (a0.Up.length : Int))), (19, .d ((kI .i64).sig v9))]) (fun v9 => []) (lattice_meet.l0.partial_correctness a0 y1 y2) ?_ _ h) ⟨rfl, rfl, rfl, rfl, trivial⟩ rfl
    clear h
    intro f' ih v9 h
    refine wSeq ?_
    refine rg (cp (oLt rfl tm tm) (s2 rfl rfl) <| .nil) (by kernel_rfl) ?_
    refine pSeq ?_
    refine wSeq ?_
    rcases ic h with ⟨hp10, h⟩ | ⟨hp10, h⟩
    · refine wCT hp10 tm (s1 rfl) ?_
      refine wSkip ?_
      refine pSeq ?_
      refine wSeq ?_
      refine wBlock ?_
      refine wSeq ?_
      refine rg (cp (oMv tm) (s1 rfl) <| cp (oAs tm) (s1 rfl) <| .nil) (by kernel_rfl) ?_
      refine pSeq ?_
      refine wSeq ?_
      obtain ⟨y11, hy11, h⟩ := bd h
      refine rg (cp (oLd t25 tm) (s1 rfl) <| cp (oMv tm) (s1 rfl) <| cp (oCall rfl (lattice_down.ok hy11) b63 (opds_cons tm (opds_cons tm opds_nil))) (s2 rfl rfl) <| cp (oMv tm) (s1 rfl) <| cp (oEq rfl tm tm) (s2 rfl rfl) <| .nil) (by kernel_rfl) ?_
      refine pSeq ?_
      rcases ic h with ⟨hp12, h⟩ | ⟨hp12, h⟩
      · refine wCT hp12 tm (s1 rfl) ?_
        refine wSeq ?_
        refine rg (cp (oMv tm) (s1 rfl) <| cp (oAs tm) (s1 rfl) <| .nil) (by kernel_rfl) ?_
        refine pSeq ?_
        refine wRet ?_
        refine pBlkR ?_
        refine pThenR ?_
        refine pThenR ?_
        refine pBlkR ?_
        refine pThenR ?_
        obtain rfl := so h
        replace h := hk1
        refine pThenR ?_
        obtain rfl := so h
        exact pR1 (.inl rfl) rfl (.tmp rfl <| .nil)
      · refine wCF hp12 tm (s1 rfl) ?_
        refine wSkip ?_
        refine pBlkN ?_
        refine pSeq ?_
        refine rg (cp (oAdd tm (cI (by decide))) (s1 rfl) <| cp (oMv tm) (s1 rfl) <| .nil) (by kernel_rfl) ?_
        exact pLoop (lW (ih _ h) ⟨rfl, rfl, rfl, rfl, trivial⟩ rfl)
    · refine wCF hp10 tm (s1 rfl) ?_
      refine wExit ?_
      refine pThenX ?_
      refine pThenX ?_
      refine pBlkX ?_
      exact pJ0 (so h) trivial rfl
  · rintro rfl
    replace h := hk1
    refine pSeq ?_
    refine wSeq ?_
    refine rg (cp (oAs (cI (by decide))) trivial <| .nil) (by kernel_rfl) ?_
    refine pSeq ?_
    refine wRet ?_
    obtain rfl := so h
    exact pR1 (.inl rfl) rfl (.tmp rfl <| .nil)

theorem lattice_Check.ok {a0 : api_Lattice} {r : Int} (h : lattice_Check.f a0 = some r) : FnA Tryd.prog 22 [(kR f_api_Lattice).sig a0] ((kI .i64).sig r) := by
  refine fnIntro Tryd.func22 rfl (by kernel_rfl) fun H0 w0 => ?_
  unfold lattice_Check.f at h
  refine wSeq ?_
  refine rg (cp (oBox tm) (s1 rfl) <| cw (oAlloc (id := 2) (ls := [.d (kI .i64) 0]) ze39 (fun g => ⟨[(.int .i64 0)], _, rfl, zI_i64 g.H, rfl⟩)) trivial <| .nil) (by kernel_rfl) ?_
  refine pSeq ?_
  refine wSeq ?_
  refine wBlock ?_
  refine wSeq ?_
  obtain ⟨y1, hy1, h⟩ := bd h
  refine rg (cp (oLd t25 tm) (s1 rfl) <| cp (oCall rfl (lattice_may.ok hy1) b37 (opds_cons tm opds_nil)) (s1 rfl) <| cp (oNot tm) (s1 rfl) <| cp (oAs tm) (s1 rfl) <| .nil) (by kernel_rfl) ?_
  refine pSeq ?_
  rcases ic h with ⟨hp2, h⟩ | ⟨hp2, h⟩
  · refine wBT hp2 tm (s1 rfl) ?_
    refine wSeq ?_
    refine rg (cwn (oSt (n := 0) (k := 0) rfl rfl rfl rfl z39 tm (cI (by decide))) (s1 rfl) <| .nil) (by kernel_rfl) ?_
    refine pSeq ?_
    refine wRet ?_
    refine pBlkR ?_
    refine pThenR ?_
    obtain rfl := so h
    exact pR1 (.inl rfl) rfl (.boxV (n := 0) rfl rfl t39 <| .nil)
  · refine wBF hp2 tm (s1 rfl) ?_
    refine wSeq ?_
    obtain ⟨y3, hy3, h⟩ := bd h
    refine rg (cp (oLd t25 tm) (s1 rfl) <| cp (oCall rfl (lattice_order.ok hy3) b38 (opds_cons tm opds_nil)) (s1 rfl) <| cp (oNot tm) (s1 rfl) <| cp (oAs tm) (s1 rfl) <| .nil) (by kernel_rfl) ?_
    refine pSeq ?_
    rcases ic h with ⟨hp4, h⟩ | ⟨hp4, h⟩
    · refine wBT hp4 tm (s1 rfl) ?_
      refine wSeq ?_
      refine rg (cwn (oSt (n := 0) (k := 0) rfl rfl rfl rfl z39 tm (cI (by decide))) (s1 rfl) <| .nil) (by kernel_rfl) ?_
      refine pSeq ?_
      refine wRet ?_
      refine pBlkR ?_
      refine pThenR ?_
      obtain rfl := so h
      exact pR1 (.inl rfl) rfl (.boxV (n := 0) rfl rfl t39 <| .nil)
    · refine wBF hp4 tm (s1 rfl) ?_
      refine wSkip ?_
      refine pBlkN ?_
      refine pSeq ?_
      refine wSeq ?_
      refine wSeq ?_
      obtain ⟨y5, hy5, h⟩ := bd h
      refine rg (cp (oFld (fs := f_api_Lattice) (k := 1) rfl o25_1 tm) (s1 rfl) <| cp (oLd t23 tm) (s1 rfl) <| cp (oLenL u23 tm) (s1 rfl) <| cp (oCall rfl (lattice_pairs.ok hy5) b39 (opds_cons tm opds_nil)) (s1 rfl) <| .nil) (by kernel_rfl) ?_
      refine pSeq ?_
      refine wBlock ?_
      obtain ⟨y33, hy33, h⟩ := bd h
      refine wRange (Γ' := [(1, .d (sP (kR f_api_Lattice) a0)), (2, .p 2 0)]) (Γ2 := fun v23 v24 => [(1, .d (sP (kR f_api_Lattice) a0)), (2, .p 2 0), (3, .d ((kI .i64).sig v23)), (4, .d ((kI .i64).sig v24))]) (fun (v22 : Int) => [.box 2 39 [.d (kI .i64) v22]]) (fun (v22 : Int) v23 v24 => [.box 2 39 [.d (kI .i64) v22]]) [Code.ret] [2] (lattice_Check.y0 a0) 0 rfl (lattice_pairs_1.ok (a1 := y5)) b60 hy33 rfl ⟨rfl, rfl, trivial⟩ rfl rfl rfl ?_ ?_ ?_
      · intro X H0 w0 l pv v22 v23 v24
        refine wSeq ?_
        refine rg (cp (oAs tm) (s1 rfl) <| .nil) (by kernel_rfl) ?_
        refine pSeq ?_
        refine rg (cp (oAs tm) (s1 rfl) <| .nil) (by kernel_rfl) ?_
        exact qA ⟨rfl, rfl, rfl, rfl, trivial⟩
      · intro X H0 w0 l pv v22 v23 v24 o h
        unfold lattice_Check.y0 at h
        refine wBlock ?_
        obtain ⟨o2, h, hk2⟩ := bd h
        refine wJ1 (fun x28 => x28 = o2) (fun x28 => [(2, .p 2 0), (30, .d (kB.sig x28))]) (fun x28 => [.box 2 39 [.d (kI .i64) v22]]) ?_ ?_
        · obtain ⟨y29, hy29, h⟩ := bd h
          rcases ic h with ⟨hp30, h⟩ | ⟨hp30, h⟩
          · refine rg (cp (oLd t25 tm) (s1 rfl) <| cp (oMv tm) (s1 rfl) <| cp (oMv tm) (s1 rfl) <| cp (oCall rfl (lattice_join.ok hy29) b40 (opds_cons tm (opds_cons tm (opds_cons tm opds_nil)))) (s3 rfl rfl rfl) <| cp (oLt rfl tm (cI (by decide))) (s1 rfl) <| cp (oMv tm) (s1 rfl) <| csB (decide_eq_true hp30) rfl rfl <| csB (decide_eq_true hp30) rfl rfl <| csB (decide_eq_true hp30) rfl rfl <| csB (decide_eq_true hp30) rfl rfl <| csB (decide_eq_true hp30) rfl rfl <| cp (oPkT (decide_eq_true hp30) tm cB) (s1 rfl) <| .nil) (by kernel_rfl) ?_
            exact pJ1 _ (so h) ⟨rfl, rfl, trivial⟩ rfl
          · obtain ⟨y31, hy31, h⟩ := bd h
            refine rg (cp (oLd t25 tm) (s1 rfl) <| cp (oMv tm) (s1 rfl) <| cp (oMv tm) (s1 rfl) <| cp (oCall rfl (lattice_join.ok hy29) b40 (opds_cons tm (opds_cons tm (opds_cons tm opds_nil)))) (s3 rfl rfl rfl) <| cp (oLt rfl tm (cI (by decide))) (s1 rfl) <| cp (oMv tm) (s1 rfl) <| cgB (decide_eq_false hp30) rfl rfl (oLd t25 tm) (s1 rfl) <| cgB (decide_eq_false hp30) rfl rfl (oMv tm) (s1 rfl) <| cgB (decide_eq_false hp30) rfl rfl (oMv tm) (s1 rfl) <| cgB (decide_eq_false hp30) rfl rfl (oCall rfl (lattice_meet.ok hy31) b41 (opds_cons tm (opds_cons tm (opds_cons tm opds_nil)))) (s3 rfl rfl rfl) <| cgB (decide_eq_false hp30) rfl rfl (oLt rfl tm (cI (by decide))) (s1 rfl) <| cp (oPkF (decide_eq_false hp30) tm tm) (s2 rfl rfl) <| .nil) (by kernel_rfl) ?_
            exact pJ1 _ (so h) ⟨rfl, rfl, trivial⟩ rfl
        · rintro x28 rfl
          replace h := hk2
          rcases ic h with ⟨hp32, h⟩ | ⟨hp32, h⟩
          · refine wBT hp32 tm (s1 rfl) ?_
            refine wSeq ?_
            refine rg (cwn (oSt (n := 0) (k := 0) rfl rfl rfl rfl z39 tm (cI (by decide))) (s1 rfl) <| .nil) (by kernel_rfl) ?_
            refine pSeq ?_
            refine wRet ?_
            refine pBlkR ?_
            obtain rfl := so h
            exact qR rfl
          · refine wBF hp32 tm (s1 rfl) ?_
            refine wSkip ?_
            refine pBlkN ?_
            obtain rfl := so h
            exact qN
      · rcases ic h with ⟨hj33, h⟩ | ⟨hj33, h⟩
        · refine jp0 hj33 ?_
          refine pBlkN ?_
          refine pSeq ?_
          refine wSeq ?_
          refine rg (cwn (oSt (n := 0) (k := 0) rfl rfl rfl rfl z39 tm (cI (by decide))) (s1 rfl) <| .nil) (by kernel_rfl) ?_
          refine pSeq ?_
          refine wRet ?_
          obtain rfl := so h
          exact pR1 (.inl rfl) rfl (.boxV (n := 0) rfl rfl t39 <| .nil)
        · rcases ic h with ⟨hj33, h⟩ | ⟨hj33, h⟩
          · refine jpR hj33 rfl ?_
            refine pBlkR ?_
            refine pThenR ?_
            obtain rfl := so h
            exact pR1 (.inl rfl) rfl (.boxV (n := 0) rfl rfl t39 <| .nil)
          · cases h

theorem rule_made_1.ok {a0 : Bool} {a1 : List Bool} {r : (List Bool) × Bool} (h : rule_made_1.f a0 a1 = some r) : FnS Tryd.prog 100 [.d (kB.sig a0), .p 70100 0] [.box 70100 152 [.v 70101], .row 70101 136 kB a1] [70100] (.d (kB.sig r.2)) [.box 70100 152 [.v 70101], .row 70101 136 kB r.1] := by
  refine fnIntroS Tryd.func100 rfl (by kernel_rfl) fun X H0 w0 pv => ?_
  unfold rule_made_1.f at h
  refine wSeq ?_
  refine rg (cp (oAs cB) trivial <| .nil) (by kernel_rfl) ?_
  refine pSeq ?_
  refine wSeq ?_
  refine rg (cr (oLdN (n := 0) (k := 0) rfl rfl rfl t152 tm) (s1 rfl) <| cr (oLenR (n := 1) u152 rfl tm) (s1 rfl) <| cp (oSub tm (cI (by decide))) (s1 rfl) <| cp (oAs tm) (s1 rfl) <| .nil) (by kernel_rfl) ?_
  refine pSeq ?_
  refine wSeq ?_
  refine wWeak (Γ' := [(0, .d (kB.sig a0)), (1, .p 70100 0), (4, .d ((kI .i64).sig (IntKind.i64.wrap ((a1.length : Int) - 1))))]) ⟨rfl, rfl, rfl, trivial⟩ ?_
  refine wRen 70101 3510000 rfl ?_
  obtain ⟨o1, h, hk1⟩ := bd h
  refine wJ1 (fun x5 => x5 = o1) (fun x5 => [(1, .p 70100 0), (4, .d ((kI .i64).sig (IntKind.i64.wrap ((a1.length : Int) - 1)))), (26, .d (kB.sig x5))]) (fun x5 => [.box 70100 152 [.v 3510000], .row 3510000 136 kB a1]) ?_ ?_
  · rcases ic h with ⟨hp6, h⟩ | ⟨hp6, h⟩
    · refine rg (cp (oMv tm) (s1 rfl) <| cp (oLt rfl tm (cI (by decide))) (s1 rfl) <| cp (oMv tm) (s1 rfl) <| csB (decide_eq_true hp6) rfl rfl <| csB (decide_eq_true hp6) rfl rfl <| csB (decide_eq_true hp6) rfl rfl <| csB (decide_eq_true hp6) rfl rfl <| csB (decide_eq_true hp6) rfl rfl <| csB (decide_eq_true hp6) rfl rfl <| cp (oPkT (decide_eq_true hp6) tm cB) (s1 rfl) <| cp (oMv tm) (s1 rfl) <| csB rfl rfl rfl <| csB rfl rfl rfl <| csB rfl rfl rfl <| csB rfl rfl rfl <| csB rfl rfl rfl <| csB rfl rfl rfl <| csB rfl rfl rfl <| cp (oPkT rfl tm cB) (s1 rfl) <| .nil) (by kernel_rfl) ?_
      exact pJ1 _ (so h) ⟨rfl, rfl, rfl, trivial⟩ rfl
    · obtain ⟨y7, hy7, h⟩ := bd h
      rcases ic h with ⟨hp8, h⟩ | ⟨hp8, h⟩
      · obtain ⟨y9, hy9, h⟩ := bd h
        refine rg (cp (oMv tm) (s1 rfl) <| cp (oLt rfl tm (cI (by decide))) (s1 rfl) <| cp (oMv tm) (s1 rfl) <| crgB (decide_eq_false hp6) rfl rfl (oLdN (n := 0) (k := 0) rfl rfl rfl t152 tm) (s1 rfl) <| cgB (decide_eq_false hp6) rfl rfl (oMv tm) (s1 rfl) <| crgB (decide_eq_false hp6) rfl rfl (oIdxR (n := 1) u152 z136 rfl hy7 tm tm) (s2 rfl rfl) <| crgB (decide_eq_false hp6) rfl rfl (oLdE (n := 1) rfl hy7 rfl t136 tm) (s1 rfl) <| cgB (decide_eq_false hp6) rfl rfl (oMv tm) (s1 rfl) <| cgB (decide_eq_false hp6) rfl rfl (oBNe u136 rfl tm tm) (s2 rfl rfl) <| cp (oPkF (decide_eq_false hp6) tm tm) (s2 rfl rfl) <| cp (oMv tm) (s1 rfl) <| crgB (nf hp8) rfl rfl (oLdN (n := 0) (k := 0) rfl rfl rfl t152 tm) (s1 rfl) <| cgB (nf hp8) rfl rfl (oMv tm) (s1 rfl) <| cgB (nf hp8) rfl rfl (oSub tm (cI (by decide))) (s1 rfl) <| crgB (nf hp8) rfl rfl (oIdxR (n := 1) u152 z136 rfl hy9 tm tm) (s2 rfl rfl) <| crgB (nf hp8) rfl rfl (oLdE (n := 1) rfl hy9 rfl t136 tm) (s1 rfl) <| cgB (nf hp8) rfl rfl (oMv tm) (s1 rfl) <| cgB (nf hp8) rfl rfl (oBNe u136 rfl tm tm) (s2 rfl rfl) <| cp (oPkF (nf hp8) tm tm) (s2 rfl rfl) <| .nil) (by kernel_rfl) ?_
        exact pJ1 _ (so h) ⟨rfl, rfl, rfl, trivial⟩ rfl
      · refine rg (cp (oMv tm) (s1 rfl) <| cp (oLt rfl tm (cI (by decide))) (s1 rfl) <| cp (oMv tm) (s1 rfl) <| crgB (decide_eq_false hp6) rfl rfl (oLdN (n := 0) (k := 0) rfl rfl rfl t152 tm) (s1 rfl) <| cgB (decide_eq_false hp6) rfl rfl (oMv tm) (s1 rfl) <| crgB (decide_eq_false hp6) rfl rfl (oIdxR (n := 1) u152 z136 rfl hy7 tm tm) (s2 rfl rfl) <| crgB (decide_eq_false hp6) rfl rfl (oLdE (n := 1) rfl hy7 rfl t136 tm) (s1 rfl) <| cgB (decide_eq_false hp6) rfl rfl (oMv tm) (s1 rfl) <| cgB (decide_eq_false hp6) rfl rfl (oBNe u136 rfl tm tm) (s2 rfl rfl) <| cp (oPkF (decide_eq_false hp6) tm tm) (s2 rfl rfl) <| cp (oMv tm) (s1 rfl) <| csB (nt hp8) rfl rfl <| csB (nt hp8) rfl rfl <| csB (nt hp8) rfl rfl <| csB (nt hp8) rfl rfl <| csB (nt hp8) rfl rfl <| csB (nt hp8) rfl rfl <| csB (nt hp8) rfl rfl <| cp (oPkT (nt hp8) tm cB) (s1 rfl) <| .nil) (by kernel_rfl) ?_
        exact pJ1 _ (so h) ⟨rfl, rfl, rfl, trivial⟩ rfl
  · rintro x5 rfl
    replace h := hk1
    rcases ic h with ⟨hp10, h⟩ | ⟨hp10, h⟩
    · refine wBT hp10 tm (s1 rfl) ?_
      refine wSeq ?_
      refine rg (cp (oAs cB) trivial <| .nil) (by kernel_rfl) ?_
      refine pSeq ?_
      refine wRet ?_
      refine pThenR ?_
      obtain rfl := so h
      refine pSub (Γ' := [(3, .d (kB.sig false))]) ⟨rfl, trivial⟩ ?_
      refine pRen 3510000 70101 rfl ?_
      exact pS1 [0, 1] rfl rfl (.inl rfl) rfl (.tmp rfl <| .nil)
    · refine wBF hp10 tm (s1 rfl) ?_
      refine wSkip ?_
      refine pSeq ?_
      refine wSeq ?_
      obtain ⟨hc11, h⟩ := ib h
      refine rg (cr (oLdN (n := 0) (k := 0) rfl rfl rfl t152 tm) (s1 rfl) <| cp (oMv tm) (s1 rfl) <| cp (oSub tm (cI (by decide))) (s1 rfl) <| cw (oCutR (n := 1) (id' := 30) u152 z136 rfl hc11.1 hc11.2 tm tm) (s2 rfl rfl) <| cwn (oStN (n := 0) (m := 1) (k := 0) rfl rfl rfl rfl z152 rfl tm tm) (s2 rfl rfl) <| .nil) (by kernel_rfl) ?_
      refine pSeq ?_
      refine wSeq ?_
      refine rg (cp (oAs cB) trivial <| .nil) (by kernel_rfl) ?_
      refine pSeq ?_
      refine wRet ?_
      obtain rfl := so h
      refine pSub (Γ' := [(3, .d (kB.sig true))]) ⟨rfl, trivial⟩ ?_
      refine pRen 30 70101 rfl ?_
      exact pS1 [0, 1] rfl rfl (.inl rfl) rfl (.tmp rfl <| .nil)

theorem rule_made.ok {a0 : List Int} {r : Bool × Bool} (h : rule_made.f a0 = some r) : FnA Tryd.prog 86 [(kL (kI .i64)).sig a0] (tup [kB.sig r.1, kB.sig r.2]) := by
  refine fnIntro Tryd.func86 rfl (by kernel_rfl) fun H0 w0 => ?_
  unfold rule_made.f at h
  refine wSeq ?_
  refine rg (cp (oAs cB) trivial <| cp (oAs cB) trivial <| .nil) (by kernel_rfl) ?_
  refine pSeq ?_
  refine wSeq ?_
  refine rg (cw (oAlloc (id := 4) (ls := [.d (kN Bool) []]) ze152 (fun g => ⟨[(.slice none 0 0)], _, rfl, zN g.H, rfl⟩)) trivial <| .nil) (by kernel_rfl) ?_
  refine pSeq ?_
  refine wSeq ?_
  refine rg (cp (oMkN (ids := [4]) (caps := [none]) rfl (oNp tm oN0)) (s1 rfl) <| cp (oAs tm) (s1 rfl) <| .nil) (by kernel_rfl) ?_
  refine pSeq ?_
  refine wSeq ?_
  refine wSeq ?_
  refine rg (cp (oMv tm) (s1 rfl) <| cp (oLenL u44 tm) (s1 rfl) <| cp (oMv (cI (by decide))) trivial <| .nil) (by kernel_rfl) ?_
  refine pSeq ?_
  refine wNilL kB 136 5200 (n := 0) (k := 0) rfl rfl rfl ?_
  obtain ⟨o1, h, hk1⟩ := bd h
  refine wK1 (fun x271 => .inr x271 = o1) (fun x271 => [(0, .d ((kL (kI .i64)).sig a0)), (4, .p 4 0)]) (fun x271 => [.row 5200 136 kB x271, .box 4 152 [.v 5200]]) ?_ ?_
  · refine wBlock (wLoop ?_)
    refine lW (pc2 o1 (fun v269 v270 => [(0, .d ((kL (kI .i64)).sig a0)), (4, .p 4 0), (5, .f [4] (sCloN 100 [none])), (10, .d ((kL (kI .i64)).sig a0)), (11, .d ((kI .i64).sig (a0.length : Int))), (12, .d ((kI .i64).sig v270))]) (fun v269 v270 => [.row 5200 136 kB v269, .box 4 152 [.v 5200]]) (rule_made.l0.partial_correctness a0) ?_ _ _ h) ⟨rfl, rfl, rfl, rfl, rfl, rfl, trivial⟩ rfl
    clear h
    intro f' ih v269 v270 h
    refine wSeq ?_
    refine rg (cp (oLt rfl tm tm) (s2 rfl rfl) <| .nil) (by kernel_rfl) ?_
    refine pSeq ?_
    refine wSeq ?_
    rcases ic h with ⟨hp272, h⟩ | ⟨hp272, h⟩
    · refine wCT hp272 tm (s1 rfl) ?_
      refine wSkip ?_
      refine pSeq ?_
      obtain ⟨o2, h, hk2⟩ := bd h
      refine wJ1 (fun x339 => .inr x339 = o2) (fun x339 => [(0, .d ((kL (kI .i64)).sig a0)), (4, .p 4 0), (5, .f [4] (sCloN 100 [none])), (10, .d ((kL (kI .i64)).sig a0)), (11, .d ((kI .i64).sig (a0.length : Int))), (12, .d ((kI .i64).sig v270))]) (fun x339 => [.row 5200 136 kB x339, .box 4 152 [.v 5200]]) ?_ ?_
      · refine wBlock ?_
        refine wSeq ?_
        obtain ⟨y340, hy340, h⟩ := bd h
        refine rg (cp (oIdx u44 z3 hy340 tm tm) (s2 rfl rfl) <| cp (oLd t3 tm) (s1 rfl) <| cp (oAs tm) (s1 rfl) <| .nil) (by kernel_rfl) ?_
        refine pSeq ?_
        refine wSeq ?_
        refine rg (cp (oAs cB) trivial <| .nil) (by kernel_rfl) ?_
        refine pSeq ?_
        refine wSeq ?_
        refine wSeq ?_
        refine rg (cp (oMv tm) (s1 rfl) <| .nil) (by kernel_rfl) ?_
        refine pSeq ?_
        obtain ⟨o3, h, hk3⟩ := bd h
        refine wK2 (fun x372 x373 => (x372, x373) = o3) (fun x372 x373 => [(0, .d ((kL (kI .i64)).sig a0)), (4, .p 4 0), (5, .f [4] (sCloN 100 [none])), (8, .d (kB.sig x373)), (10, .d ((kL (kI .i64)).sig a0)), (11, .d ((kI .i64).sig (a0.length : Int))), (12, .d ((kI .i64).sig v270))]) (fun x372 x373 => [.row 5200 136 kB x372, .box 4 152 [.v 5200]]) ?_ ?_
        · refine wBlock ?_
          refine wSeq ?_
          refine wSeq ?_
          refine rg (cp (oEq rfl tm (cI (by decide))) (s1 rfl) <| cp (oAs tm) (s1 rfl) <| .nil) (by kernel_rfl) ?_
          refine pSeq ?_
          rcases ic h with ⟨hp374, h⟩ | ⟨hp374, h⟩
          · refine wCT hp374 tm (s1 rfl) ?_
            refine wSkip ?_
            refine pSeq ?_
            refine wCT hp374 tm (s1 rfl) ?_
            obtain ⟨hc375, h⟩ := ib h
            refine rg (cr (oLdN (n := 1) (k := 0) rfl rfl rfl t152 tm) (s1 rfl) <| cp (oLit (d := kB) el152 (by decide) rfl rfl rfl (e1 cB e0)) trivial <| cw (oApp (n := 0) (id' := 22) el152 (by decide) rfl (by decide) hc375 tm tm) (s2 rfl rfl) <| cwn (oStN (n := 1) (m := 0) (k := 0) rfl rfl rfl rfl z152 rfl tm tm) (s2 rfl rfl) <| .nil) (by kernel_rfl) ?_
            refine pBlkN ?_
            refine pSub (Γ' := [(0, .d ((kL (kI .i64)).sig a0)), (4, .p 4 0), (5, .f [4] (sCloN 100 [none])), (8, .d (kB.sig true)), (10, .d ((kL (kI .i64)).sig a0)), (11, .d ((kI .i64).sig (a0.length : Int))), (12, .d ((kI .i64).sig v270))]) ⟨rfl, rfl, rfl, rfl, rfl, rfl, rfl, trivial⟩ ?_
            refine pRen 22 5200 rfl ?_
            exact pJ2 _ _ (so h) ⟨rfl, rfl, rfl, rfl, rfl, rfl, rfl, trivial⟩ rfl
          · refine wCF hp374 tm (s1 rfl) ?_
            refine rg (cp (oEq rfl tm (cI (by decide))) (s1 rfl) <| cp (oAs tm) (s1 rfl) <| .nil) (by kernel_rfl) ?_
            refine pSeq ?_
            rcases ic h with ⟨hp376, h⟩ | ⟨hp376, h⟩
            · refine wCT hp376 tm (s1 rfl) ?_
              obtain ⟨hc377, h⟩ := ib h
              refine rg (cr (oLdN (n := 1) (k := 0) rfl rfl rfl t152 tm) (s1 rfl) <| cp (oLit (d := kB) el152 (by decide) rfl rfl rfl (e1 cB e0)) trivial <| cw (oApp (n := 0) (id' := 22) el152 (by decide) rfl (by decide) hc377 tm tm) (s2 rfl rfl) <| cwn (oStN (n := 1) (m := 0) (k := 0) rfl rfl rfl rfl z152 rfl tm tm) (s2 rfl rfl) <| .nil) (by kernel_rfl) ?_
              refine pBlkN ?_
              refine pSub (Γ' := [(0, .d ((kL (kI .i64)).sig a0)), (4, .p 4 0), (5, .f [4] (sCloN 100 [none])), (8, .d (kB.sig true)), (10, .d ((kL (kI .i64)).sig a0)), (11, .d ((kI .i64).sig (a0.length : Int))), (12, .d ((kI .i64).sig v270))]) ⟨rfl, rfl, rfl, rfl, rfl, rfl, rfl, trivial⟩ ?_
              refine pRen 22 5200 rfl ?_
              exact pJ2 _ _ (so h) ⟨rfl, rfl, rfl, rfl, rfl, rfl, rfl, trivial⟩ rfl
            · refine wCF hp376 tm (s1 rfl) ?_
              refine wSeq ?_
              refine wSeq ?_
              refine rg (cp (oEq rfl tm (cI (by decide))) (s1 rfl) <| cp (oAs tm) (s1 rfl) <| .nil) (by kernel_rfl) ?_
              refine pSeq ?_
              rcases ic h with ⟨hp378, h⟩ | ⟨hp378, h⟩
              · refine wCT hp378 tm (s1 rfl) ?_
                refine wSkip ?_
                refine pSeq ?_
                refine wCT hp378 tm (s1 rfl) ?_
                obtain ⟨hc379, h⟩ := ib h
                refine rg (cr (oLdN (n := 1) (k := 0) rfl rfl rfl t152 tm) (s1 rfl) <| cp (oLit (d := kB) el152 (by decide) rfl rfl rfl (e1 cB e0)) trivial <| cw (oApp (n := 0) (id' := 32) el152 (by decide) rfl (by decide) hc379 tm tm) (s2 rfl rfl) <| cwn (oStN (n := 1) (m := 0) (k := 0) rfl rfl rfl rfl z152 rfl tm tm) (s2 rfl rfl) <| .nil) (by kernel_rfl) ?_
                refine pBlkN ?_
                refine pSub (Γ' := [(0, .d ((kL (kI .i64)).sig a0)), (4, .p 4 0), (5, .f [4] (sCloN 100 [none])), (8, .d (kB.sig true)), (10, .d ((kL (kI .i64)).sig a0)), (11, .d ((kI .i64).sig (a0.length : Int))), (12, .d ((kI .i64).sig v270))]) ⟨rfl, rfl, rfl, rfl, rfl, rfl, rfl, trivial⟩ ?_
                refine pRen 32 5200 rfl ?_
                exact pJ2 _ _ (so h) ⟨rfl, rfl, rfl, rfl, rfl, rfl, rfl, trivial⟩ rfl
              · refine wCF hp378 tm (s1 rfl) ?_
                refine wSeq ?_
                refine rg (cp (oEq rfl tm (cI (by decide))) (s1 rfl) <| cp (oAs tm) (s1 rfl) <| .nil) (by kernel_rfl) ?_
                refine pSeq ?_
                rcases ic h with ⟨hp380, h⟩ | ⟨hp380, h⟩
                · refine wCT hp380 tm (s1 rfl) ?_
                  refine wSkip ?_
                  refine pSeq ?_
                  refine wCT hp380 tm (s1 rfl) ?_
                  obtain ⟨hc381, h⟩ := ib h
                  refine rg (cr (oLdN (n := 1) (k := 0) rfl rfl rfl t152 tm) (s1 rfl) <| cp (oLit (d := kB) el152 (by decide) rfl rfl rfl (e1 cB e0)) trivial <| cw (oApp (n := 0) (id' := 32) el152 (by decide) rfl (by decide) hc381 tm tm) (s2 rfl rfl) <| cwn (oStN (n := 1) (m := 0) (k := 0) rfl rfl rfl rfl z152 rfl tm tm) (s2 rfl rfl) <| .nil) (by kernel_rfl) ?_
                  refine pBlkN ?_
                  refine pSub (Γ' := [(0, .d ((kL (kI .i64)).sig a0)), (4, .p 4 0), (5, .f [4] (sCloN 100 [none])), (8, .d (kB.sig true)), (10, .d ((kL (kI .i64)).sig a0)), (11, .d ((kI .i64).sig (a0.length : Int))), (12, .d ((kI .i64).sig v270))]) ⟨rfl, rfl, rfl, rfl, rfl, rfl, rfl, trivial⟩ ?_
                  refine pRen 32 5200 rfl ?_
                  exact pJ2 _ _ (so h) ⟨rfl, rfl, rfl, rfl, rfl, rfl, rfl, trivial⟩ rfl
                · refine wCF hp380 tm (s1 rfl) ?_
                  refine wSeq ?_
                  refine rg (cp (oEq rfl tm (cI (by decide))) (s1 rfl) <| cp (oAs tm) (s1 rfl) <| .nil) (by kernel_rfl) ?_
                  refine pSeq ?_
                  rcases ic h with ⟨hp382, h⟩ | ⟨hp382, h⟩
                  · refine wCT hp382 tm (s1 rfl) ?_
                    refine wSkip ?_
                    refine pSeq ?_
                    refine wCT hp382 tm (s1 rfl) ?_
                    obtain ⟨hc383, h⟩ := ib h
                    refine rg (cr (oLdN (n := 1) (k := 0) rfl rfl rfl t152 tm) (s1 rfl) <| cp (oLit (d := kB) el152 (by decide) rfl rfl rfl (e1 cB e0)) trivial <| cw (oApp (n := 0) (id' := 32) el152 (by decide) rfl (by decide) hc383 tm tm) (s2 rfl rfl) <| cwn (oStN (n := 1) (m := 0) (k := 0) rfl rfl rfl rfl z152 rfl tm tm) (s2 rfl rfl) <| .nil) (by kernel_rfl) ?_
                    refine pBlkN ?_
                    refine pSub (Γ' := [(0, .d ((kL (kI .i64)).sig a0)), (4, .p 4 0), (5, .f [4] (sCloN 100 [none])), (8, .d (kB.sig true)), (10, .d ((kL (kI .i64)).sig a0)), (11, .d ((kI .i64).sig (a0.length : Int))), (12, .d ((kI .i64).sig v270))]) ⟨rfl, rfl, rfl, rfl, rfl, rfl, rfl, trivial⟩ ?_
                    refine pRen 32 5200 rfl ?_
                    exact pJ2 _ _ (so h) ⟨rfl, rfl, rfl, rfl, rfl, rfl, rfl, trivial⟩ rfl
                  · refine wCF hp382 tm (s1 rfl) ?_
                    refine wSeq ?_
                    refine rg (cp (oEq rfl tm (cI (by decide))) (s1 rfl) <| cp (oAs tm) (s1 rfl) <| .nil) (by kernel_rfl) ?_
                    refine pSeq ?_
                    rcases ic h with ⟨hp384, h⟩ | ⟨hp384, h⟩
                    · refine wCT hp384 tm (s1 rfl) ?_
                      refine wSkip ?_
                      refine pSeq ?_
                      refine wCT hp384 tm (s1 rfl) ?_
                      obtain ⟨hc385, h⟩ := ib h
                      refine rg (cr (oLdN (n := 1) (k := 0) rfl rfl rfl t152 tm) (s1 rfl) <| cp (oLit (d := kB) el152 (by decide) rfl rfl rfl (e1 cB e0)) trivial <| cw (oApp (n := 0) (id' := 32) el152 (by decide) rfl (by decide) hc385 tm tm) (s2 rfl rfl) <| cwn (oStN (n := 1) (m := 0) (k := 0) rfl rfl rfl rfl z152 rfl tm tm) (s2 rfl rfl) <| .nil) (by kernel_rfl) ?_
                      refine pBlkN ?_
                      refine pSub (Γ' := [(0, .d ((kL (kI .i64)).sig a0)), (4, .p 4 0), (5, .f [4] (sCloN 100 [none])), (8, .d (kB.sig true)), (10, .d ((kL (kI .i64)).sig a0)), (11, .d ((kI .i64).sig (a0.length : Int))), (12, .d ((kI .i64).sig v270))]) ⟨rfl, rfl, rfl, rfl, rfl, rfl, rfl, trivial⟩ ?_
                      refine pRen 32 5200 rfl ?_
                      exact pJ2 _ _ (so h) ⟨rfl, rfl, rfl, rfl, rfl, rfl, rfl, trivial⟩ rfl
                    · refine wCF hp384 tm (s1 rfl) ?_
                      refine wSeq ?_
                      refine rg (cp (oEq rfl tm (cI (by decide))) (s1 rfl) <| cp (oAs tm) (s1 rfl) <| .nil) (by kernel_rfl) ?_
                      refine pSeq ?_
                      rcases ic h with ⟨hp386, h⟩ | ⟨hp386, h⟩
                      · refine wCT hp386 tm (s1 rfl) ?_
                        refine wSkip ?_
                        refine pSeq ?_
                        refine wCT hp386 tm (s1 rfl) ?_
                        obtain ⟨hc387, h⟩ := ib h
                        refine rg (cr (oLdN (n := 1) (k := 0) rfl rfl rfl t152 tm) (s1 rfl) <| cp (oLit (d := kB) el152 (by decide) rfl rfl rfl (e1 cB e0)) trivial <| cw (oApp (n := 0) (id' := 32) el152 (by decide) rfl (by decide) hc387 tm tm) (s2 rfl rfl) <| cwn (oStN (n := 1) (m := 0) (k := 0) rfl rfl rfl rfl z152 rfl tm tm) (s2 rfl rfl) <| .nil) (by kernel_rfl) ?_
                        refine pBlkN ?_
                        refine pSub (Γ' := [(0, .d ((kL (kI .i64)).sig a0)), (4, .p 4 0), (5, .f [4] (sCloN 100 [none])), (8, .d (kB.sig true)), (10, .d ((kL (kI .i64)).sig a0)), (11, .d ((kI .i64).sig (a0.length : Int))), (12, .d ((kI .i64).sig v270))]) ⟨rfl, rfl, rfl, rfl, rfl, rfl, rfl, trivial⟩ ?_
                        refine pRen 32 5200 rfl ?_
                        exact pJ2 _ _ (so h) ⟨rfl, rfl, rfl, rfl, rfl, rfl, rfl, trivial⟩ rfl
                      · refine wCF hp386 tm (s1 rfl) ?_
                        refine rg (cp (oEq rfl tm (cI (by decide))) (s1 rfl) <| cp (oAs tm) (s1 rfl) <| .nil) (by kernel_rfl) ?_
                        refine pSeq ?_
                        rcases ic h with ⟨hp388, h⟩ | ⟨hp388, h⟩
                        · refine wCT hp388 tm (s1 rfl) ?_
                          obtain ⟨hc389, h⟩ := ib h
                          refine rg (cr (oLdN (n := 1) (k := 0) rfl rfl rfl t152 tm) (s1 rfl) <| cp (oLit (d := kB) el152 (by decide) rfl rfl rfl (e1 cB e0)) trivial <| cw (oApp (n := 0) (id' := 32) el152 (by decide) rfl (by decide) hc389 tm tm) (s2 rfl rfl) <| cwn (oStN (n := 1) (m := 0) (k := 0) rfl rfl rfl rfl z152 rfl tm tm) (s2 rfl rfl) <| .nil) (by kernel_rfl) ?_
                          refine pBlkN ?_
                          refine pSub (Γ' := [(0, .d ((kL (kI .i64)).sig a0)), (4, .p 4 0), (5, .f [4] (sCloN 100 [none])), (8, .d (kB.sig true)), (10, .d ((kL (kI .i64)).sig a0)), (11, .d ((kI .i64).sig (a0.length : Int))), (12, .d ((kI .i64).sig v270))]) ⟨rfl, rfl, rfl, rfl, rfl, rfl, rfl, trivial⟩ ?_
                          refine pRen 32 5200 rfl ?_
                          exact pJ2 _ _ (so h) ⟨rfl, rfl, rfl, rfl, rfl, rfl, rfl, trivial⟩ rfl
                        · refine wCF hp388 tm (s1 rfl) ?_
                          refine wSeq ?_
                          refine wSeq ?_
                          refine rg (cp (oEq rfl tm (cI (by decide))) (s1 rfl) <| cp (oAs tm) (s1 rfl) <| .nil) (by kernel_rfl) ?_
                          refine pSeq ?_
                          rcases ic h with ⟨hp390, h⟩ | ⟨hp390, h⟩
                          · refine wCT hp390 tm (s1 rfl) ?_
                            refine wSkip ?_
                            refine pSeq ?_
                            refine wCT hp390 tm (s1 rfl) ?_
                            refine wSeq ?_
                            obtain ⟨y391, hy391, h⟩ := bd h
                            refine rg (cp (oMv tm) (s1 rfl) <| cm (oCallN (ins := [.d (kB.sig false)]) (caps := [none]) (kn := [70100]) (rest := []) (R' := [.row 510040 136 kB y391.1, .box 4 152 [.v 510040]]) (out' := .d (kB.sig y391.2)) [(70100, 4), (70101, 5200)] [(70101, 510040)] [1, 0] [] [1, 0] rfl tm (rule_made_1.ok hy391) rfl b100 (oE1 cB oE0) rfl rfl rfl rfl rfl rfl rfl rfl) (s1 rfl) <| cp (oAs tm) (s1 rfl) <| .nil) (by kernel_rfl) ?_
                            refine pSeq ?_
                            obtain ⟨hc392, h⟩ := ib h
                            refine rg (cr (oLdN (n := 1) (k := 0) rfl rfl rfl t152 tm) (s1 rfl) <| cp (oLit (d := kB) el152 (by decide) rfl rfl rfl (e1 cB e0)) trivial <| cw (oApp (n := 0) (id' := 40) el152 (by decide) rfl (by decide) hc392 tm tm) (s2 rfl rfl) <| cwn (oStN (n := 1) (m := 0) (k := 0) rfl rfl rfl rfl z152 rfl tm tm) (s2 rfl rfl) <| .nil) (by kernel_rfl) ?_
                            refine pBlkN ?_
                            refine pSub (Γ' := [(0, .d ((kL (kI .i64)).sig a0)), (4, .p 4 0), (5, .f [4] (sCloN 100 [none])), (8, .d (kB.sig y391.2)), (10, .d ((kL (kI .i64)).sig a0)), (11, .d ((kI .i64).sig (a0.length : Int))), (12, .d ((kI .i64).sig v270))]) ⟨rfl, rfl, rfl, rfl, rfl, rfl, rfl, trivial⟩ ?_
                            refine pRen 40 5200 rfl ?_
                            exact pJ2 _ _ (so h) ⟨rfl, rfl, rfl, rfl, rfl, rfl, rfl, trivial⟩ rfl
                          · refine wCF hp390 tm (s1 rfl) ?_
                            refine rg (cp (oEq rfl tm (cI (by decide))) (s1 rfl) <| cp (oAs tm) (s1 rfl) <| .nil) (by kernel_rfl) ?_
                            refine pSeq ?_
                            rcases ic h with ⟨hp393, h⟩ | ⟨hp393, h⟩
                            · refine wCT hp393 tm (s1 rfl) ?_
                              refine wSeq ?_
                              obtain ⟨y394, hy394, h⟩ := bd h
                              refine rg (cp (oMv tm) (s1 rfl) <| cm (oCallN (ins := [.d (kB.sig false)]) (caps := [none]) (kn := [70100]) (rest := []) (R' := [.row 510040 136 kB y394.1, .box 4 152 [.v 510040]]) (out' := .d (kB.sig y394.2)) [(70100, 4), (70101, 5200)] [(70101, 510040)] [1, 0] [] [1, 0] rfl tm (rule_made_1.ok hy394) rfl b100 (oE1 cB oE0) rfl rfl rfl rfl rfl rfl rfl rfl) (s1 rfl) <| cp (oAs tm) (s1 rfl) <| .nil) (by kernel_rfl) ?_
                              refine pSeq ?_
                              obtain ⟨hc395, h⟩ := ib h
                              refine rg (cr (oLdN (n := 1) (k := 0) rfl rfl rfl t152 tm) (s1 rfl) <| cp (oLit (d := kB) el152 (by decide) rfl rfl rfl (e1 cB e0)) trivial <| cw (oApp (n := 0) (id' := 40) el152 (by decide) rfl (by decide) hc395 tm tm) (s2 rfl rfl) <| cwn (oStN (n := 1) (m := 0) (k := 0) rfl rfl rfl rfl z152 rfl tm tm) (s2 rfl rfl) <| .nil) (by kernel_rfl) ?_
                              refine pBlkN ?_
                              refine pSub (Γ' := [(0, .d ((kL (kI .i64)).sig a0)), (4, .p 4 0), (5, .f [4] (sCloN 100 [none])), (8, .d (kB.sig y394.2)), (10, .d ((kL (kI .i64)).sig a0)), (11, .d ((kI .i64).sig (a0.length : Int))), (12, .d ((kI .i64).sig v270))]) ⟨rfl, rfl, rfl, rfl, rfl, rfl, rfl, trivial⟩ ?_
                              refine pRen 40 5200 rfl ?_
                              exact pJ2 _ _ (so h) ⟨rfl, rfl, rfl, rfl, rfl, rfl, rfl, trivial⟩ rfl
                            · refine wCF hp393 tm (s1 rfl) ?_
                              refine wSeq ?_
                              refine rg (cp (oEq rfl tm (cI (by decide))) (s1 rfl) <| cp (oAs tm) (s1 rfl) <| .nil) (by kernel_rfl) ?_
                              refine pSeq ?_
                              rcases ic h with ⟨hp396, h⟩ | ⟨hp396, h⟩
                              · refine wCT hp396 tm (s1 rfl) ?_
                                refine wSeq ?_
                                obtain ⟨y397, hy397, h⟩ := bd h
                                refine rg (cp (oMv tm) (s1 rfl) <| cm (oCallN (ins := [.d (kB.sig true)]) (caps := [none]) (kn := [70100]) (rest := []) (R' := [.row 540040 136 kB y397.1, .box 4 152 [.v 540040]]) (out' := .d (kB.sig y397.2)) [(70100, 4), (70101, 5200)] [(70101, 540040)] [1, 0] [] [1, 0] rfl tm (rule_made_1.ok hy397) rfl b100 (oE1 cB oE0) rfl rfl rfl rfl rfl rfl rfl rfl) (s1 rfl) <| cp (oAs tm) (s1 rfl) <| .nil) (by kernel_rfl) ?_
                                refine pSeq ?_
                                obtain ⟨hc398, h⟩ := ib h
                                refine rg (cr (oLdN (n := 1) (k := 0) rfl rfl rfl t152 tm) (s1 rfl) <| cp (oLit (d := kB) el152 (by decide) rfl rfl rfl (e1 cB e0)) trivial <| cw (oApp (n := 0) (id' := 47) el152 (by decide) rfl (by decide) hc398 tm tm) (s2 rfl rfl) <| cwn (oStN (n := 1) (m := 0) (k := 0) rfl rfl rfl rfl z152 rfl tm tm) (s2 rfl rfl) <| .nil) (by kernel_rfl) ?_
                                refine pBlkN ?_
                                refine pSub (Γ' := [(0, .d ((kL (kI .i64)).sig a0)), (4, .p 4 0), (5, .f [4] (sCloN 100 [none])), (8, .d (kB.sig y397.2)), (10, .d ((kL (kI .i64)).sig a0)), (11, .d ((kI .i64).sig (a0.length : Int))), (12, .d ((kI .i64).sig v270))]) ⟨rfl, rfl, rfl, rfl, rfl, rfl, rfl, trivial⟩ ?_
                                refine pRen 47 5200 rfl ?_
                                exact pJ2 _ _ (so h) ⟨rfl, rfl, rfl, rfl, rfl, rfl, rfl, trivial⟩ rfl
                              · refine wCF hp396 tm (s1 rfl) ?_
                                refine wSeq ?_
                                refine wSeq ?_
                                refine rg (cp (oEq rfl tm (cI (by decide))) (s1 rfl) <| cp (oAs tm) (s1 rfl) <| .nil) (by kernel_rfl) ?_
                                refine pSeq ?_
                                rcases ic h with ⟨hp399, h⟩ | ⟨hp399, h⟩
                                · refine wCT hp399 tm (s1 rfl) ?_
                                  refine wSkip ?_
                                  refine pSeq ?_
                                  refine wCT hp399 tm (s1 rfl) ?_
                                  refine wSeq ?_
                                  obtain ⟨y400, hy400, h⟩ := bd h
                                  refine rg (cp (oMv tm) (s1 rfl) <| cm (oCallN (ins := [.d (kB.sig true)]) (caps := [none]) (kn := [70100]) (rest := []) (R' := [.row 580040 136 kB y400.1, .box 4 152 [.v 580040]]) (out' := .d (kB.sig y400.2)) [(70100, 4), (70101, 5200)] [(70101, 580040)] [1, 0] [] [1, 0] rfl tm (rule_made_1.ok hy400) rfl b100 (oE1 cB oE0) rfl rfl rfl rfl rfl rfl rfl rfl) (s1 rfl) <| cp (oAs tm) (s1 rfl) <| .nil) (by kernel_rfl) ?_
                                  refine pSeq ?_
                                  obtain ⟨hc401, h⟩ := ib h
                                  refine rg (cr (oLdN (n := 1) (k := 0) rfl rfl rfl t152 tm) (s1 rfl) <| cp (oLit (d := kB) el152 (by decide) rfl rfl rfl (e1 cB e0)) trivial <| cw (oApp (n := 0) (id' := 55) el152 (by decide) rfl (by decide) hc401 tm tm) (s2 rfl rfl) <| cwn (oStN (n := 1) (m := 0) (k := 0) rfl rfl rfl rfl z152 rfl tm tm) (s2 rfl rfl) <| .nil) (by kernel_rfl) ?_
                                  refine pBlkN ?_
                                  refine pSub (Γ' := [(0, .d ((kL (kI .i64)).sig a0)), (4, .p 4 0), (5, .f [4] (sCloN 100 [none])), (8, .d (kB.sig y400.2)), (10, .d ((kL (kI .i64)).sig a0)), (11, .d ((kI .i64).sig (a0.length : Int))), (12, .d ((kI .i64).sig v270))]) ⟨rfl, rfl, rfl, rfl, rfl, rfl, rfl, trivial⟩ ?_
                                  refine pRen 55 5200 rfl ?_
                                  exact pJ2 _ _ (so h) ⟨rfl, rfl, rfl, rfl, rfl, rfl, rfl, trivial⟩ rfl
                                · refine wCF hp399 tm (s1 rfl) ?_
                                  refine rg (cp (oEq rfl tm (cI (by decide))) (s1 rfl) <| cp (oAs tm) (s1 rfl) <| .nil) (by kernel_rfl) ?_
                                  refine pSeq ?_
                                  rcases ic h with ⟨hp402, h⟩ | ⟨hp402, h⟩
                                  · refine wCT hp402 tm (s1 rfl) ?_
                                    refine wSeq ?_
                                    obtain ⟨y403, hy403, h⟩ := bd h
                                    refine rg (cp (oMv tm) (s1 rfl) <| cm (oCallN (ins := [.d (kB.sig true)]) (caps := [none]) (kn := [70100]) (rest := []) (R' := [.row 580040 136 kB y403.1, .box 4 152 [.v 580040]]) (out' := .d (kB.sig y403.2)) [(70100, 4), (70101, 5200)] [(70101, 580040)] [1, 0] [] [1, 0] rfl tm (rule_made_1.ok hy403) rfl b100 (oE1 cB oE0) rfl rfl rfl rfl rfl rfl rfl rfl) (s1 rfl) <| cp (oAs tm) (s1 rfl) <| .nil) (by kernel_rfl) ?_
                                    refine pSeq ?_
                                    obtain ⟨hc404, h⟩ := ib h
                                    refine rg (cr (oLdN (n := 1) (k := 0) rfl rfl rfl t152 tm) (s1 rfl) <| cp (oLit (d := kB) el152 (by decide) rfl rfl rfl (e1 cB e0)) trivial <| cw (oApp (n := 0) (id' := 55) el152 (by decide) rfl (by decide) hc404 tm tm) (s2 rfl rfl) <| cwn (oStN (n := 1) (m := 0) (k := 0) rfl rfl rfl rfl z152 rfl tm tm) (s2 rfl rfl) <| .nil) (by kernel_rfl) ?_
                                    refine pBlkN ?_
                                    refine pSub (Γ' := [(0, .d ((kL (kI .i64)).sig a0)), (4, .p 4 0), (5, .f [4] (sCloN 100 [none])), (8, .d (kB.sig y403.2)), (10, .d ((kL (kI .i64)).sig a0)), (11, .d ((kI .i64).sig (a0.length : Int))), (12, .d ((kI .i64).sig v270))]) ⟨rfl, rfl, rfl, rfl, rfl, rfl, rfl, trivial⟩ ?_
                                    refine pRen 55 5200 rfl ?_
                                    exact pJ2 _ _ (so h) ⟨rfl, rfl, rfl, rfl, rfl, rfl, rfl, trivial⟩ rfl
                                  · refine wCF hp402 tm (s1 rfl) ?_
                                    refine rg (cp (oAs cB) trivial <| .nil) (by kernel_rfl) ?_
                                    refine pBlkN ?_
                                    exact pJ2 _ _ (so h) ⟨rfl, rfl, rfl, rfl, rfl, rfl, rfl, trivial⟩ rfl
        · rintro x372 x373 rfl
          replace h := hk3
          refine pSeq ?_
          refine wSeq ?_
          refine rg (cp (oMv tm) (s1 rfl) <| cp (oNot tm) (s1 rfl) <| .nil) (by kernel_rfl) ?_
          refine pSeq ?_
          rcases ic h with ⟨hp405, h⟩ | ⟨hp405, h⟩
          · refine wBT hp405 tm (s1 rfl) ?_
            refine wSeq ?_
            refine rg (cp (oAs cB) trivial <| cp (oAs cB) trivial <| .nil) (by kernel_rfl) ?_
            refine pSeq ?_
            refine wRet ?_
            refine pBlkR ?_
            refine pThenR ?_
            obtain rfl := so h
            replace h := hk2
            refine pThenR ?_
            refine pBlkR ?_
            refine pThenR ?_
            obtain rfl := so h
            replace h := hk1
            refine pThenR ?_
            obtain rfl := so h
            exact pRn (.inl rfl) rfl rfl (.tmp rfl <| .tmp rfl <| .nil)
          · refine wBF hp405 tm (s1 rfl) ?_
            refine wSkip ?_
            refine pBlkN ?_
            exact pJ1 _ (so h) ⟨rfl, rfl, rfl, rfl, rfl, rfl, trivial⟩ rfl
      · rintro x339 rfl
        replace h := hk2
        refine rg (cp (oAdd tm (cI (by decide))) (s1 rfl) <| cp (oMv tm) (s1 rfl) <| .nil) (by kernel_rfl) ?_
        exact pLoop (lW (ih _ _ h) ⟨rfl, rfl, rfl, rfl, rfl, rfl, trivial⟩ rfl)
    · refine wCF hp272 tm (s1 rfl) ?_
      refine wExit ?_
      refine pThenX ?_
      refine pThenX ?_
      refine pBlkX ?_
      exact pJ1 _ (so h) ⟨rfl, rfl, trivial⟩ rfl
  · rintro x271 rfl
    replace h := hk1
    refine pSeq ?_
    refine wSeq ?_
    obtain ⟨o1, h, hk1⟩ := bd h
    refine wJ1 (fun x407 => x407 = o1) (fun x407 => [(4, .p 4 0), (66, .d (kB.sig x407))]) (fun x407 => [.row 5200 136 kB x271, .box 4 152 [.v 5200]]) ?_ ?_
    · rcases ic h with ⟨hp408, h⟩ | ⟨hp408, h⟩
      · refine rg (cr (oLdN (n := 1) (k := 0) rfl rfl rfl t152 tm) (s1 rfl) <| cr (oLenR (n := 0) u152 rfl tm) (s1 rfl) <| cp (oNe rfl tm (cI (by decide))) (s1 rfl) <| cp (oMv tm) (s1 rfl) <| cgB (nf hp408) rfl rfl (oMv tm) (s1 rfl) <| cgB (nf hp408) rfl rfl (oLenL u44 tm) (s1 rfl) <| cgB (nf hp408) rfl rfl (oGt rfl tm (cI (by decide))) (s1 rfl) <| cp (oPkF (nf hp408) tm tm) (s2 rfl rfl) <| .nil) (by kernel_rfl) ?_
        exact pJ1 _ (so h) ⟨rfl, rfl, trivial⟩ rfl
      · refine rg (cr (oLdN (n := 1) (k := 0) rfl rfl rfl t152 tm) (s1 rfl) <| cr (oLenR (n := 0) u152 rfl tm) (s1 rfl) <| cp (oNe rfl tm (cI (by decide))) (s1 rfl) <| cp (oMv tm) (s1 rfl) <| csB (nt hp408) rfl rfl <| csB (nt hp408) rfl rfl <| csB (nt hp408) rfl rfl <| cp (oPkT (nt hp408) tm cB) (s1 rfl) <| .nil) (by kernel_rfl) ?_
        exact pJ1 _ (so h) ⟨rfl, rfl, trivial⟩ rfl
    · rintro x407 rfl
      replace h := hk1
      rcases ic h with ⟨hp409, h⟩ | ⟨hp409, h⟩
      · refine wBT hp409 tm (s1 rfl) ?_
        refine wSeq ?_
        refine rg (cp (oAs cB) trivial <| cp (oAs cB) trivial <| .nil) (by kernel_rfl) ?_
        refine pSeq ?_
        refine wRet ?_
        refine pThenR ?_
        obtain rfl := so h
        exact pRn (.inl rfl) rfl rfl (.tmp rfl <| .tmp rfl <| .nil)
      · refine wBF hp409 tm (s1 rfl) ?_
        refine wSkip ?_
        refine pSeq ?_
        refine wSeq ?_
        obtain ⟨y410, hy410, h⟩ := bd h
        refine rg (cr (oLdN (n := 1) (k := 0) rfl rfl rfl t152 tm) (s1 rfl) <| cr (oIdxR (n := 0) u152 z136 rfl hy410 tm (cI (by decide))) (s1 rfl) <| cr (oLdE (n := 0) rfl hy410 rfl t136 tm) (s1 rfl) <| cp (oAs tm) (s1 rfl) <| cp (oAs cB) trivial <| .nil) (by kernel_rfl) ?_
        refine pSeq ?_
        refine wRet ?_
        obtain rfl := so h
        exact pRn (.inl rfl) rfl rfl (.tmp rfl <| .tmp rfl <| .nil)

theorem rule_Right.ok {a0 : List Int} {a1 : Bool} {r : Bool} (h : rule_Right.f a0 a1 = some r) : FnA Tryd.prog 64 [(kL (kI .i64)).sig a0, kB.sig a1] (kB.sig r) := by
  refine fnIntro Tryd.func64 rfl (by kernel_rfl) fun H0 w0 => ?_
  unfold rule_Right.f at h
  refine wSeq ?_
  refine rg (cp (oAs cB) trivial <| .nil) (by kernel_rfl) ?_
  refine pSeq ?_
  refine wSeq ?_
  obtain ⟨y1, hy1, h⟩ := bd h
  refine rg (cp (oMv tm) (s1 rfl) <| cp (oCall rfl (rule_made.ok hy1) b86 (opds_cons tm opds_nil)) (s1 rfl) <| cp (oMv tm) (s1 rfl) <| cp (oExt (k := 0) rfl tm) (s1 rfl) <| cp (oExt (k := 1) rfl tm) (s1 rfl) <| cp (oAs tm) (s1 rfl) <| cp (oAs tm) (s1 rfl) <| .nil) (by kernel_rfl) ?_
  refine pSeq ?_
  obtain ⟨o1, h, hk1⟩ := bd h
  refine wJ1 (fun x3 => x3 = o1) (fun x3 => [(4, .d (kB.sig x3))]) (fun x3 => []) ?_ ?_
  · rcases ic h with ⟨hp4, h⟩ | ⟨hp4, h⟩
    · refine rg (cp (oMv tm) (s1 rfl) <| cp (oMv tm) (s1 rfl) <| cgB hp4 rfl rfl (oMv tm) (s1 rfl) <| cgB hp4 rfl rfl (oMv tm) (s1 rfl) <| cgB hp4 rfl rfl (oBEq u4 rfl tm tm) (s2 rfl rfl) <| cp (oPkT hp4 tm tm) (s2 rfl rfl) <| cp (oAs tm) (s1 rfl) <| .nil) (by kernel_rfl) ?_
      exact pJ1 _ (so h) ⟨rfl, trivial⟩ rfl
    · refine rg (cp (oMv tm) (s1 rfl) <| cp (oMv tm) (s1 rfl) <| csB (nb hp4) rfl rfl <| csB (nb hp4) rfl rfl <| csB (nb hp4) rfl rfl <| cp (oPkF (nb hp4) tm cB) (s1 rfl) <| cp (oAs tm) (s1 rfl) <| .nil) (by kernel_rfl) ?_
      exact pJ1 _ (so h) ⟨rfl, trivial⟩ rfl
  · rintro x3 rfl
    replace h := hk1
    refine wRet ?_
    obtain rfl := so h
    exact pR1 (.inl rfl) rfl (.tmp rfl <| .nil)

theorem table_right.ok {a0 : api_Row} {r : Bool} (h : table_right.f a0 = some r) : FnA Tryd.prog 42 [(kR f_api_Row).sig a0] (kB.sig r) := by
  refine fnIntro Tryd.func42 rfl (by kernel_rfl) fun H0 w0 => ?_
  unfold table_right.f at h
  refine wSeq ?_
  refine rg (cp (oBox tm) (s1 rfl) <| cp (oAs cB) trivial <| .nil) (by kernel_rfl) ?_
  refine pSeq ?_
  obtain ⟨o1, h, hk1⟩ := bd h
  refine wJ1 (fun x6 => x6 = o1) (fun x6 => [(2, .d (kB.sig x6))]) (fun x6 => []) ?_ ?_
  · obtain ⟨y7, hy7, h⟩ := bd h
    rcases ic h with ⟨hp8, h⟩ | ⟨hp8, h⟩
    · obtain ⟨y9, hy9, h⟩ := bd h
      rcases ic h with ⟨hp10, h⟩ | ⟨hp10, h⟩
      · obtain ⟨y11, hy11, h⟩ := bd h
        refine rg (cp (oFld (fs := f_api_Row) (k := 0) rfl o46_0 tm) (s1 rfl) <| cp (oLd t44 tm) (s1 rfl) <| cp (oCall rfl (rule_Right.ok hy7) b64 (opds_cons tm (opds_cons cB opds_nil))) (s1 rfl) <| cp (oMv tm) (s1 rfl) <| cgB hp8 rfl rfl (oFld (fs := f_api_Row) (k := 1) rfl o46_1 tm) (s1 rfl) <| cgB hp8 rfl rfl (oLd t44 tm) (s1 rfl) <| cgB hp8 rfl rfl (oCall rfl (rule_Right.ok hy9) b64 (opds_cons tm (opds_cons cB opds_nil))) (s1 rfl) <| cp (oPkT hp8 tm tm) (s2 rfl rfl) <| cp (oMv tm) (s1 rfl) <| cgB hp10 rfl rfl (oFld (fs := f_api_Row) (k := 2) rfl o46_2 tm) (s1 rfl) <| cgB hp10 rfl rfl (oLd t44 tm) (s1 rfl) <| cgB hp10 rfl rfl (oCall rfl (rule_Right.ok hy11) b64 (opds_cons tm (opds_cons cB opds_nil))) (s1 rfl) <| cp (oPkT hp10 tm tm) (s2 rfl rfl) <| cp (oAs tm) (s1 rfl) <| .nil) (by kernel_rfl) ?_
        exact pJ1 _ (so h) ⟨rfl, trivial⟩ rfl
      · refine rg (cp (oFld (fs := f_api_Row) (k := 0) rfl o46_0 tm) (s1 rfl) <| cp (oLd t44 tm) (s1 rfl) <| cp (oCall rfl (rule_Right.ok hy7) b64 (opds_cons tm (opds_cons cB opds_nil))) (s1 rfl) <| cp (oMv tm) (s1 rfl) <| cgB hp8 rfl rfl (oFld (fs := f_api_Row) (k := 1) rfl o46_1 tm) (s1 rfl) <| cgB hp8 rfl rfl (oLd t44 tm) (s1 rfl) <| cgB hp8 rfl rfl (oCall rfl (rule_Right.ok hy9) b64 (opds_cons tm (opds_cons cB opds_nil))) (s1 rfl) <| cp (oPkT hp8 tm tm) (s2 rfl rfl) <| cp (oMv tm) (s1 rfl) <| csB (nb hp10) rfl rfl <| csB (nb hp10) rfl rfl <| csB (nb hp10) rfl rfl <| cp (oPkF (nb hp10) tm cB) (s1 rfl) <| cp (oAs tm) (s1 rfl) <| .nil) (by kernel_rfl) ?_
        exact pJ1 _ (so h) ⟨rfl, trivial⟩ rfl
    · refine rg (cp (oFld (fs := f_api_Row) (k := 0) rfl o46_0 tm) (s1 rfl) <| cp (oLd t44 tm) (s1 rfl) <| cp (oCall rfl (rule_Right.ok hy7) b64 (opds_cons tm (opds_cons cB opds_nil))) (s1 rfl) <| cp (oMv tm) (s1 rfl) <| csB (nb hp8) rfl rfl <| csB (nb hp8) rfl rfl <| csB (nb hp8) rfl rfl <| cp (oPkF (nb hp8) tm cB) (s1 rfl) <| cp (oMv tm) (s1 rfl) <| csB rfl rfl rfl <| csB rfl rfl rfl <| csB rfl rfl rfl <| cp (oPkF rfl tm cB) (s1 rfl) <| cp (oAs tm) (s1 rfl) <| .nil) (by kernel_rfl) ?_
      exact pJ1 _ (so h) ⟨rfl, trivial⟩ rfl
  · rintro x6 rfl
    replace h := hk1
    refine wRet ?_
    obtain rfl := so h
    exact pR1 (.inl rfl) rfl (.tmp rfl <| .nil)

theorem rule_Uses.ok {a0 : List Int} {r : Int × Int} (h : rule_Uses.f a0 = some r) : FnA Tryd.prog 87 [(kL (kI .i64)).sig a0] (tup [(kI .u32).sig r.1, (kI .i64).sig r.2]) := by
  refine fnIntro Tryd.func87 rfl (by kernel_rfl) fun H0 w0 => ?_
  unfold rule_Uses.f at h
  refine wSeq ?_
  refine rg (cp (oAs (cI (by decide))) trivial <| cp (oAs (cI (by decide))) trivial <| .nil) (by kernel_rfl) ?_
  refine pSeq ?_
  refine wSeq ?_
  refine wSeq ?_
  obtain ⟨y1, hy1, h⟩ := bd h
  refine rg (cp (oMv tm) (s1 rfl) <| cp (oCall rfl (rule_made.ok hy1) b86 (opds_cons tm opds_nil)) (s1 rfl) <| cp (oMv tm) (s1 rfl) <| cp (oExt (k := 0) rfl tm) (s1 rfl) <| cp (oExt (k := 1) rfl tm) (s1 rfl) <| cp (oAs tm) (s1 rfl) <| cp (oAs tm) (s1 rfl) <| .nil) (by kernel_rfl) ?_
  refine pSeq ?_
  refine wSeq ?_
  refine rg (cp (oMv tm) (s1 rfl) <| cp (oNot tm) (s1 rfl) <| .nil) (by kernel_rfl) ?_
  refine pSeq ?_
  rcases ic h with ⟨hp2, h⟩ | ⟨hp2, h⟩
  · refine wBT hp2 tm (s1 rfl) ?_
    refine wSeq ?_
    refine rg (cp (oAs (cI (by decide))) trivial <| cp (oAs (cI (by decide))) trivial <| .nil) (by kernel_rfl) ?_
    refine pSeq ?_
    refine wRet ?_
    refine pThenR ?_
    obtain rfl := so h
    exact pRn (.inl rfl) rfl rfl (.tmp rfl <| .tmp rfl <| .nil)
  · refine wBF hp2 tm (s1 rfl) ?_
    refine wSkip ?_
    refine pSeq ?_
    refine wSeq ?_
    refine rg (cp (oAs (cI (by decide))) trivial <| .nil) (by kernel_rfl) ?_
    refine pSeq ?_
    refine wSeq ?_
    refine wSeq ?_
    refine rg (cp (oMv tm) (s1 rfl) <| cp (oLenL u44 tm) (s1 rfl) <| cp (oMv (cI (by decide))) trivial <| .nil) (by kernel_rfl) ?_
    refine pSeq ?_
    obtain ⟨o1, h, hk1⟩ := bd h
    refine wK1 (fun x33 => x33 = o1) (fun x33 => [(6, .d ((kI .u32).sig x33))]) (fun x33 => []) ?_ ?_
    · refine wBlock (wLoop ?_)
      refine lW (pc2 o1 (fun v31 v32 => [(6, .d ((kI .u32).sig v32)), (16, .d ((kL (kI .i64)).sig a0)), (17, .d ((kI .i64).sig (a0.length : Int))), (18, .d ((kI .i64).sig v31))]) (fun v31 v32 => []) (rule_Uses.l0.partial_correctness a0) ?_ _ _ h) ⟨rfl, rfl, rfl, rfl, trivial⟩ rfl
      clear h
      intro f' ih v31 v32 h
      refine wSeq ?_
      refine rg (cp (oLt rfl tm tm) (s2 rfl rfl) <| .nil) (by kernel_rfl) ?_
      refine pSeq ?_
      refine wSeq ?_
      rcases ic h with ⟨hp34, h⟩ | ⟨hp34, h⟩
      · refine wCT hp34 tm (s1 rfl) ?_
        refine wSkip ?_
        refine pSeq ?_
        obtain ⟨o2, h, hk2⟩ := bd h
        refine wJ1 (fun x41 => x41 = o2) (fun x41 => [(6, .d ((kI .u32).sig x41)), (16, .d ((kL (kI .i64)).sig a0)), (17, .d ((kI .i64).sig (a0.length : Int))), (18, .d ((kI .i64).sig v31))]) (fun x41 => []) ?_ ?_
        · refine wBlock ?_
          refine wSeq ?_
          obtain ⟨y42, hy42, h⟩ := bd h
          refine rg (cp (oIdx u44 z3 hy42 tm tm) (s2 rfl rfl) <| cp (oLd t3 tm) (s1 rfl) <| cp (oAs tm) (s1 rfl) <| .nil) (by kernel_rfl) ?_
          refine pSeq ?_
          obtain ⟨o3, h, hk3⟩ := bd h
          refine wJ1 (fun x44 => x44 = o3) (fun x44 => [(6, .d ((kI .u32).sig v32)), (8, .d ((kI .i64).sig y42)), (16, .d ((kL (kI .i64)).sig a0)), (17, .d ((kI .i64).sig (a0.length : Int))), (18, .d ((kI .i64).sig v31)), (27, .d (kB.sig x44))]) (fun x44 => []) ?_ ?_
          · rcases ic h with ⟨hp45, h⟩ | ⟨hp45, h⟩
            · refine rg (cp (oMv tm) (s1 rfl) <| cp (oGe rfl tm (cI (by decide))) (s1 rfl) <| cp (oMv tm) (s1 rfl) <| cgB (decide_eq_true hp45) rfl rfl (oMv tm) (s1 rfl) <| cgB (decide_eq_true hp45) rfl rfl (oLe rfl tm (cI (by decide))) (s1 rfl) <| cp (oPkT (decide_eq_true hp45) tm tm) (s2 rfl rfl) <| .nil) (by kernel_rfl) ?_
              exact pJ1 _ (so h) ⟨rfl, rfl, rfl, rfl, rfl, rfl, trivial⟩ rfl
            · refine rg (cp (oMv tm) (s1 rfl) <| cp (oGe rfl tm (cI (by decide))) (s1 rfl) <| cp (oMv tm) (s1 rfl) <| csB (decide_eq_false hp45) rfl rfl <| csB (decide_eq_false hp45) rfl rfl <| cp (oPkF (decide_eq_false hp45) tm cB) (s1 rfl) <| .nil) (by kernel_rfl) ?_
              exact pJ1 _ (so h) ⟨rfl, rfl, rfl, rfl, rfl, rfl, trivial⟩ rfl
          · rintro x44 rfl
            replace h := hk3
            rcases ic h with ⟨hp46, h⟩ | ⟨hp46, h⟩
            · refine wBT hp46 tm (s1 rfl) ?_
              obtain ⟨hc47, h⟩ := ib h
              refine rg (cp (oMv tm) (s1 rfl) <| cp (oMv tm) (s1 rfl) <| cp (oSub tm (cI (by decide))) (s1 rfl) <| cp (oShl hc47 (cI (by decide)) tm) (s1 rfl) <| cp (oOr tm tm) (s2 rfl rfl) <| cp (oAs tm) (s1 rfl) <| .nil) (by kernel_rfl) ?_
              refine pBlkN ?_
              exact pJ1 _ (so h) ⟨rfl, rfl, rfl, rfl, trivial⟩ rfl
            · refine wBF hp46 tm (s1 rfl) ?_
              refine wSkip ?_
              refine pBlkN ?_
              exact pJ1 _ (so h) ⟨rfl, rfl, rfl, rfl, trivial⟩ rfl
        · rintro x41 rfl
          replace h := hk2
          refine rg (cp (oAdd tm (cI (by decide))) (s1 rfl) <| cp (oMv tm) (s1 rfl) <| .nil) (by kernel_rfl) ?_
          exact pLoop (lW (ih _ _ h) ⟨rfl, rfl, rfl, rfl, trivial⟩ rfl)
      · refine wCF hp34 tm (s1 rfl) ?_
        refine wExit ?_
        refine pThenX ?_
        refine pThenX ?_
        refine pBlkX ?_
        exact pJ1 _ (so h) ⟨rfl, trivial⟩ rfl
    · rintro x33 rfl
      replace h := hk1
      refine pSeq ?_
      refine wSeq ?_
      refine rg (cp (oMv tm) (s1 rfl) <| cp (oAs tm) (s1 rfl) <| cp (oAs (cI (by decide))) trivial <| .nil) (by kernel_rfl) ?_
      refine pSeq ?_
      refine wRet ?_
      obtain rfl := so h
      exact pRn (.inl rfl) rfl rfl (.tmp rfl <| .tmp rfl <| .nil)

theorem table_has.ok {a0 : Int} {a1 : List Int} {r : Bool} (h : table_has.f a0 a1 = some r) : FnA Tryd.prog 65 [(kI .i64).sig a0, (kL (kI .i64)).sig a1] (kB.sig r) := by
  refine fnIntro Tryd.func65 rfl (by kernel_rfl) fun H0 w0 => ?_
  unfold table_has.f at h
  refine wSeq ?_
  refine rg (cp (oAs cB) trivial <| .nil) (by kernel_rfl) ?_
  refine pSeq ?_
  refine wSeq ?_
  obtain ⟨y1, hy1, h⟩ := bd h
  refine rg (cp (oMv tm) (s1 rfl) <| cp (oCall rfl (rule_Uses.ok hy1) b87 (opds_cons tm opds_nil)) (s1 rfl) <| cp (oMv tm) (s1 rfl) <| cp (oExt (k := 0) rfl tm) (s1 rfl) <| cp (oExt (k := 1) rfl tm) (s1 rfl) <| cp (oAs tm) (s1 rfl) <| cp (oAs tm) (s1 rfl) <| .nil) (by kernel_rfl) ?_
  refine pSeq ?_
  obtain ⟨o1, h, hk1⟩ := bd h
  refine wJ1 (fun x5 => x5 = o1) (fun x5 => [(4, .d (kB.sig x5))]) (fun x5 => []) ?_ ?_
  · rcases ic h with ⟨hp6, h⟩ | ⟨hp6, h⟩
    · obtain ⟨y7, hy7, h⟩ := bd h
      obtain ⟨hc8, h⟩ := ib h
      refine rg (cp (oMv tm) (s1 rfl) <| cp (oEq rfl tm (cI (by decide))) (s1 rfl) <| cp (oMv tm) (s1 rfl) <| cgB (decide_eq_true hp6) rfl rfl (oMv tm) (s1 rfl) <| cgB (decide_eq_true hp6) rfl rfl (oMv tm) (s1 rfl) <| cgB (decide_eq_true hp6) rfl rfl (oIdxG gm0 u141 rfl z3 hy7 tm) (s1 rfl) <| cgB (decide_eq_true hp6) rfl rfl (oLd t3 tm) (s1 rfl) <| cgB (decide_eq_true hp6) rfl rfl (oAdd tm (cI (by decide))) (s1 rfl) <| cgB (decide_eq_true hp6) rfl rfl (oShr hc8 tm tm) (s2 rfl rfl) <| cgB (decide_eq_true hp6) rfl rfl (oEq rfl tm (cI (by decide))) (s1 rfl) <| cp (oPkT (decide_eq_true hp6) tm tm) (s2 rfl rfl) <| cp (oAs tm) (s1 rfl) <| .nil) (by kernel_rfl) ?_
      exact pJ1 _ (so h) ⟨rfl, trivial⟩ rfl
    · refine rg (cp (oMv tm) (s1 rfl) <| cp (oEq rfl tm (cI (by decide))) (s1 rfl) <| cp (oMv tm) (s1 rfl) <| csB (decide_eq_false hp6) rfl rfl <| csB (decide_eq_false hp6) rfl rfl <| csB (decide_eq_false hp6) rfl rfl <| csB (decide_eq_false hp6) rfl rfl <| csB (decide_eq_false hp6) rfl rfl <| csB (decide_eq_false hp6) rfl rfl <| csB (decide_eq_false hp6) rfl rfl <| cp (oPkF (decide_eq_false hp6) tm cB) (s1 rfl) <| cp (oAs tm) (s1 rfl) <| .nil) (by kernel_rfl) ?_
      exact pJ1 _ (so h) ⟨rfl, trivial⟩ rfl
  · rintro x5 rfl
    replace h := hk1
    refine wRet ?_
    obtain rfl := so h
    exact pR1 (.inl rfl) rfl (.tmp rfl <| .nil)

theorem table_suits.ok {a0 : Int} {a1 : api_Row} {r : Bool} (h : table_suits.f a0 a1 = some r) : FnA Tryd.prog 43 [(kI .i64).sig a0, (kR f_api_Row).sig a1] (kB.sig r) := by
  refine fnIntro Tryd.func43 rfl (by kernel_rfl) fun H0 w0 => ?_
  unfold table_suits.f at h
  refine wSeq ?_
  refine rg (cp (oBox tm) (s1 rfl) <| cp (oAs cB) trivial <| .nil) (by kernel_rfl) ?_
  refine pSeq ?_
  obtain ⟨o1, h, hk1⟩ := bd h
  refine wJ1 (fun x6 => x6 = o1) (fun x6 => [(4, .d (kB.sig x6))]) (fun x6 => []) ?_ ?_
  · obtain ⟨y7, hy7, h⟩ := bd h
    rcases ic h with ⟨hp8, h⟩ | ⟨hp8, h⟩
    · obtain ⟨y9, hy9, h⟩ := bd h
      rcases ic h with ⟨hp10, h⟩ | ⟨hp10, h⟩
      · obtain ⟨y11, hy11, h⟩ := bd h
        refine rg (cp (oMv tm) (s1 rfl) <| cp (oFld (fs := f_api_Row) (k := 0) rfl o46_0 tm) (s1 rfl) <| cp (oLd t44 tm) (s1 rfl) <| cp (oCall rfl (table_has.ok hy7) b65 (opds_cons tm (opds_cons tm opds_nil))) (s2 rfl rfl) <| cp (oMv tm) (s1 rfl) <| cgB hp8 rfl rfl (oMv tm) (s1 rfl) <| cgB hp8 rfl rfl (oFld (fs := f_api_Row) (k := 1) rfl o46_1 tm) (s1 rfl) <| cgB hp8 rfl rfl (oLd t44 tm) (s1 rfl) <| cgB hp8 rfl rfl (oCall rfl (table_has.ok hy9) b65 (opds_cons tm (opds_cons tm opds_nil))) (s2 rfl rfl) <| cp (oPkT hp8 tm tm) (s2 rfl rfl) <| cp (oMv tm) (s1 rfl) <| cgB hp10 rfl rfl (oMv tm) (s1 rfl) <| cgB hp10 rfl rfl (oFld (fs := f_api_Row) (k := 2) rfl o46_2 tm) (s1 rfl) <| cgB hp10 rfl rfl (oLd t44 tm) (s1 rfl) <| cgB hp10 rfl rfl (oCall rfl (table_has.ok hy11) b65 (opds_cons tm (opds_cons tm opds_nil))) (s2 rfl rfl) <| cp (oPkT hp10 tm tm) (s2 rfl rfl) <| cp (oAs tm) (s1 rfl) <| .nil) (by kernel_rfl) ?_
        exact pJ1 _ (so h) ⟨rfl, trivial⟩ rfl
      · refine rg (cp (oMv tm) (s1 rfl) <| cp (oFld (fs := f_api_Row) (k := 0) rfl o46_0 tm) (s1 rfl) <| cp (oLd t44 tm) (s1 rfl) <| cp (oCall rfl (table_has.ok hy7) b65 (opds_cons tm (opds_cons tm opds_nil))) (s2 rfl rfl) <| cp (oMv tm) (s1 rfl) <| cgB hp8 rfl rfl (oMv tm) (s1 rfl) <| cgB hp8 rfl rfl (oFld (fs := f_api_Row) (k := 1) rfl o46_1 tm) (s1 rfl) <| cgB hp8 rfl rfl (oLd t44 tm) (s1 rfl) <| cgB hp8 rfl rfl (oCall rfl (table_has.ok hy9) b65 (opds_cons tm (opds_cons tm opds_nil))) (s2 rfl rfl) <| cp (oPkT hp8 tm tm) (s2 rfl rfl) <| cp (oMv tm) (s1 rfl) <| csB (nb hp10) rfl rfl <| csB (nb hp10) rfl rfl <| csB (nb hp10) rfl rfl <| csB (nb hp10) rfl rfl <| cp (oPkF (nb hp10) tm cB) (s1 rfl) <| cp (oAs tm) (s1 rfl) <| .nil) (by kernel_rfl) ?_
        exact pJ1 _ (so h) ⟨rfl, trivial⟩ rfl
    · refine rg (cp (oMv tm) (s1 rfl) <| cp (oFld (fs := f_api_Row) (k := 0) rfl o46_0 tm) (s1 rfl) <| cp (oLd t44 tm) (s1 rfl) <| cp (oCall rfl (table_has.ok hy7) b65 (opds_cons tm (opds_cons tm opds_nil))) (s2 rfl rfl) <| cp (oMv tm) (s1 rfl) <| csB (nb hp8) rfl rfl <| csB (nb hp8) rfl rfl <| csB (nb hp8) rfl rfl <| csB (nb hp8) rfl rfl <| cp (oPkF (nb hp8) tm cB) (s1 rfl) <| cp (oMv tm) (s1 rfl) <| csB rfl rfl rfl <| csB rfl rfl rfl <| csB rfl rfl rfl <| csB rfl rfl rfl <| cp (oPkF rfl tm cB) (s1 rfl) <| cp (oAs tm) (s1 rfl) <| .nil) (by kernel_rfl) ?_
      exact pJ1 _ (so h) ⟨rfl, trivial⟩ rfl
  · rintro x6 rfl
    replace h := hk1
    refine wRet ?_
    obtain rfl := so h
    exact pR1 (.inl rfl) rfl (.tmp rfl <| .nil)

theorem table_Check.ok {a0 : api_Table} {r : Int × Int} (h : table_Check.f a0 = some r) : FnA Tryd.prog 23 [(kR f_api_Table).sig a0] (tup [(kI .i64).sig r.1, (kI .i64).sig r.2]) := by
  refine fnIntro Tryd.func23 rfl (by kernel_rfl) fun H0 w0 => ?_
  unfold table_Check.f at h
  refine wSeq ?_
  refine rg (cp (oBox tm) (s1 rfl) <| cp (oAs (cI (by decide))) trivial <| cp (oAs (cI (by decide))) trivial <| .nil) (by kernel_rfl) ?_
  refine pSeq ?_
  refine wSeq ?_
  refine wSeq ?_
  refine rg (cp (oFld (fs := f_api_Table) (k := 0) rfl o28_0 tm) (s1 rfl) <| cp (oLd t26 tm) (s1 rfl) <| cp (oLenL u26 tm) (s1 rfl) <| cp (oNe rfl tm (cI (by decide))) (s1 rfl) <| .nil) (by kernel_rfl) ?_
  refine pSeq ?_
  rcases ic h with ⟨hp1, h⟩ | ⟨hp1, h⟩
  · refine wNT hp1 tm (s1 rfl) ?_
    refine wSkip ?_
    refine pSeq ?_
    refine wSeq ?_
    refine wSeq ?_
    refine rg (cp (oFld (fs := f_api_Table) (k := 0) rfl o28_0 tm) (s1 rfl) <| cp (oLd t26 tm) (s1 rfl) <| cp (oLenL u26 tm) (s1 rfl) <| cp (oMv (cI (by decide))) trivial <| .nil) (by kernel_rfl) ?_
    refine pSeq ?_
    obtain ⟨o1, h, hk1⟩ := bd h
    refine wK0 (.inr () = o1) ([]) ([]) ?_ ?_
    · refine wBlock (wLoop ?_)
      refine lW (pc1 o1 (fun v14 => [(11, .d ((kL (kR f_api_Row)).sig a0.Rows)), (12, .d ((kI .i64).sig (a0.Rows.length : Int))), (13, .d ((kI .i64).sig v14))]) (fun v14 => []) (table_Check.l0.partial_correctness a0) ?_ _ h) ⟨rfl, rfl, rfl, trivial⟩ rfl
      clear h
      intro f' ih v14 h
      refine wSeq ?_
      refine rg (cp (oLt rfl tm tm) (s2 rfl rfl) <| .nil) (by kernel_rfl) ?_
      refine pSeq ?_
      refine wSeq ?_
      rcases ic h with ⟨hp15, h⟩ | ⟨hp15, h⟩
      · refine wCT hp15 tm (s1 rfl) ?_
        refine wSkip ?_
        refine pSeq ?_
        refine wSeq ?_
        refine wBlock ?_
        refine wSeq ?_
        obtain ⟨y16, hy16, h⟩ := bd h
        refine rg (cp (oMv tm) (s1 rfl) <| cp (oIdx u26 z46 hy16 tm tm) (s2 rfl rfl) <| cp (oLd t46 tm) (s1 rfl) <| cw (oAlloc (id := 5) (ls := [.d (kL (kI .i64)) [], .d (kL (kI .i64)) [], .d (kL (kI .i64)) []]) ze46 (fun g => ⟨[(.slice none 0 0)], _, rfl, zL g.H, ⟨[(.slice none 0 0)], _, rfl, zL g.H, ⟨[(.slice none 0 0)], _, rfl, zL g.H, rfl⟩⟩⟩)) trivial <| cp (oAs tm) (s1 rfl) <| cwn (oStA (n := 0) (fs := f_api_Row) rfl rfl z46 tm tm) (s2 rfl rfl) <| .nil) (by kernel_rfl) ?_
        refine pSeq ?_
        refine wBlock ?_
        refine wSeq ?_
        obtain ⟨y17, hy17, h⟩ := bd h
        refine rg (cr (oLdA (n := 0) (fs := f_api_Row) (u := ⟨y16.May, y16.Res, y16.Pc⟩) rfl ⟨rfl, rfl, rfl, trivial⟩ t46 tm) (s1 rfl) <| cp (oCall rfl (table_right.ok hy17) b42 (opds_cons tm opds_nil)) (s1 rfl) <| cp (oNot tm) (s1 rfl) <| cp (oAs tm) (s1 rfl) <| .nil) (by kernel_rfl) ?_
        refine pSeq ?_
        rcases ic h with ⟨hp18, h⟩ | ⟨hp18, h⟩
        · refine wBT hp18 tm (s1 rfl) ?_
          refine wSeq ?_
          refine rg (cp (oMv tm) (s1 rfl) <| cp (oAs tm) (s1 rfl) <| cp (oAs (cI (by decide))) trivial <| .nil) (by kernel_rfl) ?_
          refine pSeq ?_
          refine wRet ?_
          refine pBlkR ?_
          refine pBlkR ?_
          refine pThenR ?_
          refine pThenR ?_
          refine pBlkR ?_
          refine pThenR ?_
          obtain rfl := so h
          replace h := hk1
          refine pThenR ?_
          obtain rfl := so h
          exact pRn (.inl rfl) rfl rfl (.tmp rfl <| .tmp rfl <| .nil)
        · refine wBF hp18 tm (s1 rfl) ?_
          refine wSeq ?_
          obtain ⟨y19, hy19, h⟩ := bd h
          refine rg (cp (oMv tm) (s1 rfl) <| cr (oLdA (n := 0) (fs := f_api_Row) (u := ⟨y16.May, y16.Res, y16.Pc⟩) rfl ⟨rfl, rfl, rfl, trivial⟩ t46 tm) (s1 rfl) <| cp (oCall rfl (table_suits.ok hy19) b43 (opds_cons tm (opds_cons tm opds_nil))) (s2 rfl rfl) <| cp (oNot tm) (s1 rfl) <| cp (oAs tm) (s1 rfl) <| .nil) (by kernel_rfl) ?_
          refine pSeq ?_
          rcases ic h with ⟨hp20, h⟩ | ⟨hp20, h⟩
          · refine wBT hp20 tm (s1 rfl) ?_
            refine wSeq ?_
            refine rg (cp (oMv tm) (s1 rfl) <| cp (oAs tm) (s1 rfl) <| cp (oAs (cI (by decide))) trivial <| .nil) (by kernel_rfl) ?_
            refine pSeq ?_
            refine wRet ?_
            refine pBlkR ?_
            refine pBlkR ?_
            refine pThenR ?_
            refine pThenR ?_
            refine pBlkR ?_
            refine pThenR ?_
            obtain rfl := so h
            replace h := hk1
            refine pThenR ?_
            obtain rfl := so h
            exact pRn (.inl rfl) rfl rfl (.tmp rfl <| .tmp rfl <| .nil)
          · refine wBF hp20 tm (s1 rfl) ?_
            refine wSkip ?_
            refine pBlkN ?_
            refine pBlkN ?_
            refine pSeq ?_
            refine rg (cp (oAdd tm (cI (by decide))) (s1 rfl) <| cp (oMv tm) (s1 rfl) <| .nil) (by kernel_rfl) ?_
            refine pDrop (.cons _ .slnil) ?_
            exact pLoop (lW (ih _ h) ⟨rfl, rfl, rfl, trivial⟩ rfl)
      · refine wCF hp15 tm (s1 rfl) ?_
        refine wExit ?_
        refine pThenX ?_
        refine pThenX ?_
        refine pBlkX ?_
        exact pJ0 (so h) trivial rfl
    · rintro rfl
      replace h := hk1
      refine pSeq ?_
      refine wSeq ?_
      refine rg (cp (oAs (cI (by decide))) trivial <| cp (oAs (cI (by decide))) trivial <| .nil) (by kernel_rfl) ?_
      refine pSeq ?_
      refine wRet ?_
      obtain rfl := so h
      exact pRn (.inl rfl) rfl rfl (.tmp rfl <| .tmp rfl <| .nil)
  · refine wNF hp1 tm (s1 rfl) ?_
    refine wSeq ?_
    refine rg (cp (oAs (cI (by decide))) trivial <| cp (oAs (cI (by decide))) trivial <| .nil) (by kernel_rfl) ?_
    refine pSeq ?_
    refine wRet ?_
    refine pThenR ?_
    obtain rfl := so h
    exact pRn (.inl rfl) rfl rfl (.tmp rfl <| .tmp rfl <| .nil)

theorem state_value.ok {a0 : Int} {r : Bool} (h : state_value.f a0 = some r) : FnA Tryd.prog 29 [(kI .i64).sig a0] (kB.sig r) := by
  refine fnIntro Tryd.func29 rfl (by kernel_rfl) fun H0 w0 => ?_
  unfold state_value.f at h
  refine wSeq ?_
  refine rg (cp (oAs cB) trivial <| .nil) (by kernel_rfl) ?_
  refine pSeq ?_
  obtain ⟨o1, h, hk1⟩ := bd h
  refine wJ1 (fun x2 => x2 = o1) (fun x2 => [(2, .d (kB.sig x2))]) (fun x2 => []) ?_ ?_
  · rcases ic h with ⟨hp3, h⟩ | ⟨hp3, h⟩
    · refine rg (cp (oMv tm) (s1 rfl) <| cp (oGe rfl tm (cI (by decide))) (s1 rfl) <| cp (oMv tm) (s1 rfl) <| cgB (decide_eq_true hp3) rfl rfl (oMv tm) (s1 rfl) <| cgB (decide_eq_true hp3) rfl rfl (oLe rfl tm (cI (by decide))) (s1 rfl) <| cp (oPkT (decide_eq_true hp3) tm tm) (s2 rfl rfl) <| cp (oAs tm) (s1 rfl) <| .nil) (by kernel_rfl) ?_
      exact pJ1 _ (so h) ⟨rfl, trivial⟩ rfl
    · refine rg (cp (oMv tm) (s1 rfl) <| cp (oGe rfl tm (cI (by decide))) (s1 rfl) <| cp (oMv tm) (s1 rfl) <| csB (decide_eq_false hp3) rfl rfl <| csB (decide_eq_false hp3) rfl rfl <| cp (oPkF (decide_eq_false hp3) tm cB) (s1 rfl) <| cp (oAs tm) (s1 rfl) <| .nil) (by kernel_rfl) ?_
      exact pJ1 _ (so h) ⟨rfl, trivial⟩ rfl
  · rintro x2 rfl
    replace h := hk1
    refine wRet ?_
    obtain rfl := so h
    exact pR1 (.inl rfl) rfl (.tmp rfl <| .nil)

theorem state_place.ok {a0 : Int} {r : Bool} (h : state_place.f a0 = some r) : FnA Tryd.prog 31 [(kI .i64).sig a0] (kB.sig r) := by
  refine fnIntro Tryd.func31 rfl (by kernel_rfl) fun H0 w0 => ?_
  unfold state_place.f at h
  refine wSeq ?_
  refine rg (cp (oAs cB) trivial <| .nil) (by kernel_rfl) ?_
  refine pSeq ?_
  obtain ⟨o1, h, hk1⟩ := bd h
  refine wJ1 (fun x2 => x2 = o1) (fun x2 => [(2, .d (kB.sig x2))]) (fun x2 => []) ?_ ?_
  · rcases ic h with ⟨hp3, h⟩ | ⟨hp3, h⟩
    · refine rg (cp (oMv tm) (s1 rfl) <| cp (oGe rfl tm (cI (by decide))) (s1 rfl) <| cp (oMv tm) (s1 rfl) <| cgB (decide_eq_true hp3) rfl rfl (oMv tm) (s1 rfl) <| cgB (decide_eq_true hp3) rfl rfl (oLe rfl tm (cI (by decide))) (s1 rfl) <| cp (oPkT (decide_eq_true hp3) tm tm) (s2 rfl rfl) <| cp (oAs tm) (s1 rfl) <| .nil) (by kernel_rfl) ?_
      exact pJ1 _ (so h) ⟨rfl, trivial⟩ rfl
    · refine rg (cp (oMv tm) (s1 rfl) <| cp (oGe rfl tm (cI (by decide))) (s1 rfl) <| cp (oMv tm) (s1 rfl) <| csB (decide_eq_false hp3) rfl rfl <| csB (decide_eq_false hp3) rfl rfl <| cp (oPkF (decide_eq_false hp3) tm cB) (s1 rfl) <| cp (oAs tm) (s1 rfl) <| .nil) (by kernel_rfl) ?_
      exact pJ1 _ (so h) ⟨rfl, trivial⟩ rfl
  · rintro x2 rfl
    replace h := hk1
    refine wRet ?_
    obtain rfl := so h
    exact pR1 (.inl rfl) rfl (.tmp rfl <| .nil)

theorem code_spans_1_1.ok {a0 : Int} {a1 : Int} {a2 : Int} {r : Bool} (h : code_spans_1_1.f a0 a1 a2 = some r) : FnA Tryd.prog 99 [(kI .i64).sig a0, sP (kI .i64) a1, sP (kI .i64) a2] (kB.sig r) := by
  refine fnIntro Tryd.func99 rfl (by kernel_rfl) fun H0 w0 => ?_
  unfold code_spans_1_1.f at h
  refine wSeq ?_
  refine rg (cp (oAs cB) trivial <| .nil) (by kernel_rfl) ?_
  refine pSeq ?_
  obtain ⟨o1, h, hk1⟩ := bd h
  refine wJ1 (fun x2 => x2 = o1) (fun x2 => [(4, .d (kB.sig x2))]) (fun x2 => []) ?_ ?_
  · rcases ic h with ⟨hp3, h⟩ | ⟨hp3, h⟩
    · refine rg (cp (oMv tm) (s1 rfl) <| cp (oLd t3 tm) (s1 rfl) <| cp (oGe rfl tm tm) (s2 rfl rfl) <| cp (oMv tm) (s1 rfl) <| cgB (decide_eq_true hp3) rfl rfl (oMv tm) (s1 rfl) <| cgB (decide_eq_true hp3) rfl rfl (oLd t3 tm) (s1 rfl) <| cgB (decide_eq_true hp3) rfl rfl (oLe rfl tm tm) (s2 rfl rfl) <| cp (oPkT (decide_eq_true hp3) tm tm) (s2 rfl rfl) <| cp (oAs tm) (s1 rfl) <| .nil) (by kernel_rfl) ?_
      exact pJ1 _ (so h) ⟨rfl, trivial⟩ rfl
    · refine rg (cp (oMv tm) (s1 rfl) <| cp (oLd t3 tm) (s1 rfl) <| cp (oGe rfl tm tm) (s2 rfl rfl) <| cp (oMv tm) (s1 rfl) <| csB (decide_eq_false hp3) rfl rfl <| csB (decide_eq_false hp3) rfl rfl <| csB (decide_eq_false hp3) rfl rfl <| cp (oPkF (decide_eq_false hp3) tm cB) (s1 rfl) <| cp (oAs tm) (s1 rfl) <| .nil) (by kernel_rfl) ?_
      exact pJ1 _ (so h) ⟨rfl, trivial⟩ rfl
  · rintro x2 rfl
    replace h := hk1
    refine wRet ?_
    obtain rfl := so h
    exact pR1 (.inl rfl) rfl (.tmp rfl <| .nil)

theorem code_spans_1.ok {a0 : Int} {a1 : Int} {r : Int → Option Bool} (h : code_spans_1.f a0 a1 = some r) : FnA Tryd.prog 98 [(kI .i64).sig a0, (kI .i64).sig a1] ((sFun Tryd.prog (rl1 (kI .i64) kB r))) := by
  refine fnIntro Tryd.func98 rfl (by kernel_rfl) fun H0 w0 => ?_
  unfold code_spans_1.f at h
  refine wSeq ?_
  refine rg (cp (oBox tm) (s1 rfl) <| cp (oBox tm) (s1 rfl) <| cp (oAs cV) trivial <| .nil) (by kernel_rfl) ?_
  refine pSeq ?_
  refine wSeq ?_
  refine rg (cp (oMkF (Rl := rl1 (kI .i64) kB (fun z0 => code_spans_1_1.f z0 a0 a1)) rfl b99 (rl1e code_spans_1_1.ok) (opds_cons tm (opds_cons tm opds_nil))) (s2 rfl rfl) <| cp (oAs tm) (s1 rfl) <| .nil) (by kernel_rfl) ?_
  refine pSeq ?_
  refine wRet ?_
  obtain rfl := so h
  exact pR1 (.inl rfl) rfl (.tmp rfl <| .nil)

theorem code_spans.ok {r : List (Int × (Option (Int → Option Bool)))} (h : code_spans.f = some r) : FnA Tryd.prog 83 [] ((sMap (kI .i64) (kFn Tryd.prog (rl1 (kI .i64) kB)) r)) := by
  refine fnIntro Tryd.func83 rfl (by kernel_rfl) fun H0 w0 => ?_
  unfold code_spans.f at h
  refine wSeq ?_
  refine rg (cp (oAs cV) trivial <| .nil) (by kernel_rfl) ?_
  refine pSeq ?_
  refine wSeq ?_
  refine rg (cp (oAs (oFn b98 (rl2sn (o := (fun r => (sFun Tryd.prog (rl1 (kI .i64) kB r)))) code_spans_1.ok))) trivial <| .nil) (by kernel_rfl) ?_
  refine pSeq ?_
  refine wSeq ?_
  obtain ⟨y1, hy1, h⟩ := bd h
  obtain ⟨y2, hy2, h⟩ := bd h
  obtain ⟨y3, hy3, h⟩ := bd h
  obtain ⟨y4, hy4, h⟩ := bd h
  refine rg (cw (oMkMap (id := 2) (dk := (kI .i64)) (dv := (kFn Tryd.prog (rl1 (kI .i64) kB)))) trivial <| cp (oMv tm) (s1 rfl) <| cp (oCallV rfl (rl2si (o := (fun r => (sFun Tryd.prog (rl1 (kI .i64) kB r)))) (f := code_spans_1.f) hy1) tm (opds_cons (cI (by decide)) (opds_cons (cI (by decide)) opds_nil))) (s1 rfl) <| cwn (oInsert (n := 0) (dk := (kI .i64)) (dv := (kFn Tryd.prog (rl1 (kI .i64) kB))) rfl u132 mk3 rfl rfl tm (cI (by decide)) (oSome tm)) (s2 rfl rfl) <| cp (oMv tm) (s1 rfl) <| cp (oCallV rfl (rl2si (o := (fun r => (sFun Tryd.prog (rl1 (kI .i64) kB r)))) (f := code_spans_1.f) hy2) tm (opds_cons (cI (by decide)) (opds_cons (cI (by decide)) opds_nil))) (s1 rfl) <| cwn (oInsert (n := 0) (dk := (kI .i64)) (dv := (kFn Tryd.prog (rl1 (kI .i64) kB))) rfl u132 mk3 rfl rfl tm (cI (by decide)) (oSome tm)) (s2 rfl rfl) <| cp (oMv tm) (s1 rfl) <| cp (oCallV rfl (rl2si (o := (fun r => (sFun Tryd.prog (rl1 (kI .i64) kB r)))) (f := code_spans_1.f) hy3) tm (opds_cons (cI (by decide)) (opds_cons (cI (by decide)) opds_nil))) (s1 rfl) <| cwn (oInsert (n := 0) (dk := (kI .i64)) (dv := (kFn Tryd.prog (rl1 (kI .i64) kB))) rfl u132 mk3 rfl rfl tm (cI (by decide)) (oSome tm)) (s2 rfl rfl) <| cp (oMv tm) (s1 rfl) <| cp (oCallV rfl (rl2si (o := (fun r => (sFun Tryd.prog (rl1 (kI .i64) kB r)))) (f := code_spans_1.f) hy4) tm (opds_cons (cI (by decide)) (opds_cons (cI (by decide)) opds_nil))) (s1 rfl) <| cwn (oInsert (n := 0) (dk := (kI .i64)) (dv := (kFn Tryd.prog (rl1 (kI .i64) kB))) rfl u132 mk3 rfl rfl tm (cI (by decide)) (oSome tm)) (s2 rfl rfl) <| cp (oMv tm) (s1 rfl) <| cp (oAs tm) (s1 rfl) <| .nil) (by kernel_rfl) ?_
  refine pSeq ?_
  refine wFrzM (n := 0) (id := 2) 0 rfl rfl ?_
  refine wRet ?_
  obtain rfl := so h
  exact pR1 (.inl rfl) rfl (.tmp rfl <| .nil)

theorem code_right.ok {a0 : Int} {a1 : api_Instr} {r : Bool} (h : code_right.f a0 a1 = some r) : FnA Tryd.prog 52 [(kI .i64).sig a0, (kR f_api_Instr).sig a1] (kB.sig r) := by
  refine fnIntro Tryd.func52 rfl (by kernel_rfl) fun H0 w0 => ?_
  unfold code_right.f at h
  refine wSeq ?_
  refine rg (cp (oBox tm) (s1 rfl) <| cp (oAs cB) trivial <| .nil) (by kernel_rfl) ?_
  refine pSeq ?_
  refine wSeq ?_
  obtain ⟨o1, h, hk1⟩ := bd h
  refine wJ1 (fun x2 => x2 = o1) (fun x2 => [(0, .d ((kI .i64).sig a0)), (3, .d (sP (kR f_api_Instr) a1)), (14, .d (kB.sig x2))]) (fun x2 => []) ?_ ?_
  · rcases ic h with ⟨hp3, h⟩ | ⟨hp3, h⟩
    · refine rg (cp (oFld (fs := f_api_Instr) (k := 0) rfl o48_0 tm) (s1 rfl) <| cp (oLd t3 tm) (s1 rfl) <| cp (oLt rfl tm (cI (by decide))) (s1 rfl) <| cp (oMv tm) (s1 rfl) <| csB (decide_eq_true hp3) rfl rfl <| csB (decide_eq_true hp3) rfl rfl <| csB (decide_eq_true hp3) rfl rfl <| cp (oPkT (decide_eq_true hp3) tm cB) (s1 rfl) <| .nil) (by kernel_rfl) ?_
      exact pJ1 _ (so h) ⟨rfl, rfl, rfl, trivial⟩ rfl
    · refine rg (cp (oFld (fs := f_api_Instr) (k := 0) rfl o48_0 tm) (s1 rfl) <| cp (oLd t3 tm) (s1 rfl) <| cp (oLt rfl tm (cI (by decide))) (s1 rfl) <| cp (oMv tm) (s1 rfl) <| cgB (decide_eq_false hp3) rfl rfl (oFld (fs := f_api_Instr) (k := 0) rfl o48_0 tm) (s1 rfl) <| cgB (decide_eq_false hp3) rfl rfl (oLd t3 tm) (s1 rfl) <| cgB (decide_eq_false hp3) rfl rfl (oGe rfl tm (cI (by decide))) (s1 rfl) <| cp (oPkF (decide_eq_false hp3) tm tm) (s2 rfl rfl) <| .nil) (by kernel_rfl) ?_
      exact pJ1 _ (so h) ⟨rfl, rfl, rfl, trivial⟩ rfl
  · rintro x2 rfl
    replace h := hk1
    rcases ic h with ⟨hp4, h⟩ | ⟨hp4, h⟩
    · refine wBT hp4 tm (s1 rfl) ?_
      refine wSeq ?_
      refine rg (cp (oAs cB) trivial <| .nil) (by kernel_rfl) ?_
      refine pSeq ?_
      refine wRet ?_
      refine pThenR ?_
      obtain rfl := so h
      exact pR1 (.inl rfl) rfl (.tmp rfl <| .nil)
    · refine wBF hp4 tm (s1 rfl) ?_
      refine wSkip ?_
      refine pSeq ?_
      refine wSeq ?_
      refine wSeq ?_
      obtain ⟨y5, hy5, h⟩ := bd h
      refine rgD hm (cp (oCall rfl (code_spans.ok hy5) b83 opds_nil) trivial <| cp (oFld (fs := f_api_Instr) (k := 0) rfl o48_0 tm) (s1 rfl) <| cp (oLd t3 tm) (s1 rfl) <| cp (oLookup u132 mk3 zv69 zFn rfl tm tm) (s2 rfl rfl) <| cp (oMv tm) (s1 rfl) <| cp (oExt (k := 0) rfl tm) (s1 rfl) <| cp (oExt (k := 1) rfl tm) (s1 rfl) <| cp (oAs tm) (s1 rfl) <| cp (oAs tm) (s1 rfl) <| .nil) (by kernel_rfl) (by kernel_rfl) ?_
      refine pSeq ?_
      obtain ⟨o1, h, hk1⟩ := bd h
      refine wJ1 (fun x12 => x12 = o1) (fun x12 => [(0, .d ((kI .i64).sig a0)), (3, .d (sP (kR f_api_Instr) a1)), (38, .d (kB.sig x12))]) (fun x12 => []) ?_ ?_
      · rcases ic h with ⟨hp13, h⟩ | ⟨hp13, h⟩
        · obtain ⟨y14, hy14, h⟩ := bd h
          obtain ⟨y15, hy15, h⟩ := bd h
          rcases ic h with ⟨hp16, h⟩ | ⟨hp16, h⟩
          · refine rg (cp (oMv tm) (s1 rfl) <| cp (oMv tm) (s1 rfl) <| cgB hp13 rfl rfl (oMv tm) (s1 rfl) <| cgB hp13 rfl rfl (oFld (fs := f_api_Instr) (k := 1) rfl o48_1 tm) (s1 rfl) <| cgB hp13 rfl rfl (oLd t3 tm) (s1 rfl) <| cgB hp13 rfl rfl (oCallV rfl (rl1i (f := y14) hy15) (oGot hy14 tm) (opds_cons tm opds_nil)) (s2 rfl rfl) <| cgB hp13 rfl rfl (oNot tm) (s1 rfl) <| cp (oPkT hp13 tm tm) (s2 rfl rfl) <| cp (oMv tm) (s1 rfl) <| csB hp16 rfl rfl <| csB hp16 rfl rfl <| csB hp16 rfl rfl <| csU rfl rfl <| csU rfl rfl <| csU rfl rfl <| csB hp16 rfl rfl <| cp (oPkT hp16 tm cB) (s1 rfl) <| .nil) (by kernel_rfl) ?_
            exact pJ1 _ (so h) ⟨rfl, rfl, rfl, trivial⟩ rfl
          · rcases ic h with ⟨hp17, h⟩ | ⟨hp17, h⟩
            · refine rg (cp (oMv tm) (s1 rfl) <| cp (oMv tm) (s1 rfl) <| cgB hp13 rfl rfl (oMv tm) (s1 rfl) <| cgB hp13 rfl rfl (oFld (fs := f_api_Instr) (k := 1) rfl o48_1 tm) (s1 rfl) <| cgB hp13 rfl rfl (oLd t3 tm) (s1 rfl) <| cgB hp13 rfl rfl (oCallV rfl (rl1i (f := y14) hy15) (oGot hy14 tm) (opds_cons tm opds_nil)) (s2 rfl rfl) <| cgB hp13 rfl rfl (oNot tm) (s1 rfl) <| cp (oPkT hp13 tm tm) (s2 rfl rfl) <| cp (oMv tm) (s1 rfl) <| cgB (nb hp16) rfl rfl (oMv tm) (s1 rfl) <| cgB (nb hp16) rfl rfl (oNot tm) (s1 rfl) <| cgB (nb hp16) rfl rfl (oMv tm) (s1 rfl) <| cgB hp17 rfl rfl (oFld (fs := f_api_Instr) (k := 1) rfl o48_1 tm) (s1 rfl) <| cgB hp17 rfl rfl (oLd t3 tm) (s1 rfl) <| cgB hp17 rfl rfl (oNe rfl tm (cI (by decide))) (s1 rfl) <| cgB (nb hp16) rfl rfl (oPkT hp17 tm tm) (s2 rfl rfl) <| cp (oPkF (nb hp16) tm tm) (s2 rfl rfl) <| .nil) (by kernel_rfl) ?_
              exact pJ1 _ (so h) ⟨rfl, rfl, rfl, trivial⟩ rfl
            · refine rg (cp (oMv tm) (s1 rfl) <| cp (oMv tm) (s1 rfl) <| cgB hp13 rfl rfl (oMv tm) (s1 rfl) <| cgB hp13 rfl rfl (oFld (fs := f_api_Instr) (k := 1) rfl o48_1 tm) (s1 rfl) <| cgB hp13 rfl rfl (oLd t3 tm) (s1 rfl) <| cgB hp13 rfl rfl (oCallV rfl (rl1i (f := y14) hy15) (oGot hy14 tm) (opds_cons tm opds_nil)) (s2 rfl rfl) <| cgB hp13 rfl rfl (oNot tm) (s1 rfl) <| cp (oPkT hp13 tm tm) (s2 rfl rfl) <| cp (oMv tm) (s1 rfl) <| cgB (nb hp16) rfl rfl (oMv tm) (s1 rfl) <| cgB (nb hp16) rfl rfl (oNot tm) (s1 rfl) <| cgB (nb hp16) rfl rfl (oMv tm) (s1 rfl) <| csB (nb hp17) rfl rfl <| csB (nb hp17) rfl rfl <| csB (nb hp17) rfl rfl <| cgB (nb hp16) rfl rfl (oPkF (nb hp17) tm cB) (s1 rfl) <| cp (oPkF (nb hp16) tm tm) (s2 rfl rfl) <| .nil) (by kernel_rfl) ?_
              exact pJ1 _ (so h) ⟨rfl, rfl, rfl, trivial⟩ rfl
        · rcases ic h with ⟨hp18, h⟩ | ⟨hp18, h⟩
          · refine rg (cp (oMv tm) (s1 rfl) <| cp (oMv tm) (s1 rfl) <| csB (nb hp13) rfl rfl <| csB (nb hp13) rfl rfl <| csB (nb hp13) rfl rfl <| csB (nb hp13) rfl rfl <| csB (nb hp13) rfl rfl <| cp (oPkF (nb hp13) tm cB) (s1 rfl) <| cp (oMv tm) (s1 rfl) <| cgB rfl rfl rfl (oMv tm) (s1 rfl) <| cgB rfl rfl rfl (oNot tm) (s1 rfl) <| cgB rfl rfl rfl (oMv tm) (s1 rfl) <| cgB hp18 rfl rfl (oFld (fs := f_api_Instr) (k := 1) rfl o48_1 tm) (s1 rfl) <| cgB hp18 rfl rfl (oLd t3 tm) (s1 rfl) <| cgB hp18 rfl rfl (oNe rfl tm (cI (by decide))) (s1 rfl) <| cgB rfl rfl rfl (oPkT hp18 tm tm) (s2 rfl rfl) <| cp (oPkF rfl tm tm) (s2 rfl rfl) <| .nil) (by kernel_rfl) ?_
            exact pJ1 _ (so h) ⟨rfl, rfl, rfl, trivial⟩ rfl
          · refine rg (cp (oMv tm) (s1 rfl) <| cp (oMv tm) (s1 rfl) <| csB (nb hp13) rfl rfl <| csB (nb hp13) rfl rfl <| csB (nb hp13) rfl rfl <| csB (nb hp13) rfl rfl <| csB (nb hp13) rfl rfl <| cp (oPkF (nb hp13) tm cB) (s1 rfl) <| cp (oMv tm) (s1 rfl) <| cgB rfl rfl rfl (oMv tm) (s1 rfl) <| cgB rfl rfl rfl (oNot tm) (s1 rfl) <| cgB rfl rfl rfl (oMv tm) (s1 rfl) <| csB (nb hp18) rfl rfl <| csB (nb hp18) rfl rfl <| csB (nb hp18) rfl rfl <| cgB rfl rfl rfl (oPkF (nb hp18) tm cB) (s1 rfl) <| cp (oPkF rfl tm tm) (s2 rfl rfl) <| .nil) (by kernel_rfl) ?_
            exact pJ1 _ (so h) ⟨rfl, rfl, rfl, trivial⟩ rfl
      · rintro x12 rfl
        replace h := hk1
        rcases ic h with ⟨hp19, h⟩ | ⟨hp19, h⟩
        · refine wBT hp19 tm (s1 rfl) ?_
          refine wSeq ?_
          refine rg (cp (oAs cB) trivial <| .nil) (by kernel_rfl) ?_
          refine pSeq ?_
          refine wRet ?_
          refine pThenR ?_
          obtain rfl := so h
          exact pR1 (.inl rfl) rfl (.tmp rfl <| .nil)
        · refine wBF hp19 tm (s1 rfl) ?_
          refine wSkip ?_
          refine pSeq ?_
          refine wSeq ?_
          refine wSeq ?_
          refine rg (cp (oFld (fs := f_api_Instr) (k := 0) rfl o48_0 tm) (s1 rfl) <| cp (oLd t3 tm) (s1 rfl) <| cp (oEq rfl tm (cI (by decide))) (s1 rfl) <| .nil) (by kernel_rfl) ?_
          refine pSeq ?_
          rcases ic h with ⟨hp20, h⟩ | ⟨hp20, h⟩
          · refine wCT hp20 tm (s1 rfl) ?_
            obtain ⟨o1, h, hk1⟩ := bd h
            refine wJ1 (fun x22 => x22 = o1) (fun x22 => [(4, .d (kB.sig x22))]) (fun x22 => []) ?_ ?_
            · rcases ic h with ⟨hp23, h⟩ | ⟨hp23, h⟩
              · refine rg (cp (oFld (fs := f_api_Instr) (k := 2) rfl o48_2 tm) (s1 rfl) <| cp (oLd t3 tm) (s1 rfl) <| cp (oGe rfl tm (cI (by decide))) (s1 rfl) <| cp (oMv tm) (s1 rfl) <| cgB (decide_eq_true hp23) rfl rfl (oFld (fs := f_api_Instr) (k := 2) rfl o48_2 tm) (s1 rfl) <| cgB (decide_eq_true hp23) rfl rfl (oLd t3 tm) (s1 rfl) <| cgB (decide_eq_true hp23) rfl rfl (oMv tm) (s1 rfl) <| cgB (decide_eq_true hp23) rfl rfl (oLt rfl tm tm) (s2 rfl rfl) <| cp (oPkT (decide_eq_true hp23) tm tm) (s2 rfl rfl) <| cp (oAs tm) (s1 rfl) <| .nil) (by kernel_rfl) ?_
                exact pJ1 _ (so h) ⟨rfl, trivial⟩ rfl
              · refine rg (cp (oFld (fs := f_api_Instr) (k := 2) rfl o48_2 tm) (s1 rfl) <| cp (oLd t3 tm) (s1 rfl) <| cp (oGe rfl tm (cI (by decide))) (s1 rfl) <| cp (oMv tm) (s1 rfl) <| csB (decide_eq_false hp23) rfl rfl <| csB (decide_eq_false hp23) rfl rfl <| csB (decide_eq_false hp23) rfl rfl <| csB (decide_eq_false hp23) rfl rfl <| cp (oPkF (decide_eq_false hp23) tm cB) (s1 rfl) <| cp (oAs tm) (s1 rfl) <| .nil) (by kernel_rfl) ?_
                exact pJ1 _ (so h) ⟨rfl, trivial⟩ rfl
            · rintro x22 rfl
              replace h := hk1
              refine wRet ?_
              refine pThenR ?_
              obtain rfl := so h
              exact pR1 (.inl rfl) rfl (.tmp rfl <| .nil)
          · refine wCF hp20 tm (s1 rfl) ?_
            refine wSkip ?_
            refine pSeq ?_
            refine wSeq ?_
            refine rg (cp (oFld (fs := f_api_Instr) (k := 2) rfl o48_2 tm) (s1 rfl) <| cp (oLd t3 tm) (s1 rfl) <| cp (oEq rfl tm (cI (by decide))) (s1 rfl) <| cp (oAs tm) (s1 rfl) <| .nil) (by kernel_rfl) ?_
            refine pSeq ?_
            refine wRet ?_
            obtain rfl := so h
            exact pR1 (.inl rfl) rfl (.tmp rfl <| .nil)

theorem slices_IndexFunc_api_Instr_api_Instr.ok {a0 : List api_Instr} {a1 : api_Instr → Option Bool} {r : Int} (h : slices_IndexFunc_api_Instr_api_Instr.f a0 a1 = some r) : FnA Tryd.prog 84 [(kL (kR f_api_Instr)).sig a0, (sFun Tryd.prog (rl1 (kR f_api_Instr) kB a1))] ((kI .i64).sig r) := by
  refine fnIntro Tryd.func84 rfl (by kernel_rfl) fun H0 w0 => ?_
  unfold slices_IndexFunc_api_Instr_api_Instr.f at h
  refine wSeq ?_
  refine rg (cp (oAs (cI (by decide))) trivial <| .nil) (by kernel_rfl) ?_
  refine pSeq ?_
  refine wSeq ?_
  refine wSeq ?_
  refine rg (cp (oMv tm) (s1 rfl) <| cp (oLenL u31 tm) (s1 rfl) <| cp (oMv (cI (by decide))) trivial <| .nil) (by kernel_rfl) ?_
  refine pSeq ?_
  obtain ⟨o1, h, hk1⟩ := bd h
  refine wK0 (.inr () = o1) ([]) ([]) ?_ ?_
  · refine wBlock (wLoop ?_)
    refine lW (pc1 o1 (fun v9 => [(0, .d ((kL (kR f_api_Instr)).sig a0)), (1, .d ((sFun Tryd.prog (rl1 (kR f_api_Instr) kB a1)))), (7, .d ((kI .i64).sig (a0.length : Int))), (8, .d ((kI .i64).sig v9))]) (fun v9 => []) (slices_IndexFunc_api_Instr_api_Instr.l0.partial_correctness a0 a1) ?_ _ h) ⟨rfl, rfl, rfl, rfl, trivial⟩ rfl
    clear h
    intro f' ih v9 h
    refine wSeq ?_
    refine rg (cp (oLt rfl tm tm) (s2 rfl rfl) <| .nil) (by kernel_rfl) ?_
    refine pSeq ?_
    refine wSeq ?_
    rcases ic h with ⟨hp10, h⟩ | ⟨hp10, h⟩
    · refine wCT hp10 tm (s1 rfl) ?_
      refine wSkip ?_
      refine pSeq ?_
      refine wSeq ?_
      refine wBlock ?_
      refine wSeq ?_
      refine rg (cp (oMv tm) (s1 rfl) <| cp (oAs tm) (s1 rfl) <| .nil) (by kernel_rfl) ?_
      refine pSeq ?_
      refine wSeq ?_
      obtain ⟨y11, hy11, h⟩ := bd h
      obtain ⟨y12, hy12, h⟩ := bd h
      refine rg (cp (oMv tm) (s1 rfl) <| cp (oMv tm) (s1 rfl) <| cp (oMv tm) (s1 rfl) <| cp (oIdx u31 z48 hy11 tm tm) (s2 rfl rfl) <| cp (oLd t48 tm) (s1 rfl) <| cp (oCallV rfl (rl1i (f := a1) hy12) tm (opds_cons tm opds_nil)) (s2 rfl rfl) <| .nil) (by kernel_rfl) ?_
      refine pSeq ?_
      rcases ic h with ⟨hp13, h⟩ | ⟨hp13, h⟩
      · refine wBT hp13 tm (s1 rfl) ?_
        refine wSeq ?_
        refine rg (cp (oMv tm) (s1 rfl) <| cp (oAs tm) (s1 rfl) <| .nil) (by kernel_rfl) ?_
        refine pSeq ?_
        refine wRet ?_
        refine pBlkR ?_
        refine pThenR ?_
        refine pThenR ?_
        refine pBlkR ?_
        refine pThenR ?_
        obtain rfl := so h
        replace h := hk1
        refine pThenR ?_
        obtain rfl := so h
        exact pR1 (.inl rfl) rfl (.tmp rfl <| .nil)
      · refine wBF hp13 tm (s1 rfl) ?_
        refine wSkip ?_
        refine pBlkN ?_
        refine pSeq ?_
        refine rg (cp (oAdd tm (cI (by decide))) (s1 rfl) <| cp (oMv tm) (s1 rfl) <| .nil) (by kernel_rfl) ?_
        exact pLoop (lW (ih _ h) ⟨rfl, rfl, rfl, rfl, trivial⟩ rfl)
    · refine wCF hp10 tm (s1 rfl) ?_
      refine wExit ?_
      refine pThenX ?_
      refine pThenX ?_
      refine pBlkX ?_
      exact pJ0 (so h) trivial rfl
  · rintro rfl
    replace h := hk1
    refine pSeq ?_
    refine wSeq ?_
    refine rg (cp (oAs (cI (by decide))) trivial <| .nil) (by kernel_rfl) ?_
    refine pSeq ?_
    refine wRet ?_
    obtain rfl := so h
    exact pR1 (.inl rfl) rfl (.tmp rfl <| .nil)

theorem slices_ContainsFunc_api_Instr_api_Instr.ok {a0 : List api_Instr} {a1 : api_Instr → Option Bool} {r : Bool} (h : slices_ContainsFunc_api_Instr_api_Instr.f a0 a1 = some r) : FnA Tryd.prog 53 [(kL (kR f_api_Instr)).sig a0, (sFun Tryd.prog (rl1 (kR f_api_Instr) kB a1))] (kB.sig r) := by
  refine fnIntro Tryd.func53 rfl (by kernel_rfl) fun H0 w0 => ?_
  unfold slices_ContainsFunc_api_Instr_api_Instr.f at h
  refine wSeq ?_
  refine rg (cp (oAs cB) trivial <| .nil) (by kernel_rfl) ?_
  refine pSeq ?_
  refine wSeq ?_
  obtain ⟨y1, hy1, h⟩ := bd h
  refine rg (cp (oMv tm) (s1 rfl) <| cp (oMv tm) (s1 rfl) <| cp (oCall rfl (slices_IndexFunc_api_Instr_api_Instr.ok hy1) b84 (opds_cons tm (opds_cons tm opds_nil))) (s2 rfl rfl) <| cp (oGe rfl tm (cI (by decide))) (s1 rfl) <| cp (oAs tm) (s1 rfl) <| .nil) (by kernel_rfl) ?_
  refine pSeq ?_
  refine wRet ?_
  obtain rfl := so h
  exact pR1 (.inl rfl) rfl (.tmp rfl <| .nil)

theorem code_Right_1.ok {a0 : api_Instr} {a1 : api_Lattice} {r : Bool} (h : code_Right_1.f a0 a1 = some r) : FnA Tryd.prog 51 [(kR f_api_Instr).sig a0, sP (kR f_api_Lattice) a1] (kB.sig r) := by
  refine fnIntro Tryd.func51 rfl (by kernel_rfl) fun H0 w0 => ?_
  unfold code_Right_1.f at h
  refine wSeq ?_
  refine rg (cp (oBox tm) (s1 rfl) <| cp (oAs cB) trivial <| .nil) (by kernel_rfl) ?_
  refine pSeq ?_
  refine wSeq ?_
  obtain ⟨y1, hy1, h⟩ := bd h
  refine rg (cp (oFld (fs := f_api_Lattice) (k := 1) rfl o25_1 tm) (s1 rfl) <| cp (oLd t23 tm) (s1 rfl) <| cp (oLenL u23 tm) (s1 rfl) <| cp (oLd t48 tm) (s1 rfl) <| cp (oCall rfl (code_right.ok hy1) b52 (opds_cons tm (opds_cons tm opds_nil))) (s2 rfl rfl) <| cp (oNot tm) (s1 rfl) <| cp (oAs tm) (s1 rfl) <| .nil) (by kernel_rfl) ?_
  refine pSeq ?_
  refine wRet ?_
  obtain rfl := so h
  exact pR1 (.inl rfl) rfl (.tmp rfl <| .nil)

theorem code_Right.ok {a0 : api_Lattice} {a1 : List api_Instr} {r : Bool} (h : code_Right.f a0 a1 = some r) : FnA Tryd.prog 32 [(kR f_api_Lattice).sig a0, (kL (kR f_api_Instr)).sig a1] (kB.sig r) := by
  refine fnIntro Tryd.func32 rfl (by kernel_rfl) fun H0 w0 => ?_
  unfold code_Right.f at h
  refine wSeq ?_
  refine rg (cp (oBox tm) (s1 rfl) <| cp (oAs cB) trivial <| .nil) (by kernel_rfl) ?_
  refine pSeq ?_
  refine wSeq ?_
  refine rg (cp (oMkF (Rl := rl1 (kR f_api_Instr) kB (fun z0 => code_Right_1.f z0 a0)) rfl b51 (rl1e code_Right_1.ok) (opds_cons tm opds_nil)) (s1 rfl) <| cp (oAs tm) (s1 rfl) <| .nil) (by kernel_rfl) ?_
  refine pSeq ?_
  obtain ⟨o1, h, hk1⟩ := bd h
  refine wJ1 (fun x5 => x5 = o1) (fun x5 => [(4, .d (kB.sig x5))]) (fun x5 => []) ?_ ?_
  · obtain ⟨y6, hy6, h⟩ := bd h
    rcases ic h with ⟨hp7, h⟩ | ⟨hp7, h⟩
    · rcases ic h with ⟨hp8, h⟩ | ⟨hp8, h⟩
      · obtain ⟨y9, hy9, h⟩ := bd h
        refine rg (cp (oLd t25 tm) (s1 rfl) <| cp (oCall rfl (lattice_Check.ok hy6) b22 (opds_cons tm opds_nil)) (s1 rfl) <| cp (oEq rfl tm (cI (by decide))) (s1 rfl) <| cp (oMv tm) (s1 rfl) <| cgB (decide_eq_true hp7) rfl rfl (oMv tm) (s1 rfl) <| cgB (decide_eq_true hp7) rfl rfl (oLenL u31 tm) (s1 rfl) <| cgB (decide_eq_true hp7) rfl rfl (oLe rfl tm (cI (by decide))) (s1 rfl) <| cp (oPkT (decide_eq_true hp7) tm tm) (s2 rfl rfl) <| cp (oMv tm) (s1 rfl) <| cgB (decide_eq_true hp8) rfl rfl (oMv tm) (s1 rfl) <| cgB (decide_eq_true hp8) rfl rfl (oMv tm) (s1 rfl) <| cgB (decide_eq_true hp8) rfl rfl (oCall rfl (slices_ContainsFunc_api_Instr_api_Instr.ok hy9) b53 (opds_cons tm (opds_cons tm opds_nil))) (s2 rfl rfl) <| cgB (decide_eq_true hp8) rfl rfl (oNot tm) (s1 rfl) <| cp (oPkT (decide_eq_true hp8) tm tm) (s2 rfl rfl) <| cp (oAs tm) (s1 rfl) <| .nil) (by kernel_rfl) ?_
        exact pJ1 _ (so h) ⟨rfl, trivial⟩ rfl
      · refine rg (cp (oLd t25 tm) (s1 rfl) <| cp (oCall rfl (lattice_Check.ok hy6) b22 (opds_cons tm opds_nil)) (s1 rfl) <| cp (oEq rfl tm (cI (by decide))) (s1 rfl) <| cp (oMv tm) (s1 rfl) <| cgB (decide_eq_true hp7) rfl rfl (oMv tm) (s1 rfl) <| cgB (decide_eq_true hp7) rfl rfl (oLenL u31 tm) (s1 rfl) <| cgB (decide_eq_true hp7) rfl rfl (oLe rfl tm (cI (by decide))) (s1 rfl) <| cp (oPkT (decide_eq_true hp7) tm tm) (s2 rfl rfl) <| cp (oMv tm) (s1 rfl) <| csB (decide_eq_false hp8) rfl rfl <| csB (decide_eq_false hp8) rfl rfl <| csB (decide_eq_false hp8) rfl rfl <| csB (decide_eq_false hp8) rfl rfl <| cp (oPkF (decide_eq_false hp8) tm cB) (s1 rfl) <| cp (oAs tm) (s1 rfl) <| .nil) (by kernel_rfl) ?_
        exact pJ1 _ (so h) ⟨rfl, trivial⟩ rfl
    · refine rg (cp (oLd t25 tm) (s1 rfl) <| cp (oCall rfl (lattice_Check.ok hy6) b22 (opds_cons tm opds_nil)) (s1 rfl) <| cp (oEq rfl tm (cI (by decide))) (s1 rfl) <| cp (oMv tm) (s1 rfl) <| csB (decide_eq_false hp7) rfl rfl <| csB (decide_eq_false hp7) rfl rfl <| csB (decide_eq_false hp7) rfl rfl <| cp (oPkF (decide_eq_false hp7) tm cB) (s1 rfl) <| cp (oMv tm) (s1 rfl) <| csB rfl rfl rfl <| csB rfl rfl rfl <| csB rfl rfl rfl <| csB rfl rfl rfl <| cp (oPkF rfl tm cB) (s1 rfl) <| cp (oAs tm) (s1 rfl) <| .nil) (by kernel_rfl) ?_
      exact pJ1 _ (so h) ⟨rfl, trivial⟩ rfl
  · rintro x5 rfl
    replace h := hk1
    refine wRet ?_
    obtain rfl := so h
    exact pR1 (.inl rfl) rfl (.tmp rfl <| .nil)

theorem slices_IndexFunc_api_Atom_api_Atom.ok {a0 : List api_Atom} {a1 : api_Atom → Option Bool} {r : Int} (h : slices_IndexFunc_api_Atom_api_Atom.f a0 a1 = some r) : FnA Tryd.prog 54 [(kL (kR f_api_Atom)).sig a0, (sFun Tryd.prog (rl1 (kR f_api_Atom) kB a1))] ((kI .i64).sig r) := by
  refine fnIntro Tryd.func54 rfl (by kernel_rfl) fun H0 w0 => ?_
  unfold slices_IndexFunc_api_Atom_api_Atom.f at h
  refine wSeq ?_
  refine rg (cp (oAs (cI (by decide))) trivial <| .nil) (by kernel_rfl) ?_
  refine pSeq ?_
  refine wSeq ?_
  refine wSeq ?_
  refine rg (cp (oMv tm) (s1 rfl) <| cp (oLenL u32 tm) (s1 rfl) <| cp (oMv (cI (by decide))) trivial <| .nil) (by kernel_rfl) ?_
  refine pSeq ?_
  obtain ⟨o1, h, hk1⟩ := bd h
  refine wK0 (.inr () = o1) ([]) ([]) ?_ ?_
  · refine wBlock (wLoop ?_)
    refine lW (pc1 o1 (fun v9 => [(0, .d ((kL (kR f_api_Atom)).sig a0)), (1, .d ((sFun Tryd.prog (rl1 (kR f_api_Atom) kB a1)))), (7, .d ((kI .i64).sig (a0.length : Int))), (8, .d ((kI .i64).sig v9))]) (fun v9 => []) (slices_IndexFunc_api_Atom_api_Atom.l0.partial_correctness a0 a1) ?_ _ h) ⟨rfl, rfl, rfl, rfl, trivial⟩ rfl
    clear h
    intro f' ih v9 h
    refine wSeq ?_
    refine rg (cp (oLt rfl tm tm) (s2 rfl rfl) <| .nil) (by kernel_rfl) ?_
    refine pSeq ?_
    refine wSeq ?_
    rcases ic h with ⟨hp10, h⟩ | ⟨hp10, h⟩
    · refine wCT hp10 tm (s1 rfl) ?_
      refine wSkip ?_
      refine pSeq ?_
      refine wSeq ?_
      refine wBlock ?_
      refine wSeq ?_
      refine rg (cp (oMv tm) (s1 rfl) <| cp (oAs tm) (s1 rfl) <| .nil) (by kernel_rfl) ?_
      refine pSeq ?_
      refine wSeq ?_
      obtain ⟨y11, hy11, h⟩ := bd h
      obtain ⟨y12, hy12, h⟩ := bd h
      refine rg (cp (oMv tm) (s1 rfl) <| cp (oMv tm) (s1 rfl) <| cp (oMv tm) (s1 rfl) <| cp (oIdx u32 z30 hy11 tm tm) (s2 rfl rfl) <| cp (oLd t30 tm) (s1 rfl) <| cp (oCallV rfl (rl1i (f := a1) hy12) tm (opds_cons tm opds_nil)) (s2 rfl rfl) <| .nil) (by kernel_rfl) ?_
      refine pSeq ?_
      rcases ic h with ⟨hp13, h⟩ | ⟨hp13, h⟩
      · refine wBT hp13 tm (s1 rfl) ?_
        refine wSeq ?_
        refine rg (cp (oMv tm) (s1 rfl) <| cp (oAs tm) (s1 rfl) <| .nil) (by kernel_rfl) ?_
        refine pSeq ?_
        refine wRet ?_
        refine pBlkR ?_
        refine pThenR ?_
        refine pThenR ?_
        refine pBlkR ?_
        refine pThenR ?_
        obtain rfl := so h
        replace h := hk1
        refine pThenR ?_
        obtain rfl := so h
        exact pR1 (.inl rfl) rfl (.tmp rfl <| .nil)
      · refine wBF hp13 tm (s1 rfl) ?_
        refine wSkip ?_
        refine pBlkN ?_
        refine pSeq ?_
        refine rg (cp (oAdd tm (cI (by decide))) (s1 rfl) <| cp (oMv tm) (s1 rfl) <| .nil) (by kernel_rfl) ?_
        exact pLoop (lW (ih _ h) ⟨rfl, rfl, rfl, rfl, trivial⟩ rfl)
    · refine wCF hp10 tm (s1 rfl) ?_
      refine wExit ?_
      refine pThenX ?_
      refine pThenX ?_
      refine pBlkX ?_
      exact pJ0 (so h) trivial rfl
  · rintro rfl
    replace h := hk1
    refine pSeq ?_
    refine wSeq ?_
    refine rg (cp (oAs (cI (by decide))) trivial <| .nil) (by kernel_rfl) ?_
    refine pSeq ?_
    refine wRet ?_
    obtain rfl := so h
    exact pR1 (.inl rfl) rfl (.tmp rfl <| .nil)

theorem slices_ContainsFunc_api_Atom_api_Atom.ok {a0 : List api_Atom} {a1 : api_Atom → Option Bool} {r : Bool} (h : slices_ContainsFunc_api_Atom_api_Atom.f a0 a1 = some r) : FnA Tryd.prog 33 [(kL (kR f_api_Atom)).sig a0, (sFun Tryd.prog (rl1 (kR f_api_Atom) kB a1))] (kB.sig r) := by
  refine fnIntro Tryd.func33 rfl (by kernel_rfl) fun H0 w0 => ?_
  unfold slices_ContainsFunc_api_Atom_api_Atom.f at h
  refine wSeq ?_
  refine rg (cp (oAs cB) trivial <| .nil) (by kernel_rfl) ?_
  refine pSeq ?_
  refine wSeq ?_
  obtain ⟨y1, hy1, h⟩ := bd h
  refine rg (cp (oMv tm) (s1 rfl) <| cp (oMv tm) (s1 rfl) <| cp (oCall rfl (slices_IndexFunc_api_Atom_api_Atom.ok hy1) b54 (opds_cons tm (opds_cons tm opds_nil))) (s2 rfl rfl) <| cp (oGe rfl tm (cI (by decide))) (s1 rfl) <| cp (oAs tm) (s1 rfl) <| .nil) (by kernel_rfl) ?_
  refine pSeq ?_
  refine wRet ?_
  obtain rfl := so h
  exact pR1 (.inl rfl) rfl (.tmp rfl <| .nil)

theorem slices_IndexFunc_api_Slot_api_Slot.ok {a0 : List api_Slot} {a1 : api_Slot → Option Bool} {r : Int} (h : slices_IndexFunc_api_Slot_api_Slot.f a0 a1 = some r) : FnA Tryd.prog 55 [(kL (kR f_api_Slot)).sig a0, (sFun Tryd.prog (rl1 (kR f_api_Slot) kB a1))] ((kI .i64).sig r) := by
  refine fnIntro Tryd.func55 rfl (by kernel_rfl) fun H0 w0 => ?_
  unfold slices_IndexFunc_api_Slot_api_Slot.f at h
  refine wSeq ?_
  refine rg (cp (oAs (cI (by decide))) trivial <| .nil) (by kernel_rfl) ?_
  refine pSeq ?_
  refine wSeq ?_
  refine wSeq ?_
  refine rg (cp (oMv tm) (s1 rfl) <| cp (oLenL u33 tm) (s1 rfl) <| cp (oMv (cI (by decide))) trivial <| .nil) (by kernel_rfl) ?_
  refine pSeq ?_
  obtain ⟨o1, h, hk1⟩ := bd h
  refine wK0 (.inr () = o1) ([]) ([]) ?_ ?_
  · refine wBlock (wLoop ?_)
    refine lW (pc1 o1 (fun v9 => [(0, .d ((kL (kR f_api_Slot)).sig a0)), (1, .d ((sFun Tryd.prog (rl1 (kR f_api_Slot) kB a1)))), (7, .d ((kI .i64).sig (a0.length : Int))), (8, .d ((kI .i64).sig v9))]) (fun v9 => []) (slices_IndexFunc_api_Slot_api_Slot.l0.partial_correctness a0 a1) ?_ _ h) ⟨rfl, rfl, rfl, rfl, trivial⟩ rfl
    clear h
    intro f' ih v9 h
    refine wSeq ?_
    refine rg (cp (oLt rfl tm tm) (s2 rfl rfl) <| .nil) (by kernel_rfl) ?_
    refine pSeq ?_
    refine wSeq ?_
    rcases ic h with ⟨hp10, h⟩ | ⟨hp10, h⟩
    · refine wCT hp10 tm (s1 rfl) ?_
      refine wSkip ?_
      refine pSeq ?_
      refine wSeq ?_
      refine wBlock ?_
      refine wSeq ?_
      refine rg (cp (oMv tm) (s1 rfl) <| cp (oAs tm) (s1 rfl) <| .nil) (by kernel_rfl) ?_
      refine pSeq ?_
      refine wSeq ?_
      obtain ⟨y11, hy11, h⟩ := bd h
      obtain ⟨y12, hy12, h⟩ := bd h
      refine rg (cp (oMv tm) (s1 rfl) <| cp (oMv tm) (s1 rfl) <| cp (oMv tm) (s1 rfl) <| cp (oIdx u33 z68 hy11 tm tm) (s2 rfl rfl) <| cp (oLd t68 tm) (s1 rfl) <| cp (oCallV rfl (rl1i (f := a1) hy12) tm (opds_cons tm opds_nil)) (s2 rfl rfl) <| .nil) (by kernel_rfl) ?_
      refine pSeq ?_
      rcases ic h with ⟨hp13, h⟩ | ⟨hp13, h⟩
      · refine wBT hp13 tm (s1 rfl) ?_
        refine wSeq ?_
        refine rg (cp (oMv tm) (s1 rfl) <| cp (oAs tm) (s1 rfl) <| .nil) (by kernel_rfl) ?_
        refine pSeq ?_
        refine wRet ?_
        refine pBlkR ?_
        refine pThenR ?_
        refine pThenR ?_
        refine pBlkR ?_
        refine pThenR ?_
        obtain rfl := so h
        replace h := hk1
        refine pThenR ?_
        obtain rfl := so h
        exact pR1 (.inl rfl) rfl (.tmp rfl <| .nil)
      · refine wBF hp13 tm (s1 rfl) ?_
        refine wSkip ?_
        refine pBlkN ?_
        refine pSeq ?_
        refine rg (cp (oAdd tm (cI (by decide))) (s1 rfl) <| cp (oMv tm) (s1 rfl) <| .nil) (by kernel_rfl) ?_
        exact pLoop (lW (ih _ h) ⟨rfl, rfl, rfl, rfl, trivial⟩ rfl)
    · refine wCF hp10 tm (s1 rfl) ?_
      refine wExit ?_
      refine pThenX ?_
      refine pThenX ?_
      refine pBlkX ?_
      exact pJ0 (so h) trivial rfl
  · rintro rfl
    replace h := hk1
    refine pSeq ?_
    refine wSeq ?_
    refine rg (cp (oAs (cI (by decide))) trivial <| .nil) (by kernel_rfl) ?_
    refine pSeq ?_
    refine wRet ?_
    obtain rfl := so h
    exact pR1 (.inl rfl) rfl (.tmp rfl <| .nil)

theorem slices_ContainsFunc_api_Slot_api_Slot.ok {a0 : List api_Slot} {a1 : api_Slot → Option Bool} {r : Bool} (h : slices_ContainsFunc_api_Slot_api_Slot.f a0 a1 = some r) : FnA Tryd.prog 34 [(kL (kR f_api_Slot)).sig a0, (sFun Tryd.prog (rl1 (kR f_api_Slot) kB a1))] (kB.sig r) := by
  refine fnIntro Tryd.func34 rfl (by kernel_rfl) fun H0 w0 => ?_
  unfold slices_ContainsFunc_api_Slot_api_Slot.f at h
  refine wSeq ?_
  refine rg (cp (oAs cB) trivial <| .nil) (by kernel_rfl) ?_
  refine pSeq ?_
  refine wSeq ?_
  obtain ⟨y1, hy1, h⟩ := bd h
  refine rg (cp (oMv tm) (s1 rfl) <| cp (oMv tm) (s1 rfl) <| cp (oCall rfl (slices_IndexFunc_api_Slot_api_Slot.ok hy1) b55 (opds_cons tm (opds_cons tm opds_nil))) (s2 rfl rfl) <| cp (oGe rfl tm (cI (by decide))) (s1 rfl) <| cp (oAs tm) (s1 rfl) <| .nil) (by kernel_rfl) ?_
  refine pSeq ?_
  refine wRet ?_
  obtain rfl := so h
  exact pR1 (.inl rfl) rfl (.tmp rfl <| .nil)

theorem state_Right_1.ok {a0 : Int} {a1 : api_Lattice} {r : Bool} (h : state_Right_1.f a0 a1 = some r) : FnA Tryd.prog 27 [(kI .i64).sig a0, sP (kR f_api_Lattice) a1] (kB.sig r) := by
  refine fnIntro Tryd.func27 rfl (by kernel_rfl) fun H0 w0 => ?_
  unfold state_Right_1.f at h
  refine wSeq ?_
  refine rg (cp (oAs cB) trivial <| .nil) (by kernel_rfl) ?_
  refine pSeq ?_
  obtain ⟨o1, h, hk1⟩ := bd h
  refine wJ1 (fun x2 => x2 = o1) (fun x2 => [(3, .d (kB.sig x2))]) (fun x2 => []) ?_ ?_
  · rcases ic h with ⟨hp3, h⟩ | ⟨hp3, h⟩
    · refine rg (cp (oMv tm) (s1 rfl) <| cp (oGe rfl tm (cI (by decide))) (s1 rfl) <| cp (oMv tm) (s1 rfl) <| cgB (decide_eq_true hp3) rfl rfl (oMv tm) (s1 rfl) <| cgB (decide_eq_true hp3) rfl rfl (oFld (fs := f_api_Lattice) (k := 1) rfl o25_1 tm) (s1 rfl) <| cgB (decide_eq_true hp3) rfl rfl (oLd t23 tm) (s1 rfl) <| cgB (decide_eq_true hp3) rfl rfl (oLenL u23 tm) (s1 rfl) <| cgB (decide_eq_true hp3) rfl rfl (oLt rfl tm tm) (s2 rfl rfl) <| cp (oPkT (decide_eq_true hp3) tm tm) (s2 rfl rfl) <| cp (oAs tm) (s1 rfl) <| .nil) (by kernel_rfl) ?_
      exact pJ1 _ (so h) ⟨rfl, trivial⟩ rfl
    · refine rg (cp (oMv tm) (s1 rfl) <| cp (oGe rfl tm (cI (by decide))) (s1 rfl) <| cp (oMv tm) (s1 rfl) <| csB (decide_eq_false hp3) rfl rfl <| csB (decide_eq_false hp3) rfl rfl <| csB (decide_eq_false hp3) rfl rfl <| csB (decide_eq_false hp3) rfl rfl <| csB (decide_eq_false hp3) rfl rfl <| cp (oPkF (decide_eq_false hp3) tm cB) (s1 rfl) <| cp (oAs tm) (s1 rfl) <| .nil) (by kernel_rfl) ?_
      exact pJ1 _ (so h) ⟨rfl, trivial⟩ rfl
  · rintro x2 rfl
    replace h := hk1
    refine wRet ?_
    obtain rfl := so h
    exact pR1 (.inl rfl) rfl (.tmp rfl <| .nil)

theorem state_Right_2.ok {a0 : api_Atom} {a1 : Option (Int → Option Bool)} {r : Bool} (h : state_Right_2.f a0 a1 = some r) : FnA Tryd.prog 28 [(kR f_api_Atom).sig a0, sP (kFn Tryd.prog (rl1 (kI .i64) kB)) a1] (kB.sig r) := by
  refine fnIntro Tryd.func28 rfl (by kernel_rfl) fun H0 w0 => ?_
  unfold state_Right_2.f at h
  refine wSeq ?_
  refine rg (cp (oBox tm) (s1 rfl) <| cp (oAs cB) trivial <| .nil) (by kernel_rfl) ?_
  refine pSeq ?_
  obtain ⟨o1, h, hk1⟩ := bd h
  refine wJ1 (fun x5 => x5 = o1) (fun x5 => [(3, .d (kB.sig x5))]) (fun x5 => []) ?_ ?_
  · obtain ⟨y6, hy6, h⟩ := bd h
    rcases ic h with ⟨hp7, h⟩ | ⟨hp7, h⟩
    · refine rg (cp (oFld (fs := f_api_Atom) (k := 0) rfl o30_0 tm) (s1 rfl) <| cp (oLd t3 tm) (s1 rfl) <| cp (oCall rfl (state_value.ok hy6) b29 (opds_cons tm opds_nil)) (s1 rfl) <| cp (oNot tm) (s1 rfl) <| cp (oMv tm) (s1 rfl) <| csB hp7 rfl rfl <| csB hp7 rfl rfl <| csB hp7 rfl rfl <| csB hp7 rfl rfl <| csB hp7 rfl rfl <| cp (oPkT hp7 tm cB) (s1 rfl) <| cp (oAs tm) (s1 rfl) <| .nil) (by kernel_rfl) ?_
      exact pJ1 _ (so h) ⟨rfl, trivial⟩ rfl
    · obtain ⟨y8, hy8, h⟩ := bd h
      obtain ⟨y9, hy9, h⟩ := bd h
      refine rg (cp (oFld (fs := f_api_Atom) (k := 0) rfl o30_0 tm) (s1 rfl) <| cp (oLd t3 tm) (s1 rfl) <| cp (oCall rfl (state_value.ok hy6) b29 (opds_cons tm opds_nil)) (s1 rfl) <| cp (oNot tm) (s1 rfl) <| cp (oMv tm) (s1 rfl) <| cgB (nb hp7) rfl rfl (oLd t69 tm) (s1 rfl) <| cgB (nb hp7) rfl rfl (oFld (fs := f_api_Atom) (k := 1) rfl o30_1 tm) (s1 rfl) <| cgB (nb hp7) rfl rfl (oLd t3 tm) (s1 rfl) <| cgB (nb hp7) rfl rfl (oCallV rfl (rl1i (f := y8) hy9) (oGot hy8 tm) (opds_cons tm opds_nil)) (s2 rfl rfl) <| cgB (nb hp7) rfl rfl (oNot tm) (s1 rfl) <| cp (oPkF (nb hp7) tm tm) (s2 rfl rfl) <| cp (oAs tm) (s1 rfl) <| .nil) (by kernel_rfl) ?_
      exact pJ1 _ (so h) ⟨rfl, trivial⟩ rfl
  · rintro x5 rfl
    replace h := hk1
    refine wRet ?_
    obtain rfl := so h
    exact pR1 (.inl rfl) rfl (.tmp rfl <| .nil)

theorem state_Right_3.ok {a0 : api_Slot} {a1 : Option (Int → Option Bool)} {r : Bool} (h : state_Right_3.f a0 a1 = some r) : FnA Tryd.prog 30 [(kR f_api_Slot).sig a0, sP (kFn Tryd.prog (rl1 (kI .i64) kB)) a1] (kB.sig r) := by
  refine fnIntro Tryd.func30 rfl (by kernel_rfl) fun H0 w0 => ?_
  unfold state_Right_3.f at h
  refine wSeq ?_
  refine rg (cp (oBox tm) (s1 rfl) <| cp (oAs cB) trivial <| .nil) (by kernel_rfl) ?_
  refine pSeq ?_
  obtain ⟨o1, h, hk1⟩ := bd h
  refine wJ1 (fun x11 => x11 = o1) (fun x11 => [(3, .d (kB.sig x11))]) (fun x11 => []) ?_ ?_
  · obtain ⟨y12, hy12, h⟩ := bd h
    obtain ⟨y13, hy13, h⟩ := bd h
    rcases ic h with ⟨hp14, h⟩ | ⟨hp14, h⟩
    · refine rg (cp (oLd t69 tm) (s1 rfl) <| cp (oFld (fs := f_api_Slot) (k := 2) rfl o68_2 tm) (s1 rfl) <| cp (oLd t3 tm) (s1 rfl) <| cp (oCallV rfl (rl1i (f := y12) hy13) (oGot hy12 tm) (opds_cons tm opds_nil)) (s2 rfl rfl) <| cp (oNot tm) (s1 rfl) <| cp (oMv tm) (s1 rfl) <| csB hp14 rfl rfl <| csB hp14 rfl rfl <| csB hp14 rfl rfl <| csB hp14 rfl rfl <| csU rfl rfl <| csU rfl rfl <| csU rfl rfl <| csU rfl rfl <| csB hp14 rfl rfl <| cp (oPkT hp14 tm cB) (s1 rfl) <| cp (oMv tm) (s1 rfl) <| csB rfl rfl rfl <| csB rfl rfl rfl <| csB rfl rfl rfl <| csU rfl rfl <| csU rfl rfl <| csU rfl rfl <| csU rfl rfl <| csB rfl rfl rfl <| cp (oPkT rfl tm cB) (s1 rfl) <| cp (oAs tm) (s1 rfl) <| .nil) (by kernel_rfl) ?_
      exact pJ1 _ (so h) ⟨rfl, trivial⟩ rfl
    · rcases ic h with ⟨hp15, h⟩ | ⟨hp15, h⟩
      · obtain ⟨y16, hy16, h⟩ := bd h
        rcases ic h with ⟨hp17, h⟩ | ⟨hp17, h⟩
        · refine rg (cp (oLd t69 tm) (s1 rfl) <| cp (oFld (fs := f_api_Slot) (k := 2) rfl o68_2 tm) (s1 rfl) <| cp (oLd t3 tm) (s1 rfl) <| cp (oCallV rfl (rl1i (f := y12) hy13) (oGot hy12 tm) (opds_cons tm opds_nil)) (s2 rfl rfl) <| cp (oNot tm) (s1 rfl) <| cp (oMv tm) (s1 rfl) <| cgB (nb hp14) rfl rfl (oFld (fs := f_api_Slot) (k := 0) rfl o68_0 tm) (s1 rfl) <| cgB (nb hp14) rfl rfl (oLd t4 tm) (s1 rfl) <| cgB (nb hp14) rfl rfl (oNot tm) (s1 rfl) <| cgB (nb hp14) rfl rfl (oMv tm) (s1 rfl) <| cgB hp15 rfl rfl (oFld (fs := f_api_Slot) (k := 1) rfl o68_1 tm) (s1 rfl) <| cgB hp15 rfl rfl (oLd t3 tm) (s1 rfl) <| cgB hp15 rfl rfl (oCall rfl (state_value.ok hy16) b29 (opds_cons tm opds_nil)) (s1 rfl) <| cgB hp15 rfl rfl (oNot tm) (s1 rfl) <| cgB (nb hp14) rfl rfl (oPkT hp15 tm tm) (s2 rfl rfl) <| cp (oPkF (nb hp14) tm tm) (s2 rfl rfl) <| cp (oMv tm) (s1 rfl) <| csB hp17 rfl rfl <| csB hp17 rfl rfl <| csB hp17 rfl rfl <| csU rfl rfl <| csU rfl rfl <| csU rfl rfl <| csU rfl rfl <| csB hp17 rfl rfl <| cp (oPkT hp17 tm cB) (s1 rfl) <| cp (oAs tm) (s1 rfl) <| .nil) (by kernel_rfl) ?_
          exact pJ1 _ (so h) ⟨rfl, trivial⟩ rfl
        · rcases ic h with ⟨hp18, h⟩ | ⟨hp18, h⟩
          · obtain ⟨y19, hy19, h⟩ := bd h
            refine rg (cp (oLd t69 tm) (s1 rfl) <| cp (oFld (fs := f_api_Slot) (k := 2) rfl o68_2 tm) (s1 rfl) <| cp (oLd t3 tm) (s1 rfl) <| cp (oCallV rfl (rl1i (f := y12) hy13) (oGot hy12 tm) (opds_cons tm opds_nil)) (s2 rfl rfl) <| cp (oNot tm) (s1 rfl) <| cp (oMv tm) (s1 rfl) <| cgB (nb hp14) rfl rfl (oFld (fs := f_api_Slot) (k := 0) rfl o68_0 tm) (s1 rfl) <| cgB (nb hp14) rfl rfl (oLd t4 tm) (s1 rfl) <| cgB (nb hp14) rfl rfl (oNot tm) (s1 rfl) <| cgB (nb hp14) rfl rfl (oMv tm) (s1 rfl) <| cgB hp15 rfl rfl (oFld (fs := f_api_Slot) (k := 1) rfl o68_1 tm) (s1 rfl) <| cgB hp15 rfl rfl (oLd t3 tm) (s1 rfl) <| cgB hp15 rfl rfl (oCall rfl (state_value.ok hy16) b29 (opds_cons tm opds_nil)) (s1 rfl) <| cgB hp15 rfl rfl (oNot tm) (s1 rfl) <| cgB (nb hp14) rfl rfl (oPkT hp15 tm tm) (s2 rfl rfl) <| cp (oPkF (nb hp14) tm tm) (s2 rfl rfl) <| cp (oMv tm) (s1 rfl) <| cgB (nb hp17) rfl rfl (oFld (fs := f_api_Slot) (k := 0) rfl o68_0 tm) (s1 rfl) <| cgB (nb hp17) rfl rfl (oLd t4 tm) (s1 rfl) <| cgB (nb hp17) rfl rfl (oMv tm) (s1 rfl) <| cgB hp18 rfl rfl (oFld (fs := f_api_Slot) (k := 1) rfl o68_1 tm) (s1 rfl) <| cgB hp18 rfl rfl (oLd t3 tm) (s1 rfl) <| cgB hp18 rfl rfl (oCall rfl (state_place.ok hy19) b31 (opds_cons tm opds_nil)) (s1 rfl) <| cgB hp18 rfl rfl (oNot tm) (s1 rfl) <| cgB (nb hp17) rfl rfl (oPkT hp18 tm tm) (s2 rfl rfl) <| cp (oPkF (nb hp17) tm tm) (s2 rfl rfl) <| cp (oAs tm) (s1 rfl) <| .nil) (by kernel_rfl) ?_
            exact pJ1 _ (so h) ⟨rfl, trivial⟩ rfl
          · refine rg (cp (oLd t69 tm) (s1 rfl) <| cp (oFld (fs := f_api_Slot) (k := 2) rfl o68_2 tm) (s1 rfl) <| cp (oLd t3 tm) (s1 rfl) <| cp (oCallV rfl (rl1i (f := y12) hy13) (oGot hy12 tm) (opds_cons tm opds_nil)) (s2 rfl rfl) <| cp (oNot tm) (s1 rfl) <| cp (oMv tm) (s1 rfl) <| cgB (nb hp14) rfl rfl (oFld (fs := f_api_Slot) (k := 0) rfl o68_0 tm) (s1 rfl) <| cgB (nb hp14) rfl rfl (oLd t4 tm) (s1 rfl) <| cgB (nb hp14) rfl rfl (oNot tm) (s1 rfl) <| cgB (nb hp14) rfl rfl (oMv tm) (s1 rfl) <| cgB hp15 rfl rfl (oFld (fs := f_api_Slot) (k := 1) rfl o68_1 tm) (s1 rfl) <| cgB hp15 rfl rfl (oLd t3 tm) (s1 rfl) <| cgB hp15 rfl rfl (oCall rfl (state_value.ok hy16) b29 (opds_cons tm opds_nil)) (s1 rfl) <| cgB hp15 rfl rfl (oNot tm) (s1 rfl) <| cgB (nb hp14) rfl rfl (oPkT hp15 tm tm) (s2 rfl rfl) <| cp (oPkF (nb hp14) tm tm) (s2 rfl rfl) <| cp (oMv tm) (s1 rfl) <| cgB (nb hp17) rfl rfl (oFld (fs := f_api_Slot) (k := 0) rfl o68_0 tm) (s1 rfl) <| cgB (nb hp17) rfl rfl (oLd t4 tm) (s1 rfl) <| cgB (nb hp17) rfl rfl (oMv tm) (s1 rfl) <| csB (nb hp18) rfl rfl <| csB (nb hp18) rfl rfl <| csB (nb hp18) rfl rfl <| csB (nb hp18) rfl rfl <| cgB (nb hp17) rfl rfl (oPkF (nb hp18) tm cB) (s1 rfl) <| cp (oPkF (nb hp17) tm tm) (s2 rfl rfl) <| cp (oAs tm) (s1 rfl) <| .nil) (by kernel_rfl) ?_
            exact pJ1 _ (so h) ⟨rfl, trivial⟩ rfl
      · rcases ic h with ⟨hp20, h⟩ | ⟨hp20, h⟩
        · obtain ⟨y21, hy21, h⟩ := bd h
          refine rg (cp (oLd t69 tm) (s1 rfl) <| cp (oFld (fs := f_api_Slot) (k := 2) rfl o68_2 tm) (s1 rfl) <| cp (oLd t3 tm) (s1 rfl) <| cp (oCallV rfl (rl1i (f := y12) hy13) (oGot hy12 tm) (opds_cons tm opds_nil)) (s2 rfl rfl) <| cp (oNot tm) (s1 rfl) <| cp (oMv tm) (s1 rfl) <| cgB (nb hp14) rfl rfl (oFld (fs := f_api_Slot) (k := 0) rfl o68_0 tm) (s1 rfl) <| cgB (nb hp14) rfl rfl (oLd t4 tm) (s1 rfl) <| cgB (nb hp14) rfl rfl (oNot tm) (s1 rfl) <| cgB (nb hp14) rfl rfl (oMv tm) (s1 rfl) <| csB (nb hp15) rfl rfl <| csB (nb hp15) rfl rfl <| csB (nb hp15) rfl rfl <| csB (nb hp15) rfl rfl <| cgB (nb hp14) rfl rfl (oPkF (nb hp15) tm cB) (s1 rfl) <| cp (oPkF (nb hp14) tm tm) (s2 rfl rfl) <| cp (oMv tm) (s1 rfl) <| cgB rfl rfl rfl (oFld (fs := f_api_Slot) (k := 0) rfl o68_0 tm) (s1 rfl) <| cgB rfl rfl rfl (oLd t4 tm) (s1 rfl) <| cgB rfl rfl rfl (oMv tm) (s1 rfl) <| cgB hp20 rfl rfl (oFld (fs := f_api_Slot) (k := 1) rfl o68_1 tm) (s1 rfl) <| cgB hp20 rfl rfl (oLd t3 tm) (s1 rfl) <| cgB hp20 rfl rfl (oCall rfl (state_place.ok hy21) b31 (opds_cons tm opds_nil)) (s1 rfl) <| cgB hp20 rfl rfl (oNot tm) (s1 rfl) <| cgB rfl rfl rfl (oPkT hp20 tm tm) (s2 rfl rfl) <| cp (oPkF rfl tm tm) (s2 rfl rfl) <| cp (oAs tm) (s1 rfl) <| .nil) (by kernel_rfl) ?_
          exact pJ1 _ (so h) ⟨rfl, trivial⟩ rfl
        · refine rg (cp (oLd t69 tm) (s1 rfl) <| cp (oFld (fs := f_api_Slot) (k := 2) rfl o68_2 tm) (s1 rfl) <| cp (oLd t3 tm) (s1 rfl) <| cp (oCallV rfl (rl1i (f := y12) hy13) (oGot hy12 tm) (opds_cons tm opds_nil)) (s2 rfl rfl) <| cp (oNot tm) (s1 rfl) <| cp (oMv tm) (s1 rfl) <| cgB (nb hp14) rfl rfl (oFld (fs := f_api_Slot) (k := 0) rfl o68_0 tm) (s1 rfl) <| cgB (nb hp14) rfl rfl (oLd t4 tm) (s1 rfl) <| cgB (nb hp14) rfl rfl (oNot tm) (s1 rfl) <| cgB (nb hp14) rfl rfl (oMv tm) (s1 rfl) <| csB (nb hp15) rfl rfl <| csB (nb hp15) rfl rfl <| csB (nb hp15) rfl rfl <| csB (nb hp15) rfl rfl <| cgB (nb hp14) rfl rfl (oPkF (nb hp15) tm cB) (s1 rfl) <| cp (oPkF (nb hp14) tm tm) (s2 rfl rfl) <| cp (oMv tm) (s1 rfl) <| cgB rfl rfl rfl (oFld (fs := f_api_Slot) (k := 0) rfl o68_0 tm) (s1 rfl) <| cgB rfl rfl rfl (oLd t4 tm) (s1 rfl) <| cgB rfl rfl rfl (oMv tm) (s1 rfl) <| csB (nb hp20) rfl rfl <| csB (nb hp20) rfl rfl <| csB (nb hp20) rfl rfl <| csB (nb hp20) rfl rfl <| cgB rfl rfl rfl (oPkF (nb hp20) tm cB) (s1 rfl) <| cp (oPkF rfl tm tm) (s2 rfl rfl) <| cp (oAs tm) (s1 rfl) <| .nil) (by kernel_rfl) ?_
          exact pJ1 _ (so h) ⟨rfl, trivial⟩ rfl
  · rintro x11 rfl
    replace h := hk1
    refine wRet ?_
    obtain rfl := so h
    exact pR1 (.inl rfl) rfl (.tmp rfl <| .nil)

end Go.Proofs.YtmegdednaimgcaaDoor.TT
