import Derived.Test.YtkcpghpglhamfaaGreatDoorShelf
import Derived.Test.YtkcpghpglhamfaaGreatDoorDSK
import Derived.Test.YtkcpghpglhamfaaGreatDoorProg
set_option linter.unusedVariables false
set_option maxRecDepth 10000
set_option maxHeartbeats 2000000
namespace Go.Proofs.YtkcpghpglhamfaaGreatDoor.SK
open Go Go.Proofs.YtkcpghpglhamfaaGreatDoor.Ab

theorem hm : Tryz.prog.follows .mixedOrders = true := by kernel_rfl
theorem tab10 : TabAt Tryz.prog 1 := ⟨by kernel_rfl, by rw [show Lib.pow10Tab = gl1 by kernel_rfl]; exact .tail _ (.tail _ (.head _))⟩
theorem zL : ∀ {α : Type} {d : Kd α} (H : FH), (kL d).reps H [.slice none 0 0] [] := fun _ => ⟨none, 0, rfl, Nat.le_refl _, by omega, by simp [big], .inl rfl⟩
theorem ze25 : zeroIs Tryz.prog 25 [(.slice none 0 0), (.slice none 0 0)] := by unfold zeroIs; kernel_rfl
theorem o25_1 : fofs Tryz.prog 25 1 = some 1 := by kernel_rfl
theorem t23 : tinf Tryz.prog 23 = some (false, 1) := by kernel_rfl
theorem u23 : Tryz.prog.underlying 23 = some (.slice 61) := by kernel_rfl
theorem z61 : sizeIs Tryz.prog 61 1 := by unfold sizeIs; kernel_rfl
theorem pl25 : places Tryz.prog 25 = some [(0, 1), (1, 1)] := by kernel_rfl
theorem po25_0 : ∀ q f, f_api_Lattice_n0[q]? = some f → ([(0, 1), (1, 1)] : List (Nat × Nat))[q]? = some (offF f_api_Lattice_n0 q, f.d.sz) := fun q f h => by
  unfold f_api_Lattice_n0 at h
  match q, h with
  | 0, h => cases h; rfl
  | 1, h => cases h; rfl
  | n + 2, h => simp at h
theorem z25 : sizeIs Tryz.prog 25 2 := by unfold sizeIs; kernel_rfl
theorem o25_0 : fofs Tryz.prog 25 0 = some 0 := by kernel_rfl
theorem t22 : tinf Tryz.prog 22 = some (false, 1) := by kernel_rfl
theorem u22 : Tryz.prog.underlying 22 = some (.slice 9) := by kernel_rfl
theorem z9 : sizeIs Tryz.prog 9 1 := by unfold sizeIs; kernel_rfl
theorem t9 : tinf Tryz.prog 9 = some (false, 1) := by kernel_rfl
theorem u9 : Tryz.prog.underlying 9 = some (.string) := by kernel_rfl
theorem el22 : ElTy Tryz.prog 22 9 1 16 := ⟨by kernel_rfl, by kernel_rfl⟩
theorem z22 : sizeIs Tryz.prog 22 1 := by unfold sizeIs; kernel_rfl
theorem t25 : tinf Tryz.prog 25 = some (true, 2) := by kernel_rfl
theorem zI_i64 : ∀ H, (kI .i64).reps H [.int .i64 0] 0 := fun _ => ⟨rfl, by decide⟩
theorem ze32 : zeroIs Tryz.prog 32 [(.int .i64 0), (.int .i64 0), (.slice none 0 0), (.slice none 0 0), (.slice none 0 0), (.slice none 0 0)] := by unfold zeroIs; kernel_rfl
theorem o32_1 : fofs Tryz.prog 32 1 = some 2 := by kernel_rfl
theorem t28 : tinf Tryz.prog 28 = some (false, 1) := by kernel_rfl
theorem u28 : Tryz.prog.underlying 28 = some (.slice 81) := by kernel_rfl
theorem z81 : sizeIs Tryz.prog 81 3 := by unfold sizeIs; kernel_rfl
theorem o32_2 : fofs Tryz.prog 32 2 = some 3 := by kernel_rfl
theorem t29 : tinf Tryz.prog 29 = some (false, 1) := by kernel_rfl
theorem u29 : Tryz.prog.underlying 29 = some (.slice 27) := by kernel_rfl
theorem z27 : sizeIs Tryz.prog 27 2 := by unfold sizeIs; kernel_rfl
theorem o32_3 : fofs Tryz.prog 32 3 = some 4 := by kernel_rfl
theorem t30 : tinf Tryz.prog 30 = some (false, 1) := by kernel_rfl
theorem u30 : Tryz.prog.underlying 30 = some (.slice 51) := by kernel_rfl
theorem z51 : sizeIs Tryz.prog 51 3 := by unfold sizeIs; kernel_rfl
theorem o32_4 : fofs Tryz.prog 32 4 = some 5 := by kernel_rfl
theorem z28 : sizeIs Tryz.prog 28 1 := by unfold sizeIs; kernel_rfl
theorem z29 : sizeIs Tryz.prog 29 1 := by unfold sizeIs; kernel_rfl
theorem z30 : sizeIs Tryz.prog 30 1 := by unfold sizeIs; kernel_rfl
theorem t32 : tinf Tryz.prog 32 = some (true, 6) := by kernel_rfl
theorem z32 : sizeIs Tryz.prog 32 6 := by unfold sizeIs; kernel_rfl
theorem b101 : bodied Tryz.prog 101 := by unfold bodied; kernel_rfl
theorem b77 : bodied Tryz.prog 77 := by unfold bodied; kernel_rfl
theorem b78 : bodied Tryz.prog 78 := by unfold bodied; kernel_rfl
theorem t61 : tinf Tryz.prog 61 = some (false, 1) := by kernel_rfl
theorem t3 : tinf Tryz.prog 3 = some (false, 1) := by kernel_rfl
theorem zB : ∀ H, kB.reps H [.bool false] false := fun _ => rfl
theorem ze4 : zeroIs Tryz.prog 4 [(.bool false)] := by unfold zeroIs; kernel_rfl
theorem b49 : bodied Tryz.prog 49 := by unfold bodied; kernel_rfl
theorem b79 : bodied Tryz.prog 79 := by unfold bodied; kernel_rfl
theorem z4 : sizeIs Tryz.prog 4 1 := by unfold sizeIs; kernel_rfl
theorem t4 : tinf Tryz.prog 4 = some (false, 1) := by kernel_rfl
theorem b80 : bodied Tryz.prog 80 := by unfold bodied; kernel_rfl
theorem zI_u32 : ∀ H, (kI .u32).reps H [.int .u32 0] 0 := fun _ => ⟨rfl, by decide⟩
theorem ze61 : zeroIs Tryz.prog 61 [(.int .u32 0)] := by unfold zeroIs; kernel_rfl
theorem b82 : bodied Tryz.prog 82 := by unfold bodied; kernel_rfl
theorem b81 : bodied Tryz.prog 81 := by unfold bodied; kernel_rfl
theorem b83 : bodied Tryz.prog 83 := by unfold bodied; kernel_rfl
theorem ze35 : zeroIs Tryz.prog 35 [(.int .i64 0)] := by unfold zeroIs; kernel_rfl
theorem b47 : bodied Tryz.prog 47 := by unfold bodied; kernel_rfl
theorem z35 : sizeIs Tryz.prog 35 1 := by unfold sizeIs; kernel_rfl
theorem t35 : tinf Tryz.prog 35 = some (false, 1) := by kernel_rfl
theorem b48 : bodied Tryz.prog 48 := by unfold bodied; kernel_rfl
theorem b50 : bodied Tryz.prog 50 := by unfold bodied; kernel_rfl
theorem b51 : bodied Tryz.prog 51 := by unfold bodied; kernel_rfl
theorem b104 : bodied Tryz.prog 104 := by unfold bodied; kernel_rfl
theorem b103 : bodied Tryz.prog 103 := by unfold bodied; kernel_rfl
theorem u110 : Tryz.prog.underlying 110 = some (.map 3 62) := by kernel_rfl
theorem u3 : Tryz.prog.underlying 3 = some (.int .i64) := by kernel_rfl
theorem mk3 : MKey Tryz.prog 3 (.int .i64) (kI .i64) := keyI u3
theorem o81_0 : fofs Tryz.prog 81 0 = some 0 := by kernel_rfl
theorem b85 : bodied Tryz.prog 85 := by unfold bodied; kernel_rfl
theorem zv62 : zeroV Tryz.prog 62 .nilFunc := by unfold zeroV; kernel_rfl
theorem o81_1 : fofs Tryz.prog 81 1 = some 1 := by kernel_rfl
theorem o81_2 : fofs Tryz.prog 81 2 = some 2 := by kernel_rfl
theorem t81 : tinf Tryz.prog 81 = some (true, 3) := by kernel_rfl
theorem b100 : bodied Tryz.prog 100 := by unfold bodied; kernel_rfl
theorem b65 : bodied Tryz.prog 65 := by unfold bodied; kernel_rfl
theorem b64 : bodied Tryz.prog 64 := by unfold bodied; kernel_rfl
theorem b16 : bodied Tryz.prog 16 := by unfold bodied; kernel_rfl
theorem b66 : bodied Tryz.prog 66 := by unfold bodied; kernel_rfl
theorem t27 : tinf Tryz.prog 27 = some (true, 2) := by kernel_rfl
theorem b67 : bodied Tryz.prog 67 := by unfold bodied; kernel_rfl
theorem t51 : tinf Tryz.prog 51 = some (true, 3) := by kernel_rfl
theorem b68 : bodied Tryz.prog 68 := by unfold bodied; kernel_rfl
theorem b25 : bodied Tryz.prog 25 := by unfold bodied; kernel_rfl
theorem ze62 : zeroIs Tryz.prog 62 [.nilFunc] := by unfold zeroIs; kernel_rfl
theorem z62 : sizeIs Tryz.prog 62 1 := by unfold sizeIs; kernel_rfl
theorem o27_0 : fofs Tryz.prog 27 0 = some 0 := by kernel_rfl
theorem b27 : bodied Tryz.prog 27 := by unfold bodied; kernel_rfl
theorem t62 : tinf Tryz.prog 62 = some (false, 1) := by kernel_rfl
theorem o27_1 : fofs Tryz.prog 27 1 = some 1 := by kernel_rfl
theorem b26 : bodied Tryz.prog 26 := by unfold bodied; kernel_rfl
theorem o51_2 : fofs Tryz.prog 51 2 = some 2 := by kernel_rfl
theorem o51_0 : fofs Tryz.prog 51 0 = some 0 := by kernel_rfl
theorem o51_1 : fofs Tryz.prog 51 1 = some 1 := by kernel_rfl
theorem b29 : bodied Tryz.prog 29 := by unfold bodied; kernel_rfl
theorem b28 : bodied Tryz.prog 28 := by unfold bodied; kernel_rfl
theorem b30 : bodied Tryz.prog 30 := by unfold bodied; kernel_rfl
theorem o32_0 : fofs Tryz.prog 32 0 = some 0 := by kernel_rfl
theorem b31 : bodied Tryz.prog 31 := by unfold bodied; kernel_rfl
theorem b32 : bodied Tryz.prog 32 := by unfold bodied; kernel_rfl
theorem b52 : bodied Tryz.prog 52 := by unfold bodied; kernel_rfl
theorem gm0 : GlobIs kS 0 gl0 := globS (.tail _ (.tail _ (.tail _ (.head _)))) (by kernel_rfl)
theorem u108 : Tryz.prog.underlying 108 = some (.array 13 9) := by kernel_rfl
theorem ze81 : zeroIs Tryz.prog 81 [(.int .i64 0), (.int .i64 0), (.int .i64 0)] := by unfold zeroIs; kernel_rfl
theorem b53 : bodied Tryz.prog 53 := by unfold bodied; kernel_rfl
theorem b54 : bodied Tryz.prog 54 := by unfold bodied; kernel_rfl
theorem b55 : bodied Tryz.prog 55 := by unfold bodied; kernel_rfl
theorem b56 : bodied Tryz.prog 56 := by unfold bodied; kernel_rfl
theorem b11 : bodied Tryz.prog 11 := by unfold bodied; kernel_rfl
theorem ze27 : zeroIs Tryz.prog 27 [(.int .i64 0), (.int .i64 0)] := by unfold zeroIs; kernel_rfl
theorem b18 : bodied Tryz.prog 18 := by unfold bodied; kernel_rfl
theorem b17 : bodied Tryz.prog 17 := by unfold bodied; kernel_rfl
theorem b19 : bodied Tryz.prog 19 := by unfold bodied; kernel_rfl
theorem ze51 : zeroIs Tryz.prog 51 [(.bool false), (.int .i64 0), (.int .i64 0)] := by unfold zeroIs; kernel_rfl
theorem b20 : bodied Tryz.prog 20 := by unfold bodied; kernel_rfl
theorem b107 : bodied Tryz.prog 107 := by unfold bodied; kernel_rfl
theorem b90 : bodied Tryz.prog 90 := by unfold bodied; kernel_rfl
theorem b89 : bodied Tryz.prog 89 := by unfold bodied; kernel_rfl
theorem b91 : bodied Tryz.prog 91 := by unfold bodied; kernel_rfl
theorem b92 : bodied Tryz.prog 92 := by unfold bodied; kernel_rfl
theorem b93 : bodied Tryz.prog 93 := by unfold bodied; kernel_rfl
theorem b94 : bodied Tryz.prog 94 := by unfold bodied; kernel_rfl
theorem b57 : bodied Tryz.prog 57 := by unfold bodied; kernel_rfl
theorem pl58 : places Tryz.prog 58 = some [(0, 1), (1, 1), (2, 1)] := by kernel_rfl
theorem po58 : ∀ q f, f_api_Tok[q]? = some f → ([(0, 1), (1, 1), (2, 1)] : List (Nat × Nat))[q]? = some (offF f_api_Tok q, f.d.sz) := fun q f h => by
  unfold f_api_Tok at h
  match q, h with
  | 0, h => cases h; rfl
  | 1, h => cases h; rfl
  | 2, h => cases h; rfl
  | n + 3, h => simp at h
theorem ze58 : zeroIs Tryz.prog 58 [(.int .i64 0), (.string ⟨⟨[]⟩⟩), (.int .i64 0)] := by unfold zeroIs; kernel_rfl
theorem el53 : ElTy Tryz.prog 53 58 3 32 := ⟨by kernel_rfl, by kernel_rfl⟩
theorem zS : ∀ H, kS.reps H [.string ⟨⟨[]⟩⟩] [] := fun _ => ⟨rfl, by decide⟩
theorem u53 : Tryz.prog.underlying 53 = some (.slice 58) := by kernel_rfl
theorem o88_1 : fofs Tryz.prog 88 1 = some 2 := by kernel_rfl
theorem t53 : tinf Tryz.prog 53 = some (false, 1) := by kernel_rfl
theorem o88_2 : fofs Tryz.prog 88 2 = some 3 := by kernel_rfl
theorem z58 : sizeIs Tryz.prog 58 3 := by unfold sizeIs; kernel_rfl
theorem t58 : tinf Tryz.prog 58 = some (true, 3) := by kernel_rfl
theorem o88_3 : fofs Tryz.prog 88 3 = some 4 := by kernel_rfl
theorem o58_0 : fofs Tryz.prog 58 0 = some 0 := by kernel_rfl
theorem o58_1 : fofs Tryz.prog 58 1 = some 1 := by kernel_rfl
theorem b95 : bodied Tryz.prog 95 := by unfold bodied; kernel_rfl
theorem z3 : sizeIs Tryz.prog 3 1 := by unfold sizeIs; kernel_rfl
theorem b96 : bodied Tryz.prog 96 := by unfold bodied; kernel_rfl
theorem b109 : bodied Tryz.prog 109 := by unfold bodied; kernel_rfl
theorem u113 : Tryz.prog.underlying 113 = some (.slice 5) := by kernel_rfl
theorem u5 : Tryz.prog.underlying 5 = some (.int .u8) := by kernel_rfl
theorem z5 : sizeIs Tryz.prog 5 1 := by unfold sizeIs; kernel_rfl
theorem t5 : tinf Tryz.prog 5 = some (false, 1) := by kernel_rfl
theorem b97 : bodied Tryz.prog 97 := by unfold bodied; kernel_rfl
theorem b58 : bodied Tryz.prog 58 := by unfold bodied; kernel_rfl
theorem pl27 : places Tryz.prog 27 = some [(0, 1), (1, 1)] := by kernel_rfl
theorem po27 : ∀ q f, f_api_Atom[q]? = some f → ([(0, 1), (1, 1)] : List (Nat × Nat))[q]? = some (offF f_api_Atom q, f.d.sz) := fun q f h => by
  unfold f_api_Atom at h
  match q, h with
  | 0, h => cases h; rfl
  | 1, h => cases h; rfl
  | n + 2, h => simp at h
theorem o88_0 : fofs Tryz.prog 88 0 = some 0 := by kernel_rfl
theorem b98 : bodied Tryz.prog 98 := by unfold bodied; kernel_rfl
theorem o140_1 : fofs Tryz.prog 140 1 = some 2 := by kernel_rfl
theorem o140_2 : fofs Tryz.prog 140 2 = some 3 := by kernel_rfl
theorem o140_3 : fofs Tryz.prog 140 3 = some 4 := by kernel_rfl
theorem b111 : bodied Tryz.prog 111 := by unfold bodied; kernel_rfl
theorem b112 : bodied Tryz.prog 112 := by unfold bodied; kernel_rfl
theorem b123 : bodied Tryz.prog 123 := by unfold bodied; kernel_rfl
theorem o140_0 : fofs Tryz.prog 140 0 = some 0 := by kernel_rfl
theorem pl81 : places Tryz.prog 81 = some [(0, 1), (1, 1), (2, 1)] := by kernel_rfl
theorem po81 : ∀ q f, f_api_Instr[q]? = some f → ([(0, 1), (1, 1), (2, 1)] : List (Nat × Nat))[q]? = some (offF f_api_Instr q, f.d.sz) := fun q f h => by
  unfold f_api_Instr at h
  match q, h with
  | 0, h => cases h; rfl
  | 1, h => cases h; rfl
  | 2, h => cases h; rfl
  | n + 3, h => simp at h
theorem b121 : bodied Tryz.prog 121 := by unfold bodied; kernel_rfl
theorem b122 : bodied Tryz.prog 122 := by unfold bodied; kernel_rfl
theorem pl140 : places Tryz.prog 140 = some [(0, 2), (2, 1), (3, 1), (4, 1)] := by kernel_rfl
theorem po140 : ∀ q f, f_code_reader[q]? = some f → ([(0, 2), (2, 1), (3, 1), (4, 1)] : List (Nat × Nat))[q]? = some (offF f_code_reader q, f.d.sz) := fun q f h => by
  unfold f_code_reader at h
  match q, h with
  | 0, h => cases h; rfl
  | 1, h => cases h; rfl
  | 2, h => cases h; rfl
  | 3, h => cases h; rfl
  | n + 4, h => simp at h
theorem ze140 : zeroIs Tryz.prog 140 [(.slice none 0 0), (.slice none 0 0), (.slice none 0 0), (.int .i64 0), (.int .i64 0)] := by unfold zeroIs; kernel_rfl
theorem b110 : bodied Tryz.prog 110 := by unfold bodied; kernel_rfl
theorem b113 : bodied Tryz.prog 113 := by unfold bodied; kernel_rfl
theorem el28 : ElTy Tryz.prog 28 81 3 24 := ⟨by kernel_rfl, by kernel_rfl⟩
theorem b99 : bodied Tryz.prog 99 := by unfold bodied; kernel_rfl
theorem b59 : bodied Tryz.prog 59 := by unfold bodied; kernel_rfl
theorem pl51 : places Tryz.prog 51 = some [(0, 1), (1, 1), (2, 1)] := by kernel_rfl
theorem po51 : ∀ q f, f_api_Slot[q]? = some f → ([(0, 1), (1, 1), (2, 1)] : List (Nat × Nat))[q]? = some (offF f_api_Slot q, f.d.sz) := fun q f h => by
  unfold f_api_Slot at h
  match q, h with
  | 0, h => cases h; rfl
  | 1, h => cases h; rfl
  | 2, h => cases h; rfl
  | n + 3, h => simp at h
theorem zR_api_Atom : ∀ H, (kR f_api_Atom).reps H [(.int .i64 0), (.int .i64 0)] (⟨0, 0⟩ : api_Atom) := fun H => ⟨[(.int .i64 0)], _, rfl, zI_i64 H, ⟨[(.int .i64 0)], _, rfl, zI_i64 H, rfl⟩⟩
theorem pl32 : places Tryz.prog 32 = some [(0, 2), (2, 1), (3, 1), (4, 1), (5, 1)] := by kernel_rfl
theorem po32 : ∀ q f, f_api_State[q]? = some f → ([(0, 2), (2, 1), (3, 1), (4, 1), (5, 1)] : List (Nat × Nat))[q]? = some (offF f_api_State q, f.d.sz) := fun q f h => by
  unfold f_api_State at h
  match q, h with
  | 0, h => cases h; rfl
  | 1, h => cases h; rfl
  | 2, h => cases h; rfl
  | 3, h => cases h; rfl
  | 4, h => cases h; rfl
  | n + 5, h => simp at h
theorem pl88 : places Tryz.prog 88 = some [(0, 2), (2, 1), (3, 1), (4, 1)] := by kernel_rfl
theorem po88 : ∀ q f, f_state_reader[q]? = some f → ([(0, 2), (2, 1), (3, 1), (4, 1)] : List (Nat × Nat))[q]? = some (offF f_state_reader q, f.d.sz) := fun q f h => by
  unfold f_state_reader at h
  match q, h with
  | 0, h => cases h; rfl
  | 1, h => cases h; rfl
  | 2, h => cases h; rfl
  | 3, h => cases h; rfl
  | n + 4, h => simp at h
theorem ze88 : zeroIs Tryz.prog 88 [(.slice none 0 0), (.slice none 0 0), (.slice none 0 0), (.int .i64 0), (.int .i64 0)] := by unfold zeroIs; kernel_rfl
theorem b60 : bodied Tryz.prog 60 := by unfold bodied; kernel_rfl
theorem el29 : ElTy Tryz.prog 29 27 2 16 := ⟨by kernel_rfl, by kernel_rfl⟩
theorem b61 : bodied Tryz.prog 61 := by unfold bodied; kernel_rfl
theorem b63 : bodied Tryz.prog 63 := by unfold bodied; kernel_rfl
theorem el30 : ElTy Tryz.prog 30 51 3 24 := ⟨by kernel_rfl, by kernel_rfl⟩
theorem b62 : bodied Tryz.prog 62 := by unfold bodied; kernel_rfl
theorem b21 : bodied Tryz.prog 21 := by unfold bodied; kernel_rfl
theorem b22 : bodied Tryz.prog 22 := by unfold bodied; kernel_rfl
theorem o58_2 : fofs Tryz.prog 58 2 = some 2 := by kernel_rfl
theorem eqk81 : EqK Tryz.prog (kR f_api_Instr) 81 2 := eqKR (fs := [(true, 0, 3), (true, 1, 3), (true, 2, 3)]) (by kernel_rfl) (by kernel_rfl) (.cons rfl t3 (eqKI u3) (.cons rfl t3 (eqKI u3) (.cons rfl t3 (eqKI u3) .nil))) (fun x y => by cases x; cases y; simp [api_Instr.mk.injEq, Bool.decide_and])
theorem eg81 : Tryz.prog.eqGuardType Tryz.prog.depth 81 = false := by kernel_rfl
theorem eqk27 : EqK Tryz.prog (kR f_api_Atom) 27 2 := eqKR (fs := [(true, 0, 3), (true, 1, 3)]) (by kernel_rfl) (by kernel_rfl) (.cons rfl t3 (eqKI u3) (.cons rfl t3 (eqKI u3) .nil)) (fun x y => by cases x; cases y; simp [api_Atom.mk.injEq, Bool.decide_and])
theorem eg27 : Tryz.prog.eqGuardType Tryz.prog.depth 27 = false := by kernel_rfl
theorem b23 : bodied Tryz.prog 23 := by unfold bodied; kernel_rfl
theorem b24 : bodied Tryz.prog 24 := by unfold bodied; kernel_rfl
theorem u4 : Tryz.prog.underlying 4 = some (.bool) := by kernel_rfl
theorem eqk51 : EqK Tryz.prog (kR f_api_Slot) 51 2 := eqKR (fs := [(true, 0, 4), (true, 1, 3), (true, 2, 3)]) (by kernel_rfl) (by kernel_rfl) (.cons rfl t4 (eqKB u4) (.cons rfl t3 (eqKI u3) (.cons rfl t3 (eqKI u3) .nil))) (fun x y => by cases x; cases y; simp [api_Slot.mk.injEq, Bool.decide_and])
theorem eg51 : Tryz.prog.eqGuardType Tryz.prog.depth 51 = false := by kernel_rfl
theorem el23 : ElTy Tryz.prog 23 61 1 4 := ⟨by kernel_rfl, by kernel_rfl⟩
theorem po25 : ∀ q f, f_api_Lattice[q]? = some f → ([(0, 1), (1, 1)] : List (Nat × Nat))[q]? = some (offF f_api_Lattice q, f.d.sz) := fun q f h => by
  unfold f_api_Lattice at h
  match q, h with
  | 0, h => cases h; rfl
  | 1, h => cases h; rfl
  | n + 2, h => simp at h
theorem b8 : bodied Tryz.prog 8 := by unfold bodied; kernel_rfl
theorem b5 : bodied Tryz.prog 5 := by unfold bodied; kernel_rfl
theorem b6 : bodied Tryz.prog 6 := by unfold bodied; kernel_rfl
theorem b7 : bodied Tryz.prog 7 := by unfold bodied; kernel_rfl
theorem b9 : bodied Tryz.prog 9 := by unfold bodied; kernel_rfl
theorem b10 : bodied Tryz.prog 10 := by unfold bodied; kernel_rfl

theorem reticentlaw09_few.ok {a0 : api_Lattice} {r : api_Lattice} (h : reticentlaw09_few.f a0 = some r) : FnA Tryz.prog 5 [(kR f_api_Lattice).sig a0] ((kR f_api_Lattice).sig r) := by
  refine fnIntro Tryz.func5 rfl (by kernel_rfl) fun H0 w0 => ?_
  unfold reticentlaw09_few.f at h
  refine wSeq ?_
  refine rg (cp (oBox tm) (s1 rfl) <| cw (oAlloc (id := 2) (ls := [.d (kN Str) [], .d (kL (kI .u32)) []]) ze25 (fun g => ⟨[(.slice none 0 0)], _, rfl, zN g.H, ⟨[(.slice none 0 0)], _, rfl, zL g.H, rfl⟩⟩)) trivial <| .nil) (by kernel_rfl) ?_
  refine pSeq ?_
  refine wSeq ?_
  obtain ⟨hc1, h⟩ := ib h
  refine rg (cp (oFld (fs := f_api_Lattice) (k := 1) rfl o25_1 tm) (s1 rfl) <| cp (oLd t23 tm) (s1 rfl) <| cp (oFld (fs := f_api_Lattice) (k := 1) rfl o25_1 tm) (s1 rfl) <| cp (oLd t23 tm) (s1 rfl) <| cp (oLenL u23 tm) (s1 rfl) <| cp (oMin tm (cI (by decide))) (s1 rfl) <| cp (oCutHi u23 z61 hc1.1 hc1.2 tm tm) (s2 rfl rfl) <| cp (oBuild (fs := f_api_Lattice_n0) (u := ⟨[], lCut a0.Up 0 (if 10 < (a0.Up.length : Int) then 10 else (a0.Up.length : Int))⟩) rfl ze25 pl25 po25_0 (.ze (zc := [(.slice none 0 0)]) zN (.op (zc := [(.slice none 0 0)]) tm rfl .nil))) (s1 rfl) <| cw (oAlloc (id := 3) (ls := [.d (kN Str) [], .d (kL (kI .u32)) []]) ze25 (fun g => ⟨[(.slice none 0 0)], _, rfl, zN g.H, ⟨[(.slice none 0 0)], _, rfl, zL g.H, rfl⟩⟩)) trivial <| cwn (oStA (n := 0) (fs := f_api_Lattice_n0) rfl rfl z25 tm tm) (s2 rfl rfl) <| .nil) (by kernel_rfl) ?_
  refine pSeq ?_
  refine wSeq ?_
  refine wSeq ?_
  obtain ⟨hc2, h⟩ := ib h
  refine rg (cp (oFld (fs := f_api_Lattice) (k := 0) rfl o25_0 tm) (s1 rfl) <| cp (oLd t22 tm) (s1 rfl) <| cp (oFld (fs := f_api_Lattice) (k := 0) rfl o25_0 tm) (s1 rfl) <| cp (oLd t22 tm) (s1 rfl) <| cp (oLenL u22 tm) (s1 rfl) <| cp (oMin tm (cI (by decide))) (s1 rfl) <| cp (oCutHi u22 z9 hc2.1 hc2.2 tm tm) (s2 rfl rfl) <| cp (oLenL u22 tm) (s1 rfl) <| cp (oMv (cI (by decide))) trivial <| .nil) (by kernel_rfl) ?_
  refine pSeq ?_
  refine wNilL kS 9 5150 (n := 0) (k := 0) rfl rfl rfl ?_
  obtain ⟨o1, h, hk1⟩ := bd h
  refine wK1 (fun x13 => x13 = o1) (fun x13 => [(2, .p 2 0), (3, .p 3 0)]) (fun x13 => [.row 5150 9 kS x13, .box 3 25 [.v 5150, .d (kL (kI .u32)) (lCut a0.Up 0 (if 10 < (a0.Up.length : Int) then 10 else (a0.Up.length : Int)))], .box 2 25 [.d (kN Str) [], .d (kL (kI .u32)) []]]) ?_ ?_
  · refine wBlock (wLoop ?_)
    refine lW (pc2 o1 (fun v11 v12 => [(2, .p 2 0), (3, .p 3 0), (20, .d ((kL kS).sig (lCut a0.Names 0 (if 10 < (a0.Names.length : Int) then 10 else (a0.Names.length : Int))))), (21, .d ((kI .i64).sig ((lCut a0.Names 0 (if 10 < (a0.Names.length : Int) then 10 else (a0.Names.length : Int))).length : Int))), (22, .d ((kI .i64).sig v12))]) (fun v11 v12 => [.row 5150 9 kS v11, .box 3 25 [.v 5150, .d (kL (kI .u32)) (lCut a0.Up 0 (if 10 < (a0.Up.length : Int) then 10 else (a0.Up.length : Int)))], .box 2 25 [.d (kN Str) [], .d (kL (kI .u32)) []]]) (reticentlaw09_few.l0.partial_correctness a0) ?_ _ _ h) ⟨rfl, rfl, rfl, rfl, rfl, trivial⟩ rfl
    clear h
    intro f' ih v11 v12 h
    refine wSeq ?_
    refine rg (cp (oLt rfl tm tm) (s2 rfl rfl) <| .nil) (by kernel_rfl) ?_
    refine pSeq ?_
    refine wSeq ?_
    rcases ic h with ⟨hp14, h⟩ | ⟨hp14, h⟩
    · refine wCT hp14 tm (s1 rfl) ?_
      refine wSkip ?_
      refine pSeq ?_
      refine wSeq ?_
      refine wBlock ?_
      refine wSeq ?_
      obtain ⟨y15, hy15, h⟩ := bd h
      refine rg (cp (oIdx u22 z9 hy15 tm tm) (s2 rfl rfl) <| cp (oLd t9 tm) (s1 rfl) <| cp (oAs tm) (s1 rfl) <| .nil) (by kernel_rfl) ?_
      refine pSeq ?_
      obtain ⟨hc16, h⟩ := ib h
      obtain ⟨hc17, h⟩ := ib h
      refine rgD hm (cp (oFldP o25_0 tm) (s1 rfl) <| cr (oLdN (n := 1) (k := 0) rfl rfl rfl t22 tm) (s1 rfl) <| cp (oMv tm) (s1 rfl) <| cp (oMv tm) (s1 rfl) <| cp (oLenS u9 tm) (s1 rfl) <| cp (oMin tm (cI (by decide))) (s1 rfl) <| cp (oCutSH u9 hc16.1 hc16.2 tm tm) (s2 rfl rfl) <| cp (oLit (d := kS) el22 (by decide) rfl rfl rfl (e1 tm e0)) (s1 rfl) <| cw (oApp (n := 0) (id' := 34) el22 (by decide) rfl (by decide) hc17 tm tm) (s2 rfl rfl) <| cp (oFldP o25_0 tm) (s1 rfl) <| cwn (oStN (n := 1) (m := 0) (k := 0) rfl rfl rfl rfl z22 rfl tm tm) (s2 rfl rfl) <| .nil) (by kernel_rfl) (by kernel_rfl) ?_
      refine pBlkN ?_
      refine pSeq ?_
      refine rg (cp (oAdd tm (cI (by decide))) (s1 rfl) <| cp (oMv tm) (s1 rfl) <| .nil) (by kernel_rfl) ?_
      refine pSub (Γ' := [(2, .p 2 0), (3, .p 3 0), (20, .d ((kL kS).sig (lCut a0.Names 0 (if 10 < (a0.Names.length : Int) then 10 else (a0.Names.length : Int))))), (21, .d ((kI .i64).sig ((lCut a0.Names 0 (if 10 < (a0.Names.length : Int) then 10 else (a0.Names.length : Int))).length : Int))), (22, .d ((kI .i64).sig (IntKind.i64.wrap (v12 + 1))))]) ⟨rfl, rfl, rfl, rfl, rfl, trivial⟩ ?_
      refine pRen 34 5150 rfl ?_
      exact pLoop (lW (ih _ _ h) ⟨rfl, rfl, rfl, rfl, rfl, trivial⟩ rfl)
    · refine wCF hp14 tm (s1 rfl) ?_
      refine wExit ?_
      refine pThenX ?_
      refine pThenX ?_
      refine pBlkX ?_
      exact pJ1 _ (so h) ⟨rfl, rfl, trivial⟩ rfl
  · rintro x13 rfl
    replace h := hk1
    refine pSeq ?_
    refine wSeq ?_
    refine wFrzR (n := 0) (id := 5150) [] rfl rfl trivial ?_
    refine rg (cr (oLdA (n := 0) (fs := f_api_Lattice) (u := ⟨x13, lCut a0.Up 0 (if 10 < (a0.Up.length : Int) then 10 else (a0.Up.length : Int))⟩) rfl ⟨rfl, rfl, trivial⟩ t25 tm) (s1 rfl) <| cwn (oStA (n := 1) (fs := f_api_Lattice) rfl rfl z25 tm tm) (s2 rfl rfl) <| .nil) (by kernel_rfl) ?_
    refine pSeq ?_
    refine wRet ?_
    obtain rfl := so h
    exact pR1 (.inl rfl) rfl (.box (n := 1) (fs := f_api_Lattice) (u := ⟨x13, lCut a0.Up 0 (if 10 < (a0.Up.length : Int) then 10 else (a0.Up.length : Int))⟩) rfl rfl ⟨rfl, rfl, trivial⟩ t25 <| .nil)

theorem reticentlaw09_cut.ok {a0 : api_State} {r : api_State} (h : reticentlaw09_cut.f a0 = some r) : FnA Tryz.prog 6 [(kR f_api_State).sig a0] ((kR f_api_State).sig r) := by
  refine fnIntro Tryz.func6 rfl (by kernel_rfl) fun H0 w0 => ?_
  unfold reticentlaw09_cut.f at h
  refine wSeq ?_
  refine rg (cw (oBoxP (id := 1) (d := (kR f_api_State)) (ls := [.d (kI .i64) a0.Pc.V, .d (kI .i64) a0.Pc.L, .d (kL (kR f_api_Instr)) a0.Code, .d (kL (kR f_api_Atom)) a0.Mem, .d (kL (kR f_api_Slot)) a0.Stack, .d (kL (kR f_api_Atom)) a0.Out]) (lfS (lfC (lfS (lfC lf1 (lfC lf1 lfN))) (lfC lf1 (lfC lf1 (lfC lf1 (lfC lf1 lfN)))))) rfl tm) (s1 rfl) <| cw (oAlloc (id := 2) (ls := [.d (kI .i64) 0, .d (kI .i64) 0, .d (kL (kR f_api_Instr)) [], .d (kL (kR f_api_Atom)) [], .d (kL (kR f_api_Slot)) [], .d (kL (kR f_api_Atom)) []]) ze32 (fun g => ⟨[(.int .i64 0)], _, rfl, zI_i64 g.H, ⟨[(.int .i64 0)], _, rfl, zI_i64 g.H, ⟨[(.slice none 0 0)], _, rfl, zL g.H, ⟨[(.slice none 0 0)], _, rfl, zL g.H, ⟨[(.slice none 0 0)], _, rfl, zL g.H, ⟨[(.slice none 0 0)], _, rfl, zL g.H, rfl⟩⟩⟩⟩⟩⟩)) trivial <| .nil) (by kernel_rfl) ?_
  refine pSeq ?_
  refine wSeq ?_
  obtain ⟨hc1, h⟩ := ib h
  obtain ⟨hc2, h⟩ := ib h
  obtain ⟨hc3, h⟩ := ib h
  obtain ⟨hc4, h⟩ := ib h
  refine rgD hm (cp (oFldP o32_1 tm) (s1 rfl) <| cr (oLdB (n := 1) (k := 2) rfl rfl rfl t28 tm) (s1 rfl) <| cp (oFldP o32_1 tm) (s1 rfl) <| cr (oLdB (n := 1) (k := 2) rfl rfl rfl t28 tm) (s1 rfl) <| cp (oLenL u28 tm) (s1 rfl) <| cp (oMin tm (cI (by decide))) (s1 rfl) <| cp (oCutHi u28 z81 hc1.1 hc1.2 tm tm) (s2 rfl rfl) <| cp (oFldP o32_2 tm) (s1 rfl) <| cr (oLdB (n := 1) (k := 3) rfl rfl rfl t29 tm) (s1 rfl) <| cp (oFldP o32_2 tm) (s1 rfl) <| cr (oLdB (n := 1) (k := 3) rfl rfl rfl t29 tm) (s1 rfl) <| cp (oLenL u29 tm) (s1 rfl) <| cp (oMin tm (cI (by decide))) (s1 rfl) <| cp (oCutHi u29 z27 hc2.1 hc2.2 tm tm) (s2 rfl rfl) <| cp (oFldP o32_3 tm) (s1 rfl) <| cr (oLdB (n := 1) (k := 4) rfl rfl rfl t30 tm) (s1 rfl) <| cp (oFldP o32_3 tm) (s1 rfl) <| cr (oLdB (n := 1) (k := 4) rfl rfl rfl t30 tm) (s1 rfl) <| cp (oLenL u30 tm) (s1 rfl) <| cp (oMin tm (cI (by decide))) (s1 rfl) <| cp (oCutHi u30 z51 hc3.1 hc3.2 tm tm) (s2 rfl rfl) <| cp (oFldP o32_4 tm) (s1 rfl) <| cr (oLdB (n := 1) (k := 5) rfl rfl rfl t29 tm) (s1 rfl) <| cp (oFldP o32_4 tm) (s1 rfl) <| cr (oLdB (n := 1) (k := 5) rfl rfl rfl t29 tm) (s1 rfl) <| cp (oLenL u29 tm) (s1 rfl) <| cp (oMin tm (cI (by decide))) (s1 rfl) <| cp (oCutHi u29 z27 hc4.1 hc4.2 tm tm) (s2 rfl rfl) <| cp (oFldP o32_1 tm) (s1 rfl) <| cwn (oSt (n := 1) (k := 2) rfl rfl rfl rfl z28 tm tm) (s2 rfl rfl) <| cp (oFldP o32_2 tm) (s1 rfl) <| cwn (oSt (n := 1) (k := 3) rfl rfl rfl rfl z29 tm tm) (s2 rfl rfl) <| cp (oFldP o32_3 tm) (s1 rfl) <| cwn (oSt (n := 1) (k := 4) rfl rfl rfl rfl z30 tm tm) (s2 rfl rfl) <| cp (oFldP o32_4 tm) (s1 rfl) <| cwn (oSt (n := 1) (k := 5) rfl rfl rfl rfl z29 tm tm) (s2 rfl rfl) <| .nil) (by kernel_rfl) (by kernel_rfl) ?_
  refine pSeq ?_
  refine wSeq ?_
  refine rg (cr (oLdP (n := 1) (k := 0) (m := 6) (d := (kR f_api_State)) (u := (⟨a0.Pc, lCut a0.Code 0 (if 15 < (a0.Code.length : Int) then 15 else (a0.Code.length : Int)), lCut a0.Mem 0 (if 15 < (a0.Mem.length : Int) then 15 else (a0.Mem.length : Int)), lCut a0.Stack 0 (if 15 < (a0.Stack.length : Int) then 15 else (a0.Stack.length : Int)), lCut a0.Out 0 (if 15 < (a0.Out.length : Int) then 15 else (a0.Out.length : Int))⟩ : api_State)) (lfS (lfC (lfS (lfC lf1 (lfC lf1 lfN))) (lfC lf1 (lfC lf1 (lfC lf1 (lfC lf1 lfN)))))) rfl rfl rfl t32 tm) (s1 rfl) <| cwn (oStP (n := 0) (k := 0) (m := 6) (d := (kR f_api_State)) (u := (⟨a0.Pc, lCut a0.Code 0 (if 15 < (a0.Code.length : Int) then 15 else (a0.Code.length : Int)), lCut a0.Mem 0 (if 15 < (a0.Mem.length : Int) then 15 else (a0.Mem.length : Int)), lCut a0.Stack 0 (if 15 < (a0.Stack.length : Int) then 15 else (a0.Stack.length : Int)), lCut a0.Out 0 (if 15 < (a0.Out.length : Int) then 15 else (a0.Out.length : Int))⟩ : api_State)) (lfS (lfC (lfS (lfC lf1 (lfC lf1 lfN))) (lfC lf1 (lfC lf1 (lfC lf1 (lfC lf1 lfN)))))) rfl rfl rfl z32 tm tm) (s2 rfl rfl) <| .nil) (by kernel_rfl) ?_
  refine pSeq ?_
  refine wRet ?_
  obtain rfl := so h
  exact pR1 (.inl rfl) rfl (.boxP (n := 0) (d := (kR f_api_State)) (u := (⟨a0.Pc, lCut a0.Code 0 (if 15 < (a0.Code.length : Int) then 15 else (a0.Code.length : Int)), lCut a0.Mem 0 (if 15 < (a0.Mem.length : Int) then 15 else (a0.Mem.length : Int)), lCut a0.Stack 0 (if 15 < (a0.Stack.length : Int) then 15 else (a0.Stack.length : Int)), lCut a0.Out 0 (if 15 < (a0.Out.length : Int) then 15 else (a0.Out.length : Int))⟩ : api_State)) rfl rfl (lfS (lfC (lfS (lfC lf1 (lfC lf1 lfN))) (lfC lf1 (lfC lf1 (lfC lf1 (lfC lf1 lfN)))))) rfl t32 <| .nil)

theorem lattice_name.ok {a0 : Str} {r : Bool} (h : lattice_name.f a0 = some r) : FnA Tryz.prog 77 [kS.sig a0] (kB.sig r) := by
  refine fnIntro Tryz.func77 rfl (by kernel_rfl) fun H0 w0 => ?_
  unfold lattice_name.f at h
  refine wSeq ?_
  refine rg (cp (oAs cB) trivial <| .nil) (by kernel_rfl) ?_
  refine pSeq ?_
  refine wSeq ?_
  refine wSeq ?_
  refine rg (cp (oMv tm) (s1 rfl) <| cp (oLenS u9 tm) (s1 rfl) <| cp (oMv (cI (by decide))) trivial <| .nil) (by kernel_rfl) ?_
  refine pSeq ?_
  obtain ⟨o1, h, hk1⟩ := bd h
  refine wK0 (.inr () = o1) ([(0, .d (kS.sig a0))]) ([]) ?_ ?_
  · refine wBlock (wLoop ?_)
    refine lW (pc1 o1 (fun v19 => [(0, .d (kS.sig a0)), (5, .d ((kI .i64).sig (a0.length : Int))), (6, .d ((kI .i64).sig v19))]) (fun v19 => []) (lattice_name.l0.partial_correctness a0) ?_ _ h) ⟨rfl, rfl, rfl, trivial⟩ rfl
    clear h
    intro f' ih v19 h
    refine wSeq ?_
    refine rg (cp (oLt rfl tm tm) (s2 rfl rfl) <| .nil) (by kernel_rfl) ?_
    refine pSeq ?_
    refine wSeq ?_
    rcases ic h with ⟨hp20, h⟩ | ⟨hp20, h⟩
    · refine wCT hp20 tm (s1 rfl) ?_
      refine wSkip ?_
      refine pSeq ?_
      refine wSeq ?_
      refine wBlock ?_
      refine wSeq ?_
      refine rg (cp (oMv tm) (s1 rfl) <| cp (oAs tm) (s1 rfl) <| .nil) (by kernel_rfl) ?_
      refine pSeq ?_
      obtain ⟨o2, h, hk2⟩ := bd h
      refine wJ1 (fun x24 => x24 = o2) (fun x24 => [(0, .d (kS.sig a0)), (5, .d ((kI .i64).sig (a0.length : Int))), (6, .d ((kI .i64).sig v19)), (18, .d (kB.sig x24))]) (fun x24 => []) ?_ ?_
      · obtain ⟨hc25, h⟩ := ib h
        rcases ic h with ⟨hp26, h⟩ | ⟨hp26, h⟩
        · refine rg (cp (oMv tm) (s1 rfl) <| cp (oMv tm) (s1 rfl) <| cp (oIdxS u9 hc25.1 hc25.2 tm tm) (s2 rfl rfl) <| cp (oLt rfl tm (cI (by decide))) (s1 rfl) <| cp (oMv tm) (s1 rfl) <| csB (decide_eq_true hp26) rfl rfl <| csB (decide_eq_true hp26) rfl rfl <| csB (decide_eq_true hp26) rfl rfl <| csB (decide_eq_true hp26) rfl rfl <| cp (oPkT (decide_eq_true hp26) tm cB) (s1 rfl) <| .nil) (by kernel_rfl) ?_
          exact pJ1 _ (so h) ⟨rfl, rfl, rfl, rfl, trivial⟩ rfl
        · obtain ⟨hc27, h⟩ := ib h
          refine rg (cp (oMv tm) (s1 rfl) <| cp (oMv tm) (s1 rfl) <| cp (oIdxS u9 hc25.1 hc25.2 tm tm) (s2 rfl rfl) <| cp (oLt rfl tm (cI (by decide))) (s1 rfl) <| cp (oMv tm) (s1 rfl) <| cgB (decide_eq_false hp26) rfl rfl (oMv tm) (s1 rfl) <| cgB (decide_eq_false hp26) rfl rfl (oMv tm) (s1 rfl) <| cgB (decide_eq_false hp26) rfl rfl (oIdxS u9 hc27.1 hc27.2 tm tm) (s2 rfl rfl) <| cgB (decide_eq_false hp26) rfl rfl (oGt rfl tm (cI (by decide))) (s1 rfl) <| cp (oPkF (decide_eq_false hp26) tm tm) (s2 rfl rfl) <| .nil) (by kernel_rfl) ?_
          exact pJ1 _ (so h) ⟨rfl, rfl, rfl, rfl, trivial⟩ rfl
      · rintro x24 rfl
        replace h := hk2
        rcases ic h with ⟨hp28, h⟩ | ⟨hp28, h⟩
        · refine wBT hp28 tm (s1 rfl) ?_
          refine wSeq ?_
          refine rg (cp (oAs cB) trivial <| .nil) (by kernel_rfl) ?_
          refine pSeq ?_
          refine wRet ?_
          refine pBlkR ?_
          refine pThenR ?_
          refine pThenR ?_
          refine pBlkR ?_
          refine pThenR ?_
          obtain rfl := so h
          replace h := hk1
          refine pThenR ?_
          obtain rfl := so h
          exact pR1 (.inl rfl) rfl (.tmp rfl <| .nil)
        · refine wBF hp28 tm (s1 rfl) ?_
          refine wSkip ?_
          refine pBlkN ?_
          refine pSeq ?_
          refine rg (cp (oAdd tm (cI (by decide))) (s1 rfl) <| cp (oMv tm) (s1 rfl) <| .nil) (by kernel_rfl) ?_
          exact pLoop (lW (ih _ h) ⟨rfl, rfl, rfl, trivial⟩ rfl)
    · refine wCF hp20 tm (s1 rfl) ?_
      refine wExit ?_
      refine pThenX ?_
      refine pThenX ?_
      refine pBlkX ?_
      exact pJ0 (so h) ⟨rfl, trivial⟩ rfl
  · rintro rfl
    replace h := hk1
    refine pSeq ?_
    obtain ⟨o1, h, hk1⟩ := bd h
    refine wJ1 (fun x30 => x30 = o1) (fun x30 => [(2, .d (kB.sig x30))]) (fun x30 => []) ?_ ?_
    · rcases ic h with ⟨hp31, h⟩ | ⟨hp31, h⟩
      · refine rg (cp (oMv tm) (s1 rfl) <| cp (oSNe rfl tm (cS (by decide))) (s1 rfl) <| cp (oMv tm) (s1 rfl) <| csB (nf hp31) rfl rfl <| csB (nf hp31) rfl rfl <| csB (nf hp31) rfl rfl <| cp (oPkF (nf hp31) tm cB) (s1 rfl) <| cp (oAs tm) (s1 rfl) <| .nil) (by kernel_rfl) ?_
        exact pJ1 _ (so h) ⟨rfl, trivial⟩ rfl
      · refine rg (cp (oMv tm) (s1 rfl) <| cp (oSNe rfl tm (cS (by decide))) (s1 rfl) <| cp (oMv tm) (s1 rfl) <| cgB (nt hp31) rfl rfl (oMv tm) (s1 rfl) <| cgB (nt hp31) rfl rfl (oLenS u9 tm) (s1 rfl) <| cgB (nt hp31) rfl rfl (oLe rfl tm (cI (by decide))) (s1 rfl) <| cp (oPkT (nt hp31) tm tm) (s2 rfl rfl) <| cp (oAs tm) (s1 rfl) <| .nil) (by kernel_rfl) ?_
        exact pJ1 _ (so h) ⟨rfl, trivial⟩ rfl
    · rintro x30 rfl
      replace h := hk1
      refine wRet ?_
      obtain rfl := so h
      exact pR1 (.inl rfl) rfl (.tmp rfl <| .nil)

theorem slices_Index_string_string.ok {a0 : List Str} {a1 : Str} {r : Int} (h : slices_Index_string_string.f a0 a1 = some r) : FnA Tryz.prog 101 [(kL kS).sig a0, kS.sig a1] ((kI .i64).sig r) := by
  refine fnIntro Tryz.func101 rfl (by kernel_rfl) fun H0 w0 => ?_
  unfold slices_Index_string_string.f at h
  refine wSeq ?_
  refine rg (cp (oAs (cI (by decide))) trivial <| .nil) (by kernel_rfl) ?_
  refine pSeq ?_
  refine wSeq ?_
  refine wSeq ?_
  refine rg (cp (oMv tm) (s1 rfl) <| cp (oLenL u22 tm) (s1 rfl) <| cp (oMv (cI (by decide))) trivial <| .nil) (by kernel_rfl) ?_
  refine pSeq ?_
  obtain ⟨o1, h, hk1⟩ := bd h
  refine wK0 (.inr () = o1) ([]) ([]) ?_ ?_
  · refine wBlock (wLoop ?_)
    refine lW (pc1 o1 (fun v7 => [(0, .d ((kL kS).sig a0)), (1, .d (kS.sig a1)), (7, .d ((kI .i64).sig (a0.length : Int))), (8, .d ((kI .i64).sig v7))]) (fun v7 => []) (slices_Index_string_string.l0.partial_correctness a0 a1) ?_ _ h) ⟨rfl, rfl, rfl, rfl, trivial⟩ rfl
    clear h
    intro f' ih v7 h
    refine wSeq ?_
    refine rg (cp (oLt rfl tm tm) (s2 rfl rfl) <| .nil) (by kernel_rfl) ?_
    refine pSeq ?_
    refine wSeq ?_
    rcases ic h with ⟨hp8, h⟩ | ⟨hp8, h⟩
    · refine wCT hp8 tm (s1 rfl) ?_
      refine wSkip ?_
      refine pSeq ?_
      refine wSeq ?_
      refine wBlock ?_
      refine wSeq ?_
      refine rg (cp (oMv tm) (s1 rfl) <| cp (oAs tm) (s1 rfl) <| .nil) (by kernel_rfl) ?_
      refine pSeq ?_
      refine wSeq ?_
      obtain ⟨y9, hy9, h⟩ := bd h
      refine rg (cp (oMv tm) (s1 rfl) <| cp (oMv tm) (s1 rfl) <| cp (oMv tm) (s1 rfl) <| cp (oIdx u22 z9 hy9 tm tm) (s2 rfl rfl) <| cp (oLd t9 tm) (s1 rfl) <| cp (oSEq rfl tm tm) (s2 rfl rfl) <| .nil) (by kernel_rfl) ?_
      refine pSeq ?_
      rcases ic h with ⟨hp10, h⟩ | ⟨hp10, h⟩
      · refine wCT hp10 tm (s1 rfl) ?_
        refine wSeq ?_
        refine rg (cp (oMv tm) (s1 rfl) <| cp (oAs tm) (s1 rfl) <| .nil) (by kernel_rfl) ?_
        refine pSeq ?_
        refine wRet ?_
        refine pBlkR ?_
        refine pThenR ?_
        refine pThenR ?_
        refine pBlkR ?_
        refine pThenR ?_
        obtain rfl := so h
        replace h := hk1
        refine pThenR ?_
        obtain rfl := so h
        exact pR1 (.inl rfl) rfl (.tmp rfl <| .nil)
      · refine wCF hp10 tm (s1 rfl) ?_
        refine wSkip ?_
        refine pBlkN ?_
        refine pSeq ?_
        refine rg (cp (oAdd tm (cI (by decide))) (s1 rfl) <| cp (oMv tm) (s1 rfl) <| .nil) (by kernel_rfl) ?_
        exact pLoop (lW (ih _ h) ⟨rfl, rfl, rfl, rfl, trivial⟩ rfl)
    · refine wCF hp8 tm (s1 rfl) ?_
      refine wExit ?_
      refine pThenX ?_
      refine pThenX ?_
      refine pBlkX ?_
      exact pJ0 (so h) trivial rfl
  · rintro rfl
    replace h := hk1
    refine pSeq ?_
    refine wSeq ?_
    refine rg (cp (oAs (cI (by decide))) trivial <| .nil) (by kernel_rfl) ?_
    refine pSeq ?_
    refine wRet ?_
    obtain rfl := so h
    exact pR1 (.inl rfl) rfl (.tmp rfl <| .nil)

theorem slices_Contains_string_string.ok {a0 : List Str} {a1 : Str} {r : Bool} (h : slices_Contains_string_string.f a0 a1 = some r) : FnA Tryz.prog 78 [(kL kS).sig a0, kS.sig a1] (kB.sig r) := by
  refine fnIntro Tryz.func78 rfl (by kernel_rfl) fun H0 w0 => ?_
  unfold slices_Contains_string_string.f at h
  refine wSeq ?_
  refine rg (cp (oAs cB) trivial <| .nil) (by kernel_rfl) ?_
  refine pSeq ?_
  refine wSeq ?_
  obtain ⟨y1, hy1, h⟩ := bd h
  refine rg (cp (oMv tm) (s1 rfl) <| cp (oMv tm) (s1 rfl) <| cp (oCall rfl (slices_Index_string_string.ok hy1) b101 (opds_cons tm (opds_cons tm opds_nil))) (s2 rfl rfl) <| cp (oGe rfl tm (cI (by decide))) (s1 rfl) <| cp (oAs tm) (s1 rfl) <| .nil) (by kernel_rfl) ?_
  refine pSeq ?_
  refine wRet ?_
  obtain rfl := so h
  exact pR1 (.inl rfl) rfl (.tmp rfl <| .nil)

theorem lattice_may.ok {a0 : api_Lattice} {r : Bool} (h : lattice_may.f a0 = some r) : FnA Tryz.prog 47 [(kR f_api_Lattice).sig a0] (kB.sig r) := by
  refine fnIntro Tryz.func47 rfl (by kernel_rfl) fun H0 w0 => ?_
  unfold lattice_may.f at h
  refine wSeq ?_
  refine rg (cp (oBox tm) (s1 rfl) <| cp (oAs cB) trivial <| .nil) (by kernel_rfl) ?_
  refine pSeq ?_
  refine wSeq ?_
  refine rg (cp (oFld (fs := f_api_Lattice) (k := 1) rfl o25_1 tm) (s1 rfl) <| cp (oLd t23 tm) (s1 rfl) <| cp (oLenL u23 tm) (s1 rfl) <| cp (oAs tm) (s1 rfl) <| .nil) (by kernel_rfl) ?_
  refine pSeq ?_
  refine wSeq ?_
  obtain ⟨o1, h, hk1⟩ := bd h
  refine wJ1 (fun x3 => x3 = o1) (fun x3 => [(1, .d (sP (kR f_api_Lattice) a0)), (3, .d ((kI .i64).sig (a0.Up.length : Int))), (21, .d (kB.sig x3))]) (fun x3 => []) ?_ ?_
  · rcases ic h with ⟨hp4, h⟩ | ⟨hp4, h⟩
    · refine rg (cp (oMv tm) (s1 rfl) <| cp (oLt rfl tm (cI (by decide))) (s1 rfl) <| cp (oMv tm) (s1 rfl) <| csB (decide_eq_true hp4) rfl rfl <| csB (decide_eq_true hp4) rfl rfl <| cp (oPkT (decide_eq_true hp4) tm cB) (s1 rfl) <| cp (oMv tm) (s1 rfl) <| csB rfl rfl rfl <| csB rfl rfl rfl <| csB rfl rfl rfl <| csB rfl rfl rfl <| csB rfl rfl rfl <| cp (oPkT rfl tm cB) (s1 rfl) <| .nil) (by kernel_rfl) ?_
      exact pJ1 _ (so h) ⟨rfl, rfl, rfl, trivial⟩ rfl
    · rcases ic h with ⟨hp5, h⟩ | ⟨hp5, h⟩
      · refine rg (cp (oMv tm) (s1 rfl) <| cp (oLt rfl tm (cI (by decide))) (s1 rfl) <| cp (oMv tm) (s1 rfl) <| cgB (decide_eq_false hp4) rfl rfl (oMv tm) (s1 rfl) <| cgB (decide_eq_false hp4) rfl rfl (oGt rfl tm (cI (by decide))) (s1 rfl) <| cp (oPkF (decide_eq_false hp4) tm tm) (s2 rfl rfl) <| cp (oMv tm) (s1 rfl) <| csB (decide_eq_true hp5) rfl rfl <| csB (decide_eq_true hp5) rfl rfl <| csB (decide_eq_true hp5) rfl rfl <| csB (decide_eq_true hp5) rfl rfl <| csB (decide_eq_true hp5) rfl rfl <| cp (oPkT (decide_eq_true hp5) tm cB) (s1 rfl) <| .nil) (by kernel_rfl) ?_
        exact pJ1 _ (so h) ⟨rfl, rfl, rfl, trivial⟩ rfl
      · refine rg (cp (oMv tm) (s1 rfl) <| cp (oLt rfl tm (cI (by decide))) (s1 rfl) <| cp (oMv tm) (s1 rfl) <| cgB (decide_eq_false hp4) rfl rfl (oMv tm) (s1 rfl) <| cgB (decide_eq_false hp4) rfl rfl (oGt rfl tm (cI (by decide))) (s1 rfl) <| cp (oPkF (decide_eq_false hp4) tm tm) (s2 rfl rfl) <| cp (oMv tm) (s1 rfl) <| cgB (decide_eq_false hp5) rfl rfl (oFld (fs := f_api_Lattice) (k := 0) rfl o25_0 tm) (s1 rfl) <| cgB (decide_eq_false hp5) rfl rfl (oLd t22 tm) (s1 rfl) <| cgB (decide_eq_false hp5) rfl rfl (oLenL u22 tm) (s1 rfl) <| cgB (decide_eq_false hp5) rfl rfl (oMv tm) (s1 rfl) <| cgB (decide_eq_false hp5) rfl rfl (oNe rfl tm tm) (s2 rfl rfl) <| cp (oPkF (decide_eq_false hp5) tm tm) (s2 rfl rfl) <| .nil) (by kernel_rfl) ?_
        exact pJ1 _ (so h) ⟨rfl, rfl, rfl, trivial⟩ rfl
  · rintro x3 rfl
    replace h := hk1
    rcases ic h with ⟨hp6, h⟩ | ⟨hp6, h⟩
    · refine wBT hp6 tm (s1 rfl) ?_
      refine wSeq ?_
      refine rg (cp (oAs cB) trivial <| .nil) (by kernel_rfl) ?_
      refine pSeq ?_
      refine wRet ?_
      refine pThenR ?_
      obtain rfl := so h
      exact pR1 (.inl rfl) rfl (.tmp rfl <| .nil)
    · refine wBF hp6 tm (s1 rfl) ?_
      refine wSkip ?_
      refine pSeq ?_
      refine wSeq ?_
      refine wSeq ?_
      refine rg (cp (oFld (fs := f_api_Lattice) (k := 0) rfl o25_0 tm) (s1 rfl) <| cp (oLd t22 tm) (s1 rfl) <| cp (oLenL u22 tm) (s1 rfl) <| cp (oMv (cI (by decide))) trivial <| .nil) (by kernel_rfl) ?_
      refine pSeq ?_
      obtain ⟨o1, h, hk1⟩ := bd h
      refine wK0 (.inr () = o1) ([]) ([]) ?_ ?_
      · refine wBlock (wLoop ?_)
        refine lW (pc1 o1 (fun v43 => [(1, .d (sP (kR f_api_Lattice) a0)), (3, .d ((kI .i64).sig (a0.Up.length : Int))), (23, .d ((kL kS).sig a0.Names)), (24, .d ((kI .i64).sig (a0.Names.length : Int))), (25, .d ((kI .i64).sig v43))]) (fun v43 => []) (lattice_may.l0.partial_correctness a0) ?_ _ h) ⟨rfl, rfl, rfl, rfl, rfl, trivial⟩ rfl
        clear h
        intro f' ih v43 h
        refine wSeq ?_
        refine rg (cp (oLt rfl tm tm) (s2 rfl rfl) <| .nil) (by kernel_rfl) ?_
        refine pSeq ?_
        refine wSeq ?_
        rcases ic h with ⟨hp44, h⟩ | ⟨hp44, h⟩
        · refine wCT hp44 tm (s1 rfl) ?_
          refine wSkip ?_
          refine pSeq ?_
          refine wSeq ?_
          refine wBlock ?_
          refine wSeq ?_
          obtain ⟨y45, hy45, h⟩ := bd h
          refine rg (cp (oMv tm) (s1 rfl) <| cp (oIdx u22 z9 hy45 tm tm) (s2 rfl rfl) <| cp (oLd t9 tm) (s1 rfl) <| cp (oAs tm) (s1 rfl) <| cp (oAs tm) (s1 rfl) <| .nil) (by kernel_rfl) ?_
          refine pSeq ?_
          obtain ⟨o2, h, hk2⟩ := bd h
          refine wJ1 (fun x53 => x53 = o2) (fun x53 => [(1, .d (sP (kR f_api_Lattice) a0)), (3, .d ((kI .i64).sig (a0.Up.length : Int))), (23, .d ((kL kS).sig a0.Names)), (24, .d ((kI .i64).sig (a0.Names.length : Int))), (25, .d ((kI .i64).sig v43)), (50, .d (kB.sig x53))]) (fun x53 => []) ?_ ?_
          · obtain ⟨y54, hy54, h⟩ := bd h
            rcases ic h with ⟨hp55, h⟩ | ⟨hp55, h⟩
            · refine rg (cp (oMv tm) (s1 rfl) <| cp (oCall rfl (lattice_name.ok hy54) b77 (opds_cons tm opds_nil)) (s1 rfl) <| cp (oNot tm) (s1 rfl) <| cp (oMv tm) (s1 rfl) <| csB hp55 rfl rfl <| csB hp55 rfl rfl <| csB hp55 rfl rfl <| csB hp55 rfl rfl <| csB hp55 rfl rfl <| csB hp55 rfl rfl <| cp (oPkT hp55 tm cB) (s1 rfl) <| cp (oMv tm) (s1 rfl) <| csB rfl rfl rfl <| csB rfl rfl rfl <| csB rfl rfl rfl <| csB rfl rfl rfl <| csB rfl rfl rfl <| csB rfl rfl rfl <| csB rfl rfl rfl <| csB rfl rfl rfl <| cp (oPkT rfl tm cB) (s1 rfl) <| .nil) (by kernel_rfl) ?_
              exact pJ1 _ (so h) ⟨rfl, rfl, rfl, rfl, rfl, rfl, trivial⟩ rfl
            · obtain ⟨hc56, h⟩ := ib h
              obtain ⟨y57, hy57, h⟩ := bd h
              rcases ic h with ⟨hp58, h⟩ | ⟨hp58, h⟩
              · refine rg (cp (oMv tm) (s1 rfl) <| cp (oCall rfl (lattice_name.ok hy54) b77 (opds_cons tm opds_nil)) (s1 rfl) <| cp (oNot tm) (s1 rfl) <| cp (oMv tm) (s1 rfl) <| cgB (nb hp55) rfl rfl (oFld (fs := f_api_Lattice) (k := 0) rfl o25_0 tm) (s1 rfl) <| cgB (nb hp55) rfl rfl (oLd t22 tm) (s1 rfl) <| cgB (nb hp55) rfl rfl (oMv tm) (s1 rfl) <| cgB (nb hp55) rfl rfl (oCutHi u22 z9 hc56.1 hc56.2 tm tm) (s2 rfl rfl) <| cgB (nb hp55) rfl rfl (oMv tm) (s1 rfl) <| cgB (nb hp55) rfl rfl (oCall rfl (slices_Contains_string_string.ok hy57) b78 (opds_cons tm (opds_cons tm opds_nil))) (s2 rfl rfl) <| cp (oPkF (nb hp55) tm tm) (s2 rfl rfl) <| cp (oMv tm) (s1 rfl) <| csB hp58 rfl rfl <| csB hp58 rfl rfl <| csB hp58 rfl rfl <| csB hp58 rfl rfl <| csB hp58 rfl rfl <| csB hp58 rfl rfl <| csB hp58 rfl rfl <| csB hp58 rfl rfl <| cp (oPkT hp58 tm cB) (s1 rfl) <| .nil) (by kernel_rfl) ?_
                exact pJ1 _ (so h) ⟨rfl, rfl, rfl, rfl, rfl, rfl, trivial⟩ rfl
              · obtain ⟨y59, hy59, h⟩ := bd h
                obtain ⟨hc60, h⟩ := ib h
                refine rg (cp (oMv tm) (s1 rfl) <| cp (oCall rfl (lattice_name.ok hy54) b77 (opds_cons tm opds_nil)) (s1 rfl) <| cp (oNot tm) (s1 rfl) <| cp (oMv tm) (s1 rfl) <| cgB (nb hp55) rfl rfl (oFld (fs := f_api_Lattice) (k := 0) rfl o25_0 tm) (s1 rfl) <| cgB (nb hp55) rfl rfl (oLd t22 tm) (s1 rfl) <| cgB (nb hp55) rfl rfl (oMv tm) (s1 rfl) <| cgB (nb hp55) rfl rfl (oCutHi u22 z9 hc56.1 hc56.2 tm tm) (s2 rfl rfl) <| cgB (nb hp55) rfl rfl (oMv tm) (s1 rfl) <| cgB (nb hp55) rfl rfl (oCall rfl (slices_Contains_string_string.ok hy57) b78 (opds_cons tm (opds_cons tm opds_nil))) (s2 rfl rfl) <| cp (oPkF (nb hp55) tm tm) (s2 rfl rfl) <| cp (oMv tm) (s1 rfl) <| cgB (nb hp58) rfl rfl (oFld (fs := f_api_Lattice) (k := 1) rfl o25_1 tm) (s1 rfl) <| cgB (nb hp58) rfl rfl (oLd t23 tm) (s1 rfl) <| cgB (nb hp58) rfl rfl (oMv tm) (s1 rfl) <| cgB (nb hp58) rfl rfl (oIdx u23 z61 hy59 tm tm) (s2 rfl rfl) <| cgB (nb hp58) rfl rfl (oLd t61 tm) (s1 rfl) <| cgB (nb hp58) rfl rfl (oMv tm) (s1 rfl) <| cgB (nb hp58) rfl rfl (oShr hc60 tm tm) (s2 rfl rfl) <| cgB (nb hp58) rfl rfl (oNe rfl tm (cI (by decide))) (s1 rfl) <| cp (oPkF (nb hp58) tm tm) (s2 rfl rfl) <| .nil) (by kernel_rfl) ?_
                exact pJ1 _ (so h) ⟨rfl, rfl, rfl, rfl, rfl, rfl, trivial⟩ rfl
          · rintro x53 rfl
            replace h := hk2
            rcases ic h with ⟨hp61, h⟩ | ⟨hp61, h⟩
            · refine wBT hp61 tm (s1 rfl) ?_
              refine wSeq ?_
              refine rg (cp (oAs cB) trivial <| .nil) (by kernel_rfl) ?_
              refine pSeq ?_
              refine wRet ?_
              refine pBlkR ?_
              refine pThenR ?_
              refine pThenR ?_
              refine pBlkR ?_
              refine pThenR ?_
              obtain rfl := so h
              replace h := hk1
              refine pThenR ?_
              obtain rfl := so h
              exact pR1 (.inl rfl) rfl (.tmp rfl <| .nil)
            · refine wBF hp61 tm (s1 rfl) ?_
              refine wSkip ?_
              refine pBlkN ?_
              refine pSeq ?_
              refine rg (cp (oAdd tm (cI (by decide))) (s1 rfl) <| cp (oMv tm) (s1 rfl) <| .nil) (by kernel_rfl) ?_
              exact pLoop (lW (ih _ h) ⟨rfl, rfl, rfl, rfl, rfl, trivial⟩ rfl)
        · refine wCF hp44 tm (s1 rfl) ?_
          refine wExit ?_
          refine pThenX ?_
          refine pThenX ?_
          refine pBlkX ?_
          exact pJ0 (so h) trivial rfl
      · rintro rfl
        replace h := hk1
        refine pSeq ?_
        refine wSeq ?_
        refine rg (cp (oAs cB) trivial <| .nil) (by kernel_rfl) ?_
        refine pSeq ?_
        refine wRet ?_
        obtain rfl := so h
        exact pR1 (.inl rfl) rfl (.tmp rfl <| .nil)

theorem lattice_pairs_1.ok {a1 : Int} : FnY Tryz.prog 80 (fun z => (kI .i64).sig z) (fun z => (kI .i64).sig z) [sP (kI .i64) a1] (fun {σ} a_y a_s => lattice_pairs_1.f a_y a_s a1) := by
  refine fnIntroY 7777 Tryz.func80 rfl (by kernel_rfl) (fun σ A a_y a_s a_r h bs H0 w0 => ?_)
  replace h : lattice_pairs_1.f a_y a_s a1 = some a_r := h
  unfold lattice_pairs_1.f at h
  refine wSeq ?_
  refine rg (cp (oLd t3 tm) (s1 rfl) <| cp (oMv (cI (by decide))) trivial <| .nil) (by kernel_rfl) ?_
  refine pSeq ?_
  obtain ⟨o1, h, hk1⟩ := bd h
  refine wK1 (fun x29 => .inr x29 = o1) (fun x29 => []) (fun x29 => [.abs 7777 A x29]) ?_ ?_
  · refine wBlock (wLoop ?_)
    refine lW (pc2 o1 (fun v27 v28 => [(0, .d (sYield Tryz.prog A a_y (fun z => (kI .i64).sig z) (fun z => (kI .i64).sig z))), (1, .d (sP (kI .i64) a1)), (5, .d ((kI .i64).sig a1)), (6, .d ((kI .i64).sig v28))]) (fun v27 v28 => [.abs 7777 A v27]) (lattice_pairs_1.l2.partial_correctness a_y a1) ?_ _ _ h) ⟨rfl, rfl, rfl, rfl, trivial⟩ rfl
    clear h
    intro f' ih v27 v28 h
    refine wSeq ?_
    refine rg (cp (oLt rfl tm tm) (s2 rfl rfl) <| .nil) (by kernel_rfl) ?_
    refine pSeq ?_
    refine wSeq ?_
    rcases ic h with ⟨hp30, h⟩ | ⟨hp30, h⟩
    · refine wCT hp30 tm (s1 rfl) ?_
      refine wSkip ?_
      refine pSeq ?_
      refine wSeq ?_
      refine wBlock ?_
      refine wSeq ?_
      refine rg (cp (oMv tm) (s1 rfl) <| cp (oAs tm) (s1 rfl) <| .nil) (by kernel_rfl) ?_
      refine pSeq ?_
      refine wSeq ?_
      refine rg (cp (oLd t3 tm) (s1 rfl) <| cp (oMv (cI (by decide))) trivial <| .nil) (by kernel_rfl) ?_
      refine pSeq ?_
      obtain ⟨o2, h, hk2⟩ := bd h
      refine wK1 (fun x39 => .inr x39 = o2) (fun x39 => [(0, .d (sYield Tryz.prog A a_y (fun z => (kI .i64).sig z) (fun z => (kI .i64).sig z))), (1, .d (sP (kI .i64) a1)), (5, .d ((kI .i64).sig a1)), (6, .d ((kI .i64).sig v28))]) (fun x39 => [.abs 7777 A x39]) ?_ ?_
      · refine wBlock (wLoop ?_)
        refine lW (pc2 o2 (fun v37 v38 => [(0, .d (sYield Tryz.prog A a_y (fun z => (kI .i64).sig z) (fun z => (kI .i64).sig z))), (1, .d (sP (kI .i64) a1)), (3, .d ((kI .i64).sig v28)), (5, .d ((kI .i64).sig a1)), (6, .d ((kI .i64).sig v28)), (9, .d ((kI .i64).sig a1)), (10, .d ((kI .i64).sig v38))]) (fun v37 v38 => [.abs 7777 A v37]) (lattice_pairs_1.l3.partial_correctness a_y a1 v28) ?_ _ _ h) ⟨rfl, rfl, rfl, rfl, rfl, rfl, rfl, trivial⟩ rfl
        clear h
        intro f' ih v37 v38 h
        refine wSeq ?_
        refine rg (cp (oLt rfl tm tm) (s2 rfl rfl) <| .nil) (by kernel_rfl) ?_
        refine pSeq ?_
        refine wSeq ?_
        rcases ic h with ⟨hp40, h⟩ | ⟨hp40, h⟩
        · refine wCT hp40 tm (s1 rfl) ?_
          refine wSkip ?_
          refine pSeq ?_
          refine wSeq ?_
          refine wBlock ?_
          refine wSeq ?_
          refine rg (cp (oMv tm) (s1 rfl) <| cp (oAs tm) (s1 rfl) <| .nil) (by kernel_rfl) ?_
          refine pSeq ?_
          refine wSeq ?_
          obtain ⟨y41, hy41, h⟩ := bd h
          refine rg (cp (oMv tm) (s1 rfl) <| cp (oMv tm) (s1 rfl) <| cp (oMv tm) (s1 rfl) <| cm (oYield (n := 0) (id' := 16) rfl hy41 tm tm tm) (s3 rfl rfl rfl) <| cp (oNot tm) (s1 rfl) <| .nil) (by kernel_rfl) ?_
          refine pSeq ?_
          rcases ic h with ⟨hp42, h⟩ | ⟨hp42, h⟩
          · refine wBT hp42 tm (s1 rfl) ?_
            refine wRet ?_
            refine pBlkR ?_
            refine pThenR ?_
            refine pThenR ?_
            refine pBlkR ?_
            refine pThenR ?_
            obtain rfl := so h
            replace h := hk2
            refine pBlkR ?_
            refine pThenR ?_
            refine pThenR ?_
            refine pBlkR ?_
            refine pThenR ?_
            obtain rfl := so h
            replace h := hk1
            obtain rfl := so h
            exact pRY (n := 0) (.inl rfl) rfl rfl rfl
          · refine wBF hp42 tm (s1 rfl) ?_
            refine wSkip ?_
            refine pBlkN ?_
            refine pSeq ?_
            refine rg (cp (oAdd tm (cI (by decide))) (s1 rfl) <| cp (oMv tm) (s1 rfl) <| .nil) (by kernel_rfl) ?_
            refine pSub (Γ' := [(0, .d (sYield Tryz.prog A a_y (fun z => (kI .i64).sig z) (fun z => (kI .i64).sig z))), (1, .d (sP (kI .i64) a1)), (3, .d ((kI .i64).sig v28)), (5, .d ((kI .i64).sig a1)), (6, .d ((kI .i64).sig v28)), (9, .d ((kI .i64).sig a1)), (10, .d ((kI .i64).sig (IntKind.i64.wrap (v38 + 1))))]) ⟨rfl, rfl, rfl, rfl, rfl, rfl, rfl, trivial⟩ ?_
            refine pRen 16 7777 rfl ?_
            exact pLoop (lW (ih _ _ h) ⟨rfl, rfl, rfl, rfl, rfl, rfl, rfl, trivial⟩ rfl)
        · refine wCF hp40 tm (s1 rfl) ?_
          refine wExit ?_
          refine pThenX ?_
          refine pThenX ?_
          refine pBlkX ?_
          exact pJ1 _ (so h) ⟨rfl, rfl, rfl, rfl, trivial⟩ rfl
      · rintro x39 rfl
        replace h := hk2
        refine pBlkN ?_
        refine pSeq ?_
        refine rg (cp (oAdd tm (cI (by decide))) (s1 rfl) <| cp (oMv tm) (s1 rfl) <| .nil) (by kernel_rfl) ?_
        exact pLoop (lW (ih _ _ h) ⟨rfl, rfl, rfl, rfl, trivial⟩ rfl)
    · refine wCF hp30 tm (s1 rfl) ?_
      refine wExit ?_
      refine pThenX ?_
      refine pThenX ?_
      refine pBlkX ?_
      exact pJ1 _ (so h) trivial rfl
  · rintro x29 rfl
    replace h := hk1
    obtain rfl := so h
    exact pRY (n := 0) (.inr rfl) rfl rfl rfl

theorem lattice_pairs.ok {a0 : Int} {r : Int} (h : lattice_pairs.f a0 = some r) : FnA Tryz.prog 49 [(kI .i64).sig a0] ((sClo 80 [sP (kI .i64) r])) := by
  refine fnIntro Tryz.func49 rfl (by kernel_rfl) fun H0 w0 => ?_
  unfold lattice_pairs.f at h
  refine wSeq ?_
  refine rg (cp (oBox tm) (s1 rfl) <| cp (oAs cV) trivial <| .nil) (by kernel_rfl) ?_
  refine pSeq ?_
  refine wSeq ?_
  refine rg (cp (oMkC (caps := [sP (kI .i64) a0]) rfl (opds_cons tm opds_nil)) (s1 rfl) <| cp (oAs tm) (s1 rfl) <| .nil) (by kernel_rfl) ?_
  refine pSeq ?_
  refine wRet ?_
  obtain rfl := so h
  exact pR1 (.inl rfl) rfl (.tmp rfl <| .nil)

theorem lattice_flows.ok {a0 : api_Lattice} {a1 : Int} {a2 : Int} {r : Bool} (h : lattice_flows.f a0 a1 a2 = some r) : FnA Tryz.prog 79 [(kR f_api_Lattice).sig a0, (kI .i64).sig a1, (kI .i64).sig a2] (kB.sig r) := by
  refine fnIntro Tryz.func79 rfl (by kernel_rfl) fun H0 w0 => ?_
  unfold lattice_flows.f at h
  refine wSeq ?_
  refine rg (cp (oBox tm) (s1 rfl) <| cp (oAs cB) trivial <| .nil) (by kernel_rfl) ?_
  refine pSeq ?_
  refine wSeq ?_
  obtain ⟨y1, hy1, h⟩ := bd h
  obtain ⟨hc2, h⟩ := ib h
  refine rg (cp (oFld (fs := f_api_Lattice) (k := 1) rfl o25_1 tm) (s1 rfl) <| cp (oLd t23 tm) (s1 rfl) <| cp (oMv tm) (s1 rfl) <| cp (oIdx u23 z61 hy1 tm tm) (s2 rfl rfl) <| cp (oLd t61 tm) (s1 rfl) <| cp (oMv tm) (s1 rfl) <| cp (oShr hc2 tm tm) (s2 rfl rfl) <| cp (oAnd tm (cI (by decide))) (s1 rfl) <| cp (oEq rfl tm (cI (by decide))) (s1 rfl) <| cp (oAs tm) (s1 rfl) <| .nil) (by kernel_rfl) ?_
  refine pSeq ?_
  refine wRet ?_
  obtain rfl := so h
  exact pR1 (.inl rfl) rfl (.tmp rfl <| .nil)

theorem lattice_order.ok {a0 : api_Lattice} {r : Bool} (h : lattice_order.f a0 = some r) : FnA Tryz.prog 48 [(kR f_api_Lattice).sig a0] (kB.sig r) := by
  refine fnIntro Tryz.func48 rfl (by kernel_rfl) fun H0 w0 => ?_
  unfold lattice_order.f at h
  refine wSeq ?_
  refine rg (cp (oBox tm) (s1 rfl) <| cw (oAlloc (id := 2) (ls := [.d kB false]) ze4 (fun g => ⟨[(.bool false)], _, rfl, zB g.H, rfl⟩)) trivial <| .nil) (by kernel_rfl) ?_
  refine pSeq ?_
  refine wSeq ?_
  refine wSeq ?_
  obtain ⟨y1, hy1, h⟩ := bd h
  refine rg (cp (oFld (fs := f_api_Lattice) (k := 1) rfl o25_1 tm) (s1 rfl) <| cp (oLd t23 tm) (s1 rfl) <| cp (oLenL u23 tm) (s1 rfl) <| cp (oCall rfl (lattice_pairs.ok hy1) b49 (opds_cons tm opds_nil)) (s1 rfl) <| .nil) (by kernel_rfl) ?_
  refine pSeq ?_
  refine wBlock ?_
  obtain ⟨y53, hy53, h⟩ := bd h
  refine wRange (Γ' := [(1, .d (sP (kR f_api_Lattice) a0)), (2, .p 2 0)]) (Γ2 := fun v27 v28 => [(1, .d (sP (kR f_api_Lattice) a0)), (2, .p 2 0), (3, .d ((kI .i64).sig v27)), (4, .d ((kI .i64).sig v28))]) (fun (v26 : Unit) => [.box 2 4 [.d kB false]]) (fun (v26 : Unit) v27 v28 => [.box 2 4 [.d kB false]]) [Code.ret] [2] (lattice_order.y0 a0) () rfl (lattice_pairs_1.ok (a1 := y1)) b80 hy53 rfl ⟨rfl, rfl, trivial⟩ rfl rfl rfl ?_ ?_ ?_
  · intro X H0 w0 l pv v26 v27 v28
    refine wSeq ?_
    refine rg (cp (oAs tm) (s1 rfl) <| .nil) (by kernel_rfl) ?_
    refine pSeq ?_
    refine rg (cp (oAs tm) (s1 rfl) <| .nil) (by kernel_rfl) ?_
    exact qA ⟨rfl, rfl, rfl, rfl, trivial⟩
  · intro X H0 w0 l pv v26 v27 v28 o h
    unfold lattice_order.y0 at h
    refine wBlock ?_
    refine wSeq ?_
    obtain ⟨o2, h, hk2⟩ := bd h
    refine wJ1 (fun x35 => x35 = o2) (fun x35 => [(1, .d (sP (kR f_api_Lattice) a0)), (2, .p 2 0), (3, .d ((kI .i64).sig v27)), (4, .d ((kI .i64).sig v28)), (37, .d (kB.sig x35))]) (fun x35 => [.box 2 4 [.d kB false]]) ?_ ?_
    · rcases ic h with ⟨hp36, h⟩ | ⟨hp36, h⟩
      · obtain ⟨y37, hy37, h⟩ := bd h
        rcases ic h with ⟨hp38, h⟩ | ⟨hp38, h⟩
        · refine rg (cp (oMv tm) (s1 rfl) <| cp (oMv tm) (s1 rfl) <| cp (oEq rfl tm tm) (s2 rfl rfl) <| cp (oMv tm) (s1 rfl) <| cgB (decide_eq_true hp36) rfl rfl (oLd t25 tm) (s1 rfl) <| cgB (decide_eq_true hp36) rfl rfl (oMv tm) (s1 rfl) <| cgB (decide_eq_true hp36) rfl rfl (oMv tm) (s1 rfl) <| cgB (decide_eq_true hp36) rfl rfl (oCall rfl (lattice_flows.ok hy37) b79 (opds_cons tm (opds_cons tm (opds_cons tm opds_nil)))) (s3 rfl rfl rfl) <| cgB (decide_eq_true hp36) rfl rfl (oNot tm) (s1 rfl) <| cp (oPkT (decide_eq_true hp36) tm tm) (s2 rfl rfl) <| cp (oMv tm) (s1 rfl) <| csB hp38 rfl rfl <| csB hp38 rfl rfl <| csB hp38 rfl rfl <| csB hp38 rfl rfl <| csU rfl rfl <| csU rfl rfl <| csU rfl rfl <| csU rfl rfl <| csB hp38 rfl rfl <| csB hp38 rfl rfl <| csU rfl rfl <| csU rfl rfl <| csU rfl rfl <| csU rfl rfl <| csB hp38 rfl rfl <| cp (oPkT hp38 tm cB) (s1 rfl) <| .nil) (by kernel_rfl) ?_
          exact pJ1 _ (so h) ⟨rfl, rfl, rfl, rfl, rfl, trivial⟩ rfl
        · refine rg (cp (oMv tm) (s1 rfl) <| cp (oMv tm) (s1 rfl) <| cp (oEq rfl tm tm) (s2 rfl rfl) <| cp (oMv tm) (s1 rfl) <| cgB (decide_eq_true hp36) rfl rfl (oLd t25 tm) (s1 rfl) <| cgB (decide_eq_true hp36) rfl rfl (oMv tm) (s1 rfl) <| cgB (decide_eq_true hp36) rfl rfl (oMv tm) (s1 rfl) <| cgB (decide_eq_true hp36) rfl rfl (oCall rfl (lattice_flows.ok hy37) b79 (opds_cons tm (opds_cons tm (opds_cons tm opds_nil)))) (s3 rfl rfl rfl) <| cgB (decide_eq_true hp36) rfl rfl (oNot tm) (s1 rfl) <| cp (oPkT (decide_eq_true hp36) tm tm) (s2 rfl rfl) <| cp (oMv tm) (s1 rfl) <| cgB (nb hp38) rfl rfl (oMv tm) (s1 rfl) <| cgB (nb hp38) rfl rfl (oMv tm) (s1 rfl) <| cgB (nb hp38) rfl rfl (oNe rfl tm tm) (s2 rfl rfl) <| cgB (nb hp38) rfl rfl (oMv tm) (s1 rfl) <| csB (nf hp36) rfl rfl <| csB (nf hp36) rfl rfl <| csB (nf hp36) rfl rfl <| csB (nf hp36) rfl rfl <| cgB (nb hp38) rfl rfl (oPkF (nf hp36) tm cB) (s1 rfl) <| cgB (nb hp38) rfl rfl (oMv tm) (s1 rfl) <| csB rfl rfl rfl <| csB rfl rfl rfl <| csB rfl rfl rfl <| csB rfl rfl rfl <| cgB (nb hp38) rfl rfl (oPkF rfl tm cB) (s1 rfl) <| cp (oPkF (nb hp38) tm tm) (s2 rfl rfl) <| .nil) (by kernel_rfl) ?_
          exact pJ1 _ (so h) ⟨rfl, rfl, rfl, rfl, rfl, trivial⟩ rfl
      · obtain ⟨y39, hy39, h⟩ := bd h
        rcases ic h with ⟨hp40, h⟩ | ⟨hp40, h⟩
        · obtain ⟨y41, hy41, h⟩ := bd h
          refine rg (cp (oMv tm) (s1 rfl) <| cp (oMv tm) (s1 rfl) <| cp (oEq rfl tm tm) (s2 rfl rfl) <| cp (oMv tm) (s1 rfl) <| csB (decide_eq_false hp36) rfl rfl <| csB (decide_eq_false hp36) rfl rfl <| csB (decide_eq_false hp36) rfl rfl <| csB (decide_eq_false hp36) rfl rfl <| csB (decide_eq_false hp36) rfl rfl <| cp (oPkF (decide_eq_false hp36) tm cB) (s1 rfl) <| cp (oMv tm) (s1 rfl) <| cgB rfl rfl rfl (oMv tm) (s1 rfl) <| cgB rfl rfl rfl (oMv tm) (s1 rfl) <| cgB rfl rfl rfl (oNe rfl tm tm) (s2 rfl rfl) <| cgB rfl rfl rfl (oMv tm) (s1 rfl) <| cgB (nt hp36) rfl rfl (oLd t25 tm) (s1 rfl) <| cgB (nt hp36) rfl rfl (oMv tm) (s1 rfl) <| cgB (nt hp36) rfl rfl (oMv tm) (s1 rfl) <| cgB (nt hp36) rfl rfl (oCall rfl (lattice_flows.ok hy39) b79 (opds_cons tm (opds_cons tm (opds_cons tm opds_nil)))) (s3 rfl rfl rfl) <| cgB rfl rfl rfl (oPkT (nt hp36) tm tm) (s2 rfl rfl) <| cgB rfl rfl rfl (oMv tm) (s1 rfl) <| cgB hp40 rfl rfl (oLd t25 tm) (s1 rfl) <| cgB hp40 rfl rfl (oMv tm) (s1 rfl) <| cgB hp40 rfl rfl (oMv tm) (s1 rfl) <| cgB hp40 rfl rfl (oCall rfl (lattice_flows.ok hy41) b79 (opds_cons tm (opds_cons tm (opds_cons tm opds_nil)))) (s3 rfl rfl rfl) <| cgB rfl rfl rfl (oPkT hp40 tm tm) (s2 rfl rfl) <| cp (oPkF rfl tm tm) (s2 rfl rfl) <| .nil) (by kernel_rfl) ?_
          exact pJ1 _ (so h) ⟨rfl, rfl, rfl, rfl, rfl, trivial⟩ rfl
        · refine rg (cp (oMv tm) (s1 rfl) <| cp (oMv tm) (s1 rfl) <| cp (oEq rfl tm tm) (s2 rfl rfl) <| cp (oMv tm) (s1 rfl) <| csB (decide_eq_false hp36) rfl rfl <| csB (decide_eq_false hp36) rfl rfl <| csB (decide_eq_false hp36) rfl rfl <| csB (decide_eq_false hp36) rfl rfl <| csB (decide_eq_false hp36) rfl rfl <| cp (oPkF (decide_eq_false hp36) tm cB) (s1 rfl) <| cp (oMv tm) (s1 rfl) <| cgB rfl rfl rfl (oMv tm) (s1 rfl) <| cgB rfl rfl rfl (oMv tm) (s1 rfl) <| cgB rfl rfl rfl (oNe rfl tm tm) (s2 rfl rfl) <| cgB rfl rfl rfl (oMv tm) (s1 rfl) <| cgB (nt hp36) rfl rfl (oLd t25 tm) (s1 rfl) <| cgB (nt hp36) rfl rfl (oMv tm) (s1 rfl) <| cgB (nt hp36) rfl rfl (oMv tm) (s1 rfl) <| cgB (nt hp36) rfl rfl (oCall rfl (lattice_flows.ok hy39) b79 (opds_cons tm (opds_cons tm (opds_cons tm opds_nil)))) (s3 rfl rfl rfl) <| cgB rfl rfl rfl (oPkT (nt hp36) tm tm) (s2 rfl rfl) <| cgB rfl rfl rfl (oMv tm) (s1 rfl) <| csB (nb hp40) rfl rfl <| csB (nb hp40) rfl rfl <| csB (nb hp40) rfl rfl <| csB (nb hp40) rfl rfl <| cgB rfl rfl rfl (oPkF (nb hp40) tm cB) (s1 rfl) <| cp (oPkF rfl tm tm) (s2 rfl rfl) <| .nil) (by kernel_rfl) ?_
          exact pJ1 _ (so h) ⟨rfl, rfl, rfl, rfl, rfl, trivial⟩ rfl
    · rintro x35 rfl
      replace h := hk2
      rcases ic h with ⟨hp42, h⟩ | ⟨hp42, h⟩
      · refine wBT hp42 tm (s1 rfl) ?_
        refine wSeq ?_
        refine rg (cwn (oSt (n := 0) (k := 0) rfl rfl rfl rfl z4 tm cB) (s1 rfl) <| .nil) (by kernel_rfl) ?_
        refine pSeq ?_
        refine wRet ?_
        refine pThenR ?_
        refine pBlkR ?_
        obtain rfl := so h
        exact qR rfl
      · refine wBF hp42 tm (s1 rfl) ?_
        refine wSkip ?_
        refine pSeq ?_
        obtain ⟨o2, h, hk2⟩ := bd h
        refine wJ1 (fun x47 => x47 = o2) (fun x47 => [(2, .p 2 0), (55, .d (kB.sig x47))]) (fun x47 => [.box 2 4 [.d kB false]]) ?_ ?_
        · obtain ⟨y48, hy48, h⟩ := bd h
          rcases ic h with ⟨hp49, h⟩ | ⟨hp49, h⟩
          · obtain ⟨y50, hy50, h⟩ := bd h
            obtain ⟨y51, hy51, h⟩ := bd h
            refine rgD hm (cp (oLd t25 tm) (s1 rfl) <| cp (oMv tm) (s1 rfl) <| cp (oMv tm) (s1 rfl) <| cp (oCall rfl (lattice_flows.ok hy48) b79 (opds_cons tm (opds_cons tm (opds_cons tm opds_nil)))) (s3 rfl rfl rfl) <| cp (oMv tm) (s1 rfl) <| cgB hp49 rfl rfl (oFld (fs := f_api_Lattice) (k := 1) rfl o25_1 tm) (s1 rfl) <| cgB hp49 rfl rfl (oLd t23 tm) (s1 rfl) <| cgB hp49 rfl rfl (oMv tm) (s1 rfl) <| cgB hp49 rfl rfl (oIdx u23 z61 hy50 tm tm) (s2 rfl rfl) <| cgB hp49 rfl rfl (oLd t61 tm) (s1 rfl) <| cgB hp49 rfl rfl (oFld (fs := f_api_Lattice) (k := 1) rfl o25_1 tm) (s1 rfl) <| cgB hp49 rfl rfl (oLd t23 tm) (s1 rfl) <| cgB hp49 rfl rfl (oMv tm) (s1 rfl) <| cgB hp49 rfl rfl (oIdx u23 z61 hy51 tm tm) (s2 rfl rfl) <| cgB hp49 rfl rfl (oLd t61 tm) (s1 rfl) <| cgB hp49 rfl rfl (oAndNot tm tm) (s2 rfl rfl) <| cgB hp49 rfl rfl (oNe rfl tm (cI (by decide))) (s1 rfl) <| cp (oPkT hp49 tm tm) (s2 rfl rfl) <| .nil) (by kernel_rfl) (by kernel_rfl) ?_
            exact pJ1 _ (so h) ⟨rfl, rfl, trivial⟩ rfl
          · refine rgD hm (cp (oLd t25 tm) (s1 rfl) <| cp (oMv tm) (s1 rfl) <| cp (oMv tm) (s1 rfl) <| cp (oCall rfl (lattice_flows.ok hy48) b79 (opds_cons tm (opds_cons tm (opds_cons tm opds_nil)))) (s3 rfl rfl rfl) <| cp (oMv tm) (s1 rfl) <| csB (nb hp49) rfl rfl <| csB (nb hp49) rfl rfl <| csB (nb hp49) rfl rfl <| csB (nb hp49) rfl rfl <| csB (nb hp49) rfl rfl <| csB (nb hp49) rfl rfl <| csB (nb hp49) rfl rfl <| csB (nb hp49) rfl rfl <| csB (nb hp49) rfl rfl <| csB (nb hp49) rfl rfl <| csB (nb hp49) rfl rfl <| csB (nb hp49) rfl rfl <| cp (oPkF (nb hp49) tm cB) (s1 rfl) <| .nil) (by kernel_rfl) (by kernel_rfl) ?_
            exact pJ1 _ (so h) ⟨rfl, rfl, trivial⟩ rfl
        · rintro x47 rfl
          replace h := hk2
          rcases ic h with ⟨hp52, h⟩ | ⟨hp52, h⟩
          · refine wBT hp52 tm (s1 rfl) ?_
            refine wSeq ?_
            refine rg (cwn (oSt (n := 0) (k := 0) rfl rfl rfl rfl z4 tm cB) (s1 rfl) <| .nil) (by kernel_rfl) ?_
            refine pSeq ?_
            refine wRet ?_
            refine pBlkR ?_
            obtain rfl := so h
            exact qR rfl
          · refine wBF hp52 tm (s1 rfl) ?_
            refine wSkip ?_
            refine pBlkN ?_
            obtain rfl := so h
            exact qN
  · rcases ic h with ⟨hj53, h⟩ | ⟨hj53, h⟩
    · refine jp0 hj53 ?_
      refine pBlkN ?_
      refine pSeq ?_
      refine wSeq ?_
      refine rg (cwn (oSt (n := 0) (k := 0) rfl rfl rfl rfl z4 tm cB) (s1 rfl) <| .nil) (by kernel_rfl) ?_
      refine pSeq ?_
      refine wRet ?_
      obtain rfl := so h
      exact pR1 (.inl rfl) rfl (.boxV (n := 0) rfl rfl t4 <| .nil)
    · rcases ic h with ⟨hj53, h⟩ | ⟨hj53, h⟩
      · refine jpR hj53 rfl ?_
        refine pBlkR ?_
        refine pThenR ?_
        obtain rfl := so h
        exact pR1 (.inl rfl) rfl (.boxV (n := 0) rfl rfl t4 <| .nil)
      · cases h

theorem slices_IndexFunc_uint32_uint32.ok {a0 : List Int} {a1 : Int → Option Bool} {r : Int} (h : slices_IndexFunc_uint32_uint32.f a0 a1 = some r) : FnA Tryz.prog 81 [(kL (kI .u32)).sig a0, (sFun Tryz.prog (rl1 (kI .u32) kB a1))] ((kI .i64).sig r) := by
  refine fnIntro Tryz.func81 rfl (by kernel_rfl) fun H0 w0 => ?_
  unfold slices_IndexFunc_uint32_uint32.f at h
  refine wSeq ?_
  refine rg (cp (oAs (cI (by decide))) trivial <| .nil) (by kernel_rfl) ?_
  refine pSeq ?_
  refine wSeq ?_
  refine wSeq ?_
  refine rg (cp (oMv tm) (s1 rfl) <| cp (oLenL u23 tm) (s1 rfl) <| cp (oMv (cI (by decide))) trivial <| .nil) (by kernel_rfl) ?_
  refine pSeq ?_
  obtain ⟨o1, h, hk1⟩ := bd h
  refine wK0 (.inr () = o1) ([]) ([]) ?_ ?_
  · refine wBlock (wLoop ?_)
    refine lW (pc1 o1 (fun v9 => [(0, .d ((kL (kI .u32)).sig a0)), (1, .d ((sFun Tryz.prog (rl1 (kI .u32) kB a1)))), (7, .d ((kI .i64).sig (a0.length : Int))), (8, .d ((kI .i64).sig v9))]) (fun v9 => []) (slices_IndexFunc_uint32_uint32.l0.partial_correctness a0 a1) ?_ _ h) ⟨rfl, rfl, rfl, rfl, trivial⟩ rfl
    clear h
    intro f' ih v9 h
    refine wSeq ?_
    refine rg (cp (oLt rfl tm tm) (s2 rfl rfl) <| .nil) (by kernel_rfl) ?_
    refine pSeq ?_
    refine wSeq ?_
    rcases ic h with ⟨hp10, h⟩ | ⟨hp10, h⟩
    · refine wCT hp10 tm (s1 rfl) ?_
      refine wSkip ?_
      refine pSeq ?_
      refine wSeq ?_
      refine wBlock ?_
      refine wSeq ?_
      refine rg (cp (oMv tm) (s1 rfl) <| cp (oAs tm) (s1 rfl) <| .nil) (by kernel_rfl) ?_
      refine pSeq ?_
      refine wSeq ?_
      obtain ⟨y11, hy11, h⟩ := bd h
      obtain ⟨y12, hy12, h⟩ := bd h
      refine rg (cp (oMv tm) (s1 rfl) <| cp (oMv tm) (s1 rfl) <| cp (oMv tm) (s1 rfl) <| cp (oIdx u23 z61 hy11 tm tm) (s2 rfl rfl) <| cp (oLd t61 tm) (s1 rfl) <| cp (oCallV rfl (rl1i (f := a1) hy12) tm (opds_cons tm opds_nil)) (s2 rfl rfl) <| .nil) (by kernel_rfl) ?_
      refine pSeq ?_
      rcases ic h with ⟨hp13, h⟩ | ⟨hp13, h⟩
      · refine wBT hp13 tm (s1 rfl) ?_
        refine wSeq ?_
        refine rg (cp (oMv tm) (s1 rfl) <| cp (oAs tm) (s1 rfl) <| .nil) (by kernel_rfl) ?_
        refine pSeq ?_
        refine wRet ?_
        refine pBlkR ?_
        refine pThenR ?_
        refine pThenR ?_
        refine pBlkR ?_
        refine pThenR ?_
        obtain rfl := so h
        replace h := hk1
        refine pThenR ?_
        obtain rfl := so h
        exact pR1 (.inl rfl) rfl (.tmp rfl <| .nil)
      · refine wBF hp13 tm (s1 rfl) ?_
        refine wSkip ?_
        refine pBlkN ?_
        refine pSeq ?_
        refine rg (cp (oAdd tm (cI (by decide))) (s1 rfl) <| cp (oMv tm) (s1 rfl) <| .nil) (by kernel_rfl) ?_
        exact pLoop (lW (ih _ h) ⟨rfl, rfl, rfl, rfl, trivial⟩ rfl)
    · refine wCF hp10 tm (s1 rfl) ?_
      refine wExit ?_
      refine pThenX ?_
      refine pThenX ?_
      refine pBlkX ?_
      exact pJ0 (so h) trivial rfl
  · rintro rfl
    replace h := hk1
    refine pSeq ?_
    refine wSeq ?_
    refine rg (cp (oAs (cI (by decide))) trivial <| .nil) (by kernel_rfl) ?_
    refine pSeq ?_
    refine wRet ?_
    obtain rfl := so h
    exact pR1 (.inl rfl) rfl (.tmp rfl <| .nil)

theorem lattice_join_1.ok {a0 : Int} {a1 : Int} {r : Bool} (h : lattice_join_1.f a0 a1 = some r) : FnA Tryz.prog 82 [(kI .u32).sig a0, sP (kI .u32) a1] (kB.sig r) := by
  refine fnIntro Tryz.func82 rfl (by kernel_rfl) fun H0 w0 => ?_
  unfold lattice_join_1.f at h
  refine wSeq ?_
  refine rg (cp (oAs cB) trivial <| .nil) (by kernel_rfl) ?_
  refine pSeq ?_
  refine wSeq ?_
  refine rg (cp (oMv tm) (s1 rfl) <| cp (oLd t61 tm) (s1 rfl) <| cp (oEq rfl tm tm) (s2 rfl rfl) <| cp (oAs tm) (s1 rfl) <| .nil) (by kernel_rfl) ?_
  refine pSeq ?_
  refine wRet ?_
  obtain rfl := so h
  exact pR1 (.inl rfl) rfl (.tmp rfl <| .nil)

theorem lattice_join.ok {a0 : api_Lattice} {a1 : Int} {a2 : Int} {r : Int} (h : lattice_join.f a0 a1 a2 = some r) : FnA Tryz.prog 50 [(kR f_api_Lattice).sig a0, (kI .i64).sig a1, (kI .i64).sig a2] ((kI .i64).sig r) := by
  refine fnIntro Tryz.func50 rfl (by kernel_rfl) fun H0 w0 => ?_
  unfold lattice_join.f at h
  refine wSeq ?_
  refine rg (cp (oBox tm) (s1 rfl) <| cp (oAs (cI (by decide))) trivial <| .nil) (by kernel_rfl) ?_
  refine pSeq ?_
  refine wSeq ?_
  obtain ⟨y1, hy1, h⟩ := bd h
  obtain ⟨y2, hy2, h⟩ := bd h
  refine rgD hm (cp (oFld (fs := f_api_Lattice) (k := 1) rfl o25_1 tm) (s1 rfl) <| cp (oLd t23 tm) (s1 rfl) <| cp (oMv tm) (s1 rfl) <| cp (oIdx u23 z61 hy1 tm tm) (s2 rfl rfl) <| cp (oLd t61 tm) (s1 rfl) <| cp (oFld (fs := f_api_Lattice) (k := 1) rfl o25_1 tm) (s1 rfl) <| cp (oLd t23 tm) (s1 rfl) <| cp (oMv tm) (s1 rfl) <| cp (oIdx u23 z61 hy2 tm tm) (s2 rfl rfl) <| cp (oLd t61 tm) (s1 rfl) <| cp (oAnd tm tm) (s2 rfl rfl) <| cw (oAlloc (id := 7) (ls := [.d (kI .u32) 0]) ze61 (fun g => ⟨[(.int .u32 0)], _, rfl, zI_u32 g.H, rfl⟩)) trivial <| cwn (oSt (n := 0) (k := 0) rfl rfl rfl rfl z61 tm tm) (s2 rfl rfl) <| .nil) (by kernel_rfl) (by kernel_rfl) ?_
  refine pSeq ?_
  refine wSeq ?_
  refine wFrzV 7 (n := 0) (id := 7) rfl rfl rfl ?_
  obtain ⟨y3, hy3, h⟩ := bd h
  refine rg (cp (oFld (fs := f_api_Lattice) (k := 1) rfl o25_1 tm) (s1 rfl) <| cp (oLd t23 tm) (s1 rfl) <| cp (oMkF (Rl := rl1 (kI .u32) kB (fun z0 => lattice_join_1.f z0 (bAnd .u32 y1 y2))) rfl b82 (rl1e lattice_join_1.ok) (opds_cons tm opds_nil)) (s1 rfl) <| cp (oCall rfl (slices_IndexFunc_uint32_uint32.ok hy3) b81 (opds_cons tm (opds_cons tm opds_nil))) (s2 rfl rfl) <| cp (oAs tm) (s1 rfl) <| .nil) (by kernel_rfl) ?_
  refine pSeq ?_
  refine wRet ?_
  obtain rfl := so h
  exact pR1 (.inl rfl) rfl (.tmp rfl <| .nil)

theorem lattice_down.ok {a0 : api_Lattice} {a1 : Int} {r : Int} (h : lattice_down.f a0 a1 = some r) : FnA Tryz.prog 83 [(kR f_api_Lattice).sig a0, (kI .i64).sig a1] ((kI .u32).sig r) := by
  refine fnIntro Tryz.func83 rfl (by kernel_rfl) fun H0 w0 => ?_
  unfold lattice_down.f at h
  refine wSeq ?_
  refine rg (cp (oBox tm) (s1 rfl) <| cp (oAs (cI (by decide))) trivial <| .nil) (by kernel_rfl) ?_
  refine pSeq ?_
  refine wSeq ?_
  refine rg (cp (oAs (cI (by decide))) trivial <| .nil) (by kernel_rfl) ?_
  refine pSeq ?_
  refine wSeq ?_
  refine wSeq ?_
  refine rg (cp (oFld (fs := f_api_Lattice) (k := 1) rfl o25_1 tm) (s1 rfl) <| cp (oLd t23 tm) (s1 rfl) <| cp (oLenL u23 tm) (s1 rfl) <| cp (oMv (cI (by decide))) trivial <| .nil) (by kernel_rfl) ?_
  refine pSeq ?_
  obtain ⟨o1, h, hk1⟩ := bd h
  refine wK1 (fun x10 => x10 = o1) (fun x10 => [(5, .d ((kI .u32).sig x10))]) (fun x10 => []) ?_ ?_
  · refine wBlock (wLoop ?_)
    refine lW (pc2 o1 (fun v8 v9 => [(1, .d ((kI .i64).sig a1)), (2, .d (sP (kR f_api_Lattice) a0)), (5, .d ((kI .u32).sig v9)), (9, .d ((kI .i64).sig (a0.Up.length : Int))), (10, .d ((kI .i64).sig v8))]) (fun v8 v9 => []) (lattice_down.l0.partial_correctness a0 a1) ?_ _ _ h) ⟨rfl, rfl, rfl, rfl, rfl, trivial⟩ rfl
    clear h
    intro f' ih v8 v9 h
    refine wSeq ?_
    refine rg (cp (oLt rfl tm tm) (s2 rfl rfl) <| .nil) (by kernel_rfl) ?_
    refine pSeq ?_
    refine wSeq ?_
    rcases ic h with ⟨hp11, h⟩ | ⟨hp11, h⟩
    · refine wCT hp11 tm (s1 rfl) ?_
      refine wSkip ?_
      refine pSeq ?_
      refine wSeq ?_
      refine wBlock ?_
      refine wSeq ?_
      refine rg (cp (oMv tm) (s1 rfl) <| cp (oAs tm) (s1 rfl) <| .nil) (by kernel_rfl) ?_
      refine pSeq ?_
      obtain ⟨y12, hy12, h⟩ := bd h
      obtain ⟨hc13, h⟩ := ib h
      obtain ⟨hc14, h⟩ := ib h
      refine rg (cp (oMv tm) (s1 rfl) <| cp (oFld (fs := f_api_Lattice) (k := 1) rfl o25_1 tm) (s1 rfl) <| cp (oLd t23 tm) (s1 rfl) <| cp (oMv tm) (s1 rfl) <| cp (oIdx u23 z61 hy12 tm tm) (s2 rfl rfl) <| cp (oLd t61 tm) (s1 rfl) <| cp (oMv tm) (s1 rfl) <| cp (oShr hc13 tm tm) (s2 rfl rfl) <| cp (oAnd tm (cI (by decide))) (s1 rfl) <| cp (oMv tm) (s1 rfl) <| cp (oShl hc14 tm tm) (s2 rfl rfl) <| cp (oOr tm tm) (s2 rfl rfl) <| cp (oAs tm) (s1 rfl) <| .nil) (by kernel_rfl) ?_
      refine pBlkN ?_
      refine pSeq ?_
      refine rg (cp (oAdd tm (cI (by decide))) (s1 rfl) <| cp (oMv tm) (s1 rfl) <| .nil) (by kernel_rfl) ?_
      exact pLoop (lW (ih _ _ h) ⟨rfl, rfl, rfl, rfl, rfl, trivial⟩ rfl)
    · refine wCF hp11 tm (s1 rfl) ?_
      refine wExit ?_
      refine pThenX ?_
      refine pThenX ?_
      refine pBlkX ?_
      exact pJ1 _ (so h) ⟨rfl, trivial⟩ rfl
  · rintro x10 rfl
    replace h := hk1
    refine pSeq ?_
    refine wSeq ?_
    refine rg (cp (oMv tm) (s1 rfl) <| cp (oAs tm) (s1 rfl) <| .nil) (by kernel_rfl) ?_
    refine pSeq ?_
    refine wRet ?_
    obtain rfl := so h
    exact pR1 (.inl rfl) rfl (.tmp rfl <| .nil)

theorem lattice_meet.ok {a0 : api_Lattice} {a1 : Int} {a2 : Int} {r : Int} (h : lattice_meet.f a0 a1 a2 = some r) : FnA Tryz.prog 51 [(kR f_api_Lattice).sig a0, (kI .i64).sig a1, (kI .i64).sig a2] ((kI .i64).sig r) := by
  refine fnIntro Tryz.func51 rfl (by kernel_rfl) fun H0 w0 => ?_
  unfold lattice_meet.f at h
  refine wSeq ?_
  refine rg (cp (oBox tm) (s1 rfl) <| cp (oAs (cI (by decide))) trivial <| .nil) (by kernel_rfl) ?_
  refine pSeq ?_
  refine wSeq ?_
  obtain ⟨y1, hy1, h⟩ := bd h
  obtain ⟨y2, hy2, h⟩ := bd h
  refine rgD hm (cp (oLd t25 tm) (s1 rfl) <| cp (oMv tm) (s1 rfl) <| cp (oCall rfl (lattice_down.ok hy1) b83 (opds_cons tm (opds_cons tm opds_nil))) (s2 rfl rfl) <| cp (oLd t25 tm) (s1 rfl) <| cp (oMv tm) (s1 rfl) <| cp (oCall rfl (lattice_down.ok hy2) b83 (opds_cons tm (opds_cons tm opds_nil))) (s2 rfl rfl) <| cp (oAnd tm tm) (s2 rfl rfl) <| cp (oAs tm) (s1 rfl) <| .nil) (by kernel_rfl) (by kernel_rfl) ?_
  refine pSeq ?_
  refine wSeq ?_
  refine wSeq ?_
  refine rg (cp (oFld (fs := f_api_Lattice) (k := 1) rfl o25_1 tm) (s1 rfl) <| cp (oLd t23 tm) (s1 rfl) <| cp (oLenL u23 tm) (s1 rfl) <| cp (oMv (cI (by decide))) trivial <| .nil) (by kernel_rfl) ?_
  refine pSeq ?_
  obtain ⟨o1, h, hk1⟩ := bd h
  refine wK0 (.inr () = o1) ([]) ([]) ?_ ?_
  · refine wBlock (wLoop ?_)
    refine lW (pc1 o1 (fun v9 => [(3, .d (sP (kR f_api_Lattice) a0)), (7, .d ((kI .u32).sig (bAnd .u32 y1 y2))), (18, .d ((kI .i64).sig (a0.Up.length : Int))), (19, .d ((kI .i64).sig v9))]) (fun v9 => []) (lattice_meet.l0.partial_correctness a0 y1 y2) ?_ _ h) ⟨rfl, rfl, rfl, rfl, trivial⟩ rfl
    clear h
    intro f' ih v9 h
    refine wSeq ?_
    refine rg (cp (oLt rfl tm tm) (s2 rfl rfl) <| .nil) (by kernel_rfl) ?_
    refine pSeq ?_
    refine wSeq ?_
    rcases ic h with ⟨hp10, h⟩ | ⟨hp10, h⟩
    · refine wCT hp10 tm (s1 rfl) ?_
      refine wSkip ?_
      refine pSeq ?_
      refine wSeq ?_
      refine wBlock ?_
      refine wSeq ?_
      refine rg (cp (oMv tm) (s1 rfl) <| cp (oAs tm) (s1 rfl) <| .nil) (by kernel_rfl) ?_
      refine pSeq ?_
      refine wSeq ?_
      obtain ⟨y11, hy11, h⟩ := bd h
      refine rg (cp (oLd t25 tm) (s1 rfl) <| cp (oMv tm) (s1 rfl) <| cp (oCall rfl (lattice_down.ok hy11) b83 (opds_cons tm (opds_cons tm opds_nil))) (s2 rfl rfl) <| cp (oMv tm) (s1 rfl) <| cp (oEq rfl tm tm) (s2 rfl rfl) <| .nil) (by kernel_rfl) ?_
      refine pSeq ?_
      rcases ic h with ⟨hp12, h⟩ | ⟨hp12, h⟩
      · refine wCT hp12 tm (s1 rfl) ?_
        refine wSeq ?_
        refine rg (cp (oMv tm) (s1 rfl) <| cp (oAs tm) (s1 rfl) <| .nil) (by kernel_rfl) ?_
        refine pSeq ?_
        refine wRet ?_
        refine pBlkR ?_
        refine pThenR ?_
        refine pThenR ?_
        refine pBlkR ?_
        refine pThenR ?_
        obtain rfl := so h
        replace h := hk1
        refine pThenR ?_
        obtain rfl := so h
        exact pR1 (.inl rfl) rfl (.tmp rfl <| .nil)
      · refine wCF hp12 tm (s1 rfl) ?_
        refine wSkip ?_
        refine pBlkN ?_
        refine pSeq ?_
        refine rg (cp (oAdd tm (cI (by decide))) (s1 rfl) <| cp (oMv tm) (s1 rfl) <| .nil) (by kernel_rfl) ?_
        exact pLoop (lW (ih _ h) ⟨rfl, rfl, rfl, rfl, trivial⟩ rfl)
    · refine wCF hp10 tm (s1 rfl) ?_
      refine wExit ?_
      refine pThenX ?_
      refine pThenX ?_
      refine pBlkX ?_
      exact pJ0 (so h) trivial rfl
  · rintro rfl
    replace h := hk1
    refine pSeq ?_
    refine wSeq ?_
    refine rg (cp (oAs (cI (by decide))) trivial <| .nil) (by kernel_rfl) ?_
    refine pSeq ?_
    refine wRet ?_
    obtain rfl := so h
    exact pR1 (.inl rfl) rfl (.tmp rfl <| .nil)

theorem lattice_Check.ok {a0 : api_Lattice} {r : Int} (h : lattice_Check.f a0 = some r) : FnA Tryz.prog 16 [(kR f_api_Lattice).sig a0] ((kI .i64).sig r) := by
  refine fnIntro Tryz.func16 rfl (by kernel_rfl) fun H0 w0 => ?_
  unfold lattice_Check.f at h
  refine wSeq ?_
  refine rg (cp (oBox tm) (s1 rfl) <| cw (oAlloc (id := 2) (ls := [.d (kI .i64) 0]) ze35 (fun g => ⟨[(.int .i64 0)], _, rfl, zI_i64 g.H, rfl⟩)) trivial <| .nil) (by kernel_rfl) ?_
  refine pSeq ?_
  refine wSeq ?_
  refine wBlock ?_
  refine wSeq ?_
  obtain ⟨y1, hy1, h⟩ := bd h
  refine rg (cp (oLd t25 tm) (s1 rfl) <| cp (oCall rfl (lattice_may.ok hy1) b47 (opds_cons tm opds_nil)) (s1 rfl) <| cp (oNot tm) (s1 rfl) <| cp (oAs tm) (s1 rfl) <| .nil) (by kernel_rfl) ?_
  refine pSeq ?_
  rcases ic h with ⟨hp2, h⟩ | ⟨hp2, h⟩
  · refine wBT hp2 tm (s1 rfl) ?_
    refine wSeq ?_
    refine rg (cwn (oSt (n := 0) (k := 0) rfl rfl rfl rfl z35 tm (cI (by decide))) (s1 rfl) <| .nil) (by kernel_rfl) ?_
    refine pSeq ?_
    refine wRet ?_
    refine pBlkR ?_
    refine pThenR ?_
    obtain rfl := so h
    exact pR1 (.inl rfl) rfl (.boxV (n := 0) rfl rfl t35 <| .nil)
  · refine wBF hp2 tm (s1 rfl) ?_
    refine wSeq ?_
    obtain ⟨y3, hy3, h⟩ := bd h
    refine rg (cp (oLd t25 tm) (s1 rfl) <| cp (oCall rfl (lattice_order.ok hy3) b48 (opds_cons tm opds_nil)) (s1 rfl) <| cp (oNot tm) (s1 rfl) <| cp (oAs tm) (s1 rfl) <| .nil) (by kernel_rfl) ?_
    refine pSeq ?_
    rcases ic h with ⟨hp4, h⟩ | ⟨hp4, h⟩
    · refine wBT hp4 tm (s1 rfl) ?_
      refine wSeq ?_
      refine rg (cwn (oSt (n := 0) (k := 0) rfl rfl rfl rfl z35 tm (cI (by decide))) (s1 rfl) <| .nil) (by kernel_rfl) ?_
      refine pSeq ?_
      refine wRet ?_
      refine pBlkR ?_
      refine pThenR ?_
      obtain rfl := so h
      exact pR1 (.inl rfl) rfl (.boxV (n := 0) rfl rfl t35 <| .nil)
    · refine wBF hp4 tm (s1 rfl) ?_
      refine wSkip ?_
      refine pBlkN ?_
      refine pSeq ?_
      refine wSeq ?_
      refine wSeq ?_
      obtain ⟨y5, hy5, h⟩ := bd h
      refine rg (cp (oFld (fs := f_api_Lattice) (k := 1) rfl o25_1 tm) (s1 rfl) <| cp (oLd t23 tm) (s1 rfl) <| cp (oLenL u23 tm) (s1 rfl) <| cp (oCall rfl (lattice_pairs.ok hy5) b49 (opds_cons tm opds_nil)) (s1 rfl) <| .nil) (by kernel_rfl) ?_
      refine pSeq ?_
      refine wBlock ?_
      obtain ⟨y33, hy33, h⟩ := bd h
      refine wRange (Γ' := [(1, .d (sP (kR f_api_Lattice) a0)), (2, .p 2 0)]) (Γ2 := fun v23 v24 => [(1, .d (sP (kR f_api_Lattice) a0)), (2, .p 2 0), (3, .d ((kI .i64).sig v23)), (4, .d ((kI .i64).sig v24))]) (fun (v22 : Int) => [.box 2 35 [.d (kI .i64) v22]]) (fun (v22 : Int) v23 v24 => [.box 2 35 [.d (kI .i64) v22]]) [Code.ret] [2] (lattice_Check.y0 a0) 0 rfl (lattice_pairs_1.ok (a1 := y5)) b80 hy33 rfl ⟨rfl, rfl, trivial⟩ rfl rfl rfl ?_ ?_ ?_
      · intro X H0 w0 l pv v22 v23 v24
        refine wSeq ?_
        refine rg (cp (oAs tm) (s1 rfl) <| .nil) (by kernel_rfl) ?_
        refine pSeq ?_
        refine rg (cp (oAs tm) (s1 rfl) <| .nil) (by kernel_rfl) ?_
        exact qA ⟨rfl, rfl, rfl, rfl, trivial⟩
      · intro X H0 w0 l pv v22 v23 v24 o h
        unfold lattice_Check.y0 at h
        refine wBlock ?_
        obtain ⟨o2, h, hk2⟩ := bd h
        refine wJ1 (fun x28 => x28 = o2) (fun x28 => [(2, .p 2 0), (30, .d (kB.sig x28))]) (fun x28 => [.box 2 35 [.d (kI .i64) v22]]) ?_ ?_
        · obtain ⟨y29, hy29, h⟩ := bd h
          rcases ic h with ⟨hp30, h⟩ | ⟨hp30, h⟩
          · refine rg (cp (oLd t25 tm) (s1 rfl) <| cp (oMv tm) (s1 rfl) <| cp (oMv tm) (s1 rfl) <| cp (oCall rfl (lattice_join.ok hy29) b50 (opds_cons tm (opds_cons tm (opds_cons tm opds_nil)))) (s3 rfl rfl rfl) <| cp (oLt rfl tm (cI (by decide))) (s1 rfl) <| cp (oMv tm) (s1 rfl) <| csB (decide_eq_true hp30) rfl rfl <| csB (decide_eq_true hp30) rfl rfl <| csB (decide_eq_true hp30) rfl rfl <| csB (decide_eq_true hp30) rfl rfl <| csB (decide_eq_true hp30) rfl rfl <| cp (oPkT (decide_eq_true hp30) tm cB) (s1 rfl) <| .nil) (by kernel_rfl) ?_
            exact pJ1 _ (so h) ⟨rfl, rfl, trivial⟩ rfl
          · obtain ⟨y31, hy31, h⟩ := bd h
            refine rg (cp (oLd t25 tm) (s1 rfl) <| cp (oMv tm) (s1 rfl) <| cp (oMv tm) (s1 rfl) <| cp (oCall rfl (lattice_join.ok hy29) b50 (opds_cons tm (opds_cons tm (opds_cons tm opds_nil)))) (s3 rfl rfl rfl) <| cp (oLt rfl tm (cI (by decide))) (s1 rfl) <| cp (oMv tm) (s1 rfl) <| cgB (decide_eq_false hp30) rfl rfl (oLd t25 tm) (s1 rfl) <| cgB (decide_eq_false hp30) rfl rfl (oMv tm) (s1 rfl) <| cgB (decide_eq_false hp30) rfl rfl (oMv tm) (s1 rfl) <| cgB (decide_eq_false hp30) rfl rfl (oCall rfl (lattice_meet.ok hy31) b51 (opds_cons tm (opds_cons tm (opds_cons tm opds_nil)))) (s3 rfl rfl rfl) <| cgB (decide_eq_false hp30) rfl rfl (oLt rfl tm (cI (by decide))) (s1 rfl) <| cp (oPkF (decide_eq_false hp30) tm tm) (s2 rfl rfl) <| .nil) (by kernel_rfl) ?_
            exact pJ1 _ (so h) ⟨rfl, rfl, trivial⟩ rfl
        · rintro x28 rfl
          replace h := hk2
          rcases ic h with ⟨hp32, h⟩ | ⟨hp32, h⟩
          · refine wBT hp32 tm (s1 rfl) ?_
            refine wSeq ?_
            refine rg (cwn (oSt (n := 0) (k := 0) rfl rfl rfl rfl z35 tm (cI (by decide))) (s1 rfl) <| .nil) (by kernel_rfl) ?_
            refine pSeq ?_
            refine wRet ?_
            refine pBlkR ?_
            obtain rfl := so h
            exact qR rfl
          · refine wBF hp32 tm (s1 rfl) ?_
            refine wSkip ?_
            refine pBlkN ?_
            obtain rfl := so h
            exact qN
      · rcases ic h with ⟨hj33, h⟩ | ⟨hj33, h⟩
        · refine jp0 hj33 ?_
          refine pBlkN ?_
          refine pSeq ?_
          refine wSeq ?_
          refine rg (cwn (oSt (n := 0) (k := 0) rfl rfl rfl rfl z35 tm (cI (by decide))) (s1 rfl) <| .nil) (by kernel_rfl) ?_
          refine pSeq ?_
          refine wRet ?_
          obtain rfl := so h
          exact pR1 (.inl rfl) rfl (.boxV (n := 0) rfl rfl t35 <| .nil)
        · rcases ic h with ⟨hj33, h⟩ | ⟨hj33, h⟩
          · refine jpR hj33 rfl ?_
            refine pBlkR ?_
            refine pThenR ?_
            obtain rfl := so h
            exact pR1 (.inl rfl) rfl (.boxV (n := 0) rfl rfl t35 <| .nil)
          · cases h

theorem state_value.ok {a0 : Int} {r : Bool} (h : state_value.f a0 = some r) : FnA Tryz.prog 27 [(kI .i64).sig a0] (kB.sig r) := by
  refine fnIntro Tryz.func27 rfl (by kernel_rfl) fun H0 w0 => ?_
  unfold state_value.f at h
  refine wSeq ?_
  refine rg (cp (oAs cB) trivial <| .nil) (by kernel_rfl) ?_
  refine pSeq ?_
  obtain ⟨o1, h, hk1⟩ := bd h
  refine wJ1 (fun x2 => x2 = o1) (fun x2 => [(2, .d (kB.sig x2))]) (fun x2 => []) ?_ ?_
  · rcases ic h with ⟨hp3, h⟩ | ⟨hp3, h⟩
    · refine rg (cp (oMv tm) (s1 rfl) <| cp (oGe rfl tm (cI (by decide))) (s1 rfl) <| cp (oMv tm) (s1 rfl) <| cgB (decide_eq_true hp3) rfl rfl (oMv tm) (s1 rfl) <| cgB (decide_eq_true hp3) rfl rfl (oLe rfl tm (cI (by decide))) (s1 rfl) <| cp (oPkT (decide_eq_true hp3) tm tm) (s2 rfl rfl) <| cp (oAs tm) (s1 rfl) <| .nil) (by kernel_rfl) ?_
      exact pJ1 _ (so h) ⟨rfl, trivial⟩ rfl
    · refine rg (cp (oMv tm) (s1 rfl) <| cp (oGe rfl tm (cI (by decide))) (s1 rfl) <| cp (oMv tm) (s1 rfl) <| csB (decide_eq_false hp3) rfl rfl <| csB (decide_eq_false hp3) rfl rfl <| cp (oPkF (decide_eq_false hp3) tm cB) (s1 rfl) <| cp (oAs tm) (s1 rfl) <| .nil) (by kernel_rfl) ?_
      exact pJ1 _ (so h) ⟨rfl, trivial⟩ rfl
  · rintro x2 rfl
    replace h := hk1
    refine wRet ?_
    obtain rfl := so h
    exact pR1 (.inl rfl) rfl (.tmp rfl <| .nil)

theorem state_place.ok {a0 : Int} {r : Bool} (h : state_place.f a0 = some r) : FnA Tryz.prog 29 [(kI .i64).sig a0] (kB.sig r) := by
  refine fnIntro Tryz.func29 rfl (by kernel_rfl) fun H0 w0 => ?_
  unfold state_place.f at h
  refine wSeq ?_
  refine rg (cp (oAs cB) trivial <| .nil) (by kernel_rfl) ?_
  refine pSeq ?_
  obtain ⟨o1, h, hk1⟩ := bd h
  refine wJ1 (fun x2 => x2 = o1) (fun x2 => [(2, .d (kB.sig x2))]) (fun x2 => []) ?_ ?_
  · rcases ic h with ⟨hp3, h⟩ | ⟨hp3, h⟩
    · refine rg (cp (oMv tm) (s1 rfl) <| cp (oGe rfl tm (cI (by decide))) (s1 rfl) <| cp (oMv tm) (s1 rfl) <| cgB (decide_eq_true hp3) rfl rfl (oMv tm) (s1 rfl) <| cgB (decide_eq_true hp3) rfl rfl (oLe rfl tm (cI (by decide))) (s1 rfl) <| cp (oPkT (decide_eq_true hp3) tm tm) (s2 rfl rfl) <| cp (oAs tm) (s1 rfl) <| .nil) (by kernel_rfl) ?_
      exact pJ1 _ (so h) ⟨rfl, trivial⟩ rfl
    · refine rg (cp (oMv tm) (s1 rfl) <| cp (oGe rfl tm (cI (by decide))) (s1 rfl) <| cp (oMv tm) (s1 rfl) <| csB (decide_eq_false hp3) rfl rfl <| csB (decide_eq_false hp3) rfl rfl <| cp (oPkF (decide_eq_false hp3) tm cB) (s1 rfl) <| cp (oAs tm) (s1 rfl) <| .nil) (by kernel_rfl) ?_
      exact pJ1 _ (so h) ⟨rfl, trivial⟩ rfl
  · rintro x2 rfl
    replace h := hk1
    refine wRet ?_
    obtain rfl := so h
    exact pR1 (.inl rfl) rfl (.tmp rfl <| .nil)

theorem code_spans_1_1.ok {a0 : Int} {a1 : Int} {a2 : Int} {r : Bool} (h : code_spans_1_1.f a0 a1 a2 = some r) : FnA Tryz.prog 104 [(kI .i64).sig a0, sP (kI .i64) a1, sP (kI .i64) a2] (kB.sig r) := by
  refine fnIntro Tryz.func104 rfl (by kernel_rfl) fun H0 w0 => ?_
  unfold code_spans_1_1.f at h
  refine wSeq ?_
  refine rg (cp (oAs cB) trivial <| .nil) (by kernel_rfl) ?_
  refine pSeq ?_
  obtain ⟨o1, h, hk1⟩ := bd h
  refine wJ1 (fun x2 => x2 = o1) (fun x2 => [(4, .d (kB.sig x2))]) (fun x2 => []) ?_ ?_
  · rcases ic h with ⟨hp3, h⟩ | ⟨hp3, h⟩
    · refine rg (cp (oMv tm) (s1 rfl) <| cp (oLd t3 tm) (s1 rfl) <| cp (oGe rfl tm tm) (s2 rfl rfl) <| cp (oMv tm) (s1 rfl) <| cgB (decide_eq_true hp3) rfl rfl (oMv tm) (s1 rfl) <| cgB (decide_eq_true hp3) rfl rfl (oLd t3 tm) (s1 rfl) <| cgB (decide_eq_true hp3) rfl rfl (oLe rfl tm tm) (s2 rfl rfl) <| cp (oPkT (decide_eq_true hp3) tm tm) (s2 rfl rfl) <| cp (oAs tm) (s1 rfl) <| .nil) (by kernel_rfl) ?_
      exact pJ1 _ (so h) ⟨rfl, trivial⟩ rfl
    · refine rg (cp (oMv tm) (s1 rfl) <| cp (oLd t3 tm) (s1 rfl) <| cp (oGe rfl tm tm) (s2 rfl rfl) <| cp (oMv tm) (s1 rfl) <| csB (decide_eq_false hp3) rfl rfl <| csB (decide_eq_false hp3) rfl rfl <| csB (decide_eq_false hp3) rfl rfl <| cp (oPkF (decide_eq_false hp3) tm cB) (s1 rfl) <| cp (oAs tm) (s1 rfl) <| .nil) (by kernel_rfl) ?_
      exact pJ1 _ (so h) ⟨rfl, trivial⟩ rfl
  · rintro x2 rfl
    replace h := hk1
    refine wRet ?_
    obtain rfl := so h
    exact pR1 (.inl rfl) rfl (.tmp rfl <| .nil)

theorem code_spans_1.ok {a0 : Int} {a1 : Int} {r : Int → Option Bool} (h : code_spans_1.f a0 a1 = some r) : FnA Tryz.prog 103 [(kI .i64).sig a0, (kI .i64).sig a1] ((sFun Tryz.prog (rl1 (kI .i64) kB r))) := by
  refine fnIntro Tryz.func103 rfl (by kernel_rfl) fun H0 w0 => ?_
  unfold code_spans_1.f at h
  refine wSeq ?_
  refine rg (cp (oBox tm) (s1 rfl) <| cp (oBox tm) (s1 rfl) <| cp (oAs cV) trivial <| .nil) (by kernel_rfl) ?_
  refine pSeq ?_
  refine wSeq ?_
  refine rg (cp (oMkF (Rl := rl1 (kI .i64) kB (fun z0 => code_spans_1_1.f z0 a0 a1)) rfl b104 (rl1e code_spans_1_1.ok) (opds_cons tm (opds_cons tm opds_nil))) (s2 rfl rfl) <| cp (oAs tm) (s1 rfl) <| .nil) (by kernel_rfl) ?_
  refine pSeq ?_
  refine wRet ?_
  obtain rfl := so h
  exact pR1 (.inl rfl) rfl (.tmp rfl <| .nil)

theorem code_spans.ok {r : List (Int × (Option (Int → Option Bool)))} (h : code_spans.f = some r) : FnA Tryz.prog 85 [] ((sMap (kI .i64) (kFn Tryz.prog (rl1 (kI .i64) kB)) r)) := by
  refine fnIntro Tryz.func85 rfl (by kernel_rfl) fun H0 w0 => ?_
  unfold code_spans.f at h
  refine wSeq ?_
  refine rg (cp (oAs cV) trivial <| .nil) (by kernel_rfl) ?_
  refine pSeq ?_
  refine wSeq ?_
  refine rg (cp (oAs (oFn b103 (rl2sn (o := (fun r => (sFun Tryz.prog (rl1 (kI .i64) kB r)))) code_spans_1.ok))) trivial <| .nil) (by kernel_rfl) ?_
  refine pSeq ?_
  refine wSeq ?_
  obtain ⟨y1, hy1, h⟩ := bd h
  obtain ⟨y2, hy2, h⟩ := bd h
  obtain ⟨y3, hy3, h⟩ := bd h
  obtain ⟨y4, hy4, h⟩ := bd h
  refine rg (cw (oMkMap (id := 2) (dk := (kI .i64)) (dv := (kFn Tryz.prog (rl1 (kI .i64) kB)))) trivial <| cp (oMv tm) (s1 rfl) <| cp (oCallV rfl (rl2si (o := (fun r => (sFun Tryz.prog (rl1 (kI .i64) kB r)))) (f := code_spans_1.f) hy1) tm (opds_cons (cI (by decide)) (opds_cons (cI (by decide)) opds_nil))) (s1 rfl) <| cwn (oInsert (n := 0) (dk := (kI .i64)) (dv := (kFn Tryz.prog (rl1 (kI .i64) kB))) rfl u110 mk3 rfl rfl tm (cI (by decide)) (oSome tm)) (s2 rfl rfl) <| cp (oMv tm) (s1 rfl) <| cp (oCallV rfl (rl2si (o := (fun r => (sFun Tryz.prog (rl1 (kI .i64) kB r)))) (f := code_spans_1.f) hy2) tm (opds_cons (cI (by decide)) (opds_cons (cI (by decide)) opds_nil))) (s1 rfl) <| cwn (oInsert (n := 0) (dk := (kI .i64)) (dv := (kFn Tryz.prog (rl1 (kI .i64) kB))) rfl u110 mk3 rfl rfl tm (cI (by decide)) (oSome tm)) (s2 rfl rfl) <| cp (oMv tm) (s1 rfl) <| cp (oCallV rfl (rl2si (o := (fun r => (sFun Tryz.prog (rl1 (kI .i64) kB r)))) (f := code_spans_1.f) hy3) tm (opds_cons (cI (by decide)) (opds_cons (cI (by decide)) opds_nil))) (s1 rfl) <| cwn (oInsert (n := 0) (dk := (kI .i64)) (dv := (kFn Tryz.prog (rl1 (kI .i64) kB))) rfl u110 mk3 rfl rfl tm (cI (by decide)) (oSome tm)) (s2 rfl rfl) <| cp (oMv tm) (s1 rfl) <| cp (oCallV rfl (rl2si (o := (fun r => (sFun Tryz.prog (rl1 (kI .i64) kB r)))) (f := code_spans_1.f) hy4) tm (opds_cons (cI (by decide)) (opds_cons (cI (by decide)) opds_nil))) (s1 rfl) <| cwn (oInsert (n := 0) (dk := (kI .i64)) (dv := (kFn Tryz.prog (rl1 (kI .i64) kB))) rfl u110 mk3 rfl rfl tm (cI (by decide)) (oSome tm)) (s2 rfl rfl) <| cp (oMv tm) (s1 rfl) <| cp (oAs tm) (s1 rfl) <| .nil) (by kernel_rfl) ?_
  refine pSeq ?_
  refine wFrzM (n := 0) (id := 2) 0 rfl rfl ?_
  refine wRet ?_
  obtain rfl := so h
  exact pR1 (.inl rfl) rfl (.tmp rfl <| .nil)

theorem code_right.ok {a0 : Int} {a1 : api_Instr} {r : Bool} (h : code_right.f a0 a1 = some r) : FnA Tryz.prog 65 [(kI .i64).sig a0, (kR f_api_Instr).sig a1] (kB.sig r) := by
  refine fnIntro Tryz.func65 rfl (by kernel_rfl) fun H0 w0 => ?_
  unfold code_right.f at h
  refine wSeq ?_
  refine rg (cp (oBox tm) (s1 rfl) <| cp (oAs cB) trivial <| .nil) (by kernel_rfl) ?_
  refine pSeq ?_
  refine wSeq ?_
  obtain ⟨o1, h, hk1⟩ := bd h
  refine wJ1 (fun x2 => x2 = o1) (fun x2 => [(0, .d ((kI .i64).sig a0)), (3, .d (sP (kR f_api_Instr) a1)), (14, .d (kB.sig x2))]) (fun x2 => []) ?_ ?_
  · rcases ic h with ⟨hp3, h⟩ | ⟨hp3, h⟩
    · refine rg (cp (oFld (fs := f_api_Instr) (k := 0) rfl o81_0 tm) (s1 rfl) <| cp (oLd t3 tm) (s1 rfl) <| cp (oLt rfl tm (cI (by decide))) (s1 rfl) <| cp (oMv tm) (s1 rfl) <| csB (decide_eq_true hp3) rfl rfl <| csB (decide_eq_true hp3) rfl rfl <| csB (decide_eq_true hp3) rfl rfl <| cp (oPkT (decide_eq_true hp3) tm cB) (s1 rfl) <| .nil) (by kernel_rfl) ?_
      exact pJ1 _ (so h) ⟨rfl, rfl, rfl, trivial⟩ rfl
    · refine rg (cp (oFld (fs := f_api_Instr) (k := 0) rfl o81_0 tm) (s1 rfl) <| cp (oLd t3 tm) (s1 rfl) <| cp (oLt rfl tm (cI (by decide))) (s1 rfl) <| cp (oMv tm) (s1 rfl) <| cgB (decide_eq_false hp3) rfl rfl (oFld (fs := f_api_Instr) (k := 0) rfl o81_0 tm) (s1 rfl) <| cgB (decide_eq_false hp3) rfl rfl (oLd t3 tm) (s1 rfl) <| cgB (decide_eq_false hp3) rfl rfl (oGe rfl tm (cI (by decide))) (s1 rfl) <| cp (oPkF (decide_eq_false hp3) tm tm) (s2 rfl rfl) <| .nil) (by kernel_rfl) ?_
      exact pJ1 _ (so h) ⟨rfl, rfl, rfl, trivial⟩ rfl
  · rintro x2 rfl
    replace h := hk1
    rcases ic h with ⟨hp4, h⟩ | ⟨hp4, h⟩
    · refine wBT hp4 tm (s1 rfl) ?_
      refine wSeq ?_
      refine rg (cp (oAs cB) trivial <| .nil) (by kernel_rfl) ?_
      refine pSeq ?_
      refine wRet ?_
      refine pThenR ?_
      obtain rfl := so h
      exact pR1 (.inl rfl) rfl (.tmp rfl <| .nil)
    · refine wBF hp4 tm (s1 rfl) ?_
      refine wSkip ?_
      refine pSeq ?_
      refine wSeq ?_
      refine wSeq ?_
      obtain ⟨y5, hy5, h⟩ := bd h
      refine rgD hm (cp (oCall rfl (code_spans.ok hy5) b85 opds_nil) trivial <| cp (oFld (fs := f_api_Instr) (k := 0) rfl o81_0 tm) (s1 rfl) <| cp (oLd t3 tm) (s1 rfl) <| cp (oLookup u110 mk3 zv62 zFn rfl tm tm) (s2 rfl rfl) <| cp (oMv tm) (s1 rfl) <| cp (oExt (k := 0) rfl tm) (s1 rfl) <| cp (oExt (k := 1) rfl tm) (s1 rfl) <| cp (oAs tm) (s1 rfl) <| cp (oAs tm) (s1 rfl) <| .nil) (by kernel_rfl) (by kernel_rfl) ?_
      refine pSeq ?_
      obtain ⟨o1, h, hk1⟩ := bd h
      refine wJ1 (fun x12 => x12 = o1) (fun x12 => [(0, .d ((kI .i64).sig a0)), (3, .d (sP (kR f_api_Instr) a1)), (38, .d (kB.sig x12))]) (fun x12 => []) ?_ ?_
      · rcases ic h with ⟨hp13, h⟩ | ⟨hp13, h⟩
        · obtain ⟨y14, hy14, h⟩ := bd h
          obtain ⟨y15, hy15, h⟩ := bd h
          rcases ic h with ⟨hp16, h⟩ | ⟨hp16, h⟩
          · refine rg (cp (oMv tm) (s1 rfl) <| cp (oMv tm) (s1 rfl) <| cgB hp13 rfl rfl (oMv tm) (s1 rfl) <| cgB hp13 rfl rfl (oFld (fs := f_api_Instr) (k := 1) rfl o81_1 tm) (s1 rfl) <| cgB hp13 rfl rfl (oLd t3 tm) (s1 rfl) <| cgB hp13 rfl rfl (oCallV rfl (rl1i (f := y14) hy15) (oGot hy14 tm) (opds_cons tm opds_nil)) (s2 rfl rfl) <| cgB hp13 rfl rfl (oNot tm) (s1 rfl) <| cp (oPkT hp13 tm tm) (s2 rfl rfl) <| cp (oMv tm) (s1 rfl) <| csB hp16 rfl rfl <| csB hp16 rfl rfl <| csB hp16 rfl rfl <| csU rfl rfl <| csU rfl rfl <| csU rfl rfl <| csB hp16 rfl rfl <| cp (oPkT hp16 tm cB) (s1 rfl) <| .nil) (by kernel_rfl) ?_
            exact pJ1 _ (so h) ⟨rfl, rfl, rfl, trivial⟩ rfl
          · rcases ic h with ⟨hp17, h⟩ | ⟨hp17, h⟩
            · refine rg (cp (oMv tm) (s1 rfl) <| cp (oMv tm) (s1 rfl) <| cgB hp13 rfl rfl (oMv tm) (s1 rfl) <| cgB hp13 rfl rfl (oFld (fs := f_api_Instr) (k := 1) rfl o81_1 tm) (s1 rfl) <| cgB hp13 rfl rfl (oLd t3 tm) (s1 rfl) <| cgB hp13 rfl rfl (oCallV rfl (rl1i (f := y14) hy15) (oGot hy14 tm) (opds_cons tm opds_nil)) (s2 rfl rfl) <| cgB hp13 rfl rfl (oNot tm) (s1 rfl) <| cp (oPkT hp13 tm tm) (s2 rfl rfl) <| cp (oMv tm) (s1 rfl) <| cgB (nb hp16) rfl rfl (oMv tm) (s1 rfl) <| cgB (nb hp16) rfl rfl (oNot tm) (s1 rfl) <| cgB (nb hp16) rfl rfl (oMv tm) (s1 rfl) <| cgB hp17 rfl rfl (oFld (fs := f_api_Instr) (k := 1) rfl o81_1 tm) (s1 rfl) <| cgB hp17 rfl rfl (oLd t3 tm) (s1 rfl) <| cgB hp17 rfl rfl (oNe rfl tm (cI (by decide))) (s1 rfl) <| cgB (nb hp16) rfl rfl (oPkT hp17 tm tm) (s2 rfl rfl) <| cp (oPkF (nb hp16) tm tm) (s2 rfl rfl) <| .nil) (by kernel_rfl) ?_
              exact pJ1 _ (so h) ⟨rfl, rfl, rfl, trivial⟩ rfl
            · refine rg (cp (oMv tm) (s1 rfl) <| cp (oMv tm) (s1 rfl) <| cgB hp13 rfl rfl (oMv tm) (s1 rfl) <| cgB hp13 rfl rfl (oFld (fs := f_api_Instr) (k := 1) rfl o81_1 tm) (s1 rfl) <| cgB hp13 rfl rfl (oLd t3 tm) (s1 rfl) <| cgB hp13 rfl rfl (oCallV rfl (rl1i (f := y14) hy15) (oGot hy14 tm) (opds_cons tm opds_nil)) (s2 rfl rfl) <| cgB hp13 rfl rfl (oNot tm) (s1 rfl) <| cp (oPkT hp13 tm tm) (s2 rfl rfl) <| cp (oMv tm) (s1 rfl) <| cgB (nb hp16) rfl rfl (oMv tm) (s1 rfl) <| cgB (nb hp16) rfl rfl (oNot tm) (s1 rfl) <| cgB (nb hp16) rfl rfl (oMv tm) (s1 rfl) <| csB (nb hp17) rfl rfl <| csB (nb hp17) rfl rfl <| csB (nb hp17) rfl rfl <| cgB (nb hp16) rfl rfl (oPkF (nb hp17) tm cB) (s1 rfl) <| cp (oPkF (nb hp16) tm tm) (s2 rfl rfl) <| .nil) (by kernel_rfl) ?_
              exact pJ1 _ (so h) ⟨rfl, rfl, rfl, trivial⟩ rfl
        · rcases ic h with ⟨hp18, h⟩ | ⟨hp18, h⟩
          · refine rg (cp (oMv tm) (s1 rfl) <| cp (oMv tm) (s1 rfl) <| csB (nb hp13) rfl rfl <| csB (nb hp13) rfl rfl <| csB (nb hp13) rfl rfl <| csB (nb hp13) rfl rfl <| csB (nb hp13) rfl rfl <| cp (oPkF (nb hp13) tm cB) (s1 rfl) <| cp (oMv tm) (s1 rfl) <| cgB rfl rfl rfl (oMv tm) (s1 rfl) <| cgB rfl rfl rfl (oNot tm) (s1 rfl) <| cgB rfl rfl rfl (oMv tm) (s1 rfl) <| cgB hp18 rfl rfl (oFld (fs := f_api_Instr) (k := 1) rfl o81_1 tm) (s1 rfl) <| cgB hp18 rfl rfl (oLd t3 tm) (s1 rfl) <| cgB hp18 rfl rfl (oNe rfl tm (cI (by decide))) (s1 rfl) <| cgB rfl rfl rfl (oPkT hp18 tm tm) (s2 rfl rfl) <| cp (oPkF rfl tm tm) (s2 rfl rfl) <| .nil) (by kernel_rfl) ?_
            exact pJ1 _ (so h) ⟨rfl, rfl, rfl, trivial⟩ rfl
          · refine rg (cp (oMv tm) (s1 rfl) <| cp (oMv tm) (s1 rfl) <| csB (nb hp13) rfl rfl <| csB (nb hp13) rfl rfl <| csB (nb hp13) rfl rfl <| csB (nb hp13) rfl rfl <| csB (nb hp13) rfl rfl <| cp (oPkF (nb hp13) tm cB) (s1 rfl) <| cp (oMv tm) (s1 rfl) <| cgB rfl rfl rfl (oMv tm) (s1 rfl) <| cgB rfl rfl rfl (oNot tm) (s1 rfl) <| cgB rfl rfl rfl (oMv tm) (s1 rfl) <| csB (nb hp18) rfl rfl <| csB (nb hp18) rfl rfl <| csB (nb hp18) rfl rfl <| cgB rfl rfl rfl (oPkF (nb hp18) tm cB) (s1 rfl) <| cp (oPkF rfl tm tm) (s2 rfl rfl) <| .nil) (by kernel_rfl) ?_
            exact pJ1 _ (so h) ⟨rfl, rfl, rfl, trivial⟩ rfl
      · rintro x12 rfl
        replace h := hk1
        rcases ic h with ⟨hp19, h⟩ | ⟨hp19, h⟩
        · refine wBT hp19 tm (s1 rfl) ?_
          refine wSeq ?_
          refine rg (cp (oAs cB) trivial <| .nil) (by kernel_rfl) ?_
          refine pSeq ?_
          refine wRet ?_
          refine pThenR ?_
          obtain rfl := so h
          exact pR1 (.inl rfl) rfl (.tmp rfl <| .nil)
        · refine wBF hp19 tm (s1 rfl) ?_
          refine wSkip ?_
          refine pSeq ?_
          refine wSeq ?_
          refine wSeq ?_
          refine rg (cp (oFld (fs := f_api_Instr) (k := 0) rfl o81_0 tm) (s1 rfl) <| cp (oLd t3 tm) (s1 rfl) <| cp (oEq rfl tm (cI (by decide))) (s1 rfl) <| .nil) (by kernel_rfl) ?_
          refine pSeq ?_
          rcases ic h with ⟨hp20, h⟩ | ⟨hp20, h⟩
          · refine wCT hp20 tm (s1 rfl) ?_
            obtain ⟨o1, h, hk1⟩ := bd h
            refine wJ1 (fun x22 => x22 = o1) (fun x22 => [(4, .d (kB.sig x22))]) (fun x22 => []) ?_ ?_
            · rcases ic h with ⟨hp23, h⟩ | ⟨hp23, h⟩
              · refine rg (cp (oFld (fs := f_api_Instr) (k := 2) rfl o81_2 tm) (s1 rfl) <| cp (oLd t3 tm) (s1 rfl) <| cp (oGe rfl tm (cI (by decide))) (s1 rfl) <| cp (oMv tm) (s1 rfl) <| cgB (decide_eq_true hp23) rfl rfl (oFld (fs := f_api_Instr) (k := 2) rfl o81_2 tm) (s1 rfl) <| cgB (decide_eq_true hp23) rfl rfl (oLd t3 tm) (s1 rfl) <| cgB (decide_eq_true hp23) rfl rfl (oMv tm) (s1 rfl) <| cgB (decide_eq_true hp23) rfl rfl (oLt rfl tm tm) (s2 rfl rfl) <| cp (oPkT (decide_eq_true hp23) tm tm) (s2 rfl rfl) <| cp (oAs tm) (s1 rfl) <| .nil) (by kernel_rfl) ?_
                exact pJ1 _ (so h) ⟨rfl, trivial⟩ rfl
              · refine rg (cp (oFld (fs := f_api_Instr) (k := 2) rfl o81_2 tm) (s1 rfl) <| cp (oLd t3 tm) (s1 rfl) <| cp (oGe rfl tm (cI (by decide))) (s1 rfl) <| cp (oMv tm) (s1 rfl) <| csB (decide_eq_false hp23) rfl rfl <| csB (decide_eq_false hp23) rfl rfl <| csB (decide_eq_false hp23) rfl rfl <| csB (decide_eq_false hp23) rfl rfl <| cp (oPkF (decide_eq_false hp23) tm cB) (s1 rfl) <| cp (oAs tm) (s1 rfl) <| .nil) (by kernel_rfl) ?_
                exact pJ1 _ (so h) ⟨rfl, trivial⟩ rfl
            · rintro x22 rfl
              replace h := hk1
              refine wRet ?_
              refine pThenR ?_
              obtain rfl := so h
              exact pR1 (.inl rfl) rfl (.tmp rfl <| .nil)
          · refine wCF hp20 tm (s1 rfl) ?_
            refine wSkip ?_
            refine pSeq ?_
            refine wSeq ?_
            refine rg (cp (oFld (fs := f_api_Instr) (k := 2) rfl o81_2 tm) (s1 rfl) <| cp (oLd t3 tm) (s1 rfl) <| cp (oEq rfl tm (cI (by decide))) (s1 rfl) <| cp (oAs tm) (s1 rfl) <| .nil) (by kernel_rfl) ?_
            refine pSeq ?_
            refine wRet ?_
            obtain rfl := so h
            exact pR1 (.inl rfl) rfl (.tmp rfl <| .nil)

theorem slices_IndexFunc_api_Instr_api_Instr.ok {a0 : List api_Instr} {a1 : api_Instr → Option Bool} {r : Int} (h : slices_IndexFunc_api_Instr_api_Instr.f a0 a1 = some r) : FnA Tryz.prog 100 [(kL (kR f_api_Instr)).sig a0, (sFun Tryz.prog (rl1 (kR f_api_Instr) kB a1))] ((kI .i64).sig r) := by
  refine fnIntro Tryz.func100 rfl (by kernel_rfl) fun H0 w0 => ?_
  unfold slices_IndexFunc_api_Instr_api_Instr.f at h
  refine wSeq ?_
  refine rg (cp (oAs (cI (by decide))) trivial <| .nil) (by kernel_rfl) ?_
  refine pSeq ?_
  refine wSeq ?_
  refine wSeq ?_
  refine rg (cp (oMv tm) (s1 rfl) <| cp (oLenL u28 tm) (s1 rfl) <| cp (oMv (cI (by decide))) trivial <| .nil) (by kernel_rfl) ?_
  refine pSeq ?_
  obtain ⟨o1, h, hk1⟩ := bd h
  refine wK0 (.inr () = o1) ([]) ([]) ?_ ?_
  · refine wBlock (wLoop ?_)
    refine lW (pc1 o1 (fun v9 => [(0, .d ((kL (kR f_api_Instr)).sig a0)), (1, .d ((sFun Tryz.prog (rl1 (kR f_api_Instr) kB a1)))), (7, .d ((kI .i64).sig (a0.length : Int))), (8, .d ((kI .i64).sig v9))]) (fun v9 => []) (slices_IndexFunc_api_Instr_api_Instr.l0.partial_correctness a0 a1) ?_ _ h) ⟨rfl, rfl, rfl, rfl, trivial⟩ rfl
    clear h
    intro f' ih v9 h
    refine wSeq ?_
    refine rg (cp (oLt rfl tm tm) (s2 rfl rfl) <| .nil) (by kernel_rfl) ?_
    refine pSeq ?_
    refine wSeq ?_
    rcases ic h with ⟨hp10, h⟩ | ⟨hp10, h⟩
    · refine wCT hp10 tm (s1 rfl) ?_
      refine wSkip ?_
      refine pSeq ?_
      refine wSeq ?_
      refine wBlock ?_
      refine wSeq ?_
      refine rg (cp (oMv tm) (s1 rfl) <| cp (oAs tm) (s1 rfl) <| .nil) (by kernel_rfl) ?_
      refine pSeq ?_
      refine wSeq ?_
      obtain ⟨y11, hy11, h⟩ := bd h
      obtain ⟨y12, hy12, h⟩ := bd h
      refine rg (cp (oMv tm) (s1 rfl) <| cp (oMv tm) (s1 rfl) <| cp (oMv tm) (s1 rfl) <| cp (oIdx u28 z81 hy11 tm tm) (s2 rfl rfl) <| cp (oLd t81 tm) (s1 rfl) <| cp (oCallV rfl (rl1i (f := a1) hy12) tm (opds_cons tm opds_nil)) (s2 rfl rfl) <| .nil) (by kernel_rfl) ?_
      refine pSeq ?_
      rcases ic h with ⟨hp13, h⟩ | ⟨hp13, h⟩
      · refine wBT hp13 tm (s1 rfl) ?_
        refine wSeq ?_
        refine rg (cp (oMv tm) (s1 rfl) <| cp (oAs tm) (s1 rfl) <| .nil) (by kernel_rfl) ?_
        refine pSeq ?_
        refine wRet ?_
        refine pBlkR ?_
        refine pThenR ?_
        refine pThenR ?_
        refine pBlkR ?_
        refine pThenR ?_
        obtain rfl := so h
        replace h := hk1
        refine pThenR ?_
        obtain rfl := so h
        exact pR1 (.inl rfl) rfl (.tmp rfl <| .nil)
      · refine wBF hp13 tm (s1 rfl) ?_
        refine wSkip ?_
        refine pBlkN ?_
        refine pSeq ?_
        refine rg (cp (oAdd tm (cI (by decide))) (s1 rfl) <| cp (oMv tm) (s1 rfl) <| .nil) (by kernel_rfl) ?_
        exact pLoop (lW (ih _ h) ⟨rfl, rfl, rfl, rfl, trivial⟩ rfl)
    · refine wCF hp10 tm (s1 rfl) ?_
      refine wExit ?_
      refine pThenX ?_
      refine pThenX ?_
      refine pBlkX ?_
      exact pJ0 (so h) trivial rfl
  · rintro rfl
    replace h := hk1
    refine pSeq ?_
    refine wSeq ?_
    refine rg (cp (oAs (cI (by decide))) trivial <| .nil) (by kernel_rfl) ?_
    refine pSeq ?_
    refine wRet ?_
    obtain rfl := so h
    exact pR1 (.inl rfl) rfl (.tmp rfl <| .nil)

theorem slices_ContainsFunc_api_Instr_api_Instr.ok {a0 : List api_Instr} {a1 : api_Instr → Option Bool} {r : Bool} (h : slices_ContainsFunc_api_Instr_api_Instr.f a0 a1 = some r) : FnA Tryz.prog 66 [(kL (kR f_api_Instr)).sig a0, (sFun Tryz.prog (rl1 (kR f_api_Instr) kB a1))] (kB.sig r) := by
  refine fnIntro Tryz.func66 rfl (by kernel_rfl) fun H0 w0 => ?_
  unfold slices_ContainsFunc_api_Instr_api_Instr.f at h
  refine wSeq ?_
  refine rg (cp (oAs cB) trivial <| .nil) (by kernel_rfl) ?_
  refine pSeq ?_
  refine wSeq ?_
  obtain ⟨y1, hy1, h⟩ := bd h
  refine rg (cp (oMv tm) (s1 rfl) <| cp (oMv tm) (s1 rfl) <| cp (oCall rfl (slices_IndexFunc_api_Instr_api_Instr.ok hy1) b100 (opds_cons tm (opds_cons tm opds_nil))) (s2 rfl rfl) <| cp (oGe rfl tm (cI (by decide))) (s1 rfl) <| cp (oAs tm) (s1 rfl) <| .nil) (by kernel_rfl) ?_
  refine pSeq ?_
  refine wRet ?_
  obtain rfl := so h
  exact pR1 (.inl rfl) rfl (.tmp rfl <| .nil)

theorem code_Right_1.ok {a0 : api_Instr} {a1 : api_Lattice} {r : Bool} (h : code_Right_1.f a0 a1 = some r) : FnA Tryz.prog 64 [(kR f_api_Instr).sig a0, sP (kR f_api_Lattice) a1] (kB.sig r) := by
  refine fnIntro Tryz.func64 rfl (by kernel_rfl) fun H0 w0 => ?_
  unfold code_Right_1.f at h
  refine wSeq ?_
  refine rg (cp (oBox tm) (s1 rfl) <| cp (oAs cB) trivial <| .nil) (by kernel_rfl) ?_
  refine pSeq ?_
  refine wSeq ?_
  obtain ⟨y1, hy1, h⟩ := bd h
  refine rg (cp (oFld (fs := f_api_Lattice) (k := 1) rfl o25_1 tm) (s1 rfl) <| cp (oLd t23 tm) (s1 rfl) <| cp (oLenL u23 tm) (s1 rfl) <| cp (oLd t81 tm) (s1 rfl) <| cp (oCall rfl (code_right.ok hy1) b65 (opds_cons tm (opds_cons tm opds_nil))) (s2 rfl rfl) <| cp (oNot tm) (s1 rfl) <| cp (oAs tm) (s1 rfl) <| .nil) (by kernel_rfl) ?_
  refine pSeq ?_
  refine wRet ?_
  obtain rfl := so h
  exact pR1 (.inl rfl) rfl (.tmp rfl <| .nil)

theorem code_Right.ok {a0 : api_Lattice} {a1 : List api_Instr} {r : Bool} (h : code_Right.f a0 a1 = some r) : FnA Tryz.prog 30 [(kR f_api_Lattice).sig a0, (kL (kR f_api_Instr)).sig a1] (kB.sig r) := by
  refine fnIntro Tryz.func30 rfl (by kernel_rfl) fun H0 w0 => ?_
  unfold code_Right.f at h
  refine wSeq ?_
  refine rg (cp (oBox tm) (s1 rfl) <| cp (oAs cB) trivial <| .nil) (by kernel_rfl) ?_
  refine pSeq ?_
  refine wSeq ?_
  refine rg (cp (oMkF (Rl := rl1 (kR f_api_Instr) kB (fun z0 => code_Right_1.f z0 a0)) rfl b64 (rl1e code_Right_1.ok) (opds_cons tm opds_nil)) (s1 rfl) <| cp (oAs tm) (s1 rfl) <| .nil) (by kernel_rfl) ?_
  refine pSeq ?_
  obtain ⟨o1, h, hk1⟩ := bd h
  refine wJ1 (fun x5 => x5 = o1) (fun x5 => [(4, .d (kB.sig x5))]) (fun x5 => []) ?_ ?_
  · obtain ⟨y6, hy6, h⟩ := bd h
    rcases ic h with ⟨hp7, h⟩ | ⟨hp7, h⟩
    · rcases ic h with ⟨hp8, h⟩ | ⟨hp8, h⟩
      · obtain ⟨y9, hy9, h⟩ := bd h
        refine rg (cp (oLd t25 tm) (s1 rfl) <| cp (oCall rfl (lattice_Check.ok hy6) b16 (opds_cons tm opds_nil)) (s1 rfl) <| cp (oEq rfl tm (cI (by decide))) (s1 rfl) <| cp (oMv tm) (s1 rfl) <| cgB (decide_eq_true hp7) rfl rfl (oMv tm) (s1 rfl) <| cgB (decide_eq_true hp7) rfl rfl (oLenL u28 tm) (s1 rfl) <| cgB (decide_eq_true hp7) rfl rfl (oLe rfl tm (cI (by decide))) (s1 rfl) <| cp (oPkT (decide_eq_true hp7) tm tm) (s2 rfl rfl) <| cp (oMv tm) (s1 rfl) <| cgB (decide_eq_true hp8) rfl rfl (oMv tm) (s1 rfl) <| cgB (decide_eq_true hp8) rfl rfl (oMv tm) (s1 rfl) <| cgB (decide_eq_true hp8) rfl rfl (oCall rfl (slices_ContainsFunc_api_Instr_api_Instr.ok hy9) b66 (opds_cons tm (opds_cons tm opds_nil))) (s2 rfl rfl) <| cgB (decide_eq_true hp8) rfl rfl (oNot tm) (s1 rfl) <| cp (oPkT (decide_eq_true hp8) tm tm) (s2 rfl rfl) <| cp (oAs tm) (s1 rfl) <| .nil) (by kernel_rfl) ?_
        exact pJ1 _ (so h) ⟨rfl, trivial⟩ rfl
      · refine rg (cp (oLd t25 tm) (s1 rfl) <| cp (oCall rfl (lattice_Check.ok hy6) b16 (opds_cons tm opds_nil)) (s1 rfl) <| cp (oEq rfl tm (cI (by decide))) (s1 rfl) <| cp (oMv tm) (s1 rfl) <| cgB (decide_eq_true hp7) rfl rfl (oMv tm) (s1 rfl) <| cgB (decide_eq_true hp7) rfl rfl (oLenL u28 tm) (s1 rfl) <| cgB (decide_eq_true hp7) rfl rfl (oLe rfl tm (cI (by decide))) (s1 rfl) <| cp (oPkT (decide_eq_true hp7) tm tm) (s2 rfl rfl) <| cp (oMv tm) (s1 rfl) <| csB (decide_eq_false hp8) rfl rfl <| csB (decide_eq_false hp8) rfl rfl <| csB (decide_eq_false hp8) rfl rfl <| csB (decide_eq_false hp8) rfl rfl <| cp (oPkF (decide_eq_false hp8) tm cB) (s1 rfl) <| cp (oAs tm) (s1 rfl) <| .nil) (by kernel_rfl) ?_
        exact pJ1 _ (so h) ⟨rfl, trivial⟩ rfl
    · refine rg (cp (oLd t25 tm) (s1 rfl) <| cp (oCall rfl (lattice_Check.ok hy6) b16 (opds_cons tm opds_nil)) (s1 rfl) <| cp (oEq rfl tm (cI (by decide))) (s1 rfl) <| cp (oMv tm) (s1 rfl) <| csB (decide_eq_false hp7) rfl rfl <| csB (decide_eq_false hp7) rfl rfl <| csB (decide_eq_false hp7) rfl rfl <| cp (oPkF (decide_eq_false hp7) tm cB) (s1 rfl) <| cp (oMv tm) (s1 rfl) <| csB rfl rfl rfl <| csB rfl rfl rfl <| csB rfl rfl rfl <| csB rfl rfl rfl <| cp (oPkF rfl tm cB) (s1 rfl) <| cp (oAs tm) (s1 rfl) <| .nil) (by kernel_rfl) ?_
      exact pJ1 _ (so h) ⟨rfl, trivial⟩ rfl
  · rintro x5 rfl
    replace h := hk1
    refine wRet ?_
    obtain rfl := so h
    exact pR1 (.inl rfl) rfl (.tmp rfl <| .nil)

theorem slices_IndexFunc_api_Atom_api_Atom.ok {a0 : List api_Atom} {a1 : api_Atom → Option Bool} {r : Int} (h : slices_IndexFunc_api_Atom_api_Atom.f a0 a1 = some r) : FnA Tryz.prog 67 [(kL (kR f_api_Atom)).sig a0, (sFun Tryz.prog (rl1 (kR f_api_Atom) kB a1))] ((kI .i64).sig r) := by
  refine fnIntro Tryz.func67 rfl (by kernel_rfl) fun H0 w0 => ?_
  unfold slices_IndexFunc_api_Atom_api_Atom.f at h
  refine wSeq ?_
  refine rg (cp (oAs (cI (by decide))) trivial <| .nil) (by kernel_rfl) ?_
  refine pSeq ?_
  refine wSeq ?_
  refine wSeq ?_
  refine rg (cp (oMv tm) (s1 rfl) <| cp (oLenL u29 tm) (s1 rfl) <| cp (oMv (cI (by decide))) trivial <| .nil) (by kernel_rfl) ?_
  refine pSeq ?_
  obtain ⟨o1, h, hk1⟩ := bd h
  refine wK0 (.inr () = o1) ([]) ([]) ?_ ?_
  · refine wBlock (wLoop ?_)
    refine lW (pc1 o1 (fun v9 => [(0, .d ((kL (kR f_api_Atom)).sig a0)), (1, .d ((sFun Tryz.prog (rl1 (kR f_api_Atom) kB a1)))), (7, .d ((kI .i64).sig (a0.length : Int))), (8, .d ((kI .i64).sig v9))]) (fun v9 => []) (slices_IndexFunc_api_Atom_api_Atom.l0.partial_correctness a0 a1) ?_ _ h) ⟨rfl, rfl, rfl, rfl, trivial⟩ rfl
    clear h
    intro f' ih v9 h
    refine wSeq ?_
    refine rg (cp (oLt rfl tm tm) (s2 rfl rfl) <| .nil) (by kernel_rfl) ?_
    refine pSeq ?_
    refine wSeq ?_
    rcases ic h with ⟨hp10, h⟩ | ⟨hp10, h⟩
    · refine wCT hp10 tm (s1 rfl) ?_
      refine wSkip ?_
      refine pSeq ?_
      refine wSeq ?_
      refine wBlock ?_
      refine wSeq ?_
      refine rg (cp (oMv tm) (s1 rfl) <| cp (oAs tm) (s1 rfl) <| .nil) (by kernel_rfl) ?_
      refine pSeq ?_
      refine wSeq ?_
      obtain ⟨y11, hy11, h⟩ := bd h
      obtain ⟨y12, hy12, h⟩ := bd h
      refine rg (cp (oMv tm) (s1 rfl) <| cp (oMv tm) (s1 rfl) <| cp (oMv tm) (s1 rfl) <| cp (oIdx u29 z27 hy11 tm tm) (s2 rfl rfl) <| cp (oLd t27 tm) (s1 rfl) <| cp (oCallV rfl (rl1i (f := a1) hy12) tm (opds_cons tm opds_nil)) (s2 rfl rfl) <| .nil) (by kernel_rfl) ?_
      refine pSeq ?_
      rcases ic h with ⟨hp13, h⟩ | ⟨hp13, h⟩
      · refine wBT hp13 tm (s1 rfl) ?_
        refine wSeq ?_
        refine rg (cp (oMv tm) (s1 rfl) <| cp (oAs tm) (s1 rfl) <| .nil) (by kernel_rfl) ?_
        refine pSeq ?_
        refine wRet ?_
        refine pBlkR ?_
        refine pThenR ?_
        refine pThenR ?_
        refine pBlkR ?_
        refine pThenR ?_
        obtain rfl := so h
        replace h := hk1
        refine pThenR ?_
        obtain rfl := so h
        exact pR1 (.inl rfl) rfl (.tmp rfl <| .nil)
      · refine wBF hp13 tm (s1 rfl) ?_
        refine wSkip ?_
        refine pBlkN ?_
        refine pSeq ?_
        refine rg (cp (oAdd tm (cI (by decide))) (s1 rfl) <| cp (oMv tm) (s1 rfl) <| .nil) (by kernel_rfl) ?_
        exact pLoop (lW (ih _ h) ⟨rfl, rfl, rfl, rfl, trivial⟩ rfl)
    · refine wCF hp10 tm (s1 rfl) ?_
      refine wExit ?_
      refine pThenX ?_
      refine pThenX ?_
      refine pBlkX ?_
      exact pJ0 (so h) trivial rfl
  · rintro rfl
    replace h := hk1
    refine pSeq ?_
    refine wSeq ?_
    refine rg (cp (oAs (cI (by decide))) trivial <| .nil) (by kernel_rfl) ?_
    refine pSeq ?_
    refine wRet ?_
    obtain rfl := so h
    exact pR1 (.inl rfl) rfl (.tmp rfl <| .nil)

theorem slices_ContainsFunc_api_Atom_api_Atom.ok {a0 : List api_Atom} {a1 : api_Atom → Option Bool} {r : Bool} (h : slices_ContainsFunc_api_Atom_api_Atom.f a0 a1 = some r) : FnA Tryz.prog 31 [(kL (kR f_api_Atom)).sig a0, (sFun Tryz.prog (rl1 (kR f_api_Atom) kB a1))] (kB.sig r) := by
  refine fnIntro Tryz.func31 rfl (by kernel_rfl) fun H0 w0 => ?_
  unfold slices_ContainsFunc_api_Atom_api_Atom.f at h
  refine wSeq ?_
  refine rg (cp (oAs cB) trivial <| .nil) (by kernel_rfl) ?_
  refine pSeq ?_
  refine wSeq ?_
  obtain ⟨y1, hy1, h⟩ := bd h
  refine rg (cp (oMv tm) (s1 rfl) <| cp (oMv tm) (s1 rfl) <| cp (oCall rfl (slices_IndexFunc_api_Atom_api_Atom.ok hy1) b67 (opds_cons tm (opds_cons tm opds_nil))) (s2 rfl rfl) <| cp (oGe rfl tm (cI (by decide))) (s1 rfl) <| cp (oAs tm) (s1 rfl) <| .nil) (by kernel_rfl) ?_
  refine pSeq ?_
  refine wRet ?_
  obtain rfl := so h
  exact pR1 (.inl rfl) rfl (.tmp rfl <| .nil)

theorem slices_IndexFunc_api_Slot_api_Slot.ok {a0 : List api_Slot} {a1 : api_Slot → Option Bool} {r : Int} (h : slices_IndexFunc_api_Slot_api_Slot.f a0 a1 = some r) : FnA Tryz.prog 68 [(kL (kR f_api_Slot)).sig a0, (sFun Tryz.prog (rl1 (kR f_api_Slot) kB a1))] ((kI .i64).sig r) := by
  refine fnIntro Tryz.func68 rfl (by kernel_rfl) fun H0 w0 => ?_
  unfold slices_IndexFunc_api_Slot_api_Slot.f at h
  refine wSeq ?_
  refine rg (cp (oAs (cI (by decide))) trivial <| .nil) (by kernel_rfl) ?_
  refine pSeq ?_
  refine wSeq ?_
  refine wSeq ?_
  refine rg (cp (oMv tm) (s1 rfl) <| cp (oLenL u30 tm) (s1 rfl) <| cp (oMv (cI (by decide))) trivial <| .nil) (by kernel_rfl) ?_
  refine pSeq ?_
  obtain ⟨o1, h, hk1⟩ := bd h
  refine wK0 (.inr () = o1) ([]) ([]) ?_ ?_
  · refine wBlock (wLoop ?_)
    refine lW (pc1 o1 (fun v9 => [(0, .d ((kL (kR f_api_Slot)).sig a0)), (1, .d ((sFun Tryz.prog (rl1 (kR f_api_Slot) kB a1)))), (7, .d ((kI .i64).sig (a0.length : Int))), (8, .d ((kI .i64).sig v9))]) (fun v9 => []) (slices_IndexFunc_api_Slot_api_Slot.l0.partial_correctness a0 a1) ?_ _ h) ⟨rfl, rfl, rfl, rfl, trivial⟩ rfl
    clear h
    intro f' ih v9 h
    refine wSeq ?_
    refine rg (cp (oLt rfl tm tm) (s2 rfl rfl) <| .nil) (by kernel_rfl) ?_
    refine pSeq ?_
    refine wSeq ?_
    rcases ic h with ⟨hp10, h⟩ | ⟨hp10, h⟩
    · refine wCT hp10 tm (s1 rfl) ?_
      refine wSkip ?_
      refine pSeq ?_
      refine wSeq ?_
      refine wBlock ?_
      refine wSeq ?_
      refine rg (cp (oMv tm) (s1 rfl) <| cp (oAs tm) (s1 rfl) <| .nil) (by kernel_rfl) ?_
      refine pSeq ?_
      refine wSeq ?_
      obtain ⟨y11, hy11, h⟩ := bd h
      obtain ⟨y12, hy12, h⟩ := bd h
      refine rg (cp (oMv tm) (s1 rfl) <| cp (oMv tm) (s1 rfl) <| cp (oMv tm) (s1 rfl) <| cp (oIdx u30 z51 hy11 tm tm) (s2 rfl rfl) <| cp (oLd t51 tm) (s1 rfl) <| cp (oCallV rfl (rl1i (f := a1) hy12) tm (opds_cons tm opds_nil)) (s2 rfl rfl) <| .nil) (by kernel_rfl) ?_
      refine pSeq ?_
      rcases ic h with ⟨hp13, h⟩ | ⟨hp13, h⟩
      · refine wBT hp13 tm (s1 rfl) ?_
        refine wSeq ?_
        refine rg (cp (oMv tm) (s1 rfl) <| cp (oAs tm) (s1 rfl) <| .nil) (by kernel_rfl) ?_
        refine pSeq ?_
        refine wRet ?_
        refine pBlkR ?_
        refine pThenR ?_
        refine pThenR ?_
        refine pBlkR ?_
        refine pThenR ?_
        obtain rfl := so h
        replace h := hk1
        refine pThenR ?_
        obtain rfl := so h
        exact pR1 (.inl rfl) rfl (.tmp rfl <| .nil)
      · refine wBF hp13 tm (s1 rfl) ?_
        refine wSkip ?_
        refine pBlkN ?_
        refine pSeq ?_
        refine rg (cp (oAdd tm (cI (by decide))) (s1 rfl) <| cp (oMv tm) (s1 rfl) <| .nil) (by kernel_rfl) ?_
        exact pLoop (lW (ih _ h) ⟨rfl, rfl, rfl, rfl, trivial⟩ rfl)
    · refine wCF hp10 tm (s1 rfl) ?_
      refine wExit ?_
      refine pThenX ?_
      refine pThenX ?_
      refine pBlkX ?_
      exact pJ0 (so h) trivial rfl
  · rintro rfl
    replace h := hk1
    refine pSeq ?_
    refine wSeq ?_
    refine rg (cp (oAs (cI (by decide))) trivial <| .nil) (by kernel_rfl) ?_
    refine pSeq ?_
    refine wRet ?_
    obtain rfl := so h
    exact pR1 (.inl rfl) rfl (.tmp rfl <| .nil)

theorem slices_ContainsFunc_api_Slot_api_Slot.ok {a0 : List api_Slot} {a1 : api_Slot → Option Bool} {r : Bool} (h : slices_ContainsFunc_api_Slot_api_Slot.f a0 a1 = some r) : FnA Tryz.prog 32 [(kL (kR f_api_Slot)).sig a0, (sFun Tryz.prog (rl1 (kR f_api_Slot) kB a1))] (kB.sig r) := by
  refine fnIntro Tryz.func32 rfl (by kernel_rfl) fun H0 w0 => ?_
  unfold slices_ContainsFunc_api_Slot_api_Slot.f at h
  refine wSeq ?_
  refine rg (cp (oAs cB) trivial <| .nil) (by kernel_rfl) ?_
  refine pSeq ?_
  refine wSeq ?_
  obtain ⟨y1, hy1, h⟩ := bd h
  refine rg (cp (oMv tm) (s1 rfl) <| cp (oMv tm) (s1 rfl) <| cp (oCall rfl (slices_IndexFunc_api_Slot_api_Slot.ok hy1) b68 (opds_cons tm (opds_cons tm opds_nil))) (s2 rfl rfl) <| cp (oGe rfl tm (cI (by decide))) (s1 rfl) <| cp (oAs tm) (s1 rfl) <| .nil) (by kernel_rfl) ?_
  refine pSeq ?_
  refine wRet ?_
  obtain rfl := so h
  exact pR1 (.inl rfl) rfl (.tmp rfl <| .nil)

theorem state_Right_1.ok {a0 : Int} {a1 : api_Lattice} {r : Bool} (h : state_Right_1.f a0 a1 = some r) : FnA Tryz.prog 25 [(kI .i64).sig a0, sP (kR f_api_Lattice) a1] (kB.sig r) := by
  refine fnIntro Tryz.func25 rfl (by kernel_rfl) fun H0 w0 => ?_
  unfold state_Right_1.f at h
  refine wSeq ?_
  refine rg (cp (oAs cB) trivial <| .nil) (by kernel_rfl) ?_
  refine pSeq ?_
  obtain ⟨o1, h, hk1⟩ := bd h
  refine wJ1 (fun x2 => x2 = o1) (fun x2 => [(3, .d (kB.sig x2))]) (fun x2 => []) ?_ ?_
  · rcases ic h with ⟨hp3, h⟩ | ⟨hp3, h⟩
    · refine rg (cp (oMv tm) (s1 rfl) <| cp (oGe rfl tm (cI (by decide))) (s1 rfl) <| cp (oMv tm) (s1 rfl) <| cgB (decide_eq_true hp3) rfl rfl (oMv tm) (s1 rfl) <| cgB (decide_eq_true hp3) rfl rfl (oFld (fs := f_api_Lattice) (k := 1) rfl o25_1 tm) (s1 rfl) <| cgB (decide_eq_true hp3) rfl rfl (oLd t23 tm) (s1 rfl) <| cgB (decide_eq_true hp3) rfl rfl (oLenL u23 tm) (s1 rfl) <| cgB (decide_eq_true hp3) rfl rfl (oLt rfl tm tm) (s2 rfl rfl) <| cp (oPkT (decide_eq_true hp3) tm tm) (s2 rfl rfl) <| cp (oAs tm) (s1 rfl) <| .nil) (by kernel_rfl) ?_
      exact pJ1 _ (so h) ⟨rfl, trivial⟩ rfl
    · refine rg (cp (oMv tm) (s1 rfl) <| cp (oGe rfl tm (cI (by decide))) (s1 rfl) <| cp (oMv tm) (s1 rfl) <| csB (decide_eq_false hp3) rfl rfl <| csB (decide_eq_false hp3) rfl rfl <| csB (decide_eq_false hp3) rfl rfl <| csB (decide_eq_false hp3) rfl rfl <| csB (decide_eq_false hp3) rfl rfl <| cp (oPkF (decide_eq_false hp3) tm cB) (s1 rfl) <| cp (oAs tm) (s1 rfl) <| .nil) (by kernel_rfl) ?_
      exact pJ1 _ (so h) ⟨rfl, trivial⟩ rfl
  · rintro x2 rfl
    replace h := hk1
    refine wRet ?_
    obtain rfl := so h
    exact pR1 (.inl rfl) rfl (.tmp rfl <| .nil)

theorem state_Right_2.ok {a0 : api_Atom} {a1 : Option (Int → Option Bool)} {r : Bool} (h : state_Right_2.f a0 a1 = some r) : FnA Tryz.prog 26 [(kR f_api_Atom).sig a0, sP (kFn Tryz.prog (rl1 (kI .i64) kB)) a1] (kB.sig r) := by
  refine fnIntro Tryz.func26 rfl (by kernel_rfl) fun H0 w0 => ?_
  unfold state_Right_2.f at h
  refine wSeq ?_
  refine rg (cp (oBox tm) (s1 rfl) <| cp (oAs cB) trivial <| .nil) (by kernel_rfl) ?_
  refine pSeq ?_
  obtain ⟨o1, h, hk1⟩ := bd h
  refine wJ1 (fun x5 => x5 = o1) (fun x5 => [(3, .d (kB.sig x5))]) (fun x5 => []) ?_ ?_
  · obtain ⟨y6, hy6, h⟩ := bd h
    rcases ic h with ⟨hp7, h⟩ | ⟨hp7, h⟩
    · refine rg (cp (oFld (fs := f_api_Atom) (k := 0) rfl o27_0 tm) (s1 rfl) <| cp (oLd t3 tm) (s1 rfl) <| cp (oCall rfl (state_value.ok hy6) b27 (opds_cons tm opds_nil)) (s1 rfl) <| cp (oNot tm) (s1 rfl) <| cp (oMv tm) (s1 rfl) <| csB hp7 rfl rfl <| csB hp7 rfl rfl <| csB hp7 rfl rfl <| csB hp7 rfl rfl <| csB hp7 rfl rfl <| cp (oPkT hp7 tm cB) (s1 rfl) <| cp (oAs tm) (s1 rfl) <| .nil) (by kernel_rfl) ?_
      exact pJ1 _ (so h) ⟨rfl, trivial⟩ rfl
    · obtain ⟨y8, hy8, h⟩ := bd h
      obtain ⟨y9, hy9, h⟩ := bd h
      refine rg (cp (oFld (fs := f_api_Atom) (k := 0) rfl o27_0 tm) (s1 rfl) <| cp (oLd t3 tm) (s1 rfl) <| cp (oCall rfl (state_value.ok hy6) b27 (opds_cons tm opds_nil)) (s1 rfl) <| cp (oNot tm) (s1 rfl) <| cp (oMv tm) (s1 rfl) <| cgB (nb hp7) rfl rfl (oLd t62 tm) (s1 rfl) <| cgB (nb hp7) rfl rfl (oFld (fs := f_api_Atom) (k := 1) rfl o27_1 tm) (s1 rfl) <| cgB (nb hp7) rfl rfl (oLd t3 tm) (s1 rfl) <| cgB (nb hp7) rfl rfl (oCallV rfl (rl1i (f := y8) hy9) (oGot hy8 tm) (opds_cons tm opds_nil)) (s2 rfl rfl) <| cgB (nb hp7) rfl rfl (oNot tm) (s1 rfl) <| cp (oPkF (nb hp7) tm tm) (s2 rfl rfl) <| cp (oAs tm) (s1 rfl) <| .nil) (by kernel_rfl) ?_
      exact pJ1 _ (so h) ⟨rfl, trivial⟩ rfl
  · rintro x5 rfl
    replace h := hk1
    refine wRet ?_
    obtain rfl := so h
    exact pR1 (.inl rfl) rfl (.tmp rfl <| .nil)

theorem state_Right_3.ok {a0 : api_Slot} {a1 : Option (Int → Option Bool)} {r : Bool} (h : state_Right_3.f a0 a1 = some r) : FnA Tryz.prog 28 [(kR f_api_Slot).sig a0, sP (kFn Tryz.prog (rl1 (kI .i64) kB)) a1] (kB.sig r) := by
  refine fnIntro Tryz.func28 rfl (by kernel_rfl) fun H0 w0 => ?_
  unfold state_Right_3.f at h
  refine wSeq ?_
  refine rg (cp (oBox tm) (s1 rfl) <| cp (oAs cB) trivial <| .nil) (by kernel_rfl) ?_
  refine pSeq ?_
  obtain ⟨o1, h, hk1⟩ := bd h
  refine wJ1 (fun x11 => x11 = o1) (fun x11 => [(3, .d (kB.sig x11))]) (fun x11 => []) ?_ ?_
  · obtain ⟨y12, hy12, h⟩ := bd h
    obtain ⟨y13, hy13, h⟩ := bd h
    rcases ic h with ⟨hp14, h⟩ | ⟨hp14, h⟩
    · refine rg (cp (oLd t62 tm) (s1 rfl) <| cp (oFld (fs := f_api_Slot) (k := 2) rfl o51_2 tm) (s1 rfl) <| cp (oLd t3 tm) (s1 rfl) <| cp (oCallV rfl (rl1i (f := y12) hy13) (oGot hy12 tm) (opds_cons tm opds_nil)) (s2 rfl rfl) <| cp (oNot tm) (s1 rfl) <| cp (oMv tm) (s1 rfl) <| csB hp14 rfl rfl <| csB hp14 rfl rfl <| csB hp14 rfl rfl <| csB hp14 rfl rfl <| csU rfl rfl <| csU rfl rfl <| csU rfl rfl <| csU rfl rfl <| csB hp14 rfl rfl <| cp (oPkT hp14 tm cB) (s1 rfl) <| cp (oMv tm) (s1 rfl) <| csB rfl rfl rfl <| csB rfl rfl rfl <| csB rfl rfl rfl <| csU rfl rfl <| csU rfl rfl <| csU rfl rfl <| csU rfl rfl <| csB rfl rfl rfl <| cp (oPkT rfl tm cB) (s1 rfl) <| cp (oAs tm) (s1 rfl) <| .nil) (by kernel_rfl) ?_
      exact pJ1 _ (so h) ⟨rfl, trivial⟩ rfl
    · rcases ic h with ⟨hp15, h⟩ | ⟨hp15, h⟩
      · obtain ⟨y16, hy16, h⟩ := bd h
        rcases ic h with ⟨hp17, h⟩ | ⟨hp17, h⟩
        · refine rg (cp (oLd t62 tm) (s1 rfl) <| cp (oFld (fs := f_api_Slot) (k := 2) rfl o51_2 tm) (s1 rfl) <| cp (oLd t3 tm) (s1 rfl) <| cp (oCallV rfl (rl1i (f := y12) hy13) (oGot hy12 tm) (opds_cons tm opds_nil)) (s2 rfl rfl) <| cp (oNot tm) (s1 rfl) <| cp (oMv tm) (s1 rfl) <| cgB (nb hp14) rfl rfl (oFld (fs := f_api_Slot) (k := 0) rfl o51_0 tm) (s1 rfl) <| cgB (nb hp14) rfl rfl (oLd t4 tm) (s1 rfl) <| cgB (nb hp14) rfl rfl (oNot tm) (s1 rfl) <| cgB (nb hp14) rfl rfl (oMv tm) (s1 rfl) <| cgB hp15 rfl rfl (oFld (fs := f_api_Slot) (k := 1) rfl o51_1 tm) (s1 rfl) <| cgB hp15 rfl rfl (oLd t3 tm) (s1 rfl) <| cgB hp15 rfl rfl (oCall rfl (state_value.ok hy16) b27 (opds_cons tm opds_nil)) (s1 rfl) <| cgB hp15 rfl rfl (oNot tm) (s1 rfl) <| cgB (nb hp14) rfl rfl (oPkT hp15 tm tm) (s2 rfl rfl) <| cp (oPkF (nb hp14) tm tm) (s2 rfl rfl) <| cp (oMv tm) (s1 rfl) <| csB hp17 rfl rfl <| csB hp17 rfl rfl <| csB hp17 rfl rfl <| csU rfl rfl <| csU rfl rfl <| csU rfl rfl <| csU rfl rfl <| csB hp17 rfl rfl <| cp (oPkT hp17 tm cB) (s1 rfl) <| cp (oAs tm) (s1 rfl) <| .nil) (by kernel_rfl) ?_
          exact pJ1 _ (so h) ⟨rfl, trivial⟩ rfl
        · rcases ic h with ⟨hp18, h⟩ | ⟨hp18, h⟩
          · obtain ⟨y19, hy19, h⟩ := bd h
            refine rg (cp (oLd t62 tm) (s1 rfl) <| cp (oFld (fs := f_api_Slot) (k := 2) rfl o51_2 tm) (s1 rfl) <| cp (oLd t3 tm) (s1 rfl) <| cp (oCallV rfl (rl1i (f := y12) hy13) (oGot hy12 tm) (opds_cons tm opds_nil)) (s2 rfl rfl) <| cp (oNot tm) (s1 rfl) <| cp (oMv tm) (s1 rfl) <| cgB (nb hp14) rfl rfl (oFld (fs := f_api_Slot) (k := 0) rfl o51_0 tm) (s1 rfl) <| cgB (nb hp14) rfl rfl (oLd t4 tm) (s1 rfl) <| cgB (nb hp14) rfl rfl (oNot tm) (s1 rfl) <| cgB (nb hp14) rfl rfl (oMv tm) (s1 rfl) <| cgB hp15 rfl rfl (oFld (fs := f_api_Slot) (k := 1) rfl o51_1 tm) (s1 rfl) <| cgB hp15 rfl rfl (oLd t3 tm) (s1 rfl) <| cgB hp15 rfl rfl (oCall rfl (state_value.ok hy16) b27 (opds_cons tm opds_nil)) (s1 rfl) <| cgB hp15 rfl rfl (oNot tm) (s1 rfl) <| cgB (nb hp14) rfl rfl (oPkT hp15 tm tm) (s2 rfl rfl) <| cp (oPkF (nb hp14) tm tm) (s2 rfl rfl) <| cp (oMv tm) (s1 rfl) <| cgB (nb hp17) rfl rfl (oFld (fs := f_api_Slot) (k := 0) rfl o51_0 tm) (s1 rfl) <| cgB (nb hp17) rfl rfl (oLd t4 tm) (s1 rfl) <| cgB (nb hp17) rfl rfl (oMv tm) (s1 rfl) <| cgB hp18 rfl rfl (oFld (fs := f_api_Slot) (k := 1) rfl o51_1 tm) (s1 rfl) <| cgB hp18 rfl rfl (oLd t3 tm) (s1 rfl) <| cgB hp18 rfl rfl (oCall rfl (state_place.ok hy19) b29 (opds_cons tm opds_nil)) (s1 rfl) <| cgB hp18 rfl rfl (oNot tm) (s1 rfl) <| cgB (nb hp17) rfl rfl (oPkT hp18 tm tm) (s2 rfl rfl) <| cp (oPkF (nb hp17) tm tm) (s2 rfl rfl) <| cp (oAs tm) (s1 rfl) <| .nil) (by kernel_rfl) ?_
            exact pJ1 _ (so h) ⟨rfl, trivial⟩ rfl
          · refine rg (cp (oLd t62 tm) (s1 rfl) <| cp (oFld (fs := f_api_Slot) (k := 2) rfl o51_2 tm) (s1 rfl) <| cp (oLd t3 tm) (s1 rfl) <| cp (oCallV rfl (rl1i (f := y12) hy13) (oGot hy12 tm) (opds_cons tm opds_nil)) (s2 rfl rfl) <| cp (oNot tm) (s1 rfl) <| cp (oMv tm) (s1 rfl) <| cgB (nb hp14) rfl rfl (oFld (fs := f_api_Slot) (k := 0) rfl o51_0 tm) (s1 rfl) <| cgB (nb hp14) rfl rfl (oLd t4 tm) (s1 rfl) <| cgB (nb hp14) rfl rfl (oNot tm) (s1 rfl) <| cgB (nb hp14) rfl rfl (oMv tm) (s1 rfl) <| cgB hp15 rfl rfl (oFld (fs := f_api_Slot) (k := 1) rfl o51_1 tm) (s1 rfl) <| cgB hp15 rfl rfl (oLd t3 tm) (s1 rfl) <| cgB hp15 rfl rfl (oCall rfl (state_value.ok hy16) b27 (opds_cons tm opds_nil)) (s1 rfl) <| cgB hp15 rfl rfl (oNot tm) (s1 rfl) <| cgB (nb hp14) rfl rfl (oPkT hp15 tm tm) (s2 rfl rfl) <| cp (oPkF (nb hp14) tm tm) (s2 rfl rfl) <| cp (oMv tm) (s1 rfl) <| cgB (nb hp17) rfl rfl (oFld (fs := f_api_Slot) (k := 0) rfl o51_0 tm) (s1 rfl) <| cgB (nb hp17) rfl rfl (oLd t4 tm) (s1 rfl) <| cgB (nb hp17) rfl rfl (oMv tm) (s1 rfl) <| csB (nb hp18) rfl rfl <| csB (nb hp18) rfl rfl <| csB (nb hp18) rfl rfl <| csB (nb hp18) rfl rfl <| cgB (nb hp17) rfl rfl (oPkF (nb hp18) tm cB) (s1 rfl) <| cp (oPkF (nb hp17) tm tm) (s2 rfl rfl) <| cp (oAs tm) (s1 rfl) <| .nil) (by kernel_rfl) ?_
            exact pJ1 _ (so h) ⟨rfl, trivial⟩ rfl
      · rcases ic h with ⟨hp20, h⟩ | ⟨hp20, h⟩
        · obtain ⟨y21, hy21, h⟩ := bd h
          refine rg (cp (oLd t62 tm) (s1 rfl) <| cp (oFld (fs := f_api_Slot) (k := 2) rfl o51_2 tm) (s1 rfl) <| cp (oLd t3 tm) (s1 rfl) <| cp (oCallV rfl (rl1i (f := y12) hy13) (oGot hy12 tm) (opds_cons tm opds_nil)) (s2 rfl rfl) <| cp (oNot tm) (s1 rfl) <| cp (oMv tm) (s1 rfl) <| cgB (nb hp14) rfl rfl (oFld (fs := f_api_Slot) (k := 0) rfl o51_0 tm) (s1 rfl) <| cgB (nb hp14) rfl rfl (oLd t4 tm) (s1 rfl) <| cgB (nb hp14) rfl rfl (oNot tm) (s1 rfl) <| cgB (nb hp14) rfl rfl (oMv tm) (s1 rfl) <| csB (nb hp15) rfl rfl <| csB (nb hp15) rfl rfl <| csB (nb hp15) rfl rfl <| csB (nb hp15) rfl rfl <| cgB (nb hp14) rfl rfl (oPkF (nb hp15) tm cB) (s1 rfl) <| cp (oPkF (nb hp14) tm tm) (s2 rfl rfl) <| cp (oMv tm) (s1 rfl) <| cgB rfl rfl rfl (oFld (fs := f_api_Slot) (k := 0) rfl o51_0 tm) (s1 rfl) <| cgB rfl rfl rfl (oLd t4 tm) (s1 rfl) <| cgB rfl rfl rfl (oMv tm) (s1 rfl) <| cgB hp20 rfl rfl (oFld (fs := f_api_Slot) (k := 1) rfl o51_1 tm) (s1 rfl) <| cgB hp20 rfl rfl (oLd t3 tm) (s1 rfl) <| cgB hp20 rfl rfl (oCall rfl (state_place.ok hy21) b29 (opds_cons tm opds_nil)) (s1 rfl) <| cgB hp20 rfl rfl (oNot tm) (s1 rfl) <| cgB rfl rfl rfl (oPkT hp20 tm tm) (s2 rfl rfl) <| cp (oPkF rfl tm tm) (s2 rfl rfl) <| cp (oAs tm) (s1 rfl) <| .nil) (by kernel_rfl) ?_
          exact pJ1 _ (so h) ⟨rfl, trivial⟩ rfl
        · refine rg (cp (oLd t62 tm) (s1 rfl) <| cp (oFld (fs := f_api_Slot) (k := 2) rfl o51_2 tm) (s1 rfl) <| cp (oLd t3 tm) (s1 rfl) <| cp (oCallV rfl (rl1i (f := y12) hy13) (oGot hy12 tm) (opds_cons tm opds_nil)) (s2 rfl rfl) <| cp (oNot tm) (s1 rfl) <| cp (oMv tm) (s1 rfl) <| cgB (nb hp14) rfl rfl (oFld (fs := f_api_Slot) (k := 0) rfl o51_0 tm) (s1 rfl) <| cgB (nb hp14) rfl rfl (oLd t4 tm) (s1 rfl) <| cgB (nb hp14) rfl rfl (oNot tm) (s1 rfl) <| cgB (nb hp14) rfl rfl (oMv tm) (s1 rfl) <| csB (nb hp15) rfl rfl <| csB (nb hp15) rfl rfl <| csB (nb hp15) rfl rfl <| csB (nb hp15) rfl rfl <| cgB (nb hp14) rfl rfl (oPkF (nb hp15) tm cB) (s1 rfl) <| cp (oPkF (nb hp14) tm tm) (s2 rfl rfl) <| cp (oMv tm) (s1 rfl) <| cgB rfl rfl rfl (oFld (fs := f_api_Slot) (k := 0) rfl o51_0 tm) (s1 rfl) <| cgB rfl rfl rfl (oLd t4 tm) (s1 rfl) <| cgB rfl rfl rfl (oMv tm) (s1 rfl) <| csB (nb hp20) rfl rfl <| csB (nb hp20) rfl rfl <| csB (nb hp20) rfl rfl <| csB (nb hp20) rfl rfl <| cgB rfl rfl rfl (oPkF (nb hp20) tm cB) (s1 rfl) <| cp (oPkF rfl tm tm) (s2 rfl rfl) <| cp (oAs tm) (s1 rfl) <| .nil) (by kernel_rfl) ?_
          exact pJ1 _ (so h) ⟨rfl, trivial⟩ rfl
  · rintro x11 rfl
    replace h := hk1
    refine wRet ?_
    obtain rfl := so h
    exact pR1 (.inl rfl) rfl (.tmp rfl <| .nil)

theorem state_Right.ok {a0 : api_Lattice} {a1 : api_State} {r : Bool} (h : state_Right.f a0 a1 = some r) : FnA Tryz.prog 11 [(kR f_api_Lattice).sig a0, (kR f_api_State).sig a1] (kB.sig r) := by
  refine fnIntro Tryz.func11 rfl (by kernel_rfl) fun H0 w0 => ?_
  unfold state_Right.f at h
  refine wSeq ?_
  refine rg (cp (oBox tm) (s1 rfl) <| cp (oBox tm) (s1 rfl) <| cp (oAs cB) trivial <| .nil) (by kernel_rfl) ?_
  refine pSeq ?_
  refine wSeq ?_
  refine rg (cp (oMkF (Rl := rl1 (kI .i64) kB (fun z0 => state_Right_1.f z0 a0)) rfl b25 (rl1e state_Right_1.ok) (opds_cons tm opds_nil)) (s1 rfl) <| cw (oAlloc (id := 5) (ls := [.d (kFn Tryz.prog (rl1 (kI .i64) kB)) none]) ze62 (fun g => ⟨[.nilFunc], _, rfl, zFn g.H, rfl⟩)) trivial <| cwn (oSt (n := 0) (k := 0) rfl rfl rfl rfl z62 tm (oSome tm)) (s2 rfl rfl) <| .nil) (by kernel_rfl) ?_
  refine pSeq ?_
  refine wSeq ?_
  refine wFrzV 5 (n := 0) (id := 5) rfl rfl rfl ?_
  refine rg (cp (oMkF (Rl := rl1 (kR f_api_Atom) kB (fun z0 => state_Right_2.f z0 (some (fun z0 => state_Right_1.f z0 a0)))) rfl b26 (rl1e state_Right_2.ok) (opds_cons tm opds_nil)) (s1 rfl) <| cp (oAs tm) (s1 rfl) <| .nil) (by kernel_rfl) ?_
  refine pSeq ?_
  refine wSeq ?_
  refine rg (cp (oMkF (Rl := rl1 (kR f_api_Slot) kB (fun z0 => state_Right_3.f z0 (some (fun z0 => state_Right_1.f z0 a0)))) rfl b28 (rl1e state_Right_3.ok) (opds_cons tm opds_nil)) (s1 rfl) <| cp (oAs tm) (s1 rfl) <| .nil) (by kernel_rfl) ?_
  refine pSeq ?_
  obtain ⟨o1, h, hk1⟩ := bd h
  refine wJ1 (fun x3 => x3 = o1) (fun x3 => [(2, .d (sP (kR f_api_Lattice) a0)), (3, .d (sP (kR f_api_State) a1)), (5, .d (sP (kFn Tryz.prog (rl1 (kI .i64) kB)) (some (fun z0 => state_Right_1.f z0 a0)))), (6, .d ((sFun Tryz.prog (rl1 (kR f_api_Atom) kB (fun z0 => state_Right_2.f z0 (some (fun z0 => state_Right_1.f z0 a0))))))), (7, .d ((sFun Tryz.prog (rl1 (kR f_api_Slot) kB (fun z0 => state_Right_3.f z0 (some (fun z0 => state_Right_1.f z0 a0))))))), (8, .d (kB.sig x3))]) (fun x3 => []) ?_ ?_
  · rcases ic h with ⟨hp4, h⟩ | ⟨hp4, h⟩
    · rcases ic h with ⟨hp5, h⟩ | ⟨hp5, h⟩
      · refine rg (cp (oFld (fs := f_api_State) (k := 2) rfl o32_2 tm) (s1 rfl) <| cp (oLd t29 tm) (s1 rfl) <| cp (oLenL u29 tm) (s1 rfl) <| cp (oLe rfl tm (cI (by decide))) (s1 rfl) <| cp (oMv tm) (s1 rfl) <| cgB (decide_eq_true hp4) rfl rfl (oFld (fs := f_api_State) (k := 3) rfl o32_3 tm) (s1 rfl) <| cgB (decide_eq_true hp4) rfl rfl (oLd t30 tm) (s1 rfl) <| cgB (decide_eq_true hp4) rfl rfl (oLenL u30 tm) (s1 rfl) <| cgB (decide_eq_true hp4) rfl rfl (oLe rfl tm (cI (by decide))) (s1 rfl) <| cp (oPkT (decide_eq_true hp4) tm tm) (s2 rfl rfl) <| cp (oMv tm) (s1 rfl) <| cgB (decide_eq_true hp5) rfl rfl (oFld (fs := f_api_State) (k := 4) rfl o32_4 tm) (s1 rfl) <| cgB (decide_eq_true hp5) rfl rfl (oLd t29 tm) (s1 rfl) <| cgB (decide_eq_true hp5) rfl rfl (oLenL u29 tm) (s1 rfl) <| cgB (decide_eq_true hp5) rfl rfl (oLe rfl tm (cI (by decide))) (s1 rfl) <| cp (oPkT (decide_eq_true hp5) tm tm) (s2 rfl rfl) <| cp (oAs tm) (s1 rfl) <| .nil) (by kernel_rfl) ?_
        exact pJ1 _ (so h) ⟨rfl, rfl, rfl, rfl, rfl, rfl, trivial⟩ rfl
      · refine rg (cp (oFld (fs := f_api_State) (k := 2) rfl o32_2 tm) (s1 rfl) <| cp (oLd t29 tm) (s1 rfl) <| cp (oLenL u29 tm) (s1 rfl) <| cp (oLe rfl tm (cI (by decide))) (s1 rfl) <| cp (oMv tm) (s1 rfl) <| cgB (decide_eq_true hp4) rfl rfl (oFld (fs := f_api_State) (k := 3) rfl o32_3 tm) (s1 rfl) <| cgB (decide_eq_true hp4) rfl rfl (oLd t30 tm) (s1 rfl) <| cgB (decide_eq_true hp4) rfl rfl (oLenL u30 tm) (s1 rfl) <| cgB (decide_eq_true hp4) rfl rfl (oLe rfl tm (cI (by decide))) (s1 rfl) <| cp (oPkT (decide_eq_true hp4) tm tm) (s2 rfl rfl) <| cp (oMv tm) (s1 rfl) <| csB (decide_eq_false hp5) rfl rfl <| csB (decide_eq_false hp5) rfl rfl <| csB (decide_eq_false hp5) rfl rfl <| csB (decide_eq_false hp5) rfl rfl <| cp (oPkF (decide_eq_false hp5) tm cB) (s1 rfl) <| cp (oAs tm) (s1 rfl) <| .nil) (by kernel_rfl) ?_
        exact pJ1 _ (so h) ⟨rfl, rfl, rfl, rfl, rfl, rfl, trivial⟩ rfl
    · refine rg (cp (oFld (fs := f_api_State) (k := 2) rfl o32_2 tm) (s1 rfl) <| cp (oLd t29 tm) (s1 rfl) <| cp (oLenL u29 tm) (s1 rfl) <| cp (oLe rfl tm (cI (by decide))) (s1 rfl) <| cp (oMv tm) (s1 rfl) <| csB (decide_eq_false hp4) rfl rfl <| csB (decide_eq_false hp4) rfl rfl <| csB (decide_eq_false hp4) rfl rfl <| csB (decide_eq_false hp4) rfl rfl <| cp (oPkF (decide_eq_false hp4) tm cB) (s1 rfl) <| cp (oMv tm) (s1 rfl) <| csB rfl rfl rfl <| csB rfl rfl rfl <| csB rfl rfl rfl <| csB rfl rfl rfl <| cp (oPkF rfl tm cB) (s1 rfl) <| cp (oAs tm) (s1 rfl) <| .nil) (by kernel_rfl) ?_
      exact pJ1 _ (so h) ⟨rfl, rfl, rfl, rfl, rfl, rfl, trivial⟩ rfl
  · rintro x3 rfl
    replace h := hk1
    obtain ⟨o1, h, hk1⟩ := bd h
    refine wJ1 (fun x19 => x19 = o1) (fun x19 => [(4, .d (kB.sig x19))]) (fun x19 => []) ?_ ?_
    · obtain ⟨y20, hy20, h⟩ := bd h
      rcases ic h with ⟨hp21, h⟩ | ⟨hp21, h⟩
      · obtain ⟨y22, hy22, h⟩ := bd h
        rcases ic h with ⟨hp23, h⟩ | ⟨hp23, h⟩
        · obtain ⟨y24, hy24, h⟩ := bd h
          obtain ⟨y25, hy25, h⟩ := bd h
          rcases ic h with ⟨hp26, h⟩ | ⟨hp26, h⟩
          · rcases ic h with ⟨hp27, h⟩ | ⟨hp27, h⟩
            · obtain ⟨y28, hy28, h⟩ := bd h
              rcases ic h with ⟨hp29, h⟩ | ⟨hp29, h⟩
              · obtain ⟨y30, hy30, h⟩ := bd h
                rcases ic h with ⟨hp31, h⟩ | ⟨hp31, h⟩
                · obtain ⟨y32, hy32, h⟩ := bd h
                  refine rg (cp (oLd t25 tm) (s1 rfl) <| cp (oFld (fs := f_api_State) (k := 1) rfl o32_1 tm) (s1 rfl) <| cp (oLd t28 tm) (s1 rfl) <| cp (oCall rfl (code_Right.ok hy20) b30 (opds_cons tm (opds_cons tm opds_nil))) (s2 rfl rfl) <| cp (oMv tm) (s1 rfl) <| cgB hp21 rfl rfl (oFld (fs := f_api_State) (k := 0) rfl o32_0 tm) (s1 rfl) <| cgB hp21 rfl rfl (oFld (fs := f_api_Atom) (k := 0) rfl o27_0 tm) (s1 rfl) <| cgB hp21 rfl rfl (oLd t3 tm) (s1 rfl) <| cgB hp21 rfl rfl (oCall rfl (state_place.ok hy22) b29 (opds_cons tm opds_nil)) (s1 rfl) <| cp (oPkT hp21 tm tm) (s2 rfl rfl) <| cp (oMv tm) (s1 rfl) <| cgB hp23 rfl rfl (oLd t62 tm) (s1 rfl) <| cgB hp23 rfl rfl (oFld (fs := f_api_State) (k := 0) rfl o32_0 tm) (s1 rfl) <| cgB hp23 rfl rfl (oFld (fs := f_api_Atom) (k := 1) rfl o27_1 tm) (s1 rfl) <| cgB hp23 rfl rfl (oLd t3 tm) (s1 rfl) <| cgB hp23 rfl rfl (oCallV rfl (rl1i (f := y24) hy25) (oGot hy24 tm) (opds_cons tm opds_nil)) (s2 rfl rfl) <| cp (oPkT hp23 tm tm) (s2 rfl rfl) <| cp (oMv tm) (s1 rfl) <| cgB hp26 rfl rfl (oMv tm) (s1 rfl) <| cp (oPkT hp26 tm tm) (s2 rfl rfl) <| cp (oMv tm) (s1 rfl) <| cgB hp27 rfl rfl (oFld (fs := f_api_State) (k := 2) rfl o32_2 tm) (s1 rfl) <| cgB hp27 rfl rfl (oLd t29 tm) (s1 rfl) <| cgB hp27 rfl rfl (oMv tm) (s1 rfl) <| cgB hp27 rfl rfl (oCall rfl (slices_ContainsFunc_api_Atom_api_Atom.ok hy28) b31 (opds_cons tm (opds_cons tm opds_nil))) (s2 rfl rfl) <| cgB hp27 rfl rfl (oNot tm) (s1 rfl) <| cp (oPkT hp27 tm tm) (s2 rfl rfl) <| cp (oMv tm) (s1 rfl) <| cgB hp29 rfl rfl (oFld (fs := f_api_State) (k := 3) rfl o32_3 tm) (s1 rfl) <| cgB hp29 rfl rfl (oLd t30 tm) (s1 rfl) <| cgB hp29 rfl rfl (oMv tm) (s1 rfl) <| cgB hp29 rfl rfl (oCall rfl (slices_ContainsFunc_api_Slot_api_Slot.ok hy30) b32 (opds_cons tm (opds_cons tm opds_nil))) (s2 rfl rfl) <| cgB hp29 rfl rfl (oNot tm) (s1 rfl) <| cp (oPkT hp29 tm tm) (s2 rfl rfl) <| cp (oMv tm) (s1 rfl) <| cgB hp31 rfl rfl (oFld (fs := f_api_State) (k := 4) rfl o32_4 tm) (s1 rfl) <| cgB hp31 rfl rfl (oLd t29 tm) (s1 rfl) <| cgB hp31 rfl rfl (oMv tm) (s1 rfl) <| cgB hp31 rfl rfl (oCall rfl (slices_ContainsFunc_api_Atom_api_Atom.ok hy32) b31 (opds_cons tm (opds_cons tm opds_nil))) (s2 rfl rfl) <| cgB hp31 rfl rfl (oNot tm) (s1 rfl) <| cp (oPkT hp31 tm tm) (s2 rfl rfl) <| cp (oAs tm) (s1 rfl) <| .nil) (by kernel_rfl) ?_
                  exact pJ1 _ (so h) ⟨rfl, trivial⟩ rfl
                · refine rg (cp (oLd t25 tm) (s1 rfl) <| cp (oFld (fs := f_api_State) (k := 1) rfl o32_1 tm) (s1 rfl) <| cp (oLd t28 tm) (s1 rfl) <| cp (oCall rfl (code_Right.ok hy20) b30 (opds_cons tm (opds_cons tm opds_nil))) (s2 rfl rfl) <| cp (oMv tm) (s1 rfl) <| cgB hp21 rfl rfl (oFld (fs := f_api_State) (k := 0) rfl o32_0 tm) (s1 rfl) <| cgB hp21 rfl rfl (oFld (fs := f_api_Atom) (k := 0) rfl o27_0 tm) (s1 rfl) <| cgB hp21 rfl rfl (oLd t3 tm) (s1 rfl) <| cgB hp21 rfl rfl (oCall rfl (state_place.ok hy22) b29 (opds_cons tm opds_nil)) (s1 rfl) <| cp (oPkT hp21 tm tm) (s2 rfl rfl) <| cp (oMv tm) (s1 rfl) <| cgB hp23 rfl rfl (oLd t62 tm) (s1 rfl) <| cgB hp23 rfl rfl (oFld (fs := f_api_State) (k := 0) rfl o32_0 tm) (s1 rfl) <| cgB hp23 rfl rfl (oFld (fs := f_api_Atom) (k := 1) rfl o27_1 tm) (s1 rfl) <| cgB hp23 rfl rfl (oLd t3 tm) (s1 rfl) <| cgB hp23 rfl rfl (oCallV rfl (rl1i (f := y24) hy25) (oGot hy24 tm) (opds_cons tm opds_nil)) (s2 rfl rfl) <| cp (oPkT hp23 tm tm) (s2 rfl rfl) <| cp (oMv tm) (s1 rfl) <| cgB hp26 rfl rfl (oMv tm) (s1 rfl) <| cp (oPkT hp26 tm tm) (s2 rfl rfl) <| cp (oMv tm) (s1 rfl) <| cgB hp27 rfl rfl (oFld (fs := f_api_State) (k := 2) rfl o32_2 tm) (s1 rfl) <| cgB hp27 rfl rfl (oLd t29 tm) (s1 rfl) <| cgB hp27 rfl rfl (oMv tm) (s1 rfl) <| cgB hp27 rfl rfl (oCall rfl (slices_ContainsFunc_api_Atom_api_Atom.ok hy28) b31 (opds_cons tm (opds_cons tm opds_nil))) (s2 rfl rfl) <| cgB hp27 rfl rfl (oNot tm) (s1 rfl) <| cp (oPkT hp27 tm tm) (s2 rfl rfl) <| cp (oMv tm) (s1 rfl) <| cgB hp29 rfl rfl (oFld (fs := f_api_State) (k := 3) rfl o32_3 tm) (s1 rfl) <| cgB hp29 rfl rfl (oLd t30 tm) (s1 rfl) <| cgB hp29 rfl rfl (oMv tm) (s1 rfl) <| cgB hp29 rfl rfl (oCall rfl (slices_ContainsFunc_api_Slot_api_Slot.ok hy30) b32 (opds_cons tm (opds_cons tm opds_nil))) (s2 rfl rfl) <| cgB hp29 rfl rfl (oNot tm) (s1 rfl) <| cp (oPkT hp29 tm tm) (s2 rfl rfl) <| cp (oMv tm) (s1 rfl) <| csB (nb hp31) rfl rfl <| csB (nb hp31) rfl rfl <| csB (nb hp31) rfl rfl <| csB (nb hp31) rfl rfl <| csB (nb hp31) rfl rfl <| cp (oPkF (nb hp31) tm cB) (s1 rfl) <| cp (oAs tm) (s1 rfl) <| .nil) (by kernel_rfl) ?_
                  exact pJ1 _ (so h) ⟨rfl, trivial⟩ rfl
              · refine rg (cp (oLd t25 tm) (s1 rfl) <| cp (oFld (fs := f_api_State) (k := 1) rfl o32_1 tm) (s1 rfl) <| cp (oLd t28 tm) (s1 rfl) <| cp (oCall rfl (code_Right.ok hy20) b30 (opds_cons tm (opds_cons tm opds_nil))) (s2 rfl rfl) <| cp (oMv tm) (s1 rfl) <| cgB hp21 rfl rfl (oFld (fs := f_api_State) (k := 0) rfl o32_0 tm) (s1 rfl) <| cgB hp21 rfl rfl (oFld (fs := f_api_Atom) (k := 0) rfl o27_0 tm) (s1 rfl) <| cgB hp21 rfl rfl (oLd t3 tm) (s1 rfl) <| cgB hp21 rfl rfl (oCall rfl (state_place.ok hy22) b29 (opds_cons tm opds_nil)) (s1 rfl) <| cp (oPkT hp21 tm tm) (s2 rfl rfl) <| cp (oMv tm) (s1 rfl) <| cgB hp23 rfl rfl (oLd t62 tm) (s1 rfl) <| cgB hp23 rfl rfl (oFld (fs := f_api_State) (k := 0) rfl o32_0 tm) (s1 rfl) <| cgB hp23 rfl rfl (oFld (fs := f_api_Atom) (k := 1) rfl o27_1 tm) (s1 rfl) <| cgB hp23 rfl rfl (oLd t3 tm) (s1 rfl) <| cgB hp23 rfl rfl (oCallV rfl (rl1i (f := y24) hy25) (oGot hy24 tm) (opds_cons tm opds_nil)) (s2 rfl rfl) <| cp (oPkT hp23 tm tm) (s2 rfl rfl) <| cp (oMv tm) (s1 rfl) <| cgB hp26 rfl rfl (oMv tm) (s1 rfl) <| cp (oPkT hp26 tm tm) (s2 rfl rfl) <| cp (oMv tm) (s1 rfl) <| cgB hp27 rfl rfl (oFld (fs := f_api_State) (k := 2) rfl o32_2 tm) (s1 rfl) <| cgB hp27 rfl rfl (oLd t29 tm) (s1 rfl) <| cgB hp27 rfl rfl (oMv tm) (s1 rfl) <| cgB hp27 rfl rfl (oCall rfl (slices_ContainsFunc_api_Atom_api_Atom.ok hy28) b31 (opds_cons tm (opds_cons tm opds_nil))) (s2 rfl rfl) <| cgB hp27 rfl rfl (oNot tm) (s1 rfl) <| cp (oPkT hp27 tm tm) (s2 rfl rfl) <| cp (oMv tm) (s1 rfl) <| csB (nb hp29) rfl rfl <| csB (nb hp29) rfl rfl <| csB (nb hp29) rfl rfl <| csB (nb hp29) rfl rfl <| csB (nb hp29) rfl rfl <| cp (oPkF (nb hp29) tm cB) (s1 rfl) <| cp (oMv tm) (s1 rfl) <| csB rfl rfl rfl <| csB rfl rfl rfl <| csB rfl rfl rfl <| csB rfl rfl rfl <| csB rfl rfl rfl <| cp (oPkF rfl tm cB) (s1 rfl) <| cp (oAs tm) (s1 rfl) <| .nil) (by kernel_rfl) ?_
                exact pJ1 _ (so h) ⟨rfl, trivial⟩ rfl
            · refine rg (cp (oLd t25 tm) (s1 rfl) <| cp (oFld (fs := f_api_State) (k := 1) rfl o32_1 tm) (s1 rfl) <| cp (oLd t28 tm) (s1 rfl) <| cp (oCall rfl (code_Right.ok hy20) b30 (opds_cons tm (opds_cons tm opds_nil))) (s2 rfl rfl) <| cp (oMv tm) (s1 rfl) <| cgB hp21 rfl rfl (oFld (fs := f_api_State) (k := 0) rfl o32_0 tm) (s1 rfl) <| cgB hp21 rfl rfl (oFld (fs := f_api_Atom) (k := 0) rfl o27_0 tm) (s1 rfl) <| cgB hp21 rfl rfl (oLd t3 tm) (s1 rfl) <| cgB hp21 rfl rfl (oCall rfl (state_place.ok hy22) b29 (opds_cons tm opds_nil)) (s1 rfl) <| cp (oPkT hp21 tm tm) (s2 rfl rfl) <| cp (oMv tm) (s1 rfl) <| cgB hp23 rfl rfl (oLd t62 tm) (s1 rfl) <| cgB hp23 rfl rfl (oFld (fs := f_api_State) (k := 0) rfl o32_0 tm) (s1 rfl) <| cgB hp23 rfl rfl (oFld (fs := f_api_Atom) (k := 1) rfl o27_1 tm) (s1 rfl) <| cgB hp23 rfl rfl (oLd t3 tm) (s1 rfl) <| cgB hp23 rfl rfl (oCallV rfl (rl1i (f := y24) hy25) (oGot hy24 tm) (opds_cons tm opds_nil)) (s2 rfl rfl) <| cp (oPkT hp23 tm tm) (s2 rfl rfl) <| cp (oMv tm) (s1 rfl) <| cgB hp26 rfl rfl (oMv tm) (s1 rfl) <| cp (oPkT hp26 tm tm) (s2 rfl rfl) <| cp (oMv tm) (s1 rfl) <| csB (nb hp27) rfl rfl <| csB (nb hp27) rfl rfl <| csB (nb hp27) rfl rfl <| csB (nb hp27) rfl rfl <| csB (nb hp27) rfl rfl <| cp (oPkF (nb hp27) tm cB) (s1 rfl) <| cp (oMv tm) (s1 rfl) <| csB rfl rfl rfl <| csB rfl rfl rfl <| csB rfl rfl rfl <| csB rfl rfl rfl <| csB rfl rfl rfl <| cp (oPkF rfl tm cB) (s1 rfl) <| cp (oMv tm) (s1 rfl) <| csB rfl rfl rfl <| csB rfl rfl rfl <| csB rfl rfl rfl <| csB rfl rfl rfl <| csB rfl rfl rfl <| cp (oPkF rfl tm cB) (s1 rfl) <| cp (oAs tm) (s1 rfl) <| .nil) (by kernel_rfl) ?_
              exact pJ1 _ (so h) ⟨rfl, trivial⟩ rfl
          · refine rg (cp (oLd t25 tm) (s1 rfl) <| cp (oFld (fs := f_api_State) (k := 1) rfl o32_1 tm) (s1 rfl) <| cp (oLd t28 tm) (s1 rfl) <| cp (oCall rfl (code_Right.ok hy20) b30 (opds_cons tm (opds_cons tm opds_nil))) (s2 rfl rfl) <| cp (oMv tm) (s1 rfl) <| cgB hp21 rfl rfl (oFld (fs := f_api_State) (k := 0) rfl o32_0 tm) (s1 rfl) <| cgB hp21 rfl rfl (oFld (fs := f_api_Atom) (k := 0) rfl o27_0 tm) (s1 rfl) <| cgB hp21 rfl rfl (oLd t3 tm) (s1 rfl) <| cgB hp21 rfl rfl (oCall rfl (state_place.ok hy22) b29 (opds_cons tm opds_nil)) (s1 rfl) <| cp (oPkT hp21 tm tm) (s2 rfl rfl) <| cp (oMv tm) (s1 rfl) <| cgB hp23 rfl rfl (oLd t62 tm) (s1 rfl) <| cgB hp23 rfl rfl (oFld (fs := f_api_State) (k := 0) rfl o32_0 tm) (s1 rfl) <| cgB hp23 rfl rfl (oFld (fs := f_api_Atom) (k := 1) rfl o27_1 tm) (s1 rfl) <| cgB hp23 rfl rfl (oLd t3 tm) (s1 rfl) <| cgB hp23 rfl rfl (oCallV rfl (rl1i (f := y24) hy25) (oGot hy24 tm) (opds_cons tm opds_nil)) (s2 rfl rfl) <| cp (oPkT hp23 tm tm) (s2 rfl rfl) <| cp (oMv tm) (s1 rfl) <| csB (nb hp26) rfl rfl <| cp (oPkF (nb hp26) tm cB) (s1 rfl) <| cp (oMv tm) (s1 rfl) <| csB rfl rfl rfl <| csB rfl rfl rfl <| csB rfl rfl rfl <| csB rfl rfl rfl <| csB rfl rfl rfl <| cp (oPkF rfl tm cB) (s1 rfl) <| cp (oMv tm) (s1 rfl) <| csB rfl rfl rfl <| csB rfl rfl rfl <| csB rfl rfl rfl <| csB rfl rfl rfl <| csB rfl rfl rfl <| cp (oPkF rfl tm cB) (s1 rfl) <| cp (oMv tm) (s1 rfl) <| csB rfl rfl rfl <| csB rfl rfl rfl <| csB rfl rfl rfl <| csB rfl rfl rfl <| csB rfl rfl rfl <| cp (oPkF rfl tm cB) (s1 rfl) <| cp (oAs tm) (s1 rfl) <| .nil) (by kernel_rfl) ?_
            exact pJ1 _ (so h) ⟨rfl, trivial⟩ rfl
        · refine rg (cp (oLd t25 tm) (s1 rfl) <| cp (oFld (fs := f_api_State) (k := 1) rfl o32_1 tm) (s1 rfl) <| cp (oLd t28 tm) (s1 rfl) <| cp (oCall rfl (code_Right.ok hy20) b30 (opds_cons tm (opds_cons tm opds_nil))) (s2 rfl rfl) <| cp (oMv tm) (s1 rfl) <| cgB hp21 rfl rfl (oFld (fs := f_api_State) (k := 0) rfl o32_0 tm) (s1 rfl) <| cgB hp21 rfl rfl (oFld (fs := f_api_Atom) (k := 0) rfl o27_0 tm) (s1 rfl) <| cgB hp21 rfl rfl (oLd t3 tm) (s1 rfl) <| cgB hp21 rfl rfl (oCall rfl (state_place.ok hy22) b29 (opds_cons tm opds_nil)) (s1 rfl) <| cp (oPkT hp21 tm tm) (s2 rfl rfl) <| cp (oMv tm) (s1 rfl) <| csB (nb hp23) rfl rfl <| csB (nb hp23) rfl rfl <| csB (nb hp23) rfl rfl <| csB (nb hp23) rfl rfl <| csB (nb hp23) rfl rfl <| cp (oPkF (nb hp23) tm cB) (s1 rfl) <| cp (oMv tm) (s1 rfl) <| csB rfl rfl rfl <| cp (oPkF rfl tm cB) (s1 rfl) <| cp (oMv tm) (s1 rfl) <| csB rfl rfl rfl <| csB rfl rfl rfl <| csB rfl rfl rfl <| csB rfl rfl rfl <| csB rfl rfl rfl <| cp (oPkF rfl tm cB) (s1 rfl) <| cp (oMv tm) (s1 rfl) <| csB rfl rfl rfl <| csB rfl rfl rfl <| csB rfl rfl rfl <| csB rfl rfl rfl <| csB rfl rfl rfl <| cp (oPkF rfl tm cB) (s1 rfl) <| cp (oMv tm) (s1 rfl) <| csB rfl rfl rfl <| csB rfl rfl rfl <| csB rfl rfl rfl <| csB rfl rfl rfl <| csB rfl rfl rfl <| cp (oPkF rfl tm cB) (s1 rfl) <| cp (oAs tm) (s1 rfl) <| .nil) (by kernel_rfl) ?_
          exact pJ1 _ (so h) ⟨rfl, trivial⟩ rfl
      · refine rg (cp (oLd t25 tm) (s1 rfl) <| cp (oFld (fs := f_api_State) (k := 1) rfl o32_1 tm) (s1 rfl) <| cp (oLd t28 tm) (s1 rfl) <| cp (oCall rfl (code_Right.ok hy20) b30 (opds_cons tm (opds_cons tm opds_nil))) (s2 rfl rfl) <| cp (oMv tm) (s1 rfl) <| csB (nb hp21) rfl rfl <| csB (nb hp21) rfl rfl <| csB (nb hp21) rfl rfl <| csB (nb hp21) rfl rfl <| cp (oPkF (nb hp21) tm cB) (s1 rfl) <| cp (oMv tm) (s1 rfl) <| csB rfl rfl rfl <| csB rfl rfl rfl <| csB rfl rfl rfl <| csB rfl rfl rfl <| csB rfl rfl rfl <| cp (oPkF rfl tm cB) (s1 rfl) <| cp (oMv tm) (s1 rfl) <| csB rfl rfl rfl <| cp (oPkF rfl tm cB) (s1 rfl) <| cp (oMv tm) (s1 rfl) <| csB rfl rfl rfl <| csB rfl rfl rfl <| csB rfl rfl rfl <| csB rfl rfl rfl <| csB rfl rfl rfl <| cp (oPkF rfl tm cB) (s1 rfl) <| cp (oMv tm) (s1 rfl) <| csB rfl rfl rfl <| csB rfl rfl rfl <| csB rfl rfl rfl <| csB rfl rfl rfl <| csB rfl rfl rfl <| cp (oPkF rfl tm cB) (s1 rfl) <| cp (oMv tm) (s1 rfl) <| csB rfl rfl rfl <| csB rfl rfl rfl <| csB rfl rfl rfl <| csB rfl rfl rfl <| csB rfl rfl rfl <| cp (oPkF rfl tm cB) (s1 rfl) <| cp (oAs tm) (s1 rfl) <| .nil) (by kernel_rfl) ?_
        exact pJ1 _ (so h) ⟨rfl, trivial⟩ rfl
    · rintro x19 rfl
      replace h := hk1
      refine wRet ?_
      obtain rfl := so h
      exact pR1 (.inl rfl) rfl (.tmp rfl <| .nil)

theorem state_written.ok {a0 : api_Lattice} {a1 : Int} {a2 : Int} {r : Str} (h : state_written.f a0 a1 a2 = some r) : FnA Tryz.prog 18 [(kR f_api_Lattice).sig a0, (kI .i64).sig a1, (kI .i64).sig a2] (kS.sig r) := by
  refine fnIntro Tryz.func18 rfl (by kernel_rfl) fun H0 w0 => ?_
  unfold state_written.f at h
  refine wSeq ?_
  refine rg (cp (oBox tm) (s1 rfl) <| cp (oAs (cS (by decide))) trivial <| .nil) (by kernel_rfl) ?_
  refine pSeq ?_
  refine wSeq ?_
  obtain ⟨y1, hy1, h⟩ := bd h
  refine rg (cp (oMv tm) (s1 rfl) <| cp (oCall rfl (libItoaA tab10 Tryz.strconv_Itoa hy1) b52 (opds_cons tm opds_nil)) (s1 rfl) <| cp (oAs tm) (s1 rfl) <| .nil) (by kernel_rfl) ?_
  refine pSeq ?_
  refine wSeq ?_
  refine wSeq ?_
  refine rg (cp (oMv tm) (s1 rfl) <| cp (oLt rfl tm (cI (by decide))) (s1 rfl) <| .nil) (by kernel_rfl) ?_
  refine pSeq ?_
  rcases ic h with ⟨hp2, h⟩ | ⟨hp2, h⟩
  · refine wCT hp2 tm (s1 rfl) ?_
    obtain ⟨y3, hy3, h⟩ := bd h
    obtain ⟨hc4, h⟩ := ib h
    refine rg (cp (oMv tm) (s1 rfl) <| cp (oNeg tm) (s1 rfl) <| cp (oCall rfl (libItoaA tab10 Tryz.strconv_Itoa hy3) b52 (opds_cons tm opds_nil)) (s1 rfl) <| cp (oSAdd hc4 (cS (by decide)) tm) (s1 rfl) <| cp (oAs tm) (s1 rfl) <| .nil) (by kernel_rfl) ?_
    refine pSeq ?_
    refine wSeq ?_
    obtain ⟨hc5, h⟩ := ib h
    obtain ⟨y6, hy6, h⟩ := bd h
    obtain ⟨hc7, h⟩ := ib h
    refine rg (cp (oMv tm) (s1 rfl) <| cp (oSAdd hc5 tm (cS (by decide))) (s1 rfl) <| cp (oFld (fs := f_api_Lattice) (k := 0) rfl o25_0 tm) (s1 rfl) <| cp (oLd t22 tm) (s1 rfl) <| cp (oMv tm) (s1 rfl) <| cp (oIdx u22 z9 hy6 tm tm) (s2 rfl rfl) <| cp (oLd t9 tm) (s1 rfl) <| cp (oSAdd hc7 tm tm) (s2 rfl rfl) <| cp (oAs tm) (s1 rfl) <| .nil) (by kernel_rfl) ?_
    refine pSeq ?_
    refine wRet ?_
    obtain rfl := so h
    exact pR1 (.inl rfl) rfl (.tmp rfl <| .nil)
  · refine wCF hp2 tm (s1 rfl) ?_
    refine wSkip ?_
    refine pSeq ?_
    refine wSeq ?_
    obtain ⟨hc8, h⟩ := ib h
    obtain ⟨y9, hy9, h⟩ := bd h
    obtain ⟨hc10, h⟩ := ib h
    refine rg (cp (oMv tm) (s1 rfl) <| cp (oSAdd hc8 tm (cS (by decide))) (s1 rfl) <| cp (oFld (fs := f_api_Lattice) (k := 0) rfl o25_0 tm) (s1 rfl) <| cp (oLd t22 tm) (s1 rfl) <| cp (oMv tm) (s1 rfl) <| cp (oIdx u22 z9 hy9 tm tm) (s2 rfl rfl) <| cp (oLd t9 tm) (s1 rfl) <| cp (oSAdd hc10 tm tm) (s2 rfl rfl) <| cp (oAs tm) (s1 rfl) <| .nil) (by kernel_rfl) ?_
    refine pSeq ?_
    refine wRet ?_
    obtain rfl := so h
    exact pR1 (.inl rfl) rfl (.tmp rfl <| .nil)

theorem table_Name.ok {a0 : Int} {r : Str × Int} (h : table_Name.f a0 = some r) : FnA Tryz.prog 53 [(kI .i64).sig a0] (tup [kS.sig r.1, (kI .i64).sig r.2]) := by
  refine fnIntro Tryz.func53 rfl (by kernel_rfl) fun H0 w0 => ?_
  unfold table_Name.f at h
  refine wSeq ?_
  refine rg (cp (oAs (cS (by decide))) trivial <| cp (oAs (cI (by decide))) trivial <| .nil) (by kernel_rfl) ?_
  refine pSeq ?_
  refine wSeq ?_
  obtain ⟨o1, h, hk1⟩ := bd h
  refine wJ1 (fun x2 => x2 = o1) (fun x2 => [(0, .d ((kI .i64).sig a0)), (9, .d (kB.sig x2))]) (fun x2 => []) ?_ ?_
  · rcases ic h with ⟨hp3, h⟩ | ⟨hp3, h⟩
    · refine rg (cp (oMv tm) (s1 rfl) <| cp (oLt rfl tm (cI (by decide))) (s1 rfl) <| cp (oMv tm) (s1 rfl) <| csB (decide_eq_true hp3) rfl rfl <| csB (decide_eq_true hp3) rfl rfl <| cp (oPkT (decide_eq_true hp3) tm cB) (s1 rfl) <| .nil) (by kernel_rfl) ?_
      exact pJ1 _ (so h) ⟨rfl, rfl, trivial⟩ rfl
    · refine rg (cp (oMv tm) (s1 rfl) <| cp (oLt rfl tm (cI (by decide))) (s1 rfl) <| cp (oMv tm) (s1 rfl) <| cgB (decide_eq_false hp3) rfl rfl (oMv tm) (s1 rfl) <| cgB (decide_eq_false hp3) rfl rfl (oGe rfl tm (cI (by decide))) (s1 rfl) <| cp (oPkF (decide_eq_false hp3) tm tm) (s2 rfl rfl) <| .nil) (by kernel_rfl) ?_
      exact pJ1 _ (so h) ⟨rfl, rfl, trivial⟩ rfl
  · rintro x2 rfl
    replace h := hk1
    rcases ic h with ⟨hp4, h⟩ | ⟨hp4, h⟩
    · refine wBT hp4 tm (s1 rfl) ?_
      refine wSeq ?_
      refine rg (cp (oAs (cS (by decide))) trivial <| cp (oAs (cI (by decide))) trivial <| .nil) (by kernel_rfl) ?_
      refine pSeq ?_
      refine wRet ?_
      refine pThenR ?_
      obtain rfl := so h
      exact pRn (.inl rfl) rfl rfl (.tmp rfl <| .tmp rfl <| .nil)
    · refine wBF hp4 tm (s1 rfl) ?_
      refine wSkip ?_
      refine pSeq ?_
      refine wSeq ?_
      obtain ⟨y5, hy5, h⟩ := bd h
      refine rg (cp (oMv tm) (s1 rfl) <| cp (oIdxG gm0 u108 rfl z9 hy5 tm) (s1 rfl) <| cp (oLd t9 tm) (s1 rfl) <| cp (oAs tm) (s1 rfl) <| cp (oAs (cI (by decide))) trivial <| .nil) (by kernel_rfl) ?_
      refine pSeq ?_
      refine wRet ?_
      obtain rfl := so h
      exact pRn (.inl rfl) rfl rfl (.tmp rfl <| .tmp rfl <| .nil)

theorem code_number.ok {a0 : Int} {r : Bool} (h : code_number.f a0 = some r) : FnA Tryz.prog 54 [(kI .i64).sig a0] (kB.sig r) := by
  refine fnIntro Tryz.func54 rfl (by kernel_rfl) fun H0 w0 => ?_
  unfold code_number.f at h
  refine wSeq ?_
  refine rg (cp (oAs cB) trivial <| .nil) (by kernel_rfl) ?_
  refine pSeq ?_
  refine wSeq ?_
  obtain ⟨y1, hy1, h⟩ := bd h
  refine rg (cp (oCall rfl (code_spans.ok hy1) b85 opds_nil) trivial <| cp (oMv tm) (s1 rfl) <| cp (oLookup u110 mk3 zv62 zFn rfl tm tm) (s2 rfl rfl) <| cp (oMv tm) (s1 rfl) <| cp (oExt (k := 0) rfl tm) (s1 rfl) <| cp (oExt (k := 1) rfl tm) (s1 rfl) <| cp (oAs tm) (s1 rfl) <| cp (oAs tm) (s1 rfl) <| .nil) (by kernel_rfl) ?_
  refine pSeq ?_
  refine wSeq ?_
  refine rg (cp (oMv tm) (s1 rfl) <| cp (oAs tm) (s1 rfl) <| .nil) (by kernel_rfl) ?_
  refine pSeq ?_
  refine wRet ?_
  obtain rfl := so h
  exact pR1 (.inl rfl) rfl (.tmp rfl <| .nil)

theorem code_signed.ok {a0 : Int} {r : Str} (h : code_signed.f a0 = some r) : FnA Tryz.prog 55 [(kI .i64).sig a0] (kS.sig r) := by
  refine fnIntro Tryz.func55 rfl (by kernel_rfl) fun H0 w0 => ?_
  unfold code_signed.f at h
  refine wSeq ?_
  refine rg (cp (oAs (cS (by decide))) trivial <| .nil) (by kernel_rfl) ?_
  refine pSeq ?_
  refine wSeq ?_
  refine wSeq ?_
  refine rg (cp (oMv tm) (s1 rfl) <| cp (oLt rfl tm (cI (by decide))) (s1 rfl) <| .nil) (by kernel_rfl) ?_
  refine pSeq ?_
  rcases ic h with ⟨hp1, h⟩ | ⟨hp1, h⟩
  · refine wCT hp1 tm (s1 rfl) ?_
    refine wSeq ?_
    obtain ⟨y2, hy2, h⟩ := bd h
    obtain ⟨hc3, h⟩ := ib h
    refine rg (cp (oMv tm) (s1 rfl) <| cp (oNeg tm) (s1 rfl) <| cp (oCall rfl (libItoaA tab10 Tryz.strconv_Itoa hy2) b52 (opds_cons tm opds_nil)) (s1 rfl) <| cp (oSAdd hc3 (cS (by decide)) tm) (s1 rfl) <| cp (oAs tm) (s1 rfl) <| .nil) (by kernel_rfl) ?_
    refine pSeq ?_
    refine wRet ?_
    refine pThenR ?_
    obtain rfl := so h
    exact pR1 (.inl rfl) rfl (.tmp rfl <| .nil)
  · refine wCF hp1 tm (s1 rfl) ?_
    refine wSkip ?_
    refine pSeq ?_
    refine wSeq ?_
    obtain ⟨y4, hy4, h⟩ := bd h
    refine rg (cp (oMv tm) (s1 rfl) <| cp (oCall rfl (libItoaA tab10 Tryz.strconv_Itoa hy4) b52 (opds_cons tm opds_nil)) (s1 rfl) <| cp (oAs tm) (s1 rfl) <| .nil) (by kernel_rfl) ?_
    refine pSeq ?_
    refine wRet ?_
    obtain rfl := so h
    exact pR1 (.inl rfl) rfl (.tmp rfl <| .nil)

theorem code_Text.ok {a0 : api_Lattice} {a1 : List api_Instr} {r : Str × Int} (h : code_Text.f a0 a1 = some r) : FnA Tryz.prog 19 [(kR f_api_Lattice).sig a0, (kL (kR f_api_Instr)).sig a1] (tup [kS.sig r.1, (kI .i64).sig r.2]) := by
  refine fnIntro Tryz.func19 rfl (by kernel_rfl) fun H0 w0 => ?_
  unfold code_Text.f at h
  refine wSeq ?_
  refine rg (cp (oBox tm) (s1 rfl) <| cp (oAs (cS (by decide))) trivial <| cp (oAs (cI (by decide))) trivial <| .nil) (by kernel_rfl) ?_
  refine pSeq ?_
  refine wSeq ?_
  refine wSeq ?_
  obtain ⟨y1, hy1, h⟩ := bd h
  refine rg (cp (oLd t25 tm) (s1 rfl) <| cp (oCall rfl (lattice_Check.ok hy1) b16 (opds_cons tm opds_nil)) (s1 rfl) <| cp (oAs tm) (s1 rfl) <| .nil) (by kernel_rfl) ?_
  refine pSeq ?_
  refine wSeq ?_
  refine rg (cp (oMv tm) (s1 rfl) <| cp (oNe rfl tm (cI (by decide))) (s1 rfl) <| .nil) (by kernel_rfl) ?_
  refine pSeq ?_
  rcases ic h with ⟨hp2, h⟩ | ⟨hp2, h⟩
  · refine wNT hp2 tm (s1 rfl) ?_
    refine wSkip ?_
    refine pSeq ?_
    refine wSeq ?_
    refine wSeq ?_
    obtain ⟨y3, hy3, h⟩ := bd h
    refine rg (cp (oLd t25 tm) (s1 rfl) <| cp (oMv tm) (s1 rfl) <| cp (oCall rfl (code_Right.ok hy3) b30 (opds_cons tm (opds_cons tm opds_nil))) (s2 rfl rfl) <| cp (oNot tm) (s1 rfl) <| .nil) (by kernel_rfl) ?_
    refine pSeq ?_
    rcases ic h with ⟨hp4, h⟩ | ⟨hp4, h⟩
    · refine wBT hp4 tm (s1 rfl) ?_
      refine wSeq ?_
      refine rg (cp (oAs (cS (by decide))) trivial <| cp (oAs (cI (by decide))) trivial <| .nil) (by kernel_rfl) ?_
      refine pSeq ?_
      refine wRet ?_
      refine pThenR ?_
      obtain rfl := so h
      exact pRn (.inl rfl) rfl rfl (.tmp rfl <| .tmp rfl <| .nil)
    · refine wBF hp4 tm (s1 rfl) ?_
      refine wSkip ?_
      refine pSeq ?_
      refine wSeq ?_
      refine rg (cp (oAs cV) trivial <| .nil) (by kernel_rfl) ?_
      refine pSeq ?_
      refine wSeq ?_
      refine wSeq ?_
      refine rg (cp (oMv tm) (s1 rfl) <| cp (oLenL u28 tm) (s1 rfl) <| cp (oMv (cI (by decide))) trivial <| .nil) (by kernel_rfl) ?_
      refine pSeq ?_
      refine wNil kS 9 1007 7 rfl rfl ?_
      obtain ⟨o1, h, hk1⟩ := bd h
      refine wK1 (fun x103 => x103 = o1) (fun x103 => [(7, .v 1007)]) (fun x103 => [.row 1007 9 kS x103]) ?_ ?_
      · refine wBlock (wLoop ?_)
        refine lW (pc2 o1 (fun v101 v102 => [(2, .d (sP (kR f_api_Lattice) a0)), (7, .v 1007), (21, .d ((kL (kR f_api_Instr)).sig a1)), (22, .d ((kI .i64).sig (a1.length : Int))), (23, .d ((kI .i64).sig v102))]) (fun v101 v102 => [.row 1007 9 kS v101]) (code_Text.l0.partial_correctness a0 a1) ?_ _ _ h) ⟨rfl, rfl, rfl, rfl, rfl, trivial⟩ rfl
        clear h
        intro f' ih v101 v102 h
        refine wSeq ?_
        refine rg (cp (oLt rfl tm tm) (s2 rfl rfl) <| .nil) (by kernel_rfl) ?_
        refine pSeq ?_
        refine wSeq ?_
        rcases ic h with ⟨hp104, h⟩ | ⟨hp104, h⟩
        · refine wCT hp104 tm (s1 rfl) ?_
          refine wSkip ?_
          refine pSeq ?_
          obtain ⟨o2, h, hk2⟩ := bd h
          refine wJ1 (fun x128 => x128 = o2) (fun x128 => [(2, .d (sP (kR f_api_Lattice) a0)), (7, .v 1007), (21, .d ((kL (kR f_api_Instr)).sig a1)), (22, .d ((kI .i64).sig (a1.length : Int))), (23, .d ((kI .i64).sig v102))]) (fun x128 => [.row 1007 9 kS x128]) ?_ ?_
          · refine wBlock ?_
            refine wSeq ?_
            obtain ⟨y129, hy129, h⟩ := bd h
            refine rg (cp (oIdx u28 z81 hy129 tm tm) (s2 rfl rfl) <| cp (oLd t81 tm) (s1 rfl) <| cw (oAlloc (id := 9) (ls := [.d (kI .i64) 0, .d (kI .i64) 0, .d (kI .i64) 0]) ze81 (fun g => ⟨[(.int .i64 0)], _, rfl, zI_i64 g.H, ⟨[(.int .i64 0)], _, rfl, zI_i64 g.H, ⟨[(.int .i64 0)], _, rfl, zI_i64 g.H, rfl⟩⟩⟩)) trivial <| cwn (oStA (n := 0) (fs := f_api_Instr) rfl rfl z81 tm tm) (s2 rfl rfl) <| .nil) (by kernel_rfl) ?_
            refine pSeq ?_
            refine wSeq ?_
            obtain ⟨y130, hy130, h⟩ := bd h
            refine rg (cp (oFldP o81_0 tm) (s1 rfl) <| cr (oLdB (n := 0) (k := 0) rfl rfl rfl t3 tm) (s1 rfl) <| cp (oCall rfl (table_Name.ok hy130) b53 (opds_cons tm opds_nil)) (s1 rfl) <| cp (oMv tm) (s1 rfl) <| cp (oExt (k := 0) rfl tm) (s1 rfl) <| cp (oExt (k := 1) rfl tm) (s1 rfl) <| cp (oAs tm) (s1 rfl) <| cp (oAs tm) (s1 rfl) <| .nil) (by kernel_rfl) ?_
            refine pSeq ?_
            refine wSeq ?_
            refine wSeq ?_
            obtain ⟨y131, hy131, h⟩ := bd h
            refine rg (cp (oFldP o81_0 tm) (s1 rfl) <| cr (oLdB (n := 0) (k := 0) rfl rfl rfl t3 tm) (s1 rfl) <| cp (oCall rfl (code_number.ok hy131) b54 (opds_cons tm opds_nil)) (s1 rfl) <| .nil) (by kernel_rfl) ?_
            refine pSeq ?_
            rcases ic h with ⟨hp132, h⟩ | ⟨hp132, h⟩
            · refine wBT hp132 tm (s1 rfl) ?_
              obtain ⟨y133, hy133, h⟩ := bd h
              obtain ⟨hc134, h⟩ := ib h
              obtain ⟨hc135, h⟩ := ib h
              refine rg (cp (oMv tm) (s1 rfl) <| cp (oFldP o81_1 tm) (s1 rfl) <| cr (oLdB (n := 0) (k := 1) rfl rfl rfl t3 tm) (s1 rfl) <| cp (oCall rfl (code_signed.ok hy133) b55 (opds_cons tm opds_nil)) (s1 rfl) <| cp (oSAdd hc134 (cS (by decide)) tm) (s1 rfl) <| cp (oSAdd hc135 tm tm) (s2 rfl rfl) <| cp (oAs tm) (s1 rfl) <| .nil) (by kernel_rfl) ?_
              refine pSeq ?_
              refine wSeq ?_
              refine wSeq ?_
              refine rg (cp (oFldP o81_0 tm) (s1 rfl) <| cr (oLdB (n := 0) (k := 0) rfl rfl rfl t3 tm) (s1 rfl) <| cp (oEq rfl tm (cI (by decide))) (s1 rfl) <| .nil) (by kernel_rfl) ?_
              refine pSeq ?_
              rcases ic h with ⟨hp136, h⟩ | ⟨hp136, h⟩
              · refine wCT hp136 tm (s1 rfl) ?_
                obtain ⟨y137, hy137, h⟩ := bd h
                obtain ⟨hc138, h⟩ := ib h
                obtain ⟨hc139, h⟩ := ib h
                refine rg (cp (oMv tm) (s1 rfl) <| cp (oFld (fs := f_api_Lattice) (k := 0) rfl o25_0 tm) (s1 rfl) <| cp (oLd t22 tm) (s1 rfl) <| cp (oFldP o81_2 tm) (s1 rfl) <| cr (oLdB (n := 0) (k := 2) rfl rfl rfl t3 tm) (s1 rfl) <| cp (oIdx u22 z9 hy137 tm tm) (s2 rfl rfl) <| cp (oLd t9 tm) (s1 rfl) <| cp (oSAdd hc138 (cS (by decide)) tm) (s1 rfl) <| cp (oSAdd hc139 tm tm) (s2 rfl rfl) <| cp (oAs tm) (s1 rfl) <| .nil) (by kernel_rfl) ?_
                refine pSeq ?_
                obtain ⟨hc140, h⟩ := ib h
                obtain ⟨hc141, h⟩ := ib h
                refine rg (cp (oMv tm) (s1 rfl) <| cp (oMv tm) (s1 rfl) <| cp (oSAdd hc140 tm (cS (by decide))) (s1 rfl) <| cp (oLit (d := kS) el22 (by decide) rfl rfl rfl (e1 tm e0)) (s1 rfl) <| cw (oApp (n := 1) (id' := 58) el22 (by decide) rfl (by decide) hc141 tm tm) (s2 rfl rfl) <| cp (oAs tm) (s1 rfl) <| .nil) (by kernel_rfl) ?_
                refine pBlkN ?_
                refine pDrop (.cons _ (.cons_cons _ .slnil)) ?_
                refine pSub (Γ' := [(2, .d (sP (kR f_api_Lattice) a0)), (7, .v 58), (21, .d ((kL (kR f_api_Instr)).sig a1)), (22, .d ((kI .i64).sig (a1.length : Int))), (23, .d ((kI .i64).sig v102))]) ⟨rfl, rfl, rfl, rfl, rfl, trivial⟩ ?_
                refine pRen 58 1007 rfl ?_
                exact pJ1 _ (so h) ⟨rfl, rfl, rfl, rfl, rfl, trivial⟩ rfl
              · refine wCF hp136 tm (s1 rfl) ?_
                refine wSkip ?_
                refine pSeq ?_
                obtain ⟨hc142, h⟩ := ib h
                obtain ⟨hc143, h⟩ := ib h
                refine rg (cp (oMv tm) (s1 rfl) <| cp (oMv tm) (s1 rfl) <| cp (oSAdd hc142 tm (cS (by decide))) (s1 rfl) <| cp (oLit (d := kS) el22 (by decide) rfl rfl rfl (e1 tm e0)) (s1 rfl) <| cw (oApp (n := 1) (id' := 58) el22 (by decide) rfl (by decide) hc143 tm tm) (s2 rfl rfl) <| cp (oAs tm) (s1 rfl) <| .nil) (by kernel_rfl) ?_
                refine pBlkN ?_
                refine pDrop (.cons _ (.cons_cons _ .slnil)) ?_
                refine pSub (Γ' := [(2, .d (sP (kR f_api_Lattice) a0)), (7, .v 58), (21, .d ((kL (kR f_api_Instr)).sig a1)), (22, .d ((kI .i64).sig (a1.length : Int))), (23, .d ((kI .i64).sig v102))]) ⟨rfl, rfl, rfl, rfl, rfl, trivial⟩ ?_
                refine pRen 58 1007 rfl ?_
                exact pJ1 _ (so h) ⟨rfl, rfl, rfl, rfl, rfl, trivial⟩ rfl
            · refine wBF hp132 tm (s1 rfl) ?_
              refine wSkip ?_
              refine pSeq ?_
              refine wSeq ?_
              refine wSeq ?_
              refine rg (cp (oFldP o81_0 tm) (s1 rfl) <| cr (oLdB (n := 0) (k := 0) rfl rfl rfl t3 tm) (s1 rfl) <| cp (oEq rfl tm (cI (by decide))) (s1 rfl) <| .nil) (by kernel_rfl) ?_
              refine pSeq ?_
              rcases ic h with ⟨hp144, h⟩ | ⟨hp144, h⟩
              · refine wCT hp144 tm (s1 rfl) ?_
                obtain ⟨y145, hy145, h⟩ := bd h
                obtain ⟨hc146, h⟩ := ib h
                obtain ⟨hc147, h⟩ := ib h
                refine rg (cp (oMv tm) (s1 rfl) <| cp (oFld (fs := f_api_Lattice) (k := 0) rfl o25_0 tm) (s1 rfl) <| cp (oLd t22 tm) (s1 rfl) <| cp (oFldP o81_2 tm) (s1 rfl) <| cr (oLdB (n := 0) (k := 2) rfl rfl rfl t3 tm) (s1 rfl) <| cp (oIdx u22 z9 hy145 tm tm) (s2 rfl rfl) <| cp (oLd t9 tm) (s1 rfl) <| cp (oSAdd hc146 (cS (by decide)) tm) (s1 rfl) <| cp (oSAdd hc147 tm tm) (s2 rfl rfl) <| cp (oAs tm) (s1 rfl) <| .nil) (by kernel_rfl) ?_
                refine pSeq ?_
                obtain ⟨hc148, h⟩ := ib h
                obtain ⟨hc149, h⟩ := ib h
                refine rg (cp (oMv tm) (s1 rfl) <| cp (oMv tm) (s1 rfl) <| cp (oSAdd hc148 tm (cS (by decide))) (s1 rfl) <| cp (oLit (d := kS) el22 (by decide) rfl rfl rfl (e1 tm e0)) (s1 rfl) <| cw (oApp (n := 1) (id' := 58) el22 (by decide) rfl (by decide) hc149 tm tm) (s2 rfl rfl) <| cp (oAs tm) (s1 rfl) <| .nil) (by kernel_rfl) ?_
                refine pBlkN ?_
                refine pDrop (.cons _ (.cons_cons _ .slnil)) ?_
                refine pSub (Γ' := [(2, .d (sP (kR f_api_Lattice) a0)), (7, .v 58), (21, .d ((kL (kR f_api_Instr)).sig a1)), (22, .d ((kI .i64).sig (a1.length : Int))), (23, .d ((kI .i64).sig v102))]) ⟨rfl, rfl, rfl, rfl, rfl, trivial⟩ ?_
                refine pRen 58 1007 rfl ?_
                exact pJ1 _ (so h) ⟨rfl, rfl, rfl, rfl, rfl, trivial⟩ rfl
              · refine wCF hp144 tm (s1 rfl) ?_
                refine wSkip ?_
                refine pSeq ?_
                obtain ⟨hc150, h⟩ := ib h
                obtain ⟨hc151, h⟩ := ib h
                refine rg (cp (oMv tm) (s1 rfl) <| cp (oMv tm) (s1 rfl) <| cp (oSAdd hc150 tm (cS (by decide))) (s1 rfl) <| cp (oLit (d := kS) el22 (by decide) rfl rfl rfl (e1 tm e0)) (s1 rfl) <| cw (oApp (n := 1) (id' := 58) el22 (by decide) rfl (by decide) hc151 tm tm) (s2 rfl rfl) <| cp (oAs tm) (s1 rfl) <| .nil) (by kernel_rfl) ?_
                refine pBlkN ?_
                refine pDrop (.cons _ (.cons_cons _ .slnil)) ?_
                refine pSub (Γ' := [(2, .d (sP (kR f_api_Lattice) a0)), (7, .v 58), (21, .d ((kL (kR f_api_Instr)).sig a1)), (22, .d ((kI .i64).sig (a1.length : Int))), (23, .d ((kI .i64).sig v102))]) ⟨rfl, rfl, rfl, rfl, rfl, trivial⟩ ?_
                refine pRen 58 1007 rfl ?_
                exact pJ1 _ (so h) ⟨rfl, rfl, rfl, rfl, rfl, trivial⟩ rfl
          · rintro x128 rfl
            replace h := hk2
            refine rg (cp (oAdd tm (cI (by decide))) (s1 rfl) <| cp (oMv tm) (s1 rfl) <| .nil) (by kernel_rfl) ?_
            exact pLoop (lW (ih _ _ h) ⟨rfl, rfl, rfl, rfl, rfl, trivial⟩ rfl)
        · refine wCF hp104 tm (s1 rfl) ?_
          refine wExit ?_
          refine pThenX ?_
          refine pThenX ?_
          refine pBlkX ?_
          exact pJ1 _ (so h) ⟨rfl, trivial⟩ rfl
      · rintro x103 rfl
        replace h := hk1
        refine pSeq ?_
        refine wSeq ?_
        obtain ⟨y152, hy152, h⟩ := bd h
        refine rg (cp (oMv tm) (s1 rfl) <| cr (oCallB rfl (libJoin Tryz.strings_Join_none Tryz.strings_Join hy152) (fK fS) b56 (rc1 (rR (n := 0) rfl) (rc1 (rD (cS (by decide))) rn0))) (s1 rfl) <| cp (oAs tm) (s1 rfl) <| cp (oAs (cI (by decide))) trivial <| .nil) (by kernel_rfl) ?_
        refine pSeq ?_
        refine wRet ?_
        obtain rfl := so h
        exact pRn (.inl rfl) rfl rfl (.tmp rfl <| .tmp rfl <| .nil)
  · refine wNF hp2 tm (s1 rfl) ?_
    refine wSeq ?_
    refine rg (cp (oMv tm) (s1 rfl) <| cp (oAs (cS (by decide))) trivial <| cp (oAs tm) (s1 rfl) <| .nil) (by kernel_rfl) ?_
    refine pSeq ?_
    refine wRet ?_
    refine pThenR ?_
    obtain rfl := so h
    exact pRn (.inl rfl) rfl rfl (.tmp rfl <| .tmp rfl <| .nil)

theorem state_line.ok {a0 : Str} {a1 : List Str} {r : Str} (h : state_line.f a0 a1 = some r) : FnA Tryz.prog 20 [kS.sig a0, (kL kS).sig a1] (kS.sig r) := by
  refine fnIntro Tryz.func20 rfl (by kernel_rfl) fun H0 w0 => ?_
  unfold state_line.f at h
  refine wSeq ?_
  refine rg (cp (oAs (cS (by decide))) trivial <| .nil) (by kernel_rfl) ?_
  refine pSeq ?_
  refine wSeq ?_
  refine wSeq ?_
  refine rg (cp (oMv tm) (s1 rfl) <| cp (oLenL u22 tm) (s1 rfl) <| cp (oEq rfl tm (cI (by decide))) (s1 rfl) <| .nil) (by kernel_rfl) ?_
  refine pSeq ?_
  rcases ic h with ⟨hp1, h⟩ | ⟨hp1, h⟩
  · refine wCT hp1 tm (s1 rfl) ?_
    refine wSeq ?_
    obtain ⟨hc2, h⟩ := ib h
    refine rg (cp (oMv tm) (s1 rfl) <| cp (oSAdd hc2 tm (cS (by decide))) (s1 rfl) <| cp (oAs tm) (s1 rfl) <| .nil) (by kernel_rfl) ?_
    refine pSeq ?_
    refine wRet ?_
    refine pThenR ?_
    obtain rfl := so h
    exact pR1 (.inl rfl) rfl (.tmp rfl <| .nil)
  · refine wCF hp1 tm (s1 rfl) ?_
    refine wSkip ?_
    refine pSeq ?_
    refine wSeq ?_
    obtain ⟨hc3, h⟩ := ib h
    obtain ⟨y4, hy4, h⟩ := bd h
    obtain ⟨hc5, h⟩ := ib h
    obtain ⟨hc6, h⟩ := ib h
    refine rg (cp (oMv tm) (s1 rfl) <| cp (oSAdd hc3 tm (cS (by decide))) (s1 rfl) <| cp (oMv tm) (s1 rfl) <| cp (oCall rfl (libJoin Tryz.strings_Join_none Tryz.strings_Join hy4) b56 (opds_cons tm (opds_cons (cS (by decide)) opds_nil))) (s1 rfl) <| cp (oSAdd hc5 tm tm) (s2 rfl rfl) <| cp (oSAdd hc6 tm (cS (by decide))) (s1 rfl) <| cp (oAs tm) (s1 rfl) <| .nil) (by kernel_rfl) ?_
    refine pSeq ?_
    refine wRet ?_
    obtain rfl := so h
    exact pR1 (.inl rfl) rfl (.tmp rfl <| .nil)

theorem state_Text_1.ok {a0 : List api_Atom} {a1 : api_Lattice} {r : List Str} (h : state_Text_1.f a0 a1 = some r) : FnA Tryz.prog 17 [(kL (kR f_api_Atom)).sig a0, sP (kR f_api_Lattice) a1] ((kL kS).sig r) := by
  refine fnIntro Tryz.func17 rfl (by kernel_rfl) fun H0 w0 => ?_
  unfold state_Text_1.f at h
  refine wSeq ?_
  refine rg (cp (oAs cV) trivial <| .nil) (by kernel_rfl) ?_
  refine pSeq ?_
  refine wSeq ?_
  refine rg (cp (oAs cV) trivial <| .nil) (by kernel_rfl) ?_
  refine pSeq ?_
  refine wSeq ?_
  refine wSeq ?_
  refine rg (cp (oMv tm) (s1 rfl) <| cp (oLenL u29 tm) (s1 rfl) <| cp (oMv (cI (by decide))) trivial <| .nil) (by kernel_rfl) ?_
  refine pSeq ?_
  refine wNil kS 9 1004 4 rfl rfl ?_
  obtain ⟨o1, h, hk1⟩ := bd h
  refine wK1 (fun x11 => x11 = o1) (fun x11 => [(4, .v 1004)]) (fun x11 => [.row 1004 9 kS x11]) ?_ ?_
  · refine wBlock (wLoop ?_)
    refine lW (pc2 o1 (fun v9 v10 => [(1, .d (sP (kR f_api_Lattice) a1)), (4, .v 1004), (7, .d ((kL (kR f_api_Atom)).sig a0)), (8, .d ((kI .i64).sig (a0.length : Int))), (9, .d ((kI .i64).sig v10))]) (fun v9 v10 => [.row 1004 9 kS v9]) (state_Text_1.l0.partial_correctness a0 a1) ?_ _ _ h) ⟨rfl, rfl, rfl, rfl, rfl, trivial⟩ rfl
    clear h
    intro f' ih v9 v10 h
    refine wSeq ?_
    refine rg (cp (oLt rfl tm tm) (s2 rfl rfl) <| .nil) (by kernel_rfl) ?_
    refine pSeq ?_
    refine wSeq ?_
    rcases ic h with ⟨hp12, h⟩ | ⟨hp12, h⟩
    · refine wCT hp12 tm (s1 rfl) ?_
      refine wSkip ?_
      refine pSeq ?_
      refine wSeq ?_
      refine wBlock ?_
      refine wSeq ?_
      obtain ⟨y13, hy13, h⟩ := bd h
      refine rg (cp (oIdx u29 z27 hy13 tm tm) (s2 rfl rfl) <| cp (oLd t27 tm) (s1 rfl) <| cw (oAlloc (id := 6) (ls := [.d (kI .i64) 0, .d (kI .i64) 0]) ze27 (fun g => ⟨[(.int .i64 0)], _, rfl, zI_i64 g.H, ⟨[(.int .i64 0)], _, rfl, zI_i64 g.H, rfl⟩⟩)) trivial <| cwn (oStA (n := 0) (fs := f_api_Atom) rfl rfl z27 tm tm) (s2 rfl rfl) <| .nil) (by kernel_rfl) ?_
      refine pSeq ?_
      obtain ⟨y14, hy14, h⟩ := bd h
      obtain ⟨hc15, h⟩ := ib h
      refine rg (cp (oMv tm) (s1 rfl) <| cp (oLd t25 tm) (s1 rfl) <| cp (oFldP o27_0 tm) (s1 rfl) <| cr (oLdB (n := 0) (k := 0) rfl rfl rfl t3 tm) (s1 rfl) <| cp (oFldP o27_1 tm) (s1 rfl) <| cr (oLdB (n := 0) (k := 1) rfl rfl rfl t3 tm) (s1 rfl) <| cp (oCall rfl (state_written.ok hy14) b18 (opds_cons tm (opds_cons tm (opds_cons tm opds_nil)))) (s3 rfl rfl rfl) <| cp (oLit (d := kS) el22 (by decide) rfl rfl rfl (e1 tm e0)) (s1 rfl) <| cw (oApp (n := 1) (id' := 21) el22 (by decide) rfl (by decide) hc15 tm tm) (s2 rfl rfl) <| cp (oAs tm) (s1 rfl) <| .nil) (by kernel_rfl) ?_
      refine pBlkN ?_
      refine pSeq ?_
      refine rg (cp (oAdd tm (cI (by decide))) (s1 rfl) <| cp (oMv tm) (s1 rfl) <| .nil) (by kernel_rfl) ?_
      refine pDrop (.cons _ (.cons_cons _ .slnil)) ?_
      refine pSub (Γ' := [(1, .d (sP (kR f_api_Lattice) a1)), (4, .v 21), (7, .d ((kL (kR f_api_Atom)).sig a0)), (8, .d ((kI .i64).sig (a0.length : Int))), (9, .d ((kI .i64).sig (IntKind.i64.wrap (v10 + 1))))]) ⟨rfl, rfl, rfl, rfl, rfl, trivial⟩ ?_
      refine pRen 21 1004 rfl ?_
      exact pLoop (lW (ih _ _ h) ⟨rfl, rfl, rfl, rfl, rfl, trivial⟩ rfl)
    · refine wCF hp12 tm (s1 rfl) ?_
      refine wExit ?_
      refine pThenX ?_
      refine pThenX ?_
      refine pBlkX ?_
      exact pJ1 _ (so h) ⟨rfl, trivial⟩ rfl
  · rintro x11 rfl
    replace h := hk1
    refine pSeq ?_
    refine wSeq ?_
    refine rg (cp (oMv tm) (s1 rfl) <| cp (oAs tm) (s1 rfl) <| .nil) (by kernel_rfl) ?_
    refine pSeq ?_
    refine wFrzR (n := 0) (id := 1004) [3] rfl rfl ⟨rfl, trivial⟩ ?_
    refine wRet ?_
    obtain rfl := so h
    exact pR1 (.inl rfl) rfl (.tmp rfl <| .nil)

theorem state_Text.ok {a0 : api_Lattice} {a1 : api_State} {r : Str × Int} (h : state_Text.f a0 a1 = some r) : FnA Tryz.prog 7 [(kR f_api_Lattice).sig a0, (kR f_api_State).sig a1] (tup [kS.sig r.1, (kI .i64).sig r.2]) := by
  refine fnIntro Tryz.func7 rfl (by kernel_rfl) fun H0 w0 => ?_
  unfold state_Text.f at h
  refine wSeq ?_
  refine rg (cp (oBox tm) (s1 rfl) <| cp (oBox tm) (s1 rfl) <| cp (oAs (cS (by decide))) trivial <| cp (oAs (cI (by decide))) trivial <| .nil) (by kernel_rfl) ?_
  refine pSeq ?_
  refine wSeq ?_
  refine wSeq ?_
  obtain ⟨y1, hy1, h⟩ := bd h
  refine rg (cp (oLd t25 tm) (s1 rfl) <| cp (oCall rfl (lattice_Check.ok hy1) b16 (opds_cons tm opds_nil)) (s1 rfl) <| cp (oAs tm) (s1 rfl) <| .nil) (by kernel_rfl) ?_
  refine pSeq ?_
  refine wSeq ?_
  refine rg (cp (oMv tm) (s1 rfl) <| cp (oNe rfl tm (cI (by decide))) (s1 rfl) <| .nil) (by kernel_rfl) ?_
  refine pSeq ?_
  rcases ic h with ⟨hp2, h⟩ | ⟨hp2, h⟩
  · refine wNT hp2 tm (s1 rfl) ?_
    refine wSkip ?_
    refine pSeq ?_
    refine wSeq ?_
    refine wSeq ?_
    obtain ⟨y3, hy3, h⟩ := bd h
    refine rg (cp (oLd t25 tm) (s1 rfl) <| cp (oLd t32 tm) (s1 rfl) <| cp (oCall rfl (state_Right.ok hy3) b11 (opds_cons tm (opds_cons tm opds_nil))) (s2 rfl rfl) <| cp (oNot tm) (s1 rfl) <| .nil) (by kernel_rfl) ?_
    refine pSeq ?_
    rcases ic h with ⟨hp4, h⟩ | ⟨hp4, h⟩
    · refine wBT hp4 tm (s1 rfl) ?_
      refine wSeq ?_
      refine rg (cp (oAs (cS (by decide))) trivial <| cp (oAs (cI (by decide))) trivial <| .nil) (by kernel_rfl) ?_
      refine pSeq ?_
      refine wRet ?_
      refine pThenR ?_
      obtain rfl := so h
      exact pRn (.inl rfl) rfl rfl (.tmp rfl <| .tmp rfl <| .nil)
    · refine wBF hp4 tm (s1 rfl) ?_
      refine wSkip ?_
      refine pSeq ?_
      refine wSeq ?_
      refine rg (cp (oMkF (Rl := rl1 (kL (kR f_api_Atom)) (kL kS) (fun z0 => state_Text_1.f z0 a0)) rfl b17 (rl1e state_Text_1.ok) (opds_cons tm opds_nil)) (s1 rfl) <| cp (oAs tm) (s1 rfl) <| .nil) (by kernel_rfl) ?_
      refine pSeq ?_
      refine wSeq ?_
      obtain ⟨y5, hy5, h⟩ := bd h
      refine rg (cp (oLd t25 tm) (s1 rfl) <| cp (oFld (fs := f_api_State) (k := 1) rfl o32_1 tm) (s1 rfl) <| cp (oLd t28 tm) (s1 rfl) <| cp (oCall rfl (code_Text.ok hy5) b19 (opds_cons tm (opds_cons tm opds_nil))) (s2 rfl rfl) <| cp (oMv tm) (s1 rfl) <| cp (oExt (k := 0) rfl tm) (s1 rfl) <| cp (oExt (k := 1) rfl tm) (s1 rfl) <| cp (oAs tm) (s1 rfl) <| cp (oAs tm) (s1 rfl) <| .nil) (by kernel_rfl) ?_
      refine pSeq ?_
      refine wSeq ?_
      refine wSeq ?_
      refine rg (cp (oMv tm) (s1 rfl) <| cp (oSNe rfl tm (cS (by decide))) (s1 rfl) <| .nil) (by kernel_rfl) ?_
      refine pSeq ?_
      rcases ic h with ⟨hp6, h⟩ | ⟨hp6, h⟩
      · refine wNT hp6 tm (s1 rfl) ?_
        refine wSkip ?_
        refine pSeq ?_
        refine wSeq ?_
        refine rg (cp (oAs cV) trivial <| .nil) (by kernel_rfl) ?_
        refine pSeq ?_
        refine wSeq ?_
        refine wSeq ?_
        refine rg (cp (oFld (fs := f_api_State) (k := 3) rfl o32_3 tm) (s1 rfl) <| cp (oLd t30 tm) (s1 rfl) <| cp (oLenL u30 tm) (s1 rfl) <| cp (oMv (cI (by decide))) trivial <| .nil) (by kernel_rfl) ?_
        refine pSeq ?_
        refine wNil kS 9 1010 10 rfl rfl ?_
        obtain ⟨o1, h, hk1⟩ := bd h
        refine wK1 (fun x37 => x37 = o1) (fun x37 => [(2, .d (sP (kR f_api_Lattice) a0)), (3, .d (sP (kR f_api_State) a1)), (7, .d ((sFun Tryz.prog (rl1 (kL (kR f_api_Atom)) (kL kS) (fun z0 => state_Text_1.f z0 a0))))), (8, .d (kS.sig y5.1)), (10, .v 1010)]) (fun x37 => [.row 1010 9 kS x37]) ?_ ?_
        · refine wBlock (wLoop ?_)
          refine lW (pc2 o1 (fun v35 v36 => [(2, .d (sP (kR f_api_Lattice) a0)), (3, .d (sP (kR f_api_State) a1)), (7, .d ((sFun Tryz.prog (rl1 (kL (kR f_api_Atom)) (kL kS) (fun z0 => state_Text_1.f z0 a0))))), (8, .d (kS.sig y5.1)), (10, .v 1010), (36, .d ((kL (kR f_api_Slot)).sig a1.Stack)), (37, .d ((kI .i64).sig (a1.Stack.length : Int))), (38, .d ((kI .i64).sig v36))]) (fun v35 v36 => [.row 1010 9 kS v35]) (state_Text.l0.partial_correctness a0 a1) ?_ _ _ h) ⟨rfl, rfl, rfl, rfl, rfl, rfl, rfl, rfl, trivial⟩ rfl
          clear h
          intro f' ih v35 v36 h
          refine wSeq ?_
          refine rg (cp (oLt rfl tm tm) (s2 rfl rfl) <| .nil) (by kernel_rfl) ?_
          refine pSeq ?_
          refine wSeq ?_
          rcases ic h with ⟨hp38, h⟩ | ⟨hp38, h⟩
          · refine wCT hp38 tm (s1 rfl) ?_
            refine wSkip ?_
            refine pSeq ?_
            obtain ⟨o2, h, hk2⟩ := bd h
            refine wJ1 (fun x45 => x45 = o2) (fun x45 => [(2, .d (sP (kR f_api_Lattice) a0)), (3, .d (sP (kR f_api_State) a1)), (7, .d ((sFun Tryz.prog (rl1 (kL (kR f_api_Atom)) (kL kS) (fun z0 => state_Text_1.f z0 a0))))), (8, .d (kS.sig y5.1)), (10, .v 1010), (36, .d ((kL (kR f_api_Slot)).sig a1.Stack)), (37, .d ((kI .i64).sig (a1.Stack.length : Int))), (38, .d ((kI .i64).sig v36))]) (fun x45 => [.row 1010 9 kS x45]) ?_ ?_
            · refine wBlock ?_
              refine wSeq ?_
              obtain ⟨y46, hy46, h⟩ := bd h
              refine rg (cp (oIdx u30 z51 hy46 tm tm) (s2 rfl rfl) <| cp (oLd t51 tm) (s1 rfl) <| cw (oAlloc (id := 12) (ls := [.d kB false, .d (kI .i64) 0, .d (kI .i64) 0]) ze51 (fun g => ⟨[(.bool false)], _, rfl, zB g.H, ⟨[(.int .i64 0)], _, rfl, zI_i64 g.H, ⟨[(.int .i64 0)], _, rfl, zI_i64 g.H, rfl⟩⟩⟩)) trivial <| cwn (oStA (n := 0) (fs := f_api_Slot) rfl rfl z51 tm tm) (s2 rfl rfl) <| .nil) (by kernel_rfl) ?_
              refine pSeq ?_
              refine wSeq ?_
              obtain ⟨y47, hy47, h⟩ := bd h
              refine rg (cp (oLd t25 tm) (s1 rfl) <| cp (oFldP o51_1 tm) (s1 rfl) <| cr (oLdB (n := 0) (k := 1) rfl rfl rfl t3 tm) (s1 rfl) <| cp (oFldP o51_2 tm) (s1 rfl) <| cr (oLdB (n := 0) (k := 2) rfl rfl rfl t3 tm) (s1 rfl) <| cp (oCall rfl (state_written.ok hy47) b18 (opds_cons tm (opds_cons tm (opds_cons tm opds_nil)))) (s3 rfl rfl rfl) <| cp (oAs tm) (s1 rfl) <| .nil) (by kernel_rfl) ?_
              refine pSeq ?_
              refine wSeq ?_
              refine wSeq ?_
              refine rg (cp (oFldP o51_0 tm) (s1 rfl) <| cr (oLdB (n := 0) (k := 0) rfl rfl rfl t4 tm) (s1 rfl) <| .nil) (by kernel_rfl) ?_
              refine pSeq ?_
              rcases ic h with ⟨hp48, h⟩ | ⟨hp48, h⟩
              · refine wBT hp48 tm (s1 rfl) ?_
                obtain ⟨hc49, h⟩ := ib h
                refine rg (cp (oMv tm) (s1 rfl) <| cp (oSAdd hc49 (cS (by decide)) tm) (s1 rfl) <| cp (oAs tm) (s1 rfl) <| .nil) (by kernel_rfl) ?_
                refine pSeq ?_
                obtain ⟨hc50, h⟩ := ib h
                refine rg (cp (oMv tm) (s1 rfl) <| cp (oMv tm) (s1 rfl) <| cp (oLit (d := kS) el22 (by decide) rfl rfl rfl (e1 tm e0)) (s1 rfl) <| cw (oApp (n := 1) (id' := 55) el22 (by decide) rfl (by decide) hc50 tm tm) (s2 rfl rfl) <| cp (oAs tm) (s1 rfl) <| .nil) (by kernel_rfl) ?_
                refine pBlkN ?_
                refine pDrop (.cons _ (.cons_cons _ .slnil)) ?_
                refine pSub (Γ' := [(2, .d (sP (kR f_api_Lattice) a0)), (3, .d (sP (kR f_api_State) a1)), (7, .d ((sFun Tryz.prog (rl1 (kL (kR f_api_Atom)) (kL kS) (fun z0 => state_Text_1.f z0 a0))))), (8, .d (kS.sig y5.1)), (10, .v 55), (36, .d ((kL (kR f_api_Slot)).sig a1.Stack)), (37, .d ((kI .i64).sig (a1.Stack.length : Int))), (38, .d ((kI .i64).sig v36))]) ⟨rfl, rfl, rfl, rfl, rfl, rfl, rfl, rfl, trivial⟩ ?_
                refine pRen 55 1010 rfl ?_
                exact pJ1 _ (so h) ⟨rfl, rfl, rfl, rfl, rfl, rfl, rfl, rfl, trivial⟩ rfl
              · refine wBF hp48 tm (s1 rfl) ?_
                refine wSkip ?_
                refine pSeq ?_
                obtain ⟨hc51, h⟩ := ib h
                refine rg (cp (oMv tm) (s1 rfl) <| cp (oMv tm) (s1 rfl) <| cp (oLit (d := kS) el22 (by decide) rfl rfl rfl (e1 tm e0)) (s1 rfl) <| cw (oApp (n := 1) (id' := 55) el22 (by decide) rfl (by decide) hc51 tm tm) (s2 rfl rfl) <| cp (oAs tm) (s1 rfl) <| .nil) (by kernel_rfl) ?_
                refine pBlkN ?_
                refine pDrop (.cons _ (.cons_cons _ .slnil)) ?_
                refine pSub (Γ' := [(2, .d (sP (kR f_api_Lattice) a0)), (3, .d (sP (kR f_api_State) a1)), (7, .d ((sFun Tryz.prog (rl1 (kL (kR f_api_Atom)) (kL kS) (fun z0 => state_Text_1.f z0 a0))))), (8, .d (kS.sig y5.1)), (10, .v 55), (36, .d ((kL (kR f_api_Slot)).sig a1.Stack)), (37, .d ((kI .i64).sig (a1.Stack.length : Int))), (38, .d ((kI .i64).sig v36))]) ⟨rfl, rfl, rfl, rfl, rfl, rfl, rfl, rfl, trivial⟩ ?_
                refine pRen 55 1010 rfl ?_
                exact pJ1 _ (so h) ⟨rfl, rfl, rfl, rfl, rfl, rfl, rfl, rfl, trivial⟩ rfl
            · rintro x45 rfl
              replace h := hk2
              refine rg (cp (oAdd tm (cI (by decide))) (s1 rfl) <| cp (oMv tm) (s1 rfl) <| .nil) (by kernel_rfl) ?_
              exact pLoop (lW (ih _ _ h) ⟨rfl, rfl, rfl, rfl, rfl, rfl, rfl, rfl, trivial⟩ rfl)
          · refine wCF hp38 tm (s1 rfl) ?_
            refine wExit ?_
            refine pThenX ?_
            refine pThenX ?_
            refine pBlkX ?_
            exact pJ1 _ (so h) ⟨rfl, rfl, rfl, rfl, rfl, trivial⟩ rfl
        · rintro x37 rfl
          replace h := hk1
          refine pSeq ?_
          refine wSeq ?_
          obtain ⟨y52, hy52, h⟩ := bd h
          obtain ⟨hc53, h⟩ := ib h
          obtain ⟨hc54, h⟩ := ib h
          obtain ⟨hc55, h⟩ := ib h
          obtain ⟨hc56, h⟩ := ib h
          obtain ⟨y57, hy57, h⟩ := bd h
          obtain ⟨y58, hy58, h⟩ := bd h
          obtain ⟨hc59, h⟩ := ib h
          obtain ⟨y60, hy60, h⟩ := bd h
          obtain ⟨hc61, h⟩ := ib h
          obtain ⟨y62, hy62, h⟩ := bd h
          obtain ⟨y63, hy63, h⟩ := bd h
          obtain ⟨hc64, h⟩ := ib h
          refine rgD hm (cp (oLd t25 tm) (s1 rfl) <| cp (oFld (fs := f_api_State) (k := 0) rfl o32_0 tm) (s1 rfl) <| cp (oFld (fs := f_api_Atom) (k := 0) rfl o27_0 tm) (s1 rfl) <| cp (oLd t3 tm) (s1 rfl) <| cp (oFld (fs := f_api_State) (k := 0) rfl o32_0 tm) (s1 rfl) <| cp (oFld (fs := f_api_Atom) (k := 1) rfl o27_1 tm) (s1 rfl) <| cp (oLd t3 tm) (s1 rfl) <| cp (oCall rfl (state_written.ok hy52) b18 (opds_cons tm (opds_cons tm (opds_cons tm opds_nil)))) (s3 rfl rfl rfl) <| cp (oSAdd hc53 (cS (by decide)) tm) (s1 rfl) <| cp (oSAdd hc54 tm (cS (by decide))) (s1 rfl) <| cp (oMv tm) (s1 rfl) <| cp (oSAdd hc55 tm tm) (s2 rfl rfl) <| cp (oSAdd hc56 tm (cS (by decide))) (s1 rfl) <| cp (oMv tm) (s1 rfl) <| cp (oFld (fs := f_api_State) (k := 2) rfl o32_2 tm) (s1 rfl) <| cp (oLd t29 tm) (s1 rfl) <| cp (oCallV rfl (rl1i (f := fun z0 => state_Text_1.f z0 a0) hy57) tm (opds_cons tm opds_nil)) (s2 rfl rfl) <| cp (oCall rfl (state_line.ok hy58) b20 (opds_cons (cS (by decide)) (opds_cons tm opds_nil))) (s1 rfl) <| cp (oSAdd hc59 tm tm) (s2 rfl rfl) <| cp (oMv tm) (s1 rfl) <| cr (oCallB rfl (state_line.ok hy60) (fK fS) b20 (rc1 (rD (cS (by decide))) (rc1 (rR (n := 0) rfl) rn0))) (s1 rfl) <| cp (oSAdd hc61 tm tm) (s2 rfl rfl) <| cp (oMv tm) (s1 rfl) <| cp (oFld (fs := f_api_State) (k := 4) rfl o32_4 tm) (s1 rfl) <| cp (oLd t29 tm) (s1 rfl) <| cp (oCallV rfl (rl1i (f := fun z0 => state_Text_1.f z0 a0) hy62) tm (opds_cons tm opds_nil)) (s2 rfl rfl) <| cp (oCall rfl (state_line.ok hy63) b20 (opds_cons (cS (by decide)) (opds_cons tm opds_nil))) (s1 rfl) <| cp (oSAdd hc64 tm tm) (s2 rfl rfl) <| cp (oAs tm) (s1 rfl) <| cp (oAs (cI (by decide))) trivial <| .nil) (by kernel_rfl) (by kernel_rfl) ?_
          refine pSeq ?_
          refine wRet ?_
          obtain rfl := so h
          exact pRn (.inl rfl) rfl rfl (.tmp rfl <| .tmp rfl <| .nil)
      · refine wNF hp6 tm (s1 rfl) ?_
        obtain ⟨hc65, h⟩ := ib h
        refine rg (cp (oMv tm) (s1 rfl) <| cp (oSAdd hc65 (cS (by decide)) tm) (s1 rfl) <| cp (oAs tm) (s1 rfl) <| .nil) (by kernel_rfl) ?_
        refine pSeq ?_
        refine wSeq ?_
        refine rg (cp (oAs cV) trivial <| .nil) (by kernel_rfl) ?_
        refine pSeq ?_
        refine wSeq ?_
        refine wSeq ?_
        refine rg (cp (oFld (fs := f_api_State) (k := 3) rfl o32_3 tm) (s1 rfl) <| cp (oLd t30 tm) (s1 rfl) <| cp (oLenL u30 tm) (s1 rfl) <| cp (oMv (cI (by decide))) trivial <| .nil) (by kernel_rfl) ?_
        refine pSeq ?_
        refine wNil kS 9 1010 10 rfl rfl ?_
        obtain ⟨o1, h, hk1⟩ := bd h
        refine wK1 (fun x96 => x96 = o1) (fun x96 => [(2, .d (sP (kR f_api_Lattice) a0)), (3, .d (sP (kR f_api_State) a1)), (7, .d ((sFun Tryz.prog (rl1 (kL (kR f_api_Atom)) (kL kS) (fun z0 => state_Text_1.f z0 a0))))), (8, .d (kS.sig (([32] : Str) ++ y5.1))), (10, .v 1010)]) (fun x96 => [.row 1010 9 kS x96]) ?_ ?_
        · refine wBlock (wLoop ?_)
          refine lW (pc2 o1 (fun v94 v95 => [(2, .d (sP (kR f_api_Lattice) a0)), (3, .d (sP (kR f_api_State) a1)), (7, .d ((sFun Tryz.prog (rl1 (kL (kR f_api_Atom)) (kL kS) (fun z0 => state_Text_1.f z0 a0))))), (8, .d (kS.sig (([32] : Str) ++ y5.1))), (10, .v 1010), (36, .d ((kL (kR f_api_Slot)).sig a1.Stack)), (37, .d ((kI .i64).sig (a1.Stack.length : Int))), (38, .d ((kI .i64).sig v95))]) (fun v94 v95 => [.row 1010 9 kS v94]) (state_Text.l1.partial_correctness a0 a1) ?_ _ _ h) ⟨rfl, rfl, rfl, rfl, rfl, rfl, rfl, rfl, trivial⟩ rfl
          clear h
          intro f' ih v94 v95 h
          refine wSeq ?_
          refine rg (cp (oLt rfl tm tm) (s2 rfl rfl) <| .nil) (by kernel_rfl) ?_
          refine pSeq ?_
          refine wSeq ?_
          rcases ic h with ⟨hp97, h⟩ | ⟨hp97, h⟩
          · refine wCT hp97 tm (s1 rfl) ?_
            refine wSkip ?_
            refine pSeq ?_
            obtain ⟨o2, h, hk2⟩ := bd h
            refine wJ1 (fun x104 => x104 = o2) (fun x104 => [(2, .d (sP (kR f_api_Lattice) a0)), (3, .d (sP (kR f_api_State) a1)), (7, .d ((sFun Tryz.prog (rl1 (kL (kR f_api_Atom)) (kL kS) (fun z0 => state_Text_1.f z0 a0))))), (8, .d (kS.sig (([32] : Str) ++ y5.1))), (10, .v 1010), (36, .d ((kL (kR f_api_Slot)).sig a1.Stack)), (37, .d ((kI .i64).sig (a1.Stack.length : Int))), (38, .d ((kI .i64).sig v95))]) (fun x104 => [.row 1010 9 kS x104]) ?_ ?_
            · refine wBlock ?_
              refine wSeq ?_
              obtain ⟨y105, hy105, h⟩ := bd h
              refine rg (cp (oIdx u30 z51 hy105 tm tm) (s2 rfl rfl) <| cp (oLd t51 tm) (s1 rfl) <| cw (oAlloc (id := 12) (ls := [.d kB false, .d (kI .i64) 0, .d (kI .i64) 0]) ze51 (fun g => ⟨[(.bool false)], _, rfl, zB g.H, ⟨[(.int .i64 0)], _, rfl, zI_i64 g.H, ⟨[(.int .i64 0)], _, rfl, zI_i64 g.H, rfl⟩⟩⟩)) trivial <| cwn (oStA (n := 0) (fs := f_api_Slot) rfl rfl z51 tm tm) (s2 rfl rfl) <| .nil) (by kernel_rfl) ?_
              refine pSeq ?_
              refine wSeq ?_
              obtain ⟨y106, hy106, h⟩ := bd h
              refine rg (cp (oLd t25 tm) (s1 rfl) <| cp (oFldP o51_1 tm) (s1 rfl) <| cr (oLdB (n := 0) (k := 1) rfl rfl rfl t3 tm) (s1 rfl) <| cp (oFldP o51_2 tm) (s1 rfl) <| cr (oLdB (n := 0) (k := 2) rfl rfl rfl t3 tm) (s1 rfl) <| cp (oCall rfl (state_written.ok hy106) b18 (opds_cons tm (opds_cons tm (opds_cons tm opds_nil)))) (s3 rfl rfl rfl) <| cp (oAs tm) (s1 rfl) <| .nil) (by kernel_rfl) ?_
              refine pSeq ?_
              refine wSeq ?_
              refine wSeq ?_
              refine rg (cp (oFldP o51_0 tm) (s1 rfl) <| cr (oLdB (n := 0) (k := 0) rfl rfl rfl t4 tm) (s1 rfl) <| .nil) (by kernel_rfl) ?_
              refine pSeq ?_
              rcases ic h with ⟨hp107, h⟩ | ⟨hp107, h⟩
              · refine wBT hp107 tm (s1 rfl) ?_
                obtain ⟨hc108, h⟩ := ib h
                refine rg (cp (oMv tm) (s1 rfl) <| cp (oSAdd hc108 (cS (by decide)) tm) (s1 rfl) <| cp (oAs tm) (s1 rfl) <| .nil) (by kernel_rfl) ?_
                refine pSeq ?_
                obtain ⟨hc109, h⟩ := ib h
                refine rg (cp (oMv tm) (s1 rfl) <| cp (oMv tm) (s1 rfl) <| cp (oLit (d := kS) el22 (by decide) rfl rfl rfl (e1 tm e0)) (s1 rfl) <| cw (oApp (n := 1) (id' := 55) el22 (by decide) rfl (by decide) hc109 tm tm) (s2 rfl rfl) <| cp (oAs tm) (s1 rfl) <| .nil) (by kernel_rfl) ?_
                refine pBlkN ?_
                refine pDrop (.cons _ (.cons_cons _ .slnil)) ?_
                refine pSub (Γ' := [(2, .d (sP (kR f_api_Lattice) a0)), (3, .d (sP (kR f_api_State) a1)), (7, .d ((sFun Tryz.prog (rl1 (kL (kR f_api_Atom)) (kL kS) (fun z0 => state_Text_1.f z0 a0))))), (8, .d (kS.sig (([32] : Str) ++ y5.1))), (10, .v 55), (36, .d ((kL (kR f_api_Slot)).sig a1.Stack)), (37, .d ((kI .i64).sig (a1.Stack.length : Int))), (38, .d ((kI .i64).sig v95))]) ⟨rfl, rfl, rfl, rfl, rfl, rfl, rfl, rfl, trivial⟩ ?_
                refine pRen 55 1010 rfl ?_
                exact pJ1 _ (so h) ⟨rfl, rfl, rfl, rfl, rfl, rfl, rfl, rfl, trivial⟩ rfl
              · refine wBF hp107 tm (s1 rfl) ?_
                refine wSkip ?_
                refine pSeq ?_
                obtain ⟨hc110, h⟩ := ib h
                refine rg (cp (oMv tm) (s1 rfl) <| cp (oMv tm) (s1 rfl) <| cp (oLit (d := kS) el22 (by decide) rfl rfl rfl (e1 tm e0)) (s1 rfl) <| cw (oApp (n := 1) (id' := 55) el22 (by decide) rfl (by decide) hc110 tm tm) (s2 rfl rfl) <| cp (oAs tm) (s1 rfl) <| .nil) (by kernel_rfl) ?_
                refine pBlkN ?_
                refine pDrop (.cons _ (.cons_cons _ .slnil)) ?_
                refine pSub (Γ' := [(2, .d (sP (kR f_api_Lattice) a0)), (3, .d (sP (kR f_api_State) a1)), (7, .d ((sFun Tryz.prog (rl1 (kL (kR f_api_Atom)) (kL kS) (fun z0 => state_Text_1.f z0 a0))))), (8, .d (kS.sig (([32] : Str) ++ y5.1))), (10, .v 55), (36, .d ((kL (kR f_api_Slot)).sig a1.Stack)), (37, .d ((kI .i64).sig (a1.Stack.length : Int))), (38, .d ((kI .i64).sig v95))]) ⟨rfl, rfl, rfl, rfl, rfl, rfl, rfl, rfl, trivial⟩ ?_
                refine pRen 55 1010 rfl ?_
                exact pJ1 _ (so h) ⟨rfl, rfl, rfl, rfl, rfl, rfl, rfl, rfl, trivial⟩ rfl
            · rintro x104 rfl
              replace h := hk2
              refine rg (cp (oAdd tm (cI (by decide))) (s1 rfl) <| cp (oMv tm) (s1 rfl) <| .nil) (by kernel_rfl) ?_
              exact pLoop (lW (ih _ _ h) ⟨rfl, rfl, rfl, rfl, rfl, rfl, rfl, rfl, trivial⟩ rfl)
          · refine wCF hp97 tm (s1 rfl) ?_
            refine wExit ?_
            refine pThenX ?_
            refine pThenX ?_
            refine pBlkX ?_
            exact pJ1 _ (so h) ⟨rfl, rfl, rfl, rfl, rfl, trivial⟩ rfl
        · rintro x96 rfl
          replace h := hk1
          refine pSeq ?_
          refine wSeq ?_
          obtain ⟨y111, hy111, h⟩ := bd h
          obtain ⟨hc112, h⟩ := ib h
          obtain ⟨hc113, h⟩ := ib h
          obtain ⟨hc114, h⟩ := ib h
          obtain ⟨hc115, h⟩ := ib h
          obtain ⟨y116, hy116, h⟩ := bd h
          obtain ⟨y117, hy117, h⟩ := bd h
          obtain ⟨hc118, h⟩ := ib h
          obtain ⟨y119, hy119, h⟩ := bd h
          obtain ⟨hc120, h⟩ := ib h
          obtain ⟨y121, hy121, h⟩ := bd h
          obtain ⟨y122, hy122, h⟩ := bd h
          obtain ⟨hc123, h⟩ := ib h
          refine rgD hm (cp (oLd t25 tm) (s1 rfl) <| cp (oFld (fs := f_api_State) (k := 0) rfl o32_0 tm) (s1 rfl) <| cp (oFld (fs := f_api_Atom) (k := 0) rfl o27_0 tm) (s1 rfl) <| cp (oLd t3 tm) (s1 rfl) <| cp (oFld (fs := f_api_State) (k := 0) rfl o32_0 tm) (s1 rfl) <| cp (oFld (fs := f_api_Atom) (k := 1) rfl o27_1 tm) (s1 rfl) <| cp (oLd t3 tm) (s1 rfl) <| cp (oCall rfl (state_written.ok hy111) b18 (opds_cons tm (opds_cons tm (opds_cons tm opds_nil)))) (s3 rfl rfl rfl) <| cp (oSAdd hc112 (cS (by decide)) tm) (s1 rfl) <| cp (oSAdd hc113 tm (cS (by decide))) (s1 rfl) <| cp (oMv tm) (s1 rfl) <| cp (oSAdd hc114 tm tm) (s2 rfl rfl) <| cp (oSAdd hc115 tm (cS (by decide))) (s1 rfl) <| cp (oMv tm) (s1 rfl) <| cp (oFld (fs := f_api_State) (k := 2) rfl o32_2 tm) (s1 rfl) <| cp (oLd t29 tm) (s1 rfl) <| cp (oCallV rfl (rl1i (f := fun z0 => state_Text_1.f z0 a0) hy116) tm (opds_cons tm opds_nil)) (s2 rfl rfl) <| cp (oCall rfl (state_line.ok hy117) b20 (opds_cons (cS (by decide)) (opds_cons tm opds_nil))) (s1 rfl) <| cp (oSAdd hc118 tm tm) (s2 rfl rfl) <| cp (oMv tm) (s1 rfl) <| cr (oCallB rfl (state_line.ok hy119) (fK fS) b20 (rc1 (rD (cS (by decide))) (rc1 (rR (n := 0) rfl) rn0))) (s1 rfl) <| cp (oSAdd hc120 tm tm) (s2 rfl rfl) <| cp (oMv tm) (s1 rfl) <| cp (oFld (fs := f_api_State) (k := 4) rfl o32_4 tm) (s1 rfl) <| cp (oLd t29 tm) (s1 rfl) <| cp (oCallV rfl (rl1i (f := fun z0 => state_Text_1.f z0 a0) hy121) tm (opds_cons tm opds_nil)) (s2 rfl rfl) <| cp (oCall rfl (state_line.ok hy122) b20 (opds_cons (cS (by decide)) (opds_cons tm opds_nil))) (s1 rfl) <| cp (oSAdd hc123 tm tm) (s2 rfl rfl) <| cp (oAs tm) (s1 rfl) <| cp (oAs (cI (by decide))) trivial <| .nil) (by kernel_rfl) (by kernel_rfl) ?_
          refine pSeq ?_
          refine wRet ?_
          obtain rfl := so h
          exact pRn (.inl rfl) rfl rfl (.tmp rfl <| .tmp rfl <| .nil)
  · refine wNF hp2 tm (s1 rfl) ?_
    refine wSeq ?_
    refine rg (cp (oMv tm) (s1 rfl) <| cp (oAs (cS (by decide))) trivial <| cp (oAs tm) (s1 rfl) <| .nil) (by kernel_rfl) ?_
    refine pSeq ?_
    refine wRet ?_
    refine pThenR ?_
    obtain rfl := so h
    exact pRn (.inl rfl) rfl rfl (.tmp rfl <| .tmp rfl <| .nil)

theorem lex_while.ok {a0 : Str} {a1 : Int → Option Bool} {r : Int} (h : lex_while.f a0 a1 = some r) : FnA Tryz.prog 89 [kS.sig a0, (sFun Tryz.prog (rl1 (kI .u8) kB a1))] ((kI .i64).sig r) := by
  refine fnIntro Tryz.func89 rfl (by kernel_rfl) fun H0 w0 => ?_
  unfold lex_while.f at h
  refine wSeq ?_
  refine rg (cp (oAs (cI (by decide))) trivial <| .nil) (by kernel_rfl) ?_
  refine pSeq ?_
  refine wSeq ?_
  refine rg (cp (oAs (cI (by decide))) trivial <| .nil) (by kernel_rfl) ?_
  refine pSeq ?_
  obtain ⟨o1, h, hk1⟩ := bd h
  refine wJ1 (fun x18 => x18 = o1) (fun x18 => [(5, .d ((kI .i64).sig x18))]) (fun x18 => []) ?_ ?_
  · refine wBlock (wLoop ?_)
    refine lW (pc1 o1 (fun v17 => [(0, .d (kS.sig a0)), (1, .d ((sFun Tryz.prog (rl1 (kI .u8) kB a1)))), (5, .d ((kI .i64).sig v17))]) (fun v17 => []) (lex_while.l0.partial_correctness a0 a1) ?_ _ h) ⟨rfl, rfl, rfl, trivial⟩ rfl
    clear h
    intro f' ih v17 h
    refine wSeq ?_
    obtain ⟨o2, h, hk2⟩ := bd h
    refine wJ1 (fun x22 => x22 = o2) (fun x22 => [(0, .d (kS.sig a0)), (1, .d ((sFun Tryz.prog (rl1 (kI .u8) kB a1)))), (5, .d ((kI .i64).sig v17)), (16, .d (kB.sig x22))]) (fun x22 => []) ?_ ?_
    · rcases ic h with ⟨hp23, h⟩ | ⟨hp23, h⟩
      · obtain ⟨hc24, h⟩ := ib h
        obtain ⟨y25, hy25, h⟩ := bd h
        refine rg (cp (oMv tm) (s1 rfl) <| cp (oMv tm) (s1 rfl) <| cp (oLenS u9 tm) (s1 rfl) <| cp (oLt rfl tm tm) (s2 rfl rfl) <| cp (oMv tm) (s1 rfl) <| cgB (decide_eq_true hp23) rfl rfl (oMv tm) (s1 rfl) <| cgB (decide_eq_true hp23) rfl rfl (oMv tm) (s1 rfl) <| cgB (decide_eq_true hp23) rfl rfl (oMv tm) (s1 rfl) <| cgB (decide_eq_true hp23) rfl rfl (oIdxS u9 hc24.1 hc24.2 tm tm) (s2 rfl rfl) <| cgB (decide_eq_true hp23) rfl rfl (oCallV rfl (rl1i (f := a1) hy25) tm (opds_cons tm opds_nil)) (s2 rfl rfl) <| cp (oPkT (decide_eq_true hp23) tm tm) (s2 rfl rfl) <| .nil) (by kernel_rfl) ?_
        exact pJ1 _ (so h) ⟨rfl, rfl, rfl, rfl, trivial⟩ rfl
      · refine rg (cp (oMv tm) (s1 rfl) <| cp (oMv tm) (s1 rfl) <| cp (oLenS u9 tm) (s1 rfl) <| cp (oLt rfl tm tm) (s2 rfl rfl) <| cp (oMv tm) (s1 rfl) <| csB (decide_eq_false hp23) rfl rfl <| csB (decide_eq_false hp23) rfl rfl <| csB (decide_eq_false hp23) rfl rfl <| csB (decide_eq_false hp23) rfl rfl <| csB (decide_eq_false hp23) rfl rfl <| cp (oPkF (decide_eq_false hp23) tm cB) (s1 rfl) <| .nil) (by kernel_rfl) ?_
        exact pJ1 _ (so h) ⟨rfl, rfl, rfl, rfl, trivial⟩ rfl
    · rintro x22 rfl
      replace h := hk2
      rcases ic h with ⟨hp26, h⟩ | ⟨hp26, h⟩
      · refine wBT hp26 tm (s1 rfl) ?_
        refine wSkip ?_
        refine pSeq ?_
        refine wBlock ?_
        refine rg (cp (oMv tm) (s1 rfl) <| cp (oAdd tm (cI (by decide))) (s1 rfl) <| cp (oAs tm) (s1 rfl) <| .nil) (by kernel_rfl) ?_
        refine pBlkN ?_
        exact pLoop (lW (ih _ h) ⟨rfl, rfl, rfl, trivial⟩ rfl)
      · refine wBF hp26 tm (s1 rfl) ?_
        refine wExit ?_
        refine pThenX ?_
        refine pThenX ?_
        refine pBlkX ?_
        exact pJ1 _ (so h) ⟨rfl, trivial⟩ rfl
  · rintro x18 rfl
    replace h := hk1
    refine wSeq ?_
    refine rg (cp (oMv tm) (s1 rfl) <| cp (oAs tm) (s1 rfl) <| .nil) (by kernel_rfl) ?_
    refine pSeq ?_
    refine wRet ?_
    obtain rfl := so h
    exact pR1 (.inl rfl) rfl (.tmp rfl <| .nil)

theorem lex_token_1.ok {a0 : Int} {r : Bool} (h : lex_token_1.f a0 = some r) : FnA Tryz.prog 90 [(kI .u8).sig a0] (kB.sig r) := by
  refine fnIntro Tryz.func90 rfl (by kernel_rfl) fun H0 w0 => ?_
  unfold lex_token_1.f at h
  refine wSeq ?_
  refine rg (cp (oAs cB) trivial <| .nil) (by kernel_rfl) ?_
  refine pSeq ?_
  refine wSeq ?_
  refine rg (cp (oMv tm) (s1 rfl) <| cp (oNe rfl tm (cI (by decide))) (s1 rfl) <| cp (oAs tm) (s1 rfl) <| .nil) (by kernel_rfl) ?_
  refine pSeq ?_
  refine wRet ?_
  obtain rfl := so h
  exact pR1 (.inl rfl) rfl (.tmp rfl <| .nil)

theorem lex_letter.ok {a0 : Int} {r : Bool} (h : lex_letter.f a0 = some r) : FnA Tryz.prog 91 [(kI .u8).sig a0] (kB.sig r) := by
  refine fnIntro Tryz.func91 rfl (by kernel_rfl) fun H0 w0 => ?_
  unfold lex_letter.f at h
  refine wSeq ?_
  refine rg (cp (oAs cB) trivial <| .nil) (by kernel_rfl) ?_
  refine pSeq ?_
  obtain ⟨o1, h, hk1⟩ := bd h
  refine wJ1 (fun x2 => x2 = o1) (fun x2 => [(2, .d (kB.sig x2))]) (fun x2 => []) ?_ ?_
  · rcases ic h with ⟨hp3, h⟩ | ⟨hp3, h⟩
    · refine rg (cp (oMv tm) (s1 rfl) <| cp (oGe rfl tm (cI (by decide))) (s1 rfl) <| cp (oMv tm) (s1 rfl) <| cgB (decide_eq_true hp3) rfl rfl (oMv tm) (s1 rfl) <| cgB (decide_eq_true hp3) rfl rfl (oLe rfl tm (cI (by decide))) (s1 rfl) <| cp (oPkT (decide_eq_true hp3) tm tm) (s2 rfl rfl) <| cp (oAs tm) (s1 rfl) <| .nil) (by kernel_rfl) ?_
      exact pJ1 _ (so h) ⟨rfl, trivial⟩ rfl
    · refine rg (cp (oMv tm) (s1 rfl) <| cp (oGe rfl tm (cI (by decide))) (s1 rfl) <| cp (oMv tm) (s1 rfl) <| csB (decide_eq_false hp3) rfl rfl <| csB (decide_eq_false hp3) rfl rfl <| cp (oPkF (decide_eq_false hp3) tm cB) (s1 rfl) <| cp (oAs tm) (s1 rfl) <| .nil) (by kernel_rfl) ?_
      exact pJ1 _ (so h) ⟨rfl, trivial⟩ rfl
  · rintro x2 rfl
    replace h := hk1
    refine wRet ?_
    obtain rfl := so h
    exact pR1 (.inl rfl) rfl (.tmp rfl <| .nil)

theorem lex_digit.ok {a0 : Int} {r : Bool} (h : lex_digit.f a0 = some r) : FnA Tryz.prog 92 [(kI .u8).sig a0] (kB.sig r) := by
  refine fnIntro Tryz.func92 rfl (by kernel_rfl) fun H0 w0 => ?_
  unfold lex_digit.f at h
  refine wSeq ?_
  refine rg (cp (oAs cB) trivial <| .nil) (by kernel_rfl) ?_
  refine pSeq ?_
  obtain ⟨o1, h, hk1⟩ := bd h
  refine wJ1 (fun x2 => x2 = o1) (fun x2 => [(2, .d (kB.sig x2))]) (fun x2 => []) ?_ ?_
  · rcases ic h with ⟨hp3, h⟩ | ⟨hp3, h⟩
    · refine rg (cp (oMv tm) (s1 rfl) <| cp (oGe rfl tm (cI (by decide))) (s1 rfl) <| cp (oMv tm) (s1 rfl) <| cgB (decide_eq_true hp3) rfl rfl (oMv tm) (s1 rfl) <| cgB (decide_eq_true hp3) rfl rfl (oLe rfl tm (cI (by decide))) (s1 rfl) <| cp (oPkT (decide_eq_true hp3) tm tm) (s2 rfl rfl) <| cp (oAs tm) (s1 rfl) <| .nil) (by kernel_rfl) ?_
      exact pJ1 _ (so h) ⟨rfl, trivial⟩ rfl
    · refine rg (cp (oMv tm) (s1 rfl) <| cp (oGe rfl tm (cI (by decide))) (s1 rfl) <| cp (oMv tm) (s1 rfl) <| csB (decide_eq_false hp3) rfl rfl <| csB (decide_eq_false hp3) rfl rfl <| cp (oPkF (decide_eq_false hp3) tm cB) (s1 rfl) <| cp (oAs tm) (s1 rfl) <| .nil) (by kernel_rfl) ?_
      exact pJ1 _ (so h) ⟨rfl, trivial⟩ rfl
  · rintro x2 rfl
    replace h := hk1
    refine wRet ?_
    obtain rfl := so h
    exact pR1 (.inl rfl) rfl (.tmp rfl <| .nil)

end Go.Proofs.YtkcpghpglhamfaaGreatDoor.SK
