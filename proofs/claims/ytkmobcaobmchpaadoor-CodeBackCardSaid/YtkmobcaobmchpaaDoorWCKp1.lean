import Derived.Test.YtkmobcaobmchpaaDoorShelf
import Derived.Test.YtkmobcaobmchpaaDoorDCK
import Derived.Test.YtkmobcaobmchpaaDoorProg
set_option linter.unusedVariables false
set_option maxRecDepth 10000
set_option maxHeartbeats 2000000
namespace Go.Proofs.YtkmobcaobmchpaaDoor.CK
open Go Go.Proofs.YtkmobcaobmchpaaDoor.Ab

theorem hm : Tryd.prog.follows .mixedOrders = true := by kernel_rfl
theorem zL : ∀ {α : Type} {d : Kd α} (H : FH), (kL d).reps H [.slice none 0 0] [] := fun _ => ⟨none, 0, rfl, Nat.le_refl _, by omega, by simp [big], .inl rfl⟩
theorem ze38 : zeroIs Tryd.prog 38 [(.slice none 0 0), (.slice none 0 0)] := by unfold zeroIs; kernel_rfl
theorem o38_1 : fofs Tryd.prog 38 1 = some 1 := by kernel_rfl
theorem t36 : tinf Tryd.prog 36 = some (false, 1) := by kernel_rfl
theorem u36 : Tryd.prog.underlying 36 = some (.slice 87) := by kernel_rfl
theorem z87 : sizeIs Tryd.prog 87 1 := by unfold sizeIs; kernel_rfl
theorem pl38 : places Tryd.prog 38 = some [(0, 1), (1, 1)] := by kernel_rfl
theorem po38_0 : ∀ q f, f_api_Lattice_n0[q]? = some f → ([(0, 1), (1, 1)] : List (Nat × Nat))[q]? = some (offF f_api_Lattice_n0 q, f.d.sz) := fun q f h => by
  unfold f_api_Lattice_n0 at h
  match q, h with
  | 0, h => cases h; rfl
  | 1, h => cases h; rfl
  | n + 2, h => simp at h
theorem z38 : sizeIs Tryd.prog 38 2 := by unfold sizeIs; kernel_rfl
theorem o38_0 : fofs Tryd.prog 38 0 = some 0 := by kernel_rfl
theorem t35 : tinf Tryd.prog 35 = some (false, 1) := by kernel_rfl
theorem u35 : Tryd.prog.underlying 35 = some (.slice 9) := by kernel_rfl
theorem z9 : sizeIs Tryd.prog 9 1 := by unfold sizeIs; kernel_rfl
theorem t9 : tinf Tryd.prog 9 = some (false, 1) := by kernel_rfl
theorem u9 : Tryd.prog.underlying 9 = some (.string) := by kernel_rfl
theorem el35 : ElTy Tryd.prog 35 9 1 16 := ⟨by kernel_rfl, by kernel_rfl⟩
theorem z35 : sizeIs Tryd.prog 35 1 := by unfold sizeIs; kernel_rfl
theorem t38 : tinf Tryd.prog 38 = some (true, 2) := by kernel_rfl
theorem b65 : bodied Tryd.prog 65 := by unfold bodied; kernel_rfl
theorem b109 : bodied Tryd.prog 109 := by unfold bodied; kernel_rfl
theorem b110 : bodied Tryd.prog 110 := by unfold bodied; kernel_rfl
theorem t87 : tinf Tryd.prog 87 = some (false, 1) := by kernel_rfl
theorem t3 : tinf Tryd.prog 3 = some (false, 1) := by kernel_rfl
theorem zB : ∀ H, kB.reps H [.bool false] false := fun _ => rfl
theorem ze4 : zeroIs Tryd.prog 4 [(.bool false)] := by unfold zeroIs; kernel_rfl
theorem b78 : bodied Tryd.prog 78 := by unfold bodied; kernel_rfl
theorem b111 : bodied Tryd.prog 111 := by unfold bodied; kernel_rfl
theorem z4 : sizeIs Tryd.prog 4 1 := by unfold sizeIs; kernel_rfl
theorem t4 : tinf Tryd.prog 4 = some (false, 1) := by kernel_rfl
theorem b112 : bodied Tryd.prog 112 := by unfold bodied; kernel_rfl
theorem zI_u32 : ∀ H, (kI .u32).reps H [.int .u32 0] 0 := fun _ => ⟨rfl, by decide⟩
theorem ze87 : zeroIs Tryd.prog 87 [(.int .u32 0)] := by unfold zeroIs; kernel_rfl
theorem b114 : bodied Tryd.prog 114 := by unfold bodied; kernel_rfl
theorem b113 : bodied Tryd.prog 113 := by unfold bodied; kernel_rfl
theorem b115 : bodied Tryd.prog 115 := by unfold bodied; kernel_rfl
theorem zI_i64 : ∀ H, (kI .i64).reps H [.int .i64 0] 0 := fun _ => ⟨rfl, by decide⟩
theorem ze27 : zeroIs Tryd.prog 27 [(.int .i64 0)] := by unfold zeroIs; kernel_rfl
theorem b76 : bodied Tryd.prog 76 := by unfold bodied; kernel_rfl
theorem z27 : sizeIs Tryd.prog 27 1 := by unfold sizeIs; kernel_rfl
theorem t27 : tinf Tryd.prog 27 = some (false, 1) := by kernel_rfl
theorem b77 : bodied Tryd.prog 77 := by unfold bodied; kernel_rfl
theorem b79 : bodied Tryd.prog 79 := by unfold bodied; kernel_rfl
theorem b80 : bodied Tryd.prog 80 := by unfold bodied; kernel_rfl
theorem b117 : bodied Tryd.prog 117 := by unfold bodied; kernel_rfl
theorem b116 : bodied Tryd.prog 116 := by unfold bodied; kernel_rfl
theorem u128 : Tryd.prog.underlying 128 = some (.map 3 80) := by kernel_rfl
theorem u3 : Tryd.prog.underlying 3 = some (.int .i64) := by kernel_rfl
theorem mk3 : MKey Tryd.prog 3 (.int .i64) (kI .i64) := keyI u3
theorem o78_0 : fofs Tryd.prog 78 0 = some 0 := by kernel_rfl
theorem b81 : bodied Tryd.prog 81 := by unfold bodied; kernel_rfl
theorem zv80 : zeroV Tryd.prog 80 .nilFunc := by unfold zeroV; kernel_rfl
theorem o78_1 : fofs Tryd.prog 78 1 = some 1 := by kernel_rfl
theorem o78_2 : fofs Tryd.prog 78 2 = some 2 := by kernel_rfl
theorem u39 : Tryd.prog.underlying 39 = some (.slice 78) := by kernel_rfl
theorem z78 : sizeIs Tryd.prog 78 3 := by unfold sizeIs; kernel_rfl
theorem t78 : tinf Tryd.prog 78 = some (true, 3) := by kernel_rfl
theorem b86 : bodied Tryd.prog 86 := by unfold bodied; kernel_rfl
theorem b49 : bodied Tryd.prog 49 := by unfold bodied; kernel_rfl
theorem b48 : bodied Tryd.prog 48 := by unfold bodied; kernel_rfl
theorem b39 : bodied Tryd.prog 39 := by unfold bodied; kernel_rfl
theorem b50 : bodied Tryd.prog 50 := by unfold bodied; kernel_rfl
theorem gm0 : GlobIs kS 0 gl0 := globS (.tail _ (.tail _ (.tail _ (.head _)))) (by kernel_rfl)
theorem u102 : Tryd.prog.underlying 102 = some (.array 13 9) := by kernel_rfl
theorem b82 : bodied Tryd.prog 82 := by unfold bodied; kernel_rfl
theorem b16 : bodied Tryd.prog 16 := by unfold bodied; kernel_rfl
theorem ze78 : zeroIs Tryd.prog 78 [(.int .i64 0), (.int .i64 0), (.int .i64 0)] := by unfold zeroIs; kernel_rfl
theorem b40 : bodied Tryd.prog 40 := by unfold bodied; kernel_rfl
theorem b41 : bodied Tryd.prog 41 := by unfold bodied; kernel_rfl
theorem b42 : bodied Tryd.prog 42 := by unfold bodied; kernel_rfl
theorem b29 : bodied Tryd.prog 29 := by unfold bodied; kernel_rfl
theorem b143 : bodied Tryd.prog 143 := by unfold bodied; kernel_rfl
theorem b120 : bodied Tryd.prog 120 := by unfold bodied; kernel_rfl
theorem b119 : bodied Tryd.prog 119 := by unfold bodied; kernel_rfl
theorem b121 : bodied Tryd.prog 121 := by unfold bodied; kernel_rfl
theorem b122 : bodied Tryd.prog 122 := by unfold bodied; kernel_rfl
theorem b123 : bodied Tryd.prog 123 := by unfold bodied; kernel_rfl
theorem b124 : bodied Tryd.prog 124 := by unfold bodied; kernel_rfl
theorem b87 : bodied Tryd.prog 87 := by unfold bodied; kernel_rfl
theorem pl93 : places Tryd.prog 93 = some [(0, 1), (1, 1), (2, 1)] := by kernel_rfl
theorem po93 : ∀ q f, f_api_Tok[q]? = some f → ([(0, 1), (1, 1), (2, 1)] : List (Nat × Nat))[q]? = some (offF f_api_Tok q, f.d.sz) := fun q f h => by
  unfold f_api_Tok at h
  match q, h with
  | 0, h => cases h; rfl
  | 1, h => cases h; rfl
  | 2, h => cases h; rfl
  | n + 3, h => simp at h
theorem ze93 : zeroIs Tryd.prog 93 [(.int .i64 0), (.string ⟨⟨[]⟩⟩), (.int .i64 0)] := by unfold zeroIs; kernel_rfl
theorem el88 : ElTy Tryd.prog 88 93 3 32 := ⟨by kernel_rfl, by kernel_rfl⟩
theorem zS : ∀ H, kS.reps H [.string ⟨⟨[]⟩⟩] [] := fun _ => ⟨rfl, by decide⟩
theorem u88 : Tryd.prog.underlying 88 = some (.slice 93) := by kernel_rfl
theorem o138_1 : fofs Tryd.prog 138 1 = some 2 := by kernel_rfl
theorem t88 : tinf Tryd.prog 88 = some (false, 1) := by kernel_rfl
theorem o138_2 : fofs Tryd.prog 138 2 = some 3 := by kernel_rfl
theorem z93 : sizeIs Tryd.prog 93 3 := by unfold sizeIs; kernel_rfl
theorem t93 : tinf Tryd.prog 93 = some (true, 3) := by kernel_rfl
theorem o93_0 : fofs Tryd.prog 93 0 = some 0 := by kernel_rfl
theorem o93_1 : fofs Tryd.prog 93 1 = some 1 := by kernel_rfl
theorem o138_3 : fofs Tryd.prog 138 3 = some 4 := by kernel_rfl
theorem b89 : bodied Tryd.prog 89 := by unfold bodied; kernel_rfl
theorem z3 : sizeIs Tryd.prog 3 1 := by unfold sizeIs; kernel_rfl
theorem b90 : bodied Tryd.prog 90 := by unfold bodied; kernel_rfl
theorem u5 : Tryd.prog.underlying 5 = some (.int .u8) := by kernel_rfl
theorem b127 : bodied Tryd.prog 127 := by unfold bodied; kernel_rfl
theorem o138_0 : fofs Tryd.prog 138 0 = some 0 := by kernel_rfl
theorem b145 : bodied Tryd.prog 145 := by unfold bodied; kernel_rfl
theorem pl78 : places Tryd.prog 78 = some [(0, 1), (1, 1), (2, 1)] := by kernel_rfl
theorem po78 : ∀ q f, f_api_Instr[q]? = some f → ([(0, 1), (1, 1), (2, 1)] : List (Nat × Nat))[q]? = some (offF f_api_Instr q, f.d.sz) := fun q f h => by
  unfold f_api_Instr at h
  match q, h with
  | 0, h => cases h; rfl
  | 1, h => cases h; rfl
  | 2, h => cases h; rfl
  | n + 3, h => simp at h
theorem b125 : bodied Tryd.prog 125 := by unfold bodied; kernel_rfl
theorem b126 : bodied Tryd.prog 126 := by unfold bodied; kernel_rfl
theorem pl138 : places Tryd.prog 138 = some [(0, 2), (2, 1), (3, 1), (4, 1)] := by kernel_rfl
theorem po138 : ∀ q f, f_code_reader[q]? = some f → ([(0, 2), (2, 1), (3, 1), (4, 1)] : List (Nat × Nat))[q]? = some (offF f_code_reader q, f.d.sz) := fun q f h => by
  unfold f_code_reader at h
  match q, h with
  | 0, h => cases h; rfl
  | 1, h => cases h; rfl
  | 2, h => cases h; rfl
  | 3, h => cases h; rfl
  | n + 4, h => simp at h
theorem ze138 : zeroIs Tryd.prog 138 [(.slice none 0 0), (.slice none 0 0), (.slice none 0 0), (.int .i64 0), (.int .i64 0)] := by unfold zeroIs; kernel_rfl
theorem b88 : bodied Tryd.prog 88 := by unfold bodied; kernel_rfl
theorem b91 : bodied Tryd.prog 91 := by unfold bodied; kernel_rfl
theorem el39 : ElTy Tryd.prog 39 78 3 24 := ⟨by kernel_rfl, by kernel_rfl⟩
theorem b55 : bodied Tryd.prog 55 := by unfold bodied; kernel_rfl
theorem b56 : bodied Tryd.prog 56 := by unfold bodied; kernel_rfl
theorem o93_2 : fofs Tryd.prog 93 2 = some 2 := by kernel_rfl
theorem eqk78 : EqK Tryd.prog (kR f_api_Instr) 78 2 := eqKR (fs := [(true, 0, 3), (true, 1, 3), (true, 2, 3)]) (by kernel_rfl) (by kernel_rfl) (.cons rfl t3 (eqKI u3) (.cons rfl t3 (eqKI u3) (.cons rfl t3 (eqKI u3) .nil))) (fun x y => by cases x; cases y; simp [api_Instr.mk.injEq, Bool.decide_and])
theorem eg78 : Tryd.prog.eqGuardType Tryd.prog.depth 78 = false := by kernel_rfl
theorem el36 : ElTy Tryd.prog 36 87 1 4 := ⟨by kernel_rfl, by kernel_rfl⟩
theorem po38 : ∀ q f, f_api_Lattice[q]? = some f → ([(0, 1), (1, 1)] : List (Nat × Nat))[q]? = some (offF f_api_Lattice q, f.d.sz) := fun q f h => by
  unfold f_api_Lattice at h
  match q, h with
  | 0, h => cases h; rfl
  | 1, h => cases h; rfl
  | n + 2, h => simp at h
theorem b21 : bodied Tryd.prog 21 := by unfold bodied; kernel_rfl
theorem b12 : bodied Tryd.prog 12 := by unfold bodied; kernel_rfl
theorem b13 : bodied Tryd.prog 13 := by unfold bodied; kernel_rfl
theorem b18 : bodied Tryd.prog 18 := by unfold bodied; kernel_rfl
theorem b19 : bodied Tryd.prog 19 := by unfold bodied; kernel_rfl

theorem reticentlaw08_few.ok {a0 : api_Lattice} {r : api_Lattice} (h : reticentlaw08_few.f a0 = some r) : FnA Tryd.prog 12 [(kR f_api_Lattice).sig a0] ((kR f_api_Lattice).sig r) := by
  refine fnIntro Tryd.func12 rfl (by kernel_rfl) fun H0 w0 => ?_
  unfold reticentlaw08_few.f at h
  refine wSeq ?_
  refine rg (cp (oBox tm) (s1 rfl) <| cw (oAlloc (id := 2) (ls := [.d (kN Str) [], .d (kL (kI .u32)) []]) ze38 (fun g => ⟨[(.slice none 0 0)], _, rfl, zN g.H, ⟨[(.slice none 0 0)], _, rfl, zL g.H, rfl⟩⟩)) trivial <| .nil) (by kernel_rfl) ?_
  refine pSeq ?_
  refine wSeq ?_
  obtain ⟨hc1, h⟩ := ib h
  refine rg (cp (oFld (fs := f_api_Lattice) (k := 1) rfl o38_1 tm) (s1 rfl) <| cp (oLd t36 tm) (s1 rfl) <| cp (oFld (fs := f_api_Lattice) (k := 1) rfl o38_1 tm) (s1 rfl) <| cp (oLd t36 tm) (s1 rfl) <| cp (oLenL u36 tm) (s1 rfl) <| cp (oMin tm (cI (by decide))) (s1 rfl) <| cp (oCutHi u36 z87 hc1.1 hc1.2 tm tm) (s2 rfl rfl) <| cp (oBuild (fs := f_api_Lattice_n0) (u := ⟨[], lCut a0.Up 0 (if 10 < (a0.Up.length : Int) then 10 else (a0.Up.length : Int))⟩) rfl ze38 pl38 po38_0 (.ze (zc := [(.slice none 0 0)]) zN (.op (zc := [(.slice none 0 0)]) tm rfl .nil))) (s1 rfl) <| cw (oAlloc (id := 3) (ls := [.d (kN Str) [], .d (kL (kI .u32)) []]) ze38 (fun g => ⟨[(.slice none 0 0)], _, rfl, zN g.H, ⟨[(.slice none 0 0)], _, rfl, zL g.H, rfl⟩⟩)) trivial <| cwn (oStA (n := 0) (fs := f_api_Lattice_n0) rfl rfl z38 tm tm) (s2 rfl rfl) <| .nil) (by kernel_rfl) ?_
  refine pSeq ?_
  refine wSeq ?_
  refine wSeq ?_
  obtain ⟨hc2, h⟩ := ib h
  refine rg (cp (oFld (fs := f_api_Lattice) (k := 0) rfl o38_0 tm) (s1 rfl) <| cp (oLd t35 tm) (s1 rfl) <| cp (oFld (fs := f_api_Lattice) (k := 0) rfl o38_0 tm) (s1 rfl) <| cp (oLd t35 tm) (s1 rfl) <| cp (oLenL u35 tm) (s1 rfl) <| cp (oMin tm (cI (by decide))) (s1 rfl) <| cp (oCutHi u35 z9 hc2.1 hc2.2 tm tm) (s2 rfl rfl) <| cp (oLenL u35 tm) (s1 rfl) <| cp (oMv (cI (by decide))) trivial <| .nil) (by kernel_rfl) ?_
  refine pSeq ?_
  refine wNilL kS 9 5150 (n := 0) (k := 0) rfl rfl rfl ?_
  obtain ⟨o1, h, hk1⟩ := bd h
  refine wK1 (fun x13 => x13 = o1) (fun x13 => [(2, .p 2 0), (3, .p 3 0)]) (fun x13 => [.row 5150 9 kS x13, .box 3 38 [.v 5150, .d (kL (kI .u32)) (lCut a0.Up 0 (if 10 < (a0.Up.length : Int) then 10 else (a0.Up.length : Int)))], .box 2 38 [.d (kN Str) [], .d (kL (kI .u32)) []]]) ?_ ?_
  · refine wBlock (wLoop ?_)
    refine lW (pc2 o1 (fun v11 v12 => [(2, .p 2 0), (3, .p 3 0), (20, .d ((kL kS).sig (lCut a0.Names 0 (if 10 < (a0.Names.length : Int) then 10 else (a0.Names.length : Int))))), (21, .d ((kI .i64).sig ((lCut a0.Names 0 (if 10 < (a0.Names.length : Int) then 10 else (a0.Names.length : Int))).length : Int))), (22, .d ((kI .i64).sig v12))]) (fun v11 v12 => [.row 5150 9 kS v11, .box 3 38 [.v 5150, .d (kL (kI .u32)) (lCut a0.Up 0 (if 10 < (a0.Up.length : Int) then 10 else (a0.Up.length : Int)))], .box 2 38 [.d (kN Str) [], .d (kL (kI .u32)) []]]) (reticentlaw08_few.l0.partial_correctness a0) ?_ _ _ h) ⟨rfl, rfl, rfl, rfl, rfl, trivial⟩ rfl
    clear h
    intro f' ih v11 v12 h
    refine wSeq ?_
    refine rg (cp (oLt rfl tm tm) (s2 rfl rfl) <| .nil) (by kernel_rfl) ?_
    refine pSeq ?_
    refine wSeq ?_
    rcases ic h with ⟨hp14, h⟩ | ⟨hp14, h⟩
    · refine wCT hp14 tm (s1 rfl) ?_
      refine wSkip ?_
      refine pSeq ?_
      refine wSeq ?_
      refine wBlock ?_
      refine wSeq ?_
      obtain ⟨y15, hy15, h⟩ := bd h
      refine rg (cp (oIdx u35 z9 hy15 tm tm) (s2 rfl rfl) <| cp (oLd t9 tm) (s1 rfl) <| cp (oAs tm) (s1 rfl) <| .nil) (by kernel_rfl) ?_
      refine pSeq ?_
      obtain ⟨hc16, h⟩ := ib h
      obtain ⟨hc17, h⟩ := ib h
      refine rgD hm (cp (oFldP o38_0 tm) (s1 rfl) <| cr (oLdN (n := 1) (k := 0) rfl rfl rfl t35 tm) (s1 rfl) <| cp (oMv tm) (s1 rfl) <| cp (oMv tm) (s1 rfl) <| cp (oLenS u9 tm) (s1 rfl) <| cp (oMin tm (cI (by decide))) (s1 rfl) <| cp (oCutSH u9 hc16.1 hc16.2 tm tm) (s2 rfl rfl) <| cp (oLit (d := kS) el35 (by decide) rfl rfl rfl (e1 tm e0)) (s1 rfl) <| cw (oApp (n := 0) (id' := 34) el35 (by decide) rfl (by decide) hc17 tm tm) (s2 rfl rfl) <| cp (oFldP o38_0 tm) (s1 rfl) <| cwn (oStN (n := 1) (m := 0) (k := 0) rfl rfl rfl rfl z35 rfl tm tm) (s2 rfl rfl) <| .nil) (by kernel_rfl) (by kernel_rfl) ?_
      refine pBlkN ?_
      refine pSeq ?_
      refine rg (cp (oAdd tm (cI (by decide))) (s1 rfl) <| cp (oMv tm) (s1 rfl) <| .nil) (by kernel_rfl) ?_
      refine pSub (Γ' := [(2, .p 2 0), (3, .p 3 0), (20, .d ((kL kS).sig (lCut a0.Names 0 (if 10 < (a0.Names.length : Int) then 10 else (a0.Names.length : Int))))), (21, .d ((kI .i64).sig ((lCut a0.Names 0 (if 10 < (a0.Names.length : Int) then 10 else (a0.Names.length : Int))).length : Int))), (22, .d ((kI .i64).sig (IntKind.i64.wrap (v12 + 1))))]) ⟨rfl, rfl, rfl, rfl, rfl, trivial⟩ ?_
      refine pRen 34 5150 rfl ?_
      exact pLoop (lW (ih _ _ h) ⟨rfl, rfl, rfl, rfl, rfl, trivial⟩ rfl)
    · refine wCF hp14 tm (s1 rfl) ?_
      refine wExit ?_
      refine pThenX ?_
      refine pThenX ?_
      refine pBlkX ?_
      exact pJ1 _ (so h) ⟨rfl, rfl, trivial⟩ rfl
  · rintro x13 rfl
    replace h := hk1
    refine pSeq ?_
    refine wSeq ?_
    refine wFrzR (n := 0) (id := 5150) [] rfl rfl trivial ?_
    refine rg (cr (oLdA (n := 0) (fs := f_api_Lattice) (u := ⟨x13, lCut a0.Up 0 (if 10 < (a0.Up.length : Int) then 10 else (a0.Up.length : Int))⟩) rfl ⟨rfl, rfl, trivial⟩ t38 tm) (s1 rfl) <| cwn (oStA (n := 1) (fs := f_api_Lattice) rfl rfl z38 tm tm) (s2 rfl rfl) <| .nil) (by kernel_rfl) ?_
    refine pSeq ?_
    refine wRet ?_
    obtain rfl := so h
    exact pR1 (.inl rfl) rfl (.box (n := 1) (fs := f_api_Lattice) (u := ⟨x13, lCut a0.Up 0 (if 10 < (a0.Up.length : Int) then 10 else (a0.Up.length : Int))⟩) rfl rfl ⟨rfl, rfl, trivial⟩ t38 <| .nil)

theorem lattice_name.ok {a0 : Str} {r : Bool} (h : lattice_name.f a0 = some r) : FnA Tryd.prog 109 [kS.sig a0] (kB.sig r) := by
  refine fnIntro Tryd.func109 rfl (by kernel_rfl) fun H0 w0 => ?_
  unfold lattice_name.f at h
  refine wSeq ?_
  refine rg (cp (oAs cB) trivial <| .nil) (by kernel_rfl) ?_
  refine pSeq ?_
  refine wSeq ?_
  refine wSeq ?_
  refine rg (cp (oMv tm) (s1 rfl) <| cp (oLenS u9 tm) (s1 rfl) <| cp (oMv (cI (by decide))) trivial <| .nil) (by kernel_rfl) ?_
  refine pSeq ?_
  obtain ⟨o1, h, hk1⟩ := bd h
  refine wK0 (.inr () = o1) ([(0, .d (kS.sig a0))]) ([]) ?_ ?_
  · refine wBlock (wLoop ?_)
    refine lW (pc1 o1 (fun v19 => [(0, .d (kS.sig a0)), (5, .d ((kI .i64).sig (a0.length : Int))), (6, .d ((kI .i64).sig v19))]) (fun v19 => []) (lattice_name.l0.partial_correctness a0) ?_ _ h) ⟨rfl, rfl, rfl, trivial⟩ rfl
    clear h
    intro f' ih v19 h
    refine wSeq ?_
    refine rg (cp (oLt rfl tm tm) (s2 rfl rfl) <| .nil) (by kernel_rfl) ?_
    refine pSeq ?_
    refine wSeq ?_
    rcases ic h with ⟨hp20, h⟩ | ⟨hp20, h⟩
    · refine wCT hp20 tm (s1 rfl) ?_
      refine wSkip ?_
      refine pSeq ?_
      refine wSeq ?_
      refine wBlock ?_
      refine wSeq ?_
      refine rg (cp (oMv tm) (s1 rfl) <| cp (oAs tm) (s1 rfl) <| .nil) (by kernel_rfl) ?_
      refine pSeq ?_
      obtain ⟨o2, h, hk2⟩ := bd h
      refine wJ1 (fun x24 => x24 = o2) (fun x24 => [(0, .d (kS.sig a0)), (5, .d ((kI .i64).sig (a0.length : Int))), (6, .d ((kI .i64).sig v19)), (18, .d (kB.sig x24))]) (fun x24 => []) ?_ ?_
      · obtain ⟨hc25, h⟩ := ib h
        rcases ic h with ⟨hp26, h⟩ | ⟨hp26, h⟩
        · refine rg (cp (oMv tm) (s1 rfl) <| cp (oMv tm) (s1 rfl) <| cp (oIdxS u9 hc25.1 hc25.2 tm tm) (s2 rfl rfl) <| cp (oLt rfl tm (cI (by decide))) (s1 rfl) <| cp (oMv tm) (s1 rfl) <| csB (decide_eq_true hp26) rfl rfl <| csB (decide_eq_true hp26) rfl rfl <| csB (decide_eq_true hp26) rfl rfl <| csB (decide_eq_true hp26) rfl rfl <| cp (oPkT (decide_eq_true hp26) tm cB) (s1 rfl) <| .nil) (by kernel_rfl) ?_
          exact pJ1 _ (so h) ⟨rfl, rfl, rfl, rfl, trivial⟩ rfl
        · obtain ⟨hc27, h⟩ := ib h
          refine rg (cp (oMv tm) (s1 rfl) <| cp (oMv tm) (s1 rfl) <| cp (oIdxS u9 hc25.1 hc25.2 tm tm) (s2 rfl rfl) <| cp (oLt rfl tm (cI (by decide))) (s1 rfl) <| cp (oMv tm) (s1 rfl) <| cgB (decide_eq_false hp26) rfl rfl (oMv tm) (s1 rfl) <| cgB (decide_eq_false hp26) rfl rfl (oMv tm) (s1 rfl) <| cgB (decide_eq_false hp26) rfl rfl (oIdxS u9 hc27.1 hc27.2 tm tm) (s2 rfl rfl) <| cgB (decide_eq_false hp26) rfl rfl (oGt rfl tm (cI (by decide))) (s1 rfl) <| cp (oPkF (decide_eq_false hp26) tm tm) (s2 rfl rfl) <| .nil) (by kernel_rfl) ?_
          exact pJ1 _ (so h) ⟨rfl, rfl, rfl, rfl, trivial⟩ rfl
      · rintro x24 rfl
        replace h := hk2
        rcases ic h with ⟨hp28, h⟩ | ⟨hp28, h⟩
        · refine wBT hp28 tm (s1 rfl) ?_
          refine wSeq ?_
          refine rg (cp (oAs cB) trivial <| .nil) (by kernel_rfl) ?_
          refine pSeq ?_
          refine wRet ?_
          refine pBlkR ?_
          refine pThenR ?_
          refine pThenR ?_
          refine pBlkR ?_
          refine pThenR ?_
          obtain rfl := so h
          replace h := hk1
          refine pThenR ?_
          obtain rfl := so h
          exact pR1 (.inl rfl) rfl (.tmp rfl <| .nil)
        · refine wBF hp28 tm (s1 rfl) ?_
          refine wSkip ?_
          refine pBlkN ?_
          refine pSeq ?_
          refine rg (cp (oAdd tm (cI (by decide))) (s1 rfl) <| cp (oMv tm) (s1 rfl) <| .nil) (by kernel_rfl) ?_
          exact pLoop (lW (ih _ h) ⟨rfl, rfl, rfl, trivial⟩ rfl)
    · refine wCF hp20 tm (s1 rfl) ?_
      refine wExit ?_
      refine pThenX ?_
      refine pThenX ?_
      refine pBlkX ?_
      exact pJ0 (so h) ⟨rfl, trivial⟩ rfl
  · rintro rfl
    replace h := hk1
    refine pSeq ?_
    obtain ⟨o1, h, hk1⟩ := bd h
    refine wJ1 (fun x30 => x30 = o1) (fun x30 => [(2, .d (kB.sig x30))]) (fun x30 => []) ?_ ?_
    · rcases ic h with ⟨hp31, h⟩ | ⟨hp31, h⟩
      · refine rg (cp (oMv tm) (s1 rfl) <| cp (oSNe rfl tm (cS (by decide))) (s1 rfl) <| cp (oMv tm) (s1 rfl) <| csB (nf hp31) rfl rfl <| csB (nf hp31) rfl rfl <| csB (nf hp31) rfl rfl <| cp (oPkF (nf hp31) tm cB) (s1 rfl) <| cp (oAs tm) (s1 rfl) <| .nil) (by kernel_rfl) ?_
        exact pJ1 _ (so h) ⟨rfl, trivial⟩ rfl
      · refine rg (cp (oMv tm) (s1 rfl) <| cp (oSNe rfl tm (cS (by decide))) (s1 rfl) <| cp (oMv tm) (s1 rfl) <| cgB (nt hp31) rfl rfl (oMv tm) (s1 rfl) <| cgB (nt hp31) rfl rfl (oLenS u9 tm) (s1 rfl) <| cgB (nt hp31) rfl rfl (oLe rfl tm (cI (by decide))) (s1 rfl) <| cp (oPkT (nt hp31) tm tm) (s2 rfl rfl) <| cp (oAs tm) (s1 rfl) <| .nil) (by kernel_rfl) ?_
        exact pJ1 _ (so h) ⟨rfl, trivial⟩ rfl
    · rintro x30 rfl
      replace h := hk1
      refine wRet ?_
      obtain rfl := so h
      exact pR1 (.inl rfl) rfl (.tmp rfl <| .nil)

theorem slices_Index_string_string.ok {a0 : List Str} {a1 : Str} {r : Int} (h : slices_Index_string_string.f a0 a1 = some r) : FnA Tryd.prog 65 [(kL kS).sig a0, kS.sig a1] ((kI .i64).sig r) := by
  refine fnIntro Tryd.func65 rfl (by kernel_rfl) fun H0 w0 => ?_
  unfold slices_Index_string_string.f at h
  refine wSeq ?_
  refine rg (cp (oAs (cI (by decide))) trivial <| .nil) (by kernel_rfl) ?_
  refine pSeq ?_
  refine wSeq ?_
  refine wSeq ?_
  refine rg (cp (oMv tm) (s1 rfl) <| cp (oLenL u35 tm) (s1 rfl) <| cp (oMv (cI (by decide))) trivial <| .nil) (by kernel_rfl) ?_
  refine pSeq ?_
  obtain ⟨o1, h, hk1⟩ := bd h
  refine wK0 (.inr () = o1) ([]) ([]) ?_ ?_
  · refine wBlock (wLoop ?_)
    refine lW (pc1 o1 (fun v7 => [(0, .d ((kL kS).sig a0)), (1, .d (kS.sig a1)), (7, .d ((kI .i64).sig (a0.length : Int))), (8, .d ((kI .i64).sig v7))]) (fun v7 => []) (slices_Index_string_string.l0.partial_correctness a0 a1) ?_ _ h) ⟨rfl, rfl, rfl, rfl, trivial⟩ rfl
    clear h
    intro f' ih v7 h
    refine wSeq ?_
    refine rg (cp (oLt rfl tm tm) (s2 rfl rfl) <| .nil) (by kernel_rfl) ?_
    refine pSeq ?_
    refine wSeq ?_
    rcases ic h with ⟨hp8, h⟩ | ⟨hp8, h⟩
    · refine wCT hp8 tm (s1 rfl) ?_
      refine wSkip ?_
      refine pSeq ?_
      refine wSeq ?_
      refine wBlock ?_
      refine wSeq ?_
      refine rg (cp (oMv tm) (s1 rfl) <| cp (oAs tm) (s1 rfl) <| .nil) (by kernel_rfl) ?_
      refine pSeq ?_
      refine wSeq ?_
      obtain ⟨y9, hy9, h⟩ := bd h
      refine rg (cp (oMv tm) (s1 rfl) <| cp (oMv tm) (s1 rfl) <| cp (oMv tm) (s1 rfl) <| cp (oIdx u35 z9 hy9 tm tm) (s2 rfl rfl) <| cp (oLd t9 tm) (s1 rfl) <| cp (oSEq rfl tm tm) (s2 rfl rfl) <| .nil) (by kernel_rfl) ?_
      refine pSeq ?_
      rcases ic h with ⟨hp10, h⟩ | ⟨hp10, h⟩
      · refine wCT hp10 tm (s1 rfl) ?_
        refine wSeq ?_
        refine rg (cp (oMv tm) (s1 rfl) <| cp (oAs tm) (s1 rfl) <| .nil) (by kernel_rfl) ?_
        refine pSeq ?_
        refine wRet ?_
        refine pBlkR ?_
        refine pThenR ?_
        refine pThenR ?_
        refine pBlkR ?_
        refine pThenR ?_
        obtain rfl := so h
        replace h := hk1
        refine pThenR ?_
        obtain rfl := so h
        exact pR1 (.inl rfl) rfl (.tmp rfl <| .nil)
      · refine wCF hp10 tm (s1 rfl) ?_
        refine wSkip ?_
        refine pBlkN ?_
        refine pSeq ?_
        refine rg (cp (oAdd tm (cI (by decide))) (s1 rfl) <| cp (oMv tm) (s1 rfl) <| .nil) (by kernel_rfl) ?_
        exact pLoop (lW (ih _ h) ⟨rfl, rfl, rfl, rfl, trivial⟩ rfl)
    · refine wCF hp8 tm (s1 rfl) ?_
      refine wExit ?_
      refine pThenX ?_
      refine pThenX ?_
      refine pBlkX ?_
      exact pJ0 (so h) trivial rfl
  · rintro rfl
    replace h := hk1
    refine pSeq ?_
    refine wSeq ?_
    refine rg (cp (oAs (cI (by decide))) trivial <| .nil) (by kernel_rfl) ?_
    refine pSeq ?_
    refine wRet ?_
    obtain rfl := so h
    exact pR1 (.inl rfl) rfl (.tmp rfl <| .nil)

theorem slices_Contains_string_string.ok {a0 : List Str} {a1 : Str} {r : Bool} (h : slices_Contains_string_string.f a0 a1 = some r) : FnA Tryd.prog 110 [(kL kS).sig a0, kS.sig a1] (kB.sig r) := by
  refine fnIntro Tryd.func110 rfl (by kernel_rfl) fun H0 w0 => ?_
  unfold slices_Contains_string_string.f at h
  refine wSeq ?_
  refine rg (cp (oAs cB) trivial <| .nil) (by kernel_rfl) ?_
  refine pSeq ?_
  refine wSeq ?_
  obtain ⟨y1, hy1, h⟩ := bd h
  refine rg (cp (oMv tm) (s1 rfl) <| cp (oMv tm) (s1 rfl) <| cp (oCall rfl (slices_Index_string_string.ok hy1) b65 (opds_cons tm (opds_cons tm opds_nil))) (s2 rfl rfl) <| cp (oGe rfl tm (cI (by decide))) (s1 rfl) <| cp (oAs tm) (s1 rfl) <| .nil) (by kernel_rfl) ?_
  refine pSeq ?_
  refine wRet ?_
  obtain rfl := so h
  exact pR1 (.inl rfl) rfl (.tmp rfl <| .nil)

theorem lattice_may.ok {a0 : api_Lattice} {r : Bool} (h : lattice_may.f a0 = some r) : FnA Tryd.prog 76 [(kR f_api_Lattice).sig a0] (kB.sig r) := by
  refine fnIntro Tryd.func76 rfl (by kernel_rfl) fun H0 w0 => ?_
  unfold lattice_may.f at h
  refine wSeq ?_
  refine rg (cp (oBox tm) (s1 rfl) <| cp (oAs cB) trivial <| .nil) (by kernel_rfl) ?_
  refine pSeq ?_
  refine wSeq ?_
  refine rg (cp (oFld (fs := f_api_Lattice) (k := 1) rfl o38_1 tm) (s1 rfl) <| cp (oLd t36 tm) (s1 rfl) <| cp (oLenL u36 tm) (s1 rfl) <| cp (oAs tm) (s1 rfl) <| .nil) (by kernel_rfl) ?_
  refine pSeq ?_
  refine wSeq ?_
  obtain ⟨o1, h, hk1⟩ := bd h
  refine wJ1 (fun x3 => x3 = o1) (fun x3 => [(1, .d (sP (kR f_api_Lattice) a0)), (3, .d ((kI .i64).sig (a0.Up.length : Int))), (21, .d (kB.sig x3))]) (fun x3 => []) ?_ ?_
  · rcases ic h with ⟨hp4, h⟩ | ⟨hp4, h⟩
    · refine rg (cp (oMv tm) (s1 rfl) <| cp (oLt rfl tm (cI (by decide))) (s1 rfl) <| cp (oMv tm) (s1 rfl) <| csB (decide_eq_true hp4) rfl rfl <| csB (decide_eq_true hp4) rfl rfl <| cp (oPkT (decide_eq_true hp4) tm cB) (s1 rfl) <| cp (oMv tm) (s1 rfl) <| csB rfl rfl rfl <| csB rfl rfl rfl <| csB rfl rfl rfl <| csB rfl rfl rfl <| csB rfl rfl rfl <| cp (oPkT rfl tm cB) (s1 rfl) <| .nil) (by kernel_rfl) ?_
      exact pJ1 _ (so h) ⟨rfl, rfl, rfl, trivial⟩ rfl
    · rcases ic h with ⟨hp5, h⟩ | ⟨hp5, h⟩
      · refine rg (cp (oMv tm) (s1 rfl) <| cp (oLt rfl tm (cI (by decide))) (s1 rfl) <| cp (oMv tm) (s1 rfl) <| cgB (decide_eq_false hp4) rfl rfl (oMv tm) (s1 rfl) <| cgB (decide_eq_false hp4) rfl rfl (oGt rfl tm (cI (by decide))) (s1 rfl) <| cp (oPkF (decide_eq_false hp4) tm tm) (s2 rfl rfl) <| cp (oMv tm) (s1 rfl) <| csB (decide_eq_true hp5) rfl rfl <| csB (decide_eq_true hp5) rfl rfl <| csB (decide_eq_true hp5) rfl rfl <| csB (decide_eq_true hp5) rfl rfl <| csB (decide_eq_true hp5) rfl rfl <| cp (oPkT (decide_eq_true hp5) tm cB) (s1 rfl) <| .nil) (by kernel_rfl) ?_
        exact pJ1 _ (so h) ⟨rfl, rfl, rfl, trivial⟩ rfl
      · refine rg (cp (oMv tm) (s1 rfl) <| cp (oLt rfl tm (cI (by decide))) (s1 rfl) <| cp (oMv tm) (s1 rfl) <| cgB (decide_eq_false hp4) rfl rfl (oMv tm) (s1 rfl) <| cgB (decide_eq_false hp4) rfl rfl (oGt rfl tm (cI (by decide))) (s1 rfl) <| cp (oPkF (decide_eq_false hp4) tm tm) (s2 rfl rfl) <| cp (oMv tm) (s1 rfl) <| cgB (decide_eq_false hp5) rfl rfl (oFld (fs := f_api_Lattice) (k := 0) rfl o38_0 tm) (s1 rfl) <| cgB (decide_eq_false hp5) rfl rfl (oLd t35 tm) (s1 rfl) <| cgB (decide_eq_false hp5) rfl rfl (oLenL u35 tm) (s1 rfl) <| cgB (decide_eq_false hp5) rfl rfl (oMv tm) (s1 rfl) <| cgB (decide_eq_false hp5) rfl rfl (oNe rfl tm tm) (s2 rfl rfl) <| cp (oPkF (decide_eq_false hp5) tm tm) (s2 rfl rfl) <| .nil) (by kernel_rfl) ?_
        exact pJ1 _ (so h) ⟨rfl, rfl, rfl, trivial⟩ rfl
  · rintro x3 rfl
    replace h := hk1
    rcases ic h with ⟨hp6, h⟩ | ⟨hp6, h⟩
    · refine wBT hp6 tm (s1 rfl) ?_
      refine wSeq ?_
      refine rg (cp (oAs cB) trivial <| .nil) (by kernel_rfl) ?_
      refine pSeq ?_
      refine wRet ?_
      refine pThenR ?_
      obtain rfl := so h
      exact pR1 (.inl rfl) rfl (.tmp rfl <| .nil)
    · refine wBF hp6 tm (s1 rfl) ?_
      refine wSkip ?_
      refine pSeq ?_
      refine wSeq ?_
      refine wSeq ?_
      refine rg (cp (oFld (fs := f_api_Lattice) (k := 0) rfl o38_0 tm) (s1 rfl) <| cp (oLd t35 tm) (s1 rfl) <| cp (oLenL u35 tm) (s1 rfl) <| cp (oMv (cI (by decide))) trivial <| .nil) (by kernel_rfl) ?_
      refine pSeq ?_
      obtain ⟨o1, h, hk1⟩ := bd h
      refine wK0 (.inr () = o1) ([]) ([]) ?_ ?_
      · refine wBlock (wLoop ?_)
        refine lW (pc1 o1 (fun v43 => [(1, .d (sP (kR f_api_Lattice) a0)), (3, .d ((kI .i64).sig (a0.Up.length : Int))), (23, .d ((kL kS).sig a0.Names)), (24, .d ((kI .i64).sig (a0.Names.length : Int))), (25, .d ((kI .i64).sig v43))]) (fun v43 => []) (lattice_may.l0.partial_correctness a0) ?_ _ h) ⟨rfl, rfl, rfl, rfl, rfl, trivial⟩ rfl
        clear h
        intro f' ih v43 h
        refine wSeq ?_
        refine rg (cp (oLt rfl tm tm) (s2 rfl rfl) <| .nil) (by kernel_rfl) ?_
        refine pSeq ?_
        refine wSeq ?_
        rcases ic h with ⟨hp44, h⟩ | ⟨hp44, h⟩
        · refine wCT hp44 tm (s1 rfl) ?_
          refine wSkip ?_
          refine pSeq ?_
          refine wSeq ?_
          refine wBlock ?_
          refine wSeq ?_
          obtain ⟨y45, hy45, h⟩ := bd h
          refine rg (cp (oMv tm) (s1 rfl) <| cp (oIdx u35 z9 hy45 tm tm) (s2 rfl rfl) <| cp (oLd t9 tm) (s1 rfl) <| cp (oAs tm) (s1 rfl) <| cp (oAs tm) (s1 rfl) <| .nil) (by kernel_rfl) ?_
          refine pSeq ?_
          obtain ⟨o2, h, hk2⟩ := bd h
          refine wJ1 (fun x53 => x53 = o2) (fun x53 => [(1, .d (sP (kR f_api_Lattice) a0)), (3, .d ((kI .i64).sig (a0.Up.length : Int))), (23, .d ((kL kS).sig a0.Names)), (24, .d ((kI .i64).sig (a0.Names.length : Int))), (25, .d ((kI .i64).sig v43)), (50, .d (kB.sig x53))]) (fun x53 => []) ?_ ?_
          · obtain ⟨y54, hy54, h⟩ := bd h
            rcases ic h with ⟨hp55, h⟩ | ⟨hp55, h⟩
            · refine rg (cp (oMv tm) (s1 rfl) <| cp (oCall rfl (lattice_name.ok hy54) b109 (opds_cons tm opds_nil)) (s1 rfl) <| cp (oNot tm) (s1 rfl) <| cp (oMv tm) (s1 rfl) <| csB hp55 rfl rfl <| csB hp55 rfl rfl <| csB hp55 rfl rfl <| csB hp55 rfl rfl <| csB hp55 rfl rfl <| csB hp55 rfl rfl <| cp (oPkT hp55 tm cB) (s1 rfl) <| cp (oMv tm) (s1 rfl) <| csB rfl rfl rfl <| csB rfl rfl rfl <| csB rfl rfl rfl <| csB rfl rfl rfl <| csB rfl rfl rfl <| csB rfl rfl rfl <| csB rfl rfl rfl <| csB rfl rfl rfl <| cp (oPkT rfl tm cB) (s1 rfl) <| .nil) (by kernel_rfl) ?_
              exact pJ1 _ (so h) ⟨rfl, rfl, rfl, rfl, rfl, rfl, trivial⟩ rfl
            · obtain ⟨hc56, h⟩ := ib h
              obtain ⟨y57, hy57, h⟩ := bd h
              rcases ic h with ⟨hp58, h⟩ | ⟨hp58, h⟩
              · refine rg (cp (oMv tm) (s1 rfl) <| cp (oCall rfl (lattice_name.ok hy54) b109 (opds_cons tm opds_nil)) (s1 rfl) <| cp (oNot tm) (s1 rfl) <| cp (oMv tm) (s1 rfl) <| cgB (nb hp55) rfl rfl (oFld (fs := f_api_Lattice) (k := 0) rfl o38_0 tm) (s1 rfl) <| cgB (nb hp55) rfl rfl (oLd t35 tm) (s1 rfl) <| cgB (nb hp55) rfl rfl (oMv tm) (s1 rfl) <| cgB (nb hp55) rfl rfl (oCutHi u35 z9 hc56.1 hc56.2 tm tm) (s2 rfl rfl) <| cgB (nb hp55) rfl rfl (oMv tm) (s1 rfl) <| cgB (nb hp55) rfl rfl (oCall rfl (slices_Contains_string_string.ok hy57) b110 (opds_cons tm (opds_cons tm opds_nil))) (s2 rfl rfl) <| cp (oPkF (nb hp55) tm tm) (s2 rfl rfl) <| cp (oMv tm) (s1 rfl) <| csB hp58 rfl rfl <| csB hp58 rfl rfl <| csB hp58 rfl rfl <| csB hp58 rfl rfl <| csB hp58 rfl rfl <| csB hp58 rfl rfl <| csB hp58 rfl rfl <| csB hp58 rfl rfl <| cp (oPkT hp58 tm cB) (s1 rfl) <| .nil) (by kernel_rfl) ?_
                exact pJ1 _ (so h) ⟨rfl, rfl, rfl, rfl, rfl, rfl, trivial⟩ rfl
              · obtain ⟨y59, hy59, h⟩ := bd h
                obtain ⟨hc60, h⟩ := ib h
                refine rg (cp (oMv tm) (s1 rfl) <| cp (oCall rfl (lattice_name.ok hy54) b109 (opds_cons tm opds_nil)) (s1 rfl) <| cp (oNot tm) (s1 rfl) <| cp (oMv tm) (s1 rfl) <| cgB (nb hp55) rfl rfl (oFld (fs := f_api_Lattice) (k := 0) rfl o38_0 tm) (s1 rfl) <| cgB (nb hp55) rfl rfl (oLd t35 tm) (s1 rfl) <| cgB (nb hp55) rfl rfl (oMv tm) (s1 rfl) <| cgB (nb hp55) rfl rfl (oCutHi u35 z9 hc56.1 hc56.2 tm tm) (s2 rfl rfl) <| cgB (nb hp55) rfl rfl (oMv tm) (s1 rfl) <| cgB (nb hp55) rfl rfl (oCall rfl (slices_Contains_string_string.ok hy57) b110 (opds_cons tm (opds_cons tm opds_nil))) (s2 rfl rfl) <| cp (oPkF (nb hp55) tm tm) (s2 rfl rfl) <| cp (oMv tm) (s1 rfl) <| cgB (nb hp58) rfl rfl (oFld (fs := f_api_Lattice) (k := 1) rfl o38_1 tm) (s1 rfl) <| cgB (nb hp58) rfl rfl (oLd t36 tm) (s1 rfl) <| cgB (nb hp58) rfl rfl (oMv tm) (s1 rfl) <| cgB (nb hp58) rfl rfl (oIdx u36 z87 hy59 tm tm) (s2 rfl rfl) <| cgB (nb hp58) rfl rfl (oLd t87 tm) (s1 rfl) <| cgB (nb hp58) rfl rfl (oMv tm) (s1 rfl) <| cgB (nb hp58) rfl rfl (oShr hc60 tm tm) (s2 rfl rfl) <| cgB (nb hp58) rfl rfl (oNe rfl tm (cI (by decide))) (s1 rfl) <| cp (oPkF (nb hp58) tm tm) (s2 rfl rfl) <| .nil) (by kernel_rfl) ?_
                exact pJ1 _ (so h) ⟨rfl, rfl, rfl, rfl, rfl, rfl, trivial⟩ rfl
          · rintro x53 rfl
            replace h := hk2
            rcases ic h with ⟨hp61, h⟩ | ⟨hp61, h⟩
            · refine wBT hp61 tm (s1 rfl) ?_
              refine wSeq ?_
              refine rg (cp (oAs cB) trivial <| .nil) (by kernel_rfl) ?_
              refine pSeq ?_
              refine wRet ?_
              refine pBlkR ?_
              refine pThenR ?_
              refine pThenR ?_
              refine pBlkR ?_
              refine pThenR ?_
              obtain rfl := so h
              replace h := hk1
              refine pThenR ?_
              obtain rfl := so h
              exact pR1 (.inl rfl) rfl (.tmp rfl <| .nil)
            · refine wBF hp61 tm (s1 rfl) ?_
              refine wSkip ?_
              refine pBlkN ?_
              refine pSeq ?_
              refine rg (cp (oAdd tm (cI (by decide))) (s1 rfl) <| cp (oMv tm) (s1 rfl) <| .nil) (by kernel_rfl) ?_
              exact pLoop (lW (ih _ h) ⟨rfl, rfl, rfl, rfl, rfl, trivial⟩ rfl)
        · refine wCF hp44 tm (s1 rfl) ?_
          refine wExit ?_
          refine pThenX ?_
          refine pThenX ?_
          refine pBlkX ?_
          exact pJ0 (so h) trivial rfl
      · rintro rfl
        replace h := hk1
        refine pSeq ?_
        refine wSeq ?_
        refine rg (cp (oAs cB) trivial <| .nil) (by kernel_rfl) ?_
        refine pSeq ?_
        refine wRet ?_
        obtain rfl := so h
        exact pR1 (.inl rfl) rfl (.tmp rfl <| .nil)

theorem lattice_pairs_1.ok {a1 : Int} : FnY Tryd.prog 112 (fun z => (kI .i64).sig z) (fun z => (kI .i64).sig z) [sP (kI .i64) a1] (fun {σ} a_y a_s => lattice_pairs_1.f a_y a_s a1) := by
  refine fnIntroY 7777 Tryd.func112 rfl (by kernel_rfl) (fun σ A a_y a_s a_r h bs H0 w0 => ?_)
  replace h : lattice_pairs_1.f a_y a_s a1 = some a_r := h
  unfold lattice_pairs_1.f at h
  refine wSeq ?_
  refine rg (cp (oLd t3 tm) (s1 rfl) <| cp (oMv (cI (by decide))) trivial <| .nil) (by kernel_rfl) ?_
  refine pSeq ?_
  obtain ⟨o1, h, hk1⟩ := bd h
  refine wK1 (fun x29 => .inr x29 = o1) (fun x29 => []) (fun x29 => [.abs 7777 A x29]) ?_ ?_
  · refine wBlock (wLoop ?_)
    refine lW (pc2 o1 (fun v27 v28 => [(0, .d (sYield Tryd.prog A a_y (fun z => (kI .i64).sig z) (fun z => (kI .i64).sig z))), (1, .d (sP (kI .i64) a1)), (5, .d ((kI .i64).sig a1)), (6, .d ((kI .i64).sig v28))]) (fun v27 v28 => [.abs 7777 A v27]) (lattice_pairs_1.l2.partial_correctness a_y a1) ?_ _ _ h) ⟨rfl, rfl, rfl, rfl, trivial⟩ rfl
    clear h
    intro f' ih v27 v28 h
    refine wSeq ?_
    refine rg (cp (oLt rfl tm tm) (s2 rfl rfl) <| .nil) (by kernel_rfl) ?_
    refine pSeq ?_
    refine wSeq ?_
    rcases ic h with ⟨hp30, h⟩ | ⟨hp30, h⟩
    · refine wCT hp30 tm (s1 rfl) ?_
      refine wSkip ?_
      refine pSeq ?_
      refine wSeq ?_
      refine wBlock ?_
      refine wSeq ?_
      refine rg (cp (oMv tm) (s1 rfl) <| cp (oAs tm) (s1 rfl) <| .nil) (by kernel_rfl) ?_
      refine pSeq ?_
      refine wSeq ?_
      refine rg (cp (oLd t3 tm) (s1 rfl) <| cp (oMv (cI (by decide))) trivial <| .nil) (by kernel_rfl) ?_
      refine pSeq ?_
      obtain ⟨o2, h, hk2⟩ := bd h
      refine wK1 (fun x39 => .inr x39 = o2) (fun x39 => [(0, .d (sYield Tryd.prog A a_y (fun z => (kI .i64).sig z) (fun z => (kI .i64).sig z))), (1, .d (sP (kI .i64) a1)), (5, .d ((kI .i64).sig a1)), (6, .d ((kI .i64).sig v28))]) (fun x39 => [.abs 7777 A x39]) ?_ ?_
      · refine wBlock (wLoop ?_)
        refine lW (pc2 o2 (fun v37 v38 => [(0, .d (sYield Tryd.prog A a_y (fun z => (kI .i64).sig z) (fun z => (kI .i64).sig z))), (1, .d (sP (kI .i64) a1)), (3, .d ((kI .i64).sig v28)), (5, .d ((kI .i64).sig a1)), (6, .d ((kI .i64).sig v28)), (9, .d ((kI .i64).sig a1)), (10, .d ((kI .i64).sig v38))]) (fun v37 v38 => [.abs 7777 A v37]) (lattice_pairs_1.l3.partial_correctness a_y a1 v28) ?_ _ _ h) ⟨rfl, rfl, rfl, rfl, rfl, rfl, rfl, trivial⟩ rfl
        clear h
        intro f' ih v37 v38 h
        refine wSeq ?_
        refine rg (cp (oLt rfl tm tm) (s2 rfl rfl) <| .nil) (by kernel_rfl) ?_
        refine pSeq ?_
        refine wSeq ?_
        rcases ic h with ⟨hp40, h⟩ | ⟨hp40, h⟩
        · refine wCT hp40 tm (s1 rfl) ?_
          refine wSkip ?_
          refine pSeq ?_
          refine wSeq ?_
          refine wBlock ?_
          refine wSeq ?_
          refine rg (cp (oMv tm) (s1 rfl) <| cp (oAs tm) (s1 rfl) <| .nil) (by kernel_rfl) ?_
          refine pSeq ?_
          refine wSeq ?_
          obtain ⟨y41, hy41, h⟩ := bd h
          refine rg (cp (oMv tm) (s1 rfl) <| cp (oMv tm) (s1 rfl) <| cp (oMv tm) (s1 rfl) <| cm (oYield (n := 0) (id' := 16) rfl hy41 tm tm tm) (s3 rfl rfl rfl) <| cp (oNot tm) (s1 rfl) <| .nil) (by kernel_rfl) ?_
          refine pSeq ?_
          rcases ic h with ⟨hp42, h⟩ | ⟨hp42, h⟩
          · refine wBT hp42 tm (s1 rfl) ?_
            refine wRet ?_
            refine pBlkR ?_
            refine pThenR ?_
            refine pThenR ?_
            refine pBlkR ?_
            refine pThenR ?_
            obtain rfl := so h
            replace h := hk2
            refine pBlkR ?_
            refine pThenR ?_
            refine pThenR ?_
            refine pBlkR ?_
            refine pThenR ?_
            obtain rfl := so h
            replace h := hk1
            obtain rfl := so h
            exact pRY (n := 0) (.inl rfl) rfl rfl rfl
          · refine wBF hp42 tm (s1 rfl) ?_
            refine wSkip ?_
            refine pBlkN ?_
            refine pSeq ?_
            refine rg (cp (oAdd tm (cI (by decide))) (s1 rfl) <| cp (oMv tm) (s1 rfl) <| .nil) (by kernel_rfl) ?_
            refine pSub (Γ' := [(0, .d (sYield Tryd.prog A a_y (fun z => (kI .i64).sig z) (fun z => (kI .i64).sig z))), (1, .d (sP (kI .i64) a1)), (3, .d ((kI .i64).sig v28)), (5, .d ((kI .i64).sig a1)), (6, .d ((kI .i64).sig v28)), (9, .d ((kI .i64).sig a1)), (10, .d ((kI .i64).sig (IntKind.i64.wrap (v38 + 1))))]) ⟨rfl, rfl, rfl, rfl, rfl, rfl, rfl, trivial⟩ ?_
            refine pRen 16 7777 rfl ?_
            exact pLoop (lW (ih _ _ h) ⟨rfl, rfl, rfl, rfl, rfl, rfl, rfl, trivial⟩ rfl)
        · refine wCF hp40 tm (s1 rfl) ?_
          refine wExit ?_
          refine pThenX ?_
          refine pThenX ?_
          refine pBlkX ?_
          exact pJ1 _ (so h) ⟨rfl, rfl, rfl, rfl, trivial⟩ rfl
      · rintro x39 rfl
        replace h := hk2
        refine pBlkN ?_
        refine pSeq ?_
        refine rg (cp (oAdd tm (cI (by decide))) (s1 rfl) <| cp (oMv tm) (s1 rfl) <| .nil) (by kernel_rfl) ?_
        exact pLoop (lW (ih _ _ h) ⟨rfl, rfl, rfl, rfl, trivial⟩ rfl)
    · refine wCF hp30 tm (s1 rfl) ?_
      refine wExit ?_
      refine pThenX ?_
      refine pThenX ?_
      refine pBlkX ?_
      exact pJ1 _ (so h) trivial rfl
  · rintro x29 rfl
    replace h := hk1
    obtain rfl := so h
    exact pRY (n := 0) (.inr rfl) rfl rfl rfl

theorem lattice_pairs.ok {a0 : Int} {r : Int} (h : lattice_pairs.f a0 = some r) : FnA Tryd.prog 78 [(kI .i64).sig a0] ((sClo 112 [sP (kI .i64) r])) := by
  refine fnIntro Tryd.func78 rfl (by kernel_rfl) fun H0 w0 => ?_
  unfold lattice_pairs.f at h
  refine wSeq ?_
  refine rg (cp (oBox tm) (s1 rfl) <| cp (oAs cV) trivial <| .nil) (by kernel_rfl) ?_
  refine pSeq ?_
  refine wSeq ?_
  refine rg (cp (oMkC (caps := [sP (kI .i64) a0]) rfl (opds_cons tm opds_nil)) (s1 rfl) <| cp (oAs tm) (s1 rfl) <| .nil) (by kernel_rfl) ?_
  refine pSeq ?_
  refine wRet ?_
  obtain rfl := so h
  exact pR1 (.inl rfl) rfl (.tmp rfl <| .nil)

theorem lattice_flows.ok {a0 : api_Lattice} {a1 : Int} {a2 : Int} {r : Bool} (h : lattice_flows.f a0 a1 a2 = some r) : FnA Tryd.prog 111 [(kR f_api_Lattice).sig a0, (kI .i64).sig a1, (kI .i64).sig a2] (kB.sig r) := by
  refine fnIntro Tryd.func111 rfl (by kernel_rfl) fun H0 w0 => ?_
  unfold lattice_flows.f at h
  refine wSeq ?_
  refine rg (cp (oBox tm) (s1 rfl) <| cp (oAs cB) trivial <| .nil) (by kernel_rfl) ?_
  refine pSeq ?_
  refine wSeq ?_
  obtain ⟨y1, hy1, h⟩ := bd h
  obtain ⟨hc2, h⟩ := ib h
  refine rg (cp (oFld (fs := f_api_Lattice) (k := 1) rfl o38_1 tm) (s1 rfl) <| cp (oLd t36 tm) (s1 rfl) <| cp (oMv tm) (s1 rfl) <| cp (oIdx u36 z87 hy1 tm tm) (s2 rfl rfl) <| cp (oLd t87 tm) (s1 rfl) <| cp (oMv tm) (s1 rfl) <| cp (oShr hc2 tm tm) (s2 rfl rfl) <| cp (oAnd tm (cI (by decide))) (s1 rfl) <| cp (oEq rfl tm (cI (by decide))) (s1 rfl) <| cp (oAs tm) (s1 rfl) <| .nil) (by kernel_rfl) ?_
  refine pSeq ?_
  refine wRet ?_
  obtain rfl := so h
  exact pR1 (.inl rfl) rfl (.tmp rfl <| .nil)

theorem lattice_order.ok {a0 : api_Lattice} {r : Bool} (h : lattice_order.f a0 = some r) : FnA Tryd.prog 77 [(kR f_api_Lattice).sig a0] (kB.sig r) := by
  refine fnIntro Tryd.func77 rfl (by kernel_rfl) fun H0 w0 => ?_
  unfold lattice_order.f at h
  refine wSeq ?_
  refine rg (cp (oBox tm) (s1 rfl) <| cw (oAlloc (id := 2) (ls := [.d kB false]) ze4 (fun g => ⟨[(.bool false)], _, rfl, zB g.H, rfl⟩)) trivial <| .nil) (by kernel_rfl) ?_
  refine pSeq ?_
  refine wSeq ?_
  refine wSeq ?_
  obtain ⟨y1, hy1, h⟩ := bd h
  refine rg (cp (oFld (fs := f_api_Lattice) (k := 1) rfl o38_1 tm) (s1 rfl) <| cp (oLd t36 tm) (s1 rfl) <| cp (oLenL u36 tm) (s1 rfl) <| cp (oCall rfl (lattice_pairs.ok hy1) b78 (opds_cons tm opds_nil)) (s1 rfl) <| .nil) (by kernel_rfl) ?_
  refine pSeq ?_
  refine wBlock ?_
  obtain ⟨y53, hy53, h⟩ := bd h
  refine wRange (Γ' := [(1, .d (sP (kR f_api_Lattice) a0)), (2, .p 2 0)]) (Γ2 := fun v27 v28 => [(1, .d (sP (kR f_api_Lattice) a0)), (2, .p 2 0), (3, .d ((kI .i64).sig v27)), (4, .d ((kI .i64).sig v28))]) (fun (v26 : Unit) => [.box 2 4 [.d kB false]]) (fun (v26 : Unit) v27 v28 => [.box 2 4 [.d kB false]]) [Code.ret] [2] (lattice_order.y0 a0) () rfl (lattice_pairs_1.ok (a1 := y1)) b112 hy53 rfl ⟨rfl, rfl, trivial⟩ rfl rfl rfl ?_ ?_ ?_
  · intro X H0 w0 l pv v26 v27 v28
    refine wSeq ?_
    refine rg (cp (oAs tm) (s1 rfl) <| .nil) (by kernel_rfl) ?_
    refine pSeq ?_
    refine rg (cp (oAs tm) (s1 rfl) <| .nil) (by kernel_rfl) ?_
    exact qA ⟨rfl, rfl, rfl, rfl, trivial⟩
  · intro X H0 w0 l pv v26 v27 v28 o h
    unfold lattice_order.y0 at h
    refine wBlock ?_
    refine wSeq ?_
    obtain ⟨o2, h, hk2⟩ := bd h
    refine wJ1 (fun x35 => x35 = o2) (fun x35 => [(1, .d (sP (kR f_api_Lattice) a0)), (2, .p 2 0), (3, .d ((kI .i64).sig v27)), (4, .d ((kI .i64).sig v28)), (37, .d (kB.sig x35))]) (fun x35 => [.box 2 4 [.d kB false]]) ?_ ?_
    · rcases ic h with ⟨hp36, h⟩ | ⟨hp36, h⟩
      · obtain ⟨y37, hy37, h⟩ := bd h
        rcases ic h with ⟨hp38, h⟩ | ⟨hp38, h⟩
        · refine rg (cp (oMv tm) (s1 rfl) <| cp (oMv tm) (s1 rfl) <| cp (oEq rfl tm tm) (s2 rfl rfl) <| cp (oMv tm) (s1 rfl) <| cgB (decide_eq_true hp36) rfl rfl (oLd t38 tm) (s1 rfl) <| cgB (decide_eq_true hp36) rfl rfl (oMv tm) (s1 rfl) <| cgB (decide_eq_true hp36) rfl rfl (oMv tm) (s1 rfl) <| cgB (decide_eq_true hp36) rfl rfl (oCall rfl (lattice_flows.ok hy37) b111 (opds_cons tm (opds_cons tm (opds_cons tm opds_nil)))) (s3 rfl rfl rfl) <| cgB (decide_eq_true hp36) rfl rfl (oNot tm) (s1 rfl) <| cp (oPkT (decide_eq_true hp36) tm tm) (s2 rfl rfl) <| cp (oMv tm) (s1 rfl) <| csB hp38 rfl rfl <| csB hp38 rfl rfl <| csB hp38 rfl rfl <| csB hp38 rfl rfl <| csU rfl rfl <| csU rfl rfl <| csU rfl rfl <| csU rfl rfl <| csB hp38 rfl rfl <| csB hp38 rfl rfl <| csU rfl rfl <| csU rfl rfl <| csU rfl rfl <| csU rfl rfl <| csB hp38 rfl rfl <| cp (oPkT hp38 tm cB) (s1 rfl) <| .nil) (by kernel_rfl) ?_
          exact pJ1 _ (so h) ⟨rfl, rfl, rfl, rfl, rfl, trivial⟩ rfl
        · refine rg (cp (oMv tm) (s1 rfl) <| cp (oMv tm) (s1 rfl) <| cp (oEq rfl tm tm) (s2 rfl rfl) <| cp (oMv tm) (s1 rfl) <| cgB (decide_eq_true hp36) rfl rfl (oLd t38 tm) (s1 rfl) <| cgB (decide_eq_true hp36) rfl rfl (oMv tm) (s1 rfl) <| cgB (decide_eq_true hp36) rfl rfl (oMv tm) (s1 rfl) <| cgB (decide_eq_true hp36) rfl rfl (oCall rfl (lattice_flows.ok hy37) b111 (opds_cons tm (opds_cons tm (opds_cons tm opds_nil)))) (s3 rfl rfl rfl) <| cgB (decide_eq_true hp36) rfl rfl (oNot tm) (s1 rfl) <| cp (oPkT (decide_eq_true hp36) tm tm) (s2 rfl rfl) <| cp (oMv tm) (s1 rfl) <| cgB (nb hp38) rfl rfl (oMv tm) (s1 rfl) <| cgB (nb hp38) rfl rfl (oMv tm) (s1 rfl) <| cgB (nb hp38) rfl rfl (oNe rfl tm tm) (s2 rfl rfl) <| cgB (nb hp38) rfl rfl (oMv tm) (s1 rfl) <| csB (nf hp36) rfl rfl <| csB (nf hp36) rfl rfl <| csB (nf hp36) rfl rfl <| csB (nf hp36) rfl rfl <| cgB (nb hp38) rfl rfl (oPkF (nf hp36) tm cB) (s1 rfl) <| cgB (nb hp38) rfl rfl (oMv tm) (s1 rfl) <| csB rfl rfl rfl <| csB rfl rfl rfl <| csB rfl rfl rfl <| csB rfl rfl rfl <| cgB (nb hp38) rfl rfl (oPkF rfl tm cB) (s1 rfl) <| cp (oPkF (nb hp38) tm tm) (s2 rfl rfl) <| .nil) (by kernel_rfl) ?_
          exact pJ1 _ (so h) ⟨rfl, rfl, rfl, rfl, rfl, trivial⟩ rfl
      · obtain ⟨y39, hy39, h⟩ := bd h
        rcases ic h with ⟨hp40, h⟩ | ⟨hp40, h⟩
        · obtain ⟨y41, hy41, h⟩ := bd h
          refine rg (cp (oMv tm) (s1 rfl) <| cp (oMv tm) (s1 rfl) <| cp (oEq rfl tm tm) (s2 rfl rfl) <| cp (oMv tm) (s1 rfl) <| csB (decide_eq_false hp36) rfl rfl <| csB (decide_eq_false hp36) rfl rfl <| csB (decide_eq_false hp36) rfl rfl <| csB (decide_eq_false hp36) rfl rfl <| csB (decide_eq_false hp36) rfl rfl <| cp (oPkF (decide_eq_false hp36) tm cB) (s1 rfl) <| cp (oMv tm) (s1 rfl) <| cgB rfl rfl rfl (oMv tm) (s1 rfl) <| cgB rfl rfl rfl (oMv tm) (s1 rfl) <| cgB rfl rfl rfl (oNe rfl tm tm) (s2 rfl rfl) <| cgB rfl rfl rfl (oMv tm) (s1 rfl) <| cgB (nt hp36) rfl rfl (oLd t38 tm) (s1 rfl) <| cgB (nt hp36) rfl rfl (oMv tm) (s1 rfl) <| cgB (nt hp36) rfl rfl (oMv tm) (s1 rfl) <| cgB (nt hp36) rfl rfl (oCall rfl (lattice_flows.ok hy39) b111 (opds_cons tm (opds_cons tm (opds_cons tm opds_nil)))) (s3 rfl rfl rfl) <| cgB rfl rfl rfl (oPkT (nt hp36) tm tm) (s2 rfl rfl) <| cgB rfl rfl rfl (oMv tm) (s1 rfl) <| cgB hp40 rfl rfl (oLd t38 tm) (s1 rfl) <| cgB hp40 rfl rfl (oMv tm) (s1 rfl) <| cgB hp40 rfl rfl (oMv tm) (s1 rfl) <| cgB hp40 rfl rfl (oCall rfl (lattice_flows.ok hy41) b111 (opds_cons tm (opds_cons tm (opds_cons tm opds_nil)))) (s3 rfl rfl rfl) <| cgB rfl rfl rfl (oPkT hp40 tm tm) (s2 rfl rfl) <| cp (oPkF rfl tm tm) (s2 rfl rfl) <| .nil) (by kernel_rfl) ?_
          exact pJ1 _ (so h) ⟨rfl, rfl, rfl, rfl, rfl, trivial⟩ rfl
        · refine rg (cp (oMv tm) (s1 rfl) <| cp (oMv tm) (s1 rfl) <| cp (oEq rfl tm tm) (s2 rfl rfl) <| cp (oMv tm) (s1 rfl) <| csB (decide_eq_false hp36) rfl rfl <| csB (decide_eq_false hp36) rfl rfl <| csB (decide_eq_false hp36) rfl rfl <| csB (decide_eq_false hp36) rfl rfl <| csB (decide_eq_false hp36) rfl rfl <| cp (oPkF (decide_eq_false hp36) tm cB) (s1 rfl) <| cp (oMv tm) (s1 rfl) <| cgB rfl rfl rfl (oMv tm) (s1 rfl) <| cgB rfl rfl rfl (oMv tm) (s1 rfl) <| cgB rfl rfl rfl (oNe rfl tm tm) (s2 rfl rfl) <| cgB rfl rfl rfl (oMv tm) (s1 rfl) <| cgB (nt hp36) rfl rfl (oLd t38 tm) (s1 rfl) <| cgB (nt hp36) rfl rfl (oMv tm) (s1 rfl) <| cgB (nt hp36) rfl rfl (oMv tm) (s1 rfl) <| cgB (nt hp36) rfl rfl (oCall rfl (lattice_flows.ok hy39) b111 (opds_cons tm (opds_cons tm (opds_cons tm opds_nil)))) (s3 rfl rfl rfl) <| cgB rfl rfl rfl (oPkT (nt hp36) tm tm) (s2 rfl rfl) <| cgB rfl rfl rfl (oMv tm) (s1 rfl) <| csB (nb hp40) rfl rfl <| csB (nb hp40) rfl rfl <| csB (nb hp40) rfl rfl <| csB (nb hp40) rfl rfl <| cgB rfl rfl rfl (oPkF (nb hp40) tm cB) (s1 rfl) <| cp (oPkF rfl tm tm) (s2 rfl rfl) <| .nil) (by kernel_rfl) ?_
          exact pJ1 _ (so h) ⟨rfl, rfl, rfl, rfl, rfl, trivial⟩ rfl
    · rintro x35 rfl
      replace h := hk2
      rcases ic h with ⟨hp42, h⟩ | ⟨hp42, h⟩
      · refine wBT hp42 tm (s1 rfl) ?_
        refine wSeq ?_
        refine rg (cwn (oSt (n := 0) (k := 0) rfl rfl rfl rfl z4 tm cB) (s1 rfl) <| .nil) (by kernel_rfl) ?_
        refine pSeq ?_
        refine wRet ?_
        refine pThenR ?_
        refine pBlkR ?_
        obtain rfl := so h
        exact qR rfl
      · refine wBF hp42 tm (s1 rfl) ?_
        refine wSkip ?_
        refine pSeq ?_
        obtain ⟨o2, h, hk2⟩ := bd h
        refine wJ1 (fun x47 => x47 = o2) (fun x47 => [(2, .p 2 0), (55, .d (kB.sig x47))]) (fun x47 => [.box 2 4 [.d kB false]]) ?_ ?_
        · obtain ⟨y48, hy48, h⟩ := bd h
          rcases ic h with ⟨hp49, h⟩ | ⟨hp49, h⟩
          · obtain ⟨y50, hy50, h⟩ := bd h
            obtain ⟨y51, hy51, h⟩ := bd h
            refine rgD hm (cp (oLd t38 tm) (s1 rfl) <| cp (oMv tm) (s1 rfl) <| cp (oMv tm) (s1 rfl) <| cp (oCall rfl (lattice_flows.ok hy48) b111 (opds_cons tm (opds_cons tm (opds_cons tm opds_nil)))) (s3 rfl rfl rfl) <| cp (oMv tm) (s1 rfl) <| cgB hp49 rfl rfl (oFld (fs := f_api_Lattice) (k := 1) rfl o38_1 tm) (s1 rfl) <| cgB hp49 rfl rfl (oLd t36 tm) (s1 rfl) <| cgB hp49 rfl rfl (oMv tm) (s1 rfl) <| cgB hp49 rfl rfl (oIdx u36 z87 hy50 tm tm) (s2 rfl rfl) <| cgB hp49 rfl rfl (oLd t87 tm) (s1 rfl) <| cgB hp49 rfl rfl (oFld (fs := f_api_Lattice) (k := 1) rfl o38_1 tm) (s1 rfl) <| cgB hp49 rfl rfl (oLd t36 tm) (s1 rfl) <| cgB hp49 rfl rfl (oMv tm) (s1 rfl) <| cgB hp49 rfl rfl (oIdx u36 z87 hy51 tm tm) (s2 rfl rfl) <| cgB hp49 rfl rfl (oLd t87 tm) (s1 rfl) <| cgB hp49 rfl rfl (oAndNot tm tm) (s2 rfl rfl) <| cgB hp49 rfl rfl (oNe rfl tm (cI (by decide))) (s1 rfl) <| cp (oPkT hp49 tm tm) (s2 rfl rfl) <| .nil) (by kernel_rfl) (by kernel_rfl) ?_
            exact pJ1 _ (so h) ⟨rfl, rfl, trivial⟩ rfl
          · refine rgD hm (cp (oLd t38 tm) (s1 rfl) <| cp (oMv tm) (s1 rfl) <| cp (oMv tm) (s1 rfl) <| cp (oCall rfl (lattice_flows.ok hy48) b111 (opds_cons tm (opds_cons tm (opds_cons tm opds_nil)))) (s3 rfl rfl rfl) <| cp (oMv tm) (s1 rfl) <| csB (nb hp49) rfl rfl <| csB (nb hp49) rfl rfl <| csB (nb hp49) rfl rfl <| csB (nb hp49) rfl rfl <| csB (nb hp49) rfl rfl <| csB (nb hp49) rfl rfl <| csB (nb hp49) rfl rfl <| csB (nb hp49) rfl rfl <| csB (nb hp49) rfl rfl <| csB (nb hp49) rfl rfl <| csB (nb hp49) rfl rfl <| csB (nb hp49) rfl rfl <| cp (oPkF (nb hp49) tm cB) (s1 rfl) <| .nil) (by kernel_rfl) (by kernel_rfl) ?_
            exact pJ1 _ (so h) ⟨rfl, rfl, trivial⟩ rfl
        · rintro x47 rfl
          replace h := hk2
          rcases ic h with ⟨hp52, h⟩ | ⟨hp52, h⟩
          · refine wBT hp52 tm (s1 rfl) ?_
            refine wSeq ?_
            refine rg (cwn (oSt (n := 0) (k := 0) rfl rfl rfl rfl z4 tm cB) (s1 rfl) <| .nil) (by kernel_rfl) ?_
            refine pSeq ?_
            refine wRet ?_
            refine pBlkR ?_
            obtain rfl := so h
            exact qR rfl
          · refine wBF hp52 tm (s1 rfl) ?_
            refine wSkip ?_
            refine pBlkN ?_
            obtain rfl := so h
            exact qN
  · rcases ic h with ⟨hj53, h⟩ | ⟨hj53, h⟩
    · refine jp0 hj53 ?_
      refine pBlkN ?_
      refine pSeq ?_
      refine wSeq ?_
      refine rg (cwn (oSt (n := 0) (k := 0) rfl rfl rfl rfl z4 tm cB) (s1 rfl) <| .nil) (by kernel_rfl) ?_
      refine pSeq ?_
      refine wRet ?_
      obtain rfl := so h
      exact pR1 (.inl rfl) rfl (.boxV (n := 0) rfl rfl t4 <| .nil)
    · rcases ic h with ⟨hj53, h⟩ | ⟨hj53, h⟩
      · refine jpR hj53 rfl ?_
        refine pBlkR ?_
        refine pThenR ?_
        obtain rfl := so h
        exact pR1 (.inl rfl) rfl (.boxV (n := 0) rfl rfl t4 <| .nil)
      · cases h

theorem slices_IndexFunc_uint32_uint32.ok {a0 : List Int} {a1 : Int → Option Bool} {r : Int} (h : slices_IndexFunc_uint32_uint32.f a0 a1 = some r) : FnA Tryd.prog 113 [(kL (kI .u32)).sig a0, (sFun Tryd.prog (rl1 (kI .u32) kB a1))] ((kI .i64).sig r) := by
  refine fnIntro Tryd.func113 rfl (by kernel_rfl) fun H0 w0 => ?_
  unfold slices_IndexFunc_uint32_uint32.f at h
  refine wSeq ?_
  refine rg (cp (oAs (cI (by decide))) trivial <| .nil) (by kernel_rfl) ?_
  refine pSeq ?_
  refine wSeq ?_
  refine wSeq ?_
  refine rg (cp (oMv tm) (s1 rfl) <| cp (oLenL u36 tm) (s1 rfl) <| cp (oMv (cI (by decide))) trivial <| .nil) (by kernel_rfl) ?_
  refine pSeq ?_
  obtain ⟨o1, h, hk1⟩ := bd h
  refine wK0 (.inr () = o1) ([]) ([]) ?_ ?_
  · refine wBlock (wLoop ?_)
    refine lW (pc1 o1 (fun v9 => [(0, .d ((kL (kI .u32)).sig a0)), (1, .d ((sFun Tryd.prog (rl1 (kI .u32) kB a1)))), (7, .d ((kI .i64).sig (a0.length : Int))), (8, .d ((kI .i64).sig v9))]) (fun v9 => []) (slices_IndexFunc_uint32_uint32.l0.partial_correctness a0 a1) ?_ _ h) ⟨rfl, rfl, rfl, rfl, trivial⟩ rfl
    clear h
    intro f' ih v9 h
    refine wSeq ?_
    refine rg (cp (oLt rfl tm tm) (s2 rfl rfl) <| .nil) (by kernel_rfl) ?_
    refine pSeq ?_
    refine wSeq ?_
    rcases ic h with ⟨hp10, h⟩ | ⟨hp10, h⟩
    · refine wCT hp10 tm (s1 rfl) ?_
      refine wSkip ?_
      refine pSeq ?_
      refine wSeq ?_
      refine wBlock ?_
      refine wSeq ?_
      refine rg (cp (oMv tm) (s1 rfl) <| cp (oAs tm) (s1 rfl) <| .nil) (by kernel_rfl) ?_
      refine pSeq ?_
      refine wSeq ?_
      obtain ⟨y11, hy11, h⟩ := bd h
      obtain ⟨y12, hy12, h⟩ := bd h
      refine rg (cp (oMv tm) (s1 rfl) <| cp (oMv tm) (s1 rfl) <| cp (oMv tm) (s1 rfl) <| cp (oIdx u36 z87 hy11 tm tm) (s2 rfl rfl) <| cp (oLd t87 tm) (s1 rfl) <| cp (oCallV rfl (rl1i hy12) tm (opds_cons tm opds_nil)) (s2 rfl rfl) <| .nil) (by kernel_rfl) ?_
      refine pSeq ?_
      rcases ic h with ⟨hp13, h⟩ | ⟨hp13, h⟩
      · refine wBT hp13 tm (s1 rfl) ?_
        refine wSeq ?_
        refine rg (cp (oMv tm) (s1 rfl) <| cp (oAs tm) (s1 rfl) <| .nil) (by kernel_rfl) ?_
        refine pSeq ?_
        refine wRet ?_
        refine pBlkR ?_
        refine pThenR ?_
        refine pThenR ?_
        refine pBlkR ?_
        refine pThenR ?_
        obtain rfl := so h
        replace h := hk1
        refine pThenR ?_
        obtain rfl := so h
        exact pR1 (.inl rfl) rfl (.tmp rfl <| .nil)
      · refine wBF hp13 tm (s1 rfl) ?_
        refine wSkip ?_
        refine pBlkN ?_
        refine pSeq ?_
        refine rg (cp (oAdd tm (cI (by decide))) (s1 rfl) <| cp (oMv tm) (s1 rfl) <| .nil) (by kernel_rfl) ?_
        exact pLoop (lW (ih _ h) ⟨rfl, rfl, rfl, rfl, trivial⟩ rfl)
    · refine wCF hp10 tm (s1 rfl) ?_
      refine wExit ?_
      refine pThenX ?_
      refine pThenX ?_
      refine pBlkX ?_
      exact pJ0 (so h) trivial rfl
  · rintro rfl
    replace h := hk1
    refine pSeq ?_
    refine wSeq ?_
    refine rg (cp (oAs (cI (by decide))) trivial <| .nil) (by kernel_rfl) ?_
    refine pSeq ?_
    refine wRet ?_
    obtain rfl := so h
    exact pR1 (.inl rfl) rfl (.tmp rfl <| .nil)

theorem lattice_join_1.ok {a0 : Int} {a1 : Int} {r : Bool} (h : lattice_join_1.f a0 a1 = some r) : FnA Tryd.prog 114 [(kI .u32).sig a0, sP (kI .u32) a1] (kB.sig r) := by
  refine fnIntro Tryd.func114 rfl (by kernel_rfl) fun H0 w0 => ?_
  unfold lattice_join_1.f at h
  refine wSeq ?_
  refine rg (cp (oAs cB) trivial <| .nil) (by kernel_rfl) ?_
  refine pSeq ?_
  refine wSeq ?_
  refine rg (cp (oMv tm) (s1 rfl) <| cp (oLd t87 tm) (s1 rfl) <| cp (oEq rfl tm tm) (s2 rfl rfl) <| cp (oAs tm) (s1 rfl) <| .nil) (by kernel_rfl) ?_
  refine pSeq ?_
  refine wRet ?_
  obtain rfl := so h
  exact pR1 (.inl rfl) rfl (.tmp rfl <| .nil)

theorem lattice_join.ok {a0 : api_Lattice} {a1 : Int} {a2 : Int} {r : Int} (h : lattice_join.f a0 a1 a2 = some r) : FnA Tryd.prog 79 [(kR f_api_Lattice).sig a0, (kI .i64).sig a1, (kI .i64).sig a2] ((kI .i64).sig r) := by
  refine fnIntro Tryd.func79 rfl (by kernel_rfl) fun H0 w0 => ?_
  unfold lattice_join.f at h
  refine wSeq ?_
  refine rg (cp (oBox tm) (s1 rfl) <| cp (oAs (cI (by decide))) trivial <| .nil) (by kernel_rfl) ?_
  refine pSeq ?_
  refine wSeq ?_
  obtain ⟨y1, hy1, h⟩ := bd h
  obtain ⟨y2, hy2, h⟩ := bd h
  refine rgD hm (cp (oFld (fs := f_api_Lattice) (k := 1) rfl o38_1 tm) (s1 rfl) <| cp (oLd t36 tm) (s1 rfl) <| cp (oMv tm) (s1 rfl) <| cp (oIdx u36 z87 hy1 tm tm) (s2 rfl rfl) <| cp (oLd t87 tm) (s1 rfl) <| cp (oFld (fs := f_api_Lattice) (k := 1) rfl o38_1 tm) (s1 rfl) <| cp (oLd t36 tm) (s1 rfl) <| cp (oMv tm) (s1 rfl) <| cp (oIdx u36 z87 hy2 tm tm) (s2 rfl rfl) <| cp (oLd t87 tm) (s1 rfl) <| cp (oAnd tm tm) (s2 rfl rfl) <| cw (oAlloc (id := 7) (ls := [.d (kI .u32) 0]) ze87 (fun g => ⟨[(.int .u32 0)], _, rfl, zI_u32 g.H, rfl⟩)) trivial <| cwn (oSt (n := 0) (k := 0) rfl rfl rfl rfl z87 tm tm) (s2 rfl rfl) <| .nil) (by kernel_rfl) (by kernel_rfl) ?_
  refine pSeq ?_
  refine wSeq ?_
  refine wFrzV 7 (n := 0) (id := 7) rfl rfl rfl ?_
  obtain ⟨y3, hy3, h⟩ := bd h
  refine rg (cp (oFld (fs := f_api_Lattice) (k := 1) rfl o38_1 tm) (s1 rfl) <| cp (oLd t36 tm) (s1 rfl) <| cp (oMkF (Rl := rl1 (kI .u32) kB (fun z0 => lattice_join_1.f z0 (bAnd .u32 y1 y2))) rfl b114 (rl1e lattice_join_1.ok) (opds_cons tm opds_nil)) (s1 rfl) <| cp (oCall rfl (slices_IndexFunc_uint32_uint32.ok hy3) b113 (opds_cons tm (opds_cons tm opds_nil))) (s2 rfl rfl) <| cp (oAs tm) (s1 rfl) <| .nil) (by kernel_rfl) ?_
  refine pSeq ?_
  refine wRet ?_
  obtain rfl := so h
  exact pR1 (.inl rfl) rfl (.tmp rfl <| .nil)

theorem lattice_down.ok {a0 : api_Lattice} {a1 : Int} {r : Int} (h : lattice_down.f a0 a1 = some r) : FnA Tryd.prog 115 [(kR f_api_Lattice).sig a0, (kI .i64).sig a1] ((kI .u32).sig r) := by
  refine fnIntro Tryd.func115 rfl (by kernel_rfl) fun H0 w0 => ?_
  unfold lattice_down.f at h
  refine wSeq ?_
  refine rg (cp (oBox tm) (s1 rfl) <| cp (oAs (cI (by decide))) trivial <| .nil) (by kernel_rfl) ?_
  refine pSeq ?_
  refine wSeq ?_
  refine rg (cp (oAs (cI (by decide))) trivial <| .nil) (by kernel_rfl) ?_
  refine pSeq ?_
  refine wSeq ?_
  refine wSeq ?_
  refine rg (cp (oFld (fs := f_api_Lattice) (k := 1) rfl o38_1 tm) (s1 rfl) <| cp (oLd t36 tm) (s1 rfl) <| cp (oLenL u36 tm) (s1 rfl) <| cp (oMv (cI (by decide))) trivial <| .nil) (by kernel_rfl) ?_
  refine pSeq ?_
  obtain ⟨o1, h, hk1⟩ := bd h
  refine wK1 (fun x10 => x10 = o1) (fun x10 => [(5, .d ((kI .u32).sig x10))]) (fun x10 => []) ?_ ?_
  · refine wBlock (wLoop ?_)
    refine lW (pc2 o1 (fun v8 v9 => [(1, .d ((kI .i64).sig a1)), (2, .d (sP (kR f_api_Lattice) a0)), (5, .d ((kI .u32).sig v9)), (9, .d ((kI .i64).sig (a0.Up.length : Int))), (10, .d ((kI .i64).sig v8))]) (fun v8 v9 => []) (lattice_down.l0.partial_correctness a0 a1) ?_ _ _ h) ⟨rfl, rfl, rfl, rfl, rfl, trivial⟩ rfl
    clear h
    intro f' ih v8 v9 h
    refine wSeq ?_
    refine rg (cp (oLt rfl tm tm) (s2 rfl rfl) <| .nil) (by kernel_rfl) ?_
    refine pSeq ?_
    refine wSeq ?_
    rcases ic h with ⟨hp11, h⟩ | ⟨hp11, h⟩
    · refine wCT hp11 tm (s1 rfl) ?_
      refine wSkip ?_
      refine pSeq ?_
      refine wSeq ?_
      refine wBlock ?_
      refine wSeq ?_
      refine rg (cp (oMv tm) (s1 rfl) <| cp (oAs tm) (s1 rfl) <| .nil) (by kernel_rfl) ?_
      refine pSeq ?_
      obtain ⟨y12, hy12, h⟩ := bd h
      obtain ⟨hc13, h⟩ := ib h
      obtain ⟨hc14, h⟩ := ib h
      refine rg (cp (oMv tm) (s1 rfl) <| cp (oFld (fs := f_api_Lattice) (k := 1) rfl o38_1 tm) (s1 rfl) <| cp (oLd t36 tm) (s1 rfl) <| cp (oMv tm) (s1 rfl) <| cp (oIdx u36 z87 hy12 tm tm) (s2 rfl rfl) <| cp (oLd t87 tm) (s1 rfl) <| cp (oMv tm) (s1 rfl) <| cp (oShr hc13 tm tm) (s2 rfl rfl) <| cp (oAnd tm (cI (by decide))) (s1 rfl) <| cp (oMv tm) (s1 rfl) <| cp (oShl hc14 tm tm) (s2 rfl rfl) <| cp (oOr tm tm) (s2 rfl rfl) <| cp (oAs tm) (s1 rfl) <| .nil) (by kernel_rfl) ?_
      refine pBlkN ?_
      refine pSeq ?_
      refine rg (cp (oAdd tm (cI (by decide))) (s1 rfl) <| cp (oMv tm) (s1 rfl) <| .nil) (by kernel_rfl) ?_
      exact pLoop (lW (ih _ _ h) ⟨rfl, rfl, rfl, rfl, rfl, trivial⟩ rfl)
    · refine wCF hp11 tm (s1 rfl) ?_
      refine wExit ?_
      refine pThenX ?_
      refine pThenX ?_
      refine pBlkX ?_
      exact pJ1 _ (so h) ⟨rfl, trivial⟩ rfl
  · rintro x10 rfl
    replace h := hk1
    refine pSeq ?_
    refine wSeq ?_
    refine rg (cp (oMv tm) (s1 rfl) <| cp (oAs tm) (s1 rfl) <| .nil) (by kernel_rfl) ?_
    refine pSeq ?_
    refine wRet ?_
    obtain rfl := so h
    exact pR1 (.inl rfl) rfl (.tmp rfl <| .nil)

theorem lattice_meet.ok {a0 : api_Lattice} {a1 : Int} {a2 : Int} {r : Int} (h : lattice_meet.f a0 a1 a2 = some r) : FnA Tryd.prog 80 [(kR f_api_Lattice).sig a0, (kI .i64).sig a1, (kI .i64).sig a2] ((kI .i64).sig r) := by
  refine fnIntro Tryd.func80 rfl (by kernel_rfl) fun H0 w0 => ?_
  unfold lattice_meet.f at h
  refine wSeq ?_
  refine rg (cp (oBox tm) (s1 rfl) <| cp (oAs (cI (by decide))) trivial <| .nil) (by kernel_rfl) ?_
  refine pSeq ?_
  refine wSeq ?_
  obtain ⟨y1, hy1, h⟩ := bd h
  obtain ⟨y2, hy2, h⟩ := bd h
  refine rgD hm (cp (oLd t38 tm) (s1 rfl) <| cp (oMv tm) (s1 rfl) <| cp (oCall rfl (lattice_down.ok hy1) b115 (opds_cons tm (opds_cons tm opds_nil))) (s2 rfl rfl) <| cp (oLd t38 tm) (s1 rfl) <| cp (oMv tm) (s1 rfl) <| cp (oCall rfl (lattice_down.ok hy2) b115 (opds_cons tm (opds_cons tm opds_nil))) (s2 rfl rfl) <| cp (oAnd tm tm) (s2 rfl rfl) <| cp (oAs tm) (s1 rfl) <| .nil) (by kernel_rfl) (by kernel_rfl) ?_
  refine pSeq ?_
  refine wSeq ?_
  refine wSeq ?_
  refine rg (cp (oFld (fs := f_api_Lattice) (k := 1) rfl o38_1 tm) (s1 rfl) <| cp (oLd t36 tm) (s1 rfl) <| cp (oLenL u36 tm) (s1 rfl) <| cp (oMv (cI (by decide))) trivial <| .nil) (by kernel_rfl) ?_
  refine pSeq ?_
  obtain ⟨o1, h, hk1⟩ := bd h
  refine wK0 (.inr () = o1) ([]) ([]) ?_ ?_
  · refine wBlock (wLoop ?_)
    refine lW (pc1 o1 (fun v9 => [(3, .d (sP (kR f_api_Lattice) a0)), (7, .d ((kI .u32).sig (bAnd .u32 y1 y2))), (18, .d ((kI .i64).sig (a0.Up.length : Int))), (19, .d ((kI .i64).sig v9))]) (fun v9 => []) (lattice_meet.l0.partial_correctness a0 y1 y2) ?_ _ h) ⟨rfl, rfl, rfl, rfl, trivial⟩ rfl
    clear h
    intro f' ih v9 h
    refine wSeq ?_
    refine rg (cp (oLt rfl tm tm) (s2 rfl rfl) <| .nil) (by kernel_rfl) ?_
    refine pSeq ?_
    refine wSeq ?_
    rcases ic h with ⟨hp10, h⟩ | ⟨hp10, h⟩
    · refine wCT hp10 tm (s1 rfl) ?_
      refine wSkip ?_
      refine pSeq ?_
      refine wSeq ?_
      refine wBlock ?_
      refine wSeq ?_
      refine rg (cp (oMv tm) (s1 rfl) <| cp (oAs tm) (s1 rfl) <| .nil) (by kernel_rfl) ?_
      refine pSeq ?_
      refine wSeq ?_
      obtain ⟨y11, hy11, h⟩ := bd h
      refine rg (cp (oLd t38 tm) (s1 rfl) <| cp (oMv tm) (s1 rfl) <| cp (oCall rfl (lattice_down.ok hy11) b115 (opds_cons tm (opds_cons tm opds_nil))) (s2 rfl rfl) <| cp (oMv tm) (s1 rfl) <| cp (oEq rfl tm tm) (s2 rfl rfl) <| .nil) (by kernel_rfl) ?_
      refine pSeq ?_
      rcases ic h with ⟨hp12, h⟩ | ⟨hp12, h⟩
      · refine wCT hp12 tm (s1 rfl) ?_
        refine wSeq ?_
        refine rg (cp (oMv tm) (s1 rfl) <| cp (oAs tm) (s1 rfl) <| .nil) (by kernel_rfl) ?_
        refine pSeq ?_
        refine wRet ?_
        refine pBlkR ?_
        refine pThenR ?_
        refine pThenR ?_
        refine pBlkR ?_
        refine pThenR ?_
        obtain rfl := so h
        replace h := hk1
        refine pThenR ?_
        obtain rfl := so h
        exact pR1 (.inl rfl) rfl (.tmp rfl <| .nil)
      · refine wCF hp12 tm (s1 rfl) ?_
        refine wSkip ?_
        refine pBlkN ?_
        refine pSeq ?_
        refine rg (cp (oAdd tm (cI (by decide))) (s1 rfl) <| cp (oMv tm) (s1 rfl) <| .nil) (by kernel_rfl) ?_
        exact pLoop (lW (ih _ h) ⟨rfl, rfl, rfl, rfl, trivial⟩ rfl)
    · refine wCF hp10 tm (s1 rfl) ?_
      refine wExit ?_
      refine pThenX ?_
      refine pThenX ?_
      refine pBlkX ?_
      exact pJ0 (so h) trivial rfl
  · rintro rfl
    replace h := hk1
    refine pSeq ?_
    refine wSeq ?_
    refine rg (cp (oAs (cI (by decide))) trivial <| .nil) (by kernel_rfl) ?_
    refine pSeq ?_
    refine wRet ?_
    obtain rfl := so h
    exact pR1 (.inl rfl) rfl (.tmp rfl <| .nil)

theorem lattice_Check.ok {a0 : api_Lattice} {r : Int} (h : lattice_Check.f a0 = some r) : FnA Tryd.prog 39 [(kR f_api_Lattice).sig a0] ((kI .i64).sig r) := by
  refine fnIntro Tryd.func39 rfl (by kernel_rfl) fun H0 w0 => ?_
  unfold lattice_Check.f at h
  refine wSeq ?_
  refine rg (cp (oBox tm) (s1 rfl) <| cw (oAlloc (id := 2) (ls := [.d (kI .i64) 0]) ze27 (fun g => ⟨[(.int .i64 0)], _, rfl, zI_i64 g.H, rfl⟩)) trivial <| .nil) (by kernel_rfl) ?_
  refine pSeq ?_
  refine wSeq ?_
  refine wBlock ?_
  refine wSeq ?_
  obtain ⟨y1, hy1, h⟩ := bd h
  refine rg (cp (oLd t38 tm) (s1 rfl) <| cp (oCall rfl (lattice_may.ok hy1) b76 (opds_cons tm opds_nil)) (s1 rfl) <| cp (oNot tm) (s1 rfl) <| cp (oAs tm) (s1 rfl) <| .nil) (by kernel_rfl) ?_
  refine pSeq ?_
  rcases ic h with ⟨hp2, h⟩ | ⟨hp2, h⟩
  · refine wBT hp2 tm (s1 rfl) ?_
    refine wSeq ?_
    refine rg (cwn (oSt (n := 0) (k := 0) rfl rfl rfl rfl z27 tm (cI (by decide))) (s1 rfl) <| .nil) (by kernel_rfl) ?_
    refine pSeq ?_
    refine wRet ?_
    refine pBlkR ?_
    refine pThenR ?_
    obtain rfl := so h
    exact pR1 (.inl rfl) rfl (.boxV (n := 0) rfl rfl t27 <| .nil)
  · refine wBF hp2 tm (s1 rfl) ?_
    refine wSeq ?_
    obtain ⟨y3, hy3, h⟩ := bd h
    refine rg (cp (oLd t38 tm) (s1 rfl) <| cp (oCall rfl (lattice_order.ok hy3) b77 (opds_cons tm opds_nil)) (s1 rfl) <| cp (oNot tm) (s1 rfl) <| cp (oAs tm) (s1 rfl) <| .nil) (by kernel_rfl) ?_
    refine pSeq ?_
    rcases ic h with ⟨hp4, h⟩ | ⟨hp4, h⟩
    · refine wBT hp4 tm (s1 rfl) ?_
      refine wSeq ?_
      refine rg (cwn (oSt (n := 0) (k := 0) rfl rfl rfl rfl z27 tm (cI (by decide))) (s1 rfl) <| .nil) (by kernel_rfl) ?_
      refine pSeq ?_
      refine wRet ?_
      refine pBlkR ?_
      refine pThenR ?_
      obtain rfl := so h
      exact pR1 (.inl rfl) rfl (.boxV (n := 0) rfl rfl t27 <| .nil)
    · refine wBF hp4 tm (s1 rfl) ?_
      refine wSkip ?_
      refine pBlkN ?_
      refine pSeq ?_
      refine wSeq ?_
      refine wSeq ?_
      obtain ⟨y5, hy5, h⟩ := bd h
      refine rg (cp (oFld (fs := f_api_Lattice) (k := 1) rfl o38_1 tm) (s1 rfl) <| cp (oLd t36 tm) (s1 rfl) <| cp (oLenL u36 tm) (s1 rfl) <| cp (oCall rfl (lattice_pairs.ok hy5) b78 (opds_cons tm opds_nil)) (s1 rfl) <| .nil) (by kernel_rfl) ?_
      refine pSeq ?_
      refine wBlock ?_
      obtain ⟨y33, hy33, h⟩ := bd h
      refine wRange (Γ' := [(1, .d (sP (kR f_api_Lattice) a0)), (2, .p 2 0)]) (Γ2 := fun v23 v24 => [(1, .d (sP (kR f_api_Lattice) a0)), (2, .p 2 0), (3, .d ((kI .i64).sig v23)), (4, .d ((kI .i64).sig v24))]) (fun (v22 : Int) => [.box 2 27 [.d (kI .i64) v22]]) (fun (v22 : Int) v23 v24 => [.box 2 27 [.d (kI .i64) v22]]) [Code.ret] [2] (lattice_Check.y0 a0) 0 rfl (lattice_pairs_1.ok (a1 := y5)) b112 hy33 rfl ⟨rfl, rfl, trivial⟩ rfl rfl rfl ?_ ?_ ?_
      · intro X H0 w0 l pv v22 v23 v24
        refine wSeq ?_
        refine rg (cp (oAs tm) (s1 rfl) <| .nil) (by kernel_rfl) ?_
        refine pSeq ?_
        refine rg (cp (oAs tm) (s1 rfl) <| .nil) (by kernel_rfl) ?_
        exact qA ⟨rfl, rfl, rfl, rfl, trivial⟩
      · intro X H0 w0 l pv v22 v23 v24 o h
        unfold lattice_Check.y0 at h
        refine wBlock ?_
        obtain ⟨o2, h, hk2⟩ := bd h
        refine wJ1 (fun x28 => x28 = o2) (fun x28 => [(2, .p 2 0), (30, .d (kB.sig x28))]) (fun x28 => [.box 2 27 [.d (kI .i64) v22]]) ?_ ?_
        · obtain ⟨y29, hy29, h⟩ := bd h
          rcases ic h with ⟨hp30, h⟩ | ⟨hp30, h⟩
          · refine rg (cp (oLd t38 tm) (s1 rfl) <| cp (oMv tm) (s1 rfl) <| cp (oMv tm) (s1 rfl) <| cp (oCall rfl (lattice_join.ok hy29) b79 (opds_cons tm (opds_cons tm (opds_cons tm opds_nil)))) (s3 rfl rfl rfl) <| cp (oLt rfl tm (cI (by decide))) (s1 rfl) <| cp (oMv tm) (s1 rfl) <| csB (decide_eq_true hp30) rfl rfl <| csB (decide_eq_true hp30) rfl rfl <| csB (decide_eq_true hp30) rfl rfl <| csB (decide_eq_true hp30) rfl rfl <| csB (decide_eq_true hp30) rfl rfl <| cp (oPkT (decide_eq_true hp30) tm cB) (s1 rfl) <| .nil) (by kernel_rfl) ?_
            exact pJ1 _ (so h) ⟨rfl, rfl, trivial⟩ rfl
          · obtain ⟨y31, hy31, h⟩ := bd h
            refine rg (cp (oLd t38 tm) (s1 rfl) <| cp (oMv tm) (s1 rfl) <| cp (oMv tm) (s1 rfl) <| cp (oCall rfl (lattice_join.ok hy29) b79 (opds_cons tm (opds_cons tm (opds_cons tm opds_nil)))) (s3 rfl rfl rfl) <| cp (oLt rfl tm (cI (by decide))) (s1 rfl) <| cp (oMv tm) (s1 rfl) <| cgB (decide_eq_false hp30) rfl rfl (oLd t38 tm) (s1 rfl) <| cgB (decide_eq_false hp30) rfl rfl (oMv tm) (s1 rfl) <| cgB (decide_eq_false hp30) rfl rfl (oMv tm) (s1 rfl) <| cgB (decide_eq_false hp30) rfl rfl (oCall rfl (lattice_meet.ok hy31) b80 (opds_cons tm (opds_cons tm (opds_cons tm opds_nil)))) (s3 rfl rfl rfl) <| cgB (decide_eq_false hp30) rfl rfl (oLt rfl tm (cI (by decide))) (s1 rfl) <| cp (oPkF (decide_eq_false hp30) tm tm) (s2 rfl rfl) <| .nil) (by kernel_rfl) ?_
            exact pJ1 _ (so h) ⟨rfl, rfl, trivial⟩ rfl
        · rintro x28 rfl
          replace h := hk2
          rcases ic h with ⟨hp32, h⟩ | ⟨hp32, h⟩
          · refine wBT hp32 tm (s1 rfl) ?_
            refine wSeq ?_
            refine rg (cwn (oSt (n := 0) (k := 0) rfl rfl rfl rfl z27 tm (cI (by decide))) (s1 rfl) <| .nil) (by kernel_rfl) ?_
            refine pSeq ?_
            refine wRet ?_
            refine pBlkR ?_
            obtain rfl := so h
            exact qR rfl
          · refine wBF hp32 tm (s1 rfl) ?_
            refine wSkip ?_
            refine pBlkN ?_
            obtain rfl := so h
            exact qN
      · rcases ic h with ⟨hj33, h⟩ | ⟨hj33, h⟩
        · refine jp0 hj33 ?_
          refine pBlkN ?_
          refine pSeq ?_
          refine wSeq ?_
          refine rg (cwn (oSt (n := 0) (k := 0) rfl rfl rfl rfl z27 tm (cI (by decide))) (s1 rfl) <| .nil) (by kernel_rfl) ?_
          refine pSeq ?_
          refine wRet ?_
          obtain rfl := so h
          exact pR1 (.inl rfl) rfl (.boxV (n := 0) rfl rfl t27 <| .nil)
        · rcases ic h with ⟨hj33, h⟩ | ⟨hj33, h⟩
          · refine jpR hj33 rfl ?_
            refine pBlkR ?_
            refine pThenR ?_
            obtain rfl := so h
            exact pR1 (.inl rfl) rfl (.boxV (n := 0) rfl rfl t27 <| .nil)
          · cases h

theorem code_spans_1_1.ok {a0 : Int} {a1 : Int} {a2 : Int} {r : Bool} (h : code_spans_1_1.f a0 a1 a2 = some r) : FnA Tryd.prog 117 [(kI .i64).sig a0, sP (kI .i64) a1, sP (kI .i64) a2] (kB.sig r) := by
  refine fnIntro Tryd.func117 rfl (by kernel_rfl) fun H0 w0 => ?_
  unfold code_spans_1_1.f at h
  refine wSeq ?_
  refine rg (cp (oAs cB) trivial <| .nil) (by kernel_rfl) ?_
  refine pSeq ?_
  obtain ⟨o1, h, hk1⟩ := bd h
  refine wJ1 (fun x2 => x2 = o1) (fun x2 => [(4, .d (kB.sig x2))]) (fun x2 => []) ?_ ?_
  · rcases ic h with ⟨hp3, h⟩ | ⟨hp3, h⟩
    · refine rg (cp (oMv tm) (s1 rfl) <| cp (oLd t3 tm) (s1 rfl) <| cp (oGe rfl tm tm) (s2 rfl rfl) <| cp (oMv tm) (s1 rfl) <| cgB (decide_eq_true hp3) rfl rfl (oMv tm) (s1 rfl) <| cgB (decide_eq_true hp3) rfl rfl (oLd t3 tm) (s1 rfl) <| cgB (decide_eq_true hp3) rfl rfl (oLe rfl tm tm) (s2 rfl rfl) <| cp (oPkT (decide_eq_true hp3) tm tm) (s2 rfl rfl) <| cp (oAs tm) (s1 rfl) <| .nil) (by kernel_rfl) ?_
      exact pJ1 _ (so h) ⟨rfl, trivial⟩ rfl
    · refine rg (cp (oMv tm) (s1 rfl) <| cp (oLd t3 tm) (s1 rfl) <| cp (oGe rfl tm tm) (s2 rfl rfl) <| cp (oMv tm) (s1 rfl) <| csB (decide_eq_false hp3) rfl rfl <| csB (decide_eq_false hp3) rfl rfl <| csB (decide_eq_false hp3) rfl rfl <| cp (oPkF (decide_eq_false hp3) tm cB) (s1 rfl) <| cp (oAs tm) (s1 rfl) <| .nil) (by kernel_rfl) ?_
      exact pJ1 _ (so h) ⟨rfl, trivial⟩ rfl
  · rintro x2 rfl
    replace h := hk1
    refine wRet ?_
    obtain rfl := so h
    exact pR1 (.inl rfl) rfl (.tmp rfl <| .nil)

theorem code_spans_1.ok {a0 : Int} {a1 : Int} {r : Int → Option Bool} (h : code_spans_1.f a0 a1 = some r) : FnA Tryd.prog 116 [(kI .i64).sig a0, (kI .i64).sig a1] ((sFun Tryd.prog (rl1 (kI .i64) kB r))) := by
  refine fnIntro Tryd.func116 rfl (by kernel_rfl) fun H0 w0 => ?_
  unfold code_spans_1.f at h
  refine wSeq ?_
  refine rg (cp (oBox tm) (s1 rfl) <| cp (oBox tm) (s1 rfl) <| cp (oAs cV) trivial <| .nil) (by kernel_rfl) ?_
  refine pSeq ?_
  refine wSeq ?_
  refine rg (cp (oMkF (Rl := rl1 (kI .i64) kB (fun z0 => code_spans_1_1.f z0 a0 a1)) rfl b117 (rl1e code_spans_1_1.ok) (opds_cons tm (opds_cons tm opds_nil))) (s2 rfl rfl) <| cp (oAs tm) (s1 rfl) <| .nil) (by kernel_rfl) ?_
  refine pSeq ?_
  refine wRet ?_
  obtain rfl := so h
  exact pR1 (.inl rfl) rfl (.tmp rfl <| .nil)

theorem code_spans.ok {r : List (Int × (Option (Int → Option Bool)))} (h : code_spans.f = some r) : FnA Tryd.prog 81 [] ((sMap (kI .i64) (kFn Tryd.prog (rl1 (kI .i64) kB)) r)) := by
  refine fnIntro Tryd.func81 rfl (by kernel_rfl) fun H0 w0 => ?_
  unfold code_spans.f at h
  refine wSeq ?_
  refine rg (cp (oAs cV) trivial <| .nil) (by kernel_rfl) ?_
  refine pSeq ?_
  refine wSeq ?_
  refine rg (cp (oAs (oFn b116 (rl2sn (o := (fun r => (sFun Tryd.prog (rl1 (kI .i64) kB r)))) code_spans_1.ok))) trivial <| .nil) (by kernel_rfl) ?_
  refine pSeq ?_
  refine wSeq ?_
  obtain ⟨y1, hy1, h⟩ := bd h
  obtain ⟨y2, hy2, h⟩ := bd h
  obtain ⟨y3, hy3, h⟩ := bd h
  obtain ⟨y4, hy4, h⟩ := bd h
  refine rg (cw (oMkMap (id := 2) (dk := (kI .i64)) (dv := (kFn Tryd.prog (rl1 (kI .i64) kB)))) trivial <| cp (oMv tm) (s1 rfl) <| cp (oCallV rfl (rl2si (o := (fun r => (sFun Tryd.prog (rl1 (kI .i64) kB r)))) hy1) tm (opds_cons (cI (by decide)) (opds_cons (cI (by decide)) opds_nil))) (s1 rfl) <| cwn (oInsert (n := 0) (dk := (kI .i64)) (dv := (kFn Tryd.prog (rl1 (kI .i64) kB))) rfl u128 mk3 rfl rfl tm (cI (by decide)) (oSome tm)) (s2 rfl rfl) <| cp (oMv tm) (s1 rfl) <| cp (oCallV rfl (rl2si (o := (fun r => (sFun Tryd.prog (rl1 (kI .i64) kB r)))) hy2) tm (opds_cons (cI (by decide)) (opds_cons (cI (by decide)) opds_nil))) (s1 rfl) <| cwn (oInsert (n := 0) (dk := (kI .i64)) (dv := (kFn Tryd.prog (rl1 (kI .i64) kB))) rfl u128 mk3 rfl rfl tm (cI (by decide)) (oSome tm)) (s2 rfl rfl) <| cp (oMv tm) (s1 rfl) <| cp (oCallV rfl (rl2si (o := (fun r => (sFun Tryd.prog (rl1 (kI .i64) kB r)))) hy3) tm (opds_cons (cI (by decide)) (opds_cons (cI (by decide)) opds_nil))) (s1 rfl) <| cwn (oInsert (n := 0) (dk := (kI .i64)) (dv := (kFn Tryd.prog (rl1 (kI .i64) kB))) rfl u128 mk3 rfl rfl tm (cI (by decide)) (oSome tm)) (s2 rfl rfl) <| cp (oMv tm) (s1 rfl) <| cp (oCallV rfl (rl2si (o := (fun r => (sFun Tryd.prog (rl1 (kI .i64) kB r)))) hy4) tm (opds_cons (cI (by decide)) (opds_cons (cI (by decide)) opds_nil))) (s1 rfl) <| cwn (oInsert (n := 0) (dk := (kI .i64)) (dv := (kFn Tryd.prog (rl1 (kI .i64) kB))) rfl u128 mk3 rfl rfl tm (cI (by decide)) (oSome tm)) (s2 rfl rfl) <| cp (oMv tm) (s1 rfl) <| cp (oAs tm) (s1 rfl) <| .nil) (by kernel_rfl) ?_
  refine pSeq ?_
  refine wFrzM (n := 0) (id := 2) 0 rfl rfl ?_
  refine wRet ?_
  obtain rfl := so h
  exact pR1 (.inl rfl) rfl (.tmp rfl <| .nil)

theorem code_right.ok {a0 : Int} {a1 : api_Instr} {r : Bool} (h : code_right.f a0 a1 = some r) : FnA Tryd.prog 49 [(kI .i64).sig a0, (kR f_api_Instr).sig a1] (kB.sig r) := by
  refine fnIntro Tryd.func49 rfl (by kernel_rfl) fun H0 w0 => ?_
  unfold code_right.f at h
  refine wSeq ?_
  refine rg (cp (oBox tm) (s1 rfl) <| cp (oAs cB) trivial <| .nil) (by kernel_rfl) ?_
  refine pSeq ?_
  refine wSeq ?_
  obtain ⟨o1, h, hk1⟩ := bd h
  refine wJ1 (fun x2 => x2 = o1) (fun x2 => [(0, .d ((kI .i64).sig a0)), (3, .d (sP (kR f_api_Instr) a1)), (14, .d (kB.sig x2))]) (fun x2 => []) ?_ ?_
  · rcases ic h with ⟨hp3, h⟩ | ⟨hp3, h⟩
    · refine rg (cp (oFld (fs := f_api_Instr) (k := 0) rfl o78_0 tm) (s1 rfl) <| cp (oLd t3 tm) (s1 rfl) <| cp (oLt rfl tm (cI (by decide))) (s1 rfl) <| cp (oMv tm) (s1 rfl) <| csB (decide_eq_true hp3) rfl rfl <| csB (decide_eq_true hp3) rfl rfl <| csB (decide_eq_true hp3) rfl rfl <| cp (oPkT (decide_eq_true hp3) tm cB) (s1 rfl) <| .nil) (by kernel_rfl) ?_
      exact pJ1 _ (so h) ⟨rfl, rfl, rfl, trivial⟩ rfl
    · refine rg (cp (oFld (fs := f_api_Instr) (k := 0) rfl o78_0 tm) (s1 rfl) <| cp (oLd t3 tm) (s1 rfl) <| cp (oLt rfl tm (cI (by decide))) (s1 rfl) <| cp (oMv tm) (s1 rfl) <| cgB (decide_eq_false hp3) rfl rfl (oFld (fs := f_api_Instr) (k := 0) rfl o78_0 tm) (s1 rfl) <| cgB (decide_eq_false hp3) rfl rfl (oLd t3 tm) (s1 rfl) <| cgB (decide_eq_false hp3) rfl rfl (oGe rfl tm (cI (by decide))) (s1 rfl) <| cp (oPkF (decide_eq_false hp3) tm tm) (s2 rfl rfl) <| .nil) (by kernel_rfl) ?_
      exact pJ1 _ (so h) ⟨rfl, rfl, rfl, trivial⟩ rfl
  · rintro x2 rfl
    replace h := hk1
    rcases ic h with ⟨hp4, h⟩ | ⟨hp4, h⟩
    · refine wBT hp4 tm (s1 rfl) ?_
      refine wSeq ?_
      refine rg (cp (oAs cB) trivial <| .nil) (by kernel_rfl) ?_
      refine pSeq ?_
      refine wRet ?_
      refine pThenR ?_
      obtain rfl := so h
      exact pR1 (.inl rfl) rfl (.tmp rfl <| .nil)
    · refine wBF hp4 tm (s1 rfl) ?_
      refine wSkip ?_
      refine pSeq ?_
      refine wSeq ?_
      refine wSeq ?_
      obtain ⟨y5, hy5, h⟩ := bd h
      refine rgD hm (cp (oCall rfl (code_spans.ok hy5) b81 opds_nil) trivial <| cp (oFld (fs := f_api_Instr) (k := 0) rfl o78_0 tm) (s1 rfl) <| cp (oLd t3 tm) (s1 rfl) <| cp (oLookup u128 mk3 zv80 zFn rfl tm tm) (s2 rfl rfl) <| cp (oMv tm) (s1 rfl) <| cp (oExt (k := 0) rfl tm) (s1 rfl) <| cp (oExt (k := 1) rfl tm) (s1 rfl) <| cp (oAs tm) (s1 rfl) <| cp (oAs tm) (s1 rfl) <| .nil) (by kernel_rfl) (by kernel_rfl) ?_
      refine pSeq ?_
      obtain ⟨o1, h, hk1⟩ := bd h
      refine wJ1 (fun x12 => x12 = o1) (fun x12 => [(0, .d ((kI .i64).sig a0)), (3, .d (sP (kR f_api_Instr) a1)), (38, .d (kB.sig x12))]) (fun x12 => []) ?_ ?_
      · rcases ic h with ⟨hp13, h⟩ | ⟨hp13, h⟩
        · obtain ⟨y14, hy14, h⟩ := bd h
          obtain ⟨y15, hy15, h⟩ := bd h
          rcases ic h with ⟨hp16, h⟩ | ⟨hp16, h⟩
          · refine rg (cp (oMv tm) (s1 rfl) <| cp (oMv tm) (s1 rfl) <| cgB hp13 rfl rfl (oMv tm) (s1 rfl) <| cgB hp13 rfl rfl (oFld (fs := f_api_Instr) (k := 1) rfl o78_1 tm) (s1 rfl) <| cgB hp13 rfl rfl (oLd t3 tm) (s1 rfl) <| cgB hp13 rfl rfl (oCallV rfl (rl1i hy15) (oGot hy14 tm) (opds_cons tm opds_nil)) (s2 rfl rfl) <| cgB hp13 rfl rfl (oNot tm) (s1 rfl) <| cp (oPkT hp13 tm tm) (s2 rfl rfl) <| cp (oMv tm) (s1 rfl) <| csB hp16 rfl rfl <| csB hp16 rfl rfl <| csB hp16 rfl rfl <| csU rfl rfl <| csU rfl rfl <| csU rfl rfl <| csB hp16 rfl rfl <| cp (oPkT hp16 tm cB) (s1 rfl) <| .nil) (by kernel_rfl) ?_
            exact pJ1 _ (so h) ⟨rfl, rfl, rfl, trivial⟩ rfl
          · rcases ic h with ⟨hp17, h⟩ | ⟨hp17, h⟩
            · refine rg (cp (oMv tm) (s1 rfl) <| cp (oMv tm) (s1 rfl) <| cgB hp13 rfl rfl (oMv tm) (s1 rfl) <| cgB hp13 rfl rfl (oFld (fs := f_api_Instr) (k := 1) rfl o78_1 tm) (s1 rfl) <| cgB hp13 rfl rfl (oLd t3 tm) (s1 rfl) <| cgB hp13 rfl rfl (oCallV rfl (rl1i hy15) (oGot hy14 tm) (opds_cons tm opds_nil)) (s2 rfl rfl) <| cgB hp13 rfl rfl (oNot tm) (s1 rfl) <| cp (oPkT hp13 tm tm) (s2 rfl rfl) <| cp (oMv tm) (s1 rfl) <| cgB (nb hp16) rfl rfl (oMv tm) (s1 rfl) <| cgB (nb hp16) rfl rfl (oNot tm) (s1 rfl) <| cgB (nb hp16) rfl rfl (oMv tm) (s1 rfl) <| cgB hp17 rfl rfl (oFld (fs := f_api_Instr) (k := 1) rfl o78_1 tm) (s1 rfl) <| cgB hp17 rfl rfl (oLd t3 tm) (s1 rfl) <| cgB hp17 rfl rfl (oNe rfl tm (cI (by decide))) (s1 rfl) <| cgB (nb hp16) rfl rfl (oPkT hp17 tm tm) (s2 rfl rfl) <| cp (oPkF (nb hp16) tm tm) (s2 rfl rfl) <| .nil) (by kernel_rfl) ?_
              exact pJ1 _ (so h) ⟨rfl, rfl, rfl, trivial⟩ rfl
            · refine rg (cp (oMv tm) (s1 rfl) <| cp (oMv tm) (s1 rfl) <| cgB hp13 rfl rfl (oMv tm) (s1 rfl) <| cgB hp13 rfl rfl (oFld (fs := f_api_Instr) (k := 1) rfl o78_1 tm) (s1 rfl) <| cgB hp13 rfl rfl (oLd t3 tm) (s1 rfl) <| cgB hp13 rfl rfl (oCallV rfl (rl1i hy15) (oGot hy14 tm) (opds_cons tm opds_nil)) (s2 rfl rfl) <| cgB hp13 rfl rfl (oNot tm) (s1 rfl) <| cp (oPkT hp13 tm tm) (s2 rfl rfl) <| cp (oMv tm) (s1 rfl) <| cgB (nb hp16) rfl rfl (oMv tm) (s1 rfl) <| cgB (nb hp16) rfl rfl (oNot tm) (s1 rfl) <| cgB (nb hp16) rfl rfl (oMv tm) (s1 rfl) <| csB (nb hp17) rfl rfl <| csB (nb hp17) rfl rfl <| csB (nb hp17) rfl rfl <| cgB (nb hp16) rfl rfl (oPkF (nb hp17) tm cB) (s1 rfl) <| cp (oPkF (nb hp16) tm tm) (s2 rfl rfl) <| .nil) (by kernel_rfl) ?_
              exact pJ1 _ (so h) ⟨rfl, rfl, rfl, trivial⟩ rfl
        · rcases ic h with ⟨hp18, h⟩ | ⟨hp18, h⟩
          · refine rg (cp (oMv tm) (s1 rfl) <| cp (oMv tm) (s1 rfl) <| csB (nb hp13) rfl rfl <| csB (nb hp13) rfl rfl <| csB (nb hp13) rfl rfl <| csB (nb hp13) rfl rfl <| csB (nb hp13) rfl rfl <| cp (oPkF (nb hp13) tm cB) (s1 rfl) <| cp (oMv tm) (s1 rfl) <| cgB rfl rfl rfl (oMv tm) (s1 rfl) <| cgB rfl rfl rfl (oNot tm) (s1 rfl) <| cgB rfl rfl rfl (oMv tm) (s1 rfl) <| cgB hp18 rfl rfl (oFld (fs := f_api_Instr) (k := 1) rfl o78_1 tm) (s1 rfl) <| cgB hp18 rfl rfl (oLd t3 tm) (s1 rfl) <| cgB hp18 rfl rfl (oNe rfl tm (cI (by decide))) (s1 rfl) <| cgB rfl rfl rfl (oPkT hp18 tm tm) (s2 rfl rfl) <| cp (oPkF rfl tm tm) (s2 rfl rfl) <| .nil) (by kernel_rfl) ?_
            exact pJ1 _ (so h) ⟨rfl, rfl, rfl, trivial⟩ rfl
          · refine rg (cp (oMv tm) (s1 rfl) <| cp (oMv tm) (s1 rfl) <| csB (nb hp13) rfl rfl <| csB (nb hp13) rfl rfl <| csB (nb hp13) rfl rfl <| csB (nb hp13) rfl rfl <| csB (nb hp13) rfl rfl <| cp (oPkF (nb hp13) tm cB) (s1 rfl) <| cp (oMv tm) (s1 rfl) <| cgB rfl rfl rfl (oMv tm) (s1 rfl) <| cgB rfl rfl rfl (oNot tm) (s1 rfl) <| cgB rfl rfl rfl (oMv tm) (s1 rfl) <| csB (nb hp18) rfl rfl <| csB (nb hp18) rfl rfl <| csB (nb hp18) rfl rfl <| cgB rfl rfl rfl (oPkF (nb hp18) tm cB) (s1 rfl) <| cp (oPkF rfl tm tm) (s2 rfl rfl) <| .nil) (by kernel_rfl) ?_
            exact pJ1 _ (so h) ⟨rfl, rfl, rfl, trivial⟩ rfl
      · rintro x12 rfl
        replace h := hk1
        rcases ic h with ⟨hp19, h⟩ | ⟨hp19, h⟩
        · refine wBT hp19 tm (s1 rfl) ?_
          refine wSeq ?_
          refine rg (cp (oAs cB) trivial <| .nil) (by kernel_rfl) ?_
          refine pSeq ?_
          refine wRet ?_
          refine pThenR ?_
          obtain rfl := so h
          exact pR1 (.inl rfl) rfl (.tmp rfl <| .nil)
        · refine wBF hp19 tm (s1 rfl) ?_
          refine wSkip ?_
          refine pSeq ?_
          refine wSeq ?_
          refine wSeq ?_
          refine rg (cp (oFld (fs := f_api_Instr) (k := 0) rfl o78_0 tm) (s1 rfl) <| cp (oLd t3 tm) (s1 rfl) <| cp (oEq rfl tm (cI (by decide))) (s1 rfl) <| .nil) (by kernel_rfl) ?_
          refine pSeq ?_
          rcases ic h with ⟨hp20, h⟩ | ⟨hp20, h⟩
          · refine wCT hp20 tm (s1 rfl) ?_
            obtain ⟨o1, h, hk1⟩ := bd h
            refine wJ1 (fun x22 => x22 = o1) (fun x22 => [(4, .d (kB.sig x22))]) (fun x22 => []) ?_ ?_
            · rcases ic h with ⟨hp23, h⟩ | ⟨hp23, h⟩
              · refine rg (cp (oFld (fs := f_api_Instr) (k := 2) rfl o78_2 tm) (s1 rfl) <| cp (oLd t3 tm) (s1 rfl) <| cp (oGe rfl tm (cI (by decide))) (s1 rfl) <| cp (oMv tm) (s1 rfl) <| cgB (decide_eq_true hp23) rfl rfl (oFld (fs := f_api_Instr) (k := 2) rfl o78_2 tm) (s1 rfl) <| cgB (decide_eq_true hp23) rfl rfl (oLd t3 tm) (s1 rfl) <| cgB (decide_eq_true hp23) rfl rfl (oMv tm) (s1 rfl) <| cgB (decide_eq_true hp23) rfl rfl (oLt rfl tm tm) (s2 rfl rfl) <| cp (oPkT (decide_eq_true hp23) tm tm) (s2 rfl rfl) <| cp (oAs tm) (s1 rfl) <| .nil) (by kernel_rfl) ?_
                exact pJ1 _ (so h) ⟨rfl, trivial⟩ rfl
              · refine rg (cp (oFld (fs := f_api_Instr) (k := 2) rfl o78_2 tm) (s1 rfl) <| cp (oLd t3 tm) (s1 rfl) <| cp (oGe rfl tm (cI (by decide))) (s1 rfl) <| cp (oMv tm) (s1 rfl) <| csB (decide_eq_false hp23) rfl rfl <| csB (decide_eq_false hp23) rfl rfl <| csB (decide_eq_false hp23) rfl rfl <| csB (decide_eq_false hp23) rfl rfl <| cp (oPkF (decide_eq_false hp23) tm cB) (s1 rfl) <| cp (oAs tm) (s1 rfl) <| .nil) (by kernel_rfl) ?_
                exact pJ1 _ (so h) ⟨rfl, trivial⟩ rfl
            · rintro x22 rfl
              replace h := hk1
              refine wRet ?_
              refine pThenR ?_
              obtain rfl := so h
              exact pR1 (.inl rfl) rfl (.tmp rfl <| .nil)
          · refine wCF hp20 tm (s1 rfl) ?_
            refine wSkip ?_
            refine pSeq ?_
            refine wSeq ?_
            refine rg (cp (oFld (fs := f_api_Instr) (k := 2) rfl o78_2 tm) (s1 rfl) <| cp (oLd t3 tm) (s1 rfl) <| cp (oEq rfl tm (cI (by decide))) (s1 rfl) <| cp (oAs tm) (s1 rfl) <| .nil) (by kernel_rfl) ?_
            refine pSeq ?_
            refine wRet ?_
            obtain rfl := so h
            exact pR1 (.inl rfl) rfl (.tmp rfl <| .nil)

theorem slices_IndexFunc_api_Instr_api_Instr.ok {a0 : List api_Instr} {a1 : api_Instr → Option Bool} {r : Int} (h : slices_IndexFunc_api_Instr_api_Instr.f a0 a1 = some r) : FnA Tryd.prog 86 [(kL (kR f_api_Instr)).sig a0, (sFun Tryd.prog (rl1 (kR f_api_Instr) kB a1))] ((kI .i64).sig r) := by
  refine fnIntro Tryd.func86 rfl (by kernel_rfl) fun H0 w0 => ?_
  unfold slices_IndexFunc_api_Instr_api_Instr.f at h
  refine wSeq ?_
  refine rg (cp (oAs (cI (by decide))) trivial <| .nil) (by kernel_rfl) ?_
  refine pSeq ?_
  refine wSeq ?_
  refine wSeq ?_
  refine rg (cp (oMv tm) (s1 rfl) <| cp (oLenL u39 tm) (s1 rfl) <| cp (oMv (cI (by decide))) trivial <| .nil) (by kernel_rfl) ?_
  refine pSeq ?_
  obtain ⟨o1, h, hk1⟩ := bd h
  refine wK0 (.inr () = o1) ([]) ([]) ?_ ?_
  · refine wBlock (wLoop ?_)
    refine lW (pc1 o1 (fun v9 => [(0, .d ((kL (kR f_api_Instr)).sig a0)), (1, .d ((sFun Tryd.prog (rl1 (kR f_api_Instr) kB a1)))), (7, .d ((kI .i64).sig (a0.length : Int))), (8, .d ((kI .i64).sig v9))]) (fun v9 => []) (slices_IndexFunc_api_Instr_api_Instr.l0.partial_correctness a0 a1) ?_ _ h) ⟨rfl, rfl, rfl, rfl, trivial⟩ rfl
    clear h
    intro f' ih v9 h
    refine wSeq ?_
    refine rg (cp (oLt rfl tm tm) (s2 rfl rfl) <| .nil) (by kernel_rfl) ?_
    refine pSeq ?_
    refine wSeq ?_
    rcases ic h with ⟨hp10, h⟩ | ⟨hp10, h⟩
    · refine wCT hp10 tm (s1 rfl) ?_
      refine wSkip ?_
      refine pSeq ?_
      refine wSeq ?_
      refine wBlock ?_
      refine wSeq ?_
      refine rg (cp (oMv tm) (s1 rfl) <| cp (oAs tm) (s1 rfl) <| .nil) (by kernel_rfl) ?_
      refine pSeq ?_
      refine wSeq ?_
      obtain ⟨y11, hy11, h⟩ := bd h
      obtain ⟨y12, hy12, h⟩ := bd h
      refine rg (cp (oMv tm) (s1 rfl) <| cp (oMv tm) (s1 rfl) <| cp (oMv tm) (s1 rfl) <| cp (oIdx u39 z78 hy11 tm tm) (s2 rfl rfl) <| cp (oLd t78 tm) (s1 rfl) <| cp (oCallV rfl (rl1i hy12) tm (opds_cons tm opds_nil)) (s2 rfl rfl) <| .nil) (by kernel_rfl) ?_
      refine pSeq ?_
      rcases ic h with ⟨hp13, h⟩ | ⟨hp13, h⟩
      · refine wBT hp13 tm (s1 rfl) ?_
        refine wSeq ?_
        refine rg (cp (oMv tm) (s1 rfl) <| cp (oAs tm) (s1 rfl) <| .nil) (by kernel_rfl) ?_
        refine pSeq ?_
        refine wRet ?_
        refine pBlkR ?_
        refine pThenR ?_
        refine pThenR ?_
        refine pBlkR ?_
        refine pThenR ?_
        obtain rfl := so h
        replace h := hk1
        refine pThenR ?_
        obtain rfl := so h
        exact pR1 (.inl rfl) rfl (.tmp rfl <| .nil)
      · refine wBF hp13 tm (s1 rfl) ?_
        refine wSkip ?_
        refine pBlkN ?_
        refine pSeq ?_
        refine rg (cp (oAdd tm (cI (by decide))) (s1 rfl) <| cp (oMv tm) (s1 rfl) <| .nil) (by kernel_rfl) ?_
        exact pLoop (lW (ih _ h) ⟨rfl, rfl, rfl, rfl, trivial⟩ rfl)
    · refine wCF hp10 tm (s1 rfl) ?_
      refine wExit ?_
      refine pThenX ?_
      refine pThenX ?_
      refine pBlkX ?_
      exact pJ0 (so h) trivial rfl
  · rintro rfl
    replace h := hk1
    refine pSeq ?_
    refine wSeq ?_
    refine rg (cp (oAs (cI (by decide))) trivial <| .nil) (by kernel_rfl) ?_
    refine pSeq ?_
    refine wRet ?_
    obtain rfl := so h
    exact pR1 (.inl rfl) rfl (.tmp rfl <| .nil)

theorem slices_ContainsFunc_api_Instr_api_Instr.ok {a0 : List api_Instr} {a1 : api_Instr → Option Bool} {r : Bool} (h : slices_ContainsFunc_api_Instr_api_Instr.f a0 a1 = some r) : FnA Tryd.prog 50 [(kL (kR f_api_Instr)).sig a0, (sFun Tryd.prog (rl1 (kR f_api_Instr) kB a1))] (kB.sig r) := by
  refine fnIntro Tryd.func50 rfl (by kernel_rfl) fun H0 w0 => ?_
  unfold slices_ContainsFunc_api_Instr_api_Instr.f at h
  refine wSeq ?_
  refine rg (cp (oAs cB) trivial <| .nil) (by kernel_rfl) ?_
  refine pSeq ?_
  refine wSeq ?_
  obtain ⟨y1, hy1, h⟩ := bd h
  refine rg (cp (oMv tm) (s1 rfl) <| cp (oMv tm) (s1 rfl) <| cp (oCall rfl (slices_IndexFunc_api_Instr_api_Instr.ok hy1) b86 (opds_cons tm (opds_cons tm opds_nil))) (s2 rfl rfl) <| cp (oGe rfl tm (cI (by decide))) (s1 rfl) <| cp (oAs tm) (s1 rfl) <| .nil) (by kernel_rfl) ?_
  refine pSeq ?_
  refine wRet ?_
  obtain rfl := so h
  exact pR1 (.inl rfl) rfl (.tmp rfl <| .nil)

theorem code_Right_1.ok {a0 : api_Instr} {a1 : api_Lattice} {r : Bool} (h : code_Right_1.f a0 a1 = some r) : FnA Tryd.prog 48 [(kR f_api_Instr).sig a0, sP (kR f_api_Lattice) a1] (kB.sig r) := by
  refine fnIntro Tryd.func48 rfl (by kernel_rfl) fun H0 w0 => ?_
  unfold code_Right_1.f at h
  refine wSeq ?_
  refine rg (cp (oBox tm) (s1 rfl) <| cp (oAs cB) trivial <| .nil) (by kernel_rfl) ?_
  refine pSeq ?_
  refine wSeq ?_
  obtain ⟨y1, hy1, h⟩ := bd h
  refine rg (cp (oFld (fs := f_api_Lattice) (k := 1) rfl o38_1 tm) (s1 rfl) <| cp (oLd t36 tm) (s1 rfl) <| cp (oLenL u36 tm) (s1 rfl) <| cp (oLd t78 tm) (s1 rfl) <| cp (oCall rfl (code_right.ok hy1) b49 (opds_cons tm (opds_cons tm opds_nil))) (s2 rfl rfl) <| cp (oNot tm) (s1 rfl) <| cp (oAs tm) (s1 rfl) <| .nil) (by kernel_rfl) ?_
  refine pSeq ?_
  refine wRet ?_
  obtain rfl := so h
  exact pR1 (.inl rfl) rfl (.tmp rfl <| .nil)

theorem code_Right.ok {a0 : api_Lattice} {a1 : List api_Instr} {r : Bool} (h : code_Right.f a0 a1 = some r) : FnA Tryd.prog 16 [(kR f_api_Lattice).sig a0, (kL (kR f_api_Instr)).sig a1] (kB.sig r) := by
  refine fnIntro Tryd.func16 rfl (by kernel_rfl) fun H0 w0 => ?_
  unfold code_Right.f at h
  refine wSeq ?_
  refine rg (cp (oBox tm) (s1 rfl) <| cp (oAs cB) trivial <| .nil) (by kernel_rfl) ?_
  refine pSeq ?_
  refine wSeq ?_
  refine rg (cp (oMkF (Rl := rl1 (kR f_api_Instr) kB (fun z0 => code_Right_1.f z0 a0)) rfl b48 (rl1e code_Right_1.ok) (opds_cons tm opds_nil)) (s1 rfl) <| cp (oAs tm) (s1 rfl) <| .nil) (by kernel_rfl) ?_
  refine pSeq ?_
  obtain ⟨o1, h, hk1⟩ := bd h
  refine wJ1 (fun x5 => x5 = o1) (fun x5 => [(4, .d (kB.sig x5))]) (fun x5 => []) ?_ ?_
  · obtain ⟨y6, hy6, h⟩ := bd h
    rcases ic h with ⟨hp7, h⟩ | ⟨hp7, h⟩
    · rcases ic h with ⟨hp8, h⟩ | ⟨hp8, h⟩
      · obtain ⟨y9, hy9, h⟩ := bd h
        refine rg (cp (oLd t38 tm) (s1 rfl) <| cp (oCall rfl (lattice_Check.ok hy6) b39 (opds_cons tm opds_nil)) (s1 rfl) <| cp (oEq rfl tm (cI (by decide))) (s1 rfl) <| cp (oMv tm) (s1 rfl) <| cgB (decide_eq_true hp7) rfl rfl (oMv tm) (s1 rfl) <| cgB (decide_eq_true hp7) rfl rfl (oLenL u39 tm) (s1 rfl) <| cgB (decide_eq_true hp7) rfl rfl (oLe rfl tm (cI (by decide))) (s1 rfl) <| cp (oPkT (decide_eq_true hp7) tm tm) (s2 rfl rfl) <| cp (oMv tm) (s1 rfl) <| cgB (decide_eq_true hp8) rfl rfl (oMv tm) (s1 rfl) <| cgB (decide_eq_true hp8) rfl rfl (oMv tm) (s1 rfl) <| cgB (decide_eq_true hp8) rfl rfl (oCall rfl (slices_ContainsFunc_api_Instr_api_Instr.ok hy9) b50 (opds_cons tm (opds_cons tm opds_nil))) (s2 rfl rfl) <| cgB (decide_eq_true hp8) rfl rfl (oNot tm) (s1 rfl) <| cp (oPkT (decide_eq_true hp8) tm tm) (s2 rfl rfl) <| cp (oAs tm) (s1 rfl) <| .nil) (by kernel_rfl) ?_
        exact pJ1 _ (so h) ⟨rfl, trivial⟩ rfl
      · refine rg (cp (oLd t38 tm) (s1 rfl) <| cp (oCall rfl (lattice_Check.ok hy6) b39 (opds_cons tm opds_nil)) (s1 rfl) <| cp (oEq rfl tm (cI (by decide))) (s1 rfl) <| cp (oMv tm) (s1 rfl) <| cgB (decide_eq_true hp7) rfl rfl (oMv tm) (s1 rfl) <| cgB (decide_eq_true hp7) rfl rfl (oLenL u39 tm) (s1 rfl) <| cgB (decide_eq_true hp7) rfl rfl (oLe rfl tm (cI (by decide))) (s1 rfl) <| cp (oPkT (decide_eq_true hp7) tm tm) (s2 rfl rfl) <| cp (oMv tm) (s1 rfl) <| csB (decide_eq_false hp8) rfl rfl <| csB (decide_eq_false hp8) rfl rfl <| csB (decide_eq_false hp8) rfl rfl <| csB (decide_eq_false hp8) rfl rfl <| cp (oPkF (decide_eq_false hp8) tm cB) (s1 rfl) <| cp (oAs tm) (s1 rfl) <| .nil) (by kernel_rfl) ?_
        exact pJ1 _ (so h) ⟨rfl, trivial⟩ rfl
    · refine rg (cp (oLd t38 tm) (s1 rfl) <| cp (oCall rfl (lattice_Check.ok hy6) b39 (opds_cons tm opds_nil)) (s1 rfl) <| cp (oEq rfl tm (cI (by decide))) (s1 rfl) <| cp (oMv tm) (s1 rfl) <| csB (decide_eq_false hp7) rfl rfl <| csB (decide_eq_false hp7) rfl rfl <| csB (decide_eq_false hp7) rfl rfl <| cp (oPkF (decide_eq_false hp7) tm cB) (s1 rfl) <| cp (oMv tm) (s1 rfl) <| csB rfl rfl rfl <| csB rfl rfl rfl <| csB rfl rfl rfl <| csB rfl rfl rfl <| cp (oPkF rfl tm cB) (s1 rfl) <| cp (oAs tm) (s1 rfl) <| .nil) (by kernel_rfl) ?_
      exact pJ1 _ (so h) ⟨rfl, trivial⟩ rfl
  · rintro x5 rfl
    replace h := hk1
    refine wRet ?_
    obtain rfl := so h
    exact pR1 (.inl rfl) rfl (.tmp rfl <| .nil)

theorem table_Name.ok {a0 : Int} {r : Str × Int} (h : table_Name.f a0 = some r) : FnA Tryd.prog 40 [(kI .i64).sig a0] (tup [kS.sig r.1, (kI .i64).sig r.2]) := by
  refine fnIntro Tryd.func40 rfl (by kernel_rfl) fun H0 w0 => ?_
  unfold table_Name.f at h
  refine wSeq ?_
  refine rg (cp (oAs (cS (by decide))) trivial <| cp (oAs (cI (by decide))) trivial <| .nil) (by kernel_rfl) ?_
  refine pSeq ?_
  refine wSeq ?_
  obtain ⟨o1, h, hk1⟩ := bd h
  refine wJ1 (fun x2 => x2 = o1) (fun x2 => [(0, .d ((kI .i64).sig a0)), (9, .d (kB.sig x2))]) (fun x2 => []) ?_ ?_
  · rcases ic h with ⟨hp3, h⟩ | ⟨hp3, h⟩
    · refine rg (cp (oMv tm) (s1 rfl) <| cp (oLt rfl tm (cI (by decide))) (s1 rfl) <| cp (oMv tm) (s1 rfl) <| csB (decide_eq_true hp3) rfl rfl <| csB (decide_eq_true hp3) rfl rfl <| cp (oPkT (decide_eq_true hp3) tm cB) (s1 rfl) <| .nil) (by kernel_rfl) ?_
      exact pJ1 _ (so h) ⟨rfl, rfl, trivial⟩ rfl
    · refine rg (cp (oMv tm) (s1 rfl) <| cp (oLt rfl tm (cI (by decide))) (s1 rfl) <| cp (oMv tm) (s1 rfl) <| cgB (decide_eq_false hp3) rfl rfl (oMv tm) (s1 rfl) <| cgB (decide_eq_false hp3) rfl rfl (oGe rfl tm (cI (by decide))) (s1 rfl) <| cp (oPkF (decide_eq_false hp3) tm tm) (s2 rfl rfl) <| .nil) (by kernel_rfl) ?_
      exact pJ1 _ (so h) ⟨rfl, rfl, trivial⟩ rfl
  · rintro x2 rfl
    replace h := hk1
    rcases ic h with ⟨hp4, h⟩ | ⟨hp4, h⟩
    · refine wBT hp4 tm (s1 rfl) ?_
      refine wSeq ?_
      refine rg (cp (oAs (cS (by decide))) trivial <| cp (oAs (cI (by decide))) trivial <| .nil) (by kernel_rfl) ?_
      refine pSeq ?_
      refine wRet ?_
      refine pThenR ?_
      obtain rfl := so h
      exact pRn (.inl rfl) rfl rfl (.tmp rfl <| .tmp rfl <| .nil)
    · refine wBF hp4 tm (s1 rfl) ?_
      refine wSkip ?_
      refine pSeq ?_
      refine wSeq ?_
      obtain ⟨y5, hy5, h⟩ := bd h
      refine rg (cp (oMv tm) (s1 rfl) <| cp (oIdxG gm0 u102 rfl z9 hy5 tm) (s1 rfl) <| cp (oLd t9 tm) (s1 rfl) <| cp (oAs tm) (s1 rfl) <| cp (oAs (cI (by decide))) trivial <| .nil) (by kernel_rfl) ?_
      refine pSeq ?_
      refine wRet ?_
      obtain rfl := so h
      exact pRn (.inl rfl) rfl rfl (.tmp rfl <| .tmp rfl <| .nil)

theorem code_number.ok {a0 : Int} {r : Bool} (h : code_number.f a0 = some r) : FnA Tryd.prog 41 [(kI .i64).sig a0] (kB.sig r) := by
  refine fnIntro Tryd.func41 rfl (by kernel_rfl) fun H0 w0 => ?_
  unfold code_number.f at h
  refine wSeq ?_
  refine rg (cp (oAs cB) trivial <| .nil) (by kernel_rfl) ?_
  refine pSeq ?_
  refine wSeq ?_
  obtain ⟨y1, hy1, h⟩ := bd h
  refine rg (cp (oCall rfl (code_spans.ok hy1) b81 opds_nil) trivial <| cp (oMv tm) (s1 rfl) <| cp (oLookup u128 mk3 zv80 zFn rfl tm tm) (s2 rfl rfl) <| cp (oMv tm) (s1 rfl) <| cp (oExt (k := 0) rfl tm) (s1 rfl) <| cp (oExt (k := 1) rfl tm) (s1 rfl) <| cp (oAs tm) (s1 rfl) <| cp (oAs tm) (s1 rfl) <| .nil) (by kernel_rfl) ?_
  refine pSeq ?_
  refine wSeq ?_
  refine rg (cp (oMv tm) (s1 rfl) <| cp (oAs tm) (s1 rfl) <| .nil) (by kernel_rfl) ?_
  refine pSeq ?_
  refine wRet ?_
  obtain rfl := so h
  exact pR1 (.inl rfl) rfl (.tmp rfl <| .nil)

theorem code_signed.ok {a0 : Int} {r : Str} (h : code_signed.f a0 = some r) : FnA Tryd.prog 42 [(kI .i64).sig a0] (kS.sig r) := by
  refine fnIntro Tryd.func42 rfl (by kernel_rfl) fun H0 w0 => ?_
  unfold code_signed.f at h
  refine wSeq ?_
  refine rg (cp (oAs (cS (by decide))) trivial <| .nil) (by kernel_rfl) ?_
  refine pSeq ?_
  refine wSeq ?_
  refine wSeq ?_
  refine rg (cp (oMv tm) (s1 rfl) <| cp (oLt rfl tm (cI (by decide))) (s1 rfl) <| .nil) (by kernel_rfl) ?_
  refine pSeq ?_
  rcases ic h with ⟨hp1, h⟩ | ⟨hp1, h⟩
  · refine wCT hp1 tm (s1 rfl) ?_
    refine wSeq ?_
    obtain ⟨y2, hy2, h⟩ := bd h
    obtain ⟨hc3, h⟩ := ib h
    refine rg (cp (oMv tm) (s1 rfl) <| cp (oNeg tm) (s1 rfl) <| cp (oCall rfl (libItoa Tryd.strconv_Itoa_small hy2) b82 (opds_cons tm opds_nil)) (s1 rfl) <| cp (oSAdd hc3 (cS (by decide)) tm) (s1 rfl) <| cp (oAs tm) (s1 rfl) <| .nil) (by kernel_rfl) ?_
    refine pSeq ?_
    refine wRet ?_
    refine pThenR ?_
    obtain rfl := so h
    exact pR1 (.inl rfl) rfl (.tmp rfl <| .nil)
  · refine wCF hp1 tm (s1 rfl) ?_
    refine wSkip ?_
    refine pSeq ?_
    refine wSeq ?_
    obtain ⟨y4, hy4, h⟩ := bd h
    refine rg (cp (oMv tm) (s1 rfl) <| cp (oCall rfl (libItoa Tryd.strconv_Itoa_small hy4) b82 (opds_cons tm opds_nil)) (s1 rfl) <| cp (oAs tm) (s1 rfl) <| .nil) (by kernel_rfl) ?_
    refine pSeq ?_
    refine wRet ?_
    obtain rfl := so h
    exact pR1 (.inl rfl) rfl (.tmp rfl <| .nil)

theorem code_Text.ok {a0 : api_Lattice} {a1 : List api_Instr} {r : Str × Int} (h : code_Text.f a0 a1 = some r) : FnA Tryd.prog 13 [(kR f_api_Lattice).sig a0, (kL (kR f_api_Instr)).sig a1] (tup [kS.sig r.1, (kI .i64).sig r.2]) := by
  refine fnIntro Tryd.func13 rfl (by kernel_rfl) fun H0 w0 => ?_
  unfold code_Text.f at h
  refine wSeq ?_
  refine rg (cp (oBox tm) (s1 rfl) <| cp (oAs (cS (by decide))) trivial <| cp (oAs (cI (by decide))) trivial <| .nil) (by kernel_rfl) ?_
  refine pSeq ?_
  refine wSeq ?_
  refine wSeq ?_
  obtain ⟨y1, hy1, h⟩ := bd h
  refine rg (cp (oLd t38 tm) (s1 rfl) <| cp (oCall rfl (lattice_Check.ok hy1) b39 (opds_cons tm opds_nil)) (s1 rfl) <| cp (oAs tm) (s1 rfl) <| .nil) (by kernel_rfl) ?_
  refine pSeq ?_
  refine wSeq ?_
  refine rg (cp (oMv tm) (s1 rfl) <| cp (oNe rfl tm (cI (by decide))) (s1 rfl) <| .nil) (by kernel_rfl) ?_
  refine pSeq ?_
  rcases ic h with ⟨hp2, h⟩ | ⟨hp2, h⟩
  · refine wNT hp2 tm (s1 rfl) ?_
    refine wSkip ?_
    refine pSeq ?_
    refine wSeq ?_
    refine wSeq ?_
    obtain ⟨y3, hy3, h⟩ := bd h
    refine rg (cp (oLd t38 tm) (s1 rfl) <| cp (oMv tm) (s1 rfl) <| cp (oCall rfl (code_Right.ok hy3) b16 (opds_cons tm (opds_cons tm opds_nil))) (s2 rfl rfl) <| cp (oNot tm) (s1 rfl) <| .nil) (by kernel_rfl) ?_
    refine pSeq ?_
    rcases ic h with ⟨hp4, h⟩ | ⟨hp4, h⟩
    · refine wBT hp4 tm (s1 rfl) ?_
      refine wSeq ?_
      refine rg (cp (oAs (cS (by decide))) trivial <| cp (oAs (cI (by decide))) trivial <| .nil) (by kernel_rfl) ?_
      refine pSeq ?_
      refine wRet ?_
      refine pThenR ?_
      obtain rfl := so h
      exact pRn (.inl rfl) rfl rfl (.tmp rfl <| .tmp rfl <| .nil)
    · refine wBF hp4 tm (s1 rfl) ?_
      refine wSkip ?_
      refine pSeq ?_
      refine wSeq ?_
      refine rg (cp (oAs cV) trivial <| .nil) (by kernel_rfl) ?_
      refine pSeq ?_
      refine wSeq ?_
      refine wSeq ?_
      refine rg (cp (oMv tm) (s1 rfl) <| cp (oLenL u39 tm) (s1 rfl) <| cp (oMv (cI (by decide))) trivial <| .nil) (by kernel_rfl) ?_
      refine pSeq ?_
      refine wNil kS 9 1007 7 rfl rfl ?_
      obtain ⟨o1, h, hk1⟩ := bd h
      refine wK1 (fun x103 => x103 = o1) (fun x103 => [(7, .v 1007)]) (fun x103 => [.row 1007 9 kS x103]) ?_ ?_
      · refine wBlock (wLoop ?_)
        refine lW (pc2 o1 (fun v101 v102 => [(2, .d (sP (kR f_api_Lattice) a0)), (7, .v 1007), (21, .d ((kL (kR f_api_Instr)).sig a1)), (22, .d ((kI .i64).sig (a1.length : Int))), (23, .d ((kI .i64).sig v102))]) (fun v101 v102 => [.row 1007 9 kS v101]) (code_Text.l0.partial_correctness a0 a1) ?_ _ _ h) ⟨rfl, rfl, rfl, rfl, rfl, trivial⟩ rfl
        clear h
        intro f' ih v101 v102 h
        refine wSeq ?_
        refine rg (cp (oLt rfl tm tm) (s2 rfl rfl) <| .nil) (by kernel_rfl) ?_
        refine pSeq ?_
        refine wSeq ?_
        rcases ic h with ⟨hp104, h⟩ | ⟨hp104, h⟩
        · refine wCT hp104 tm (s1 rfl) ?_
          refine wSkip ?_
          refine pSeq ?_
          obtain ⟨o2, h, hk2⟩ := bd h
          refine wJ1 (fun x128 => x128 = o2) (fun x128 => [(2, .d (sP (kR f_api_Lattice) a0)), (7, .v 1007), (21, .d ((kL (kR f_api_Instr)).sig a1)), (22, .d ((kI .i64).sig (a1.length : Int))), (23, .d ((kI .i64).sig v102))]) (fun x128 => [.row 1007 9 kS x128]) ?_ ?_
          · refine wBlock ?_
            refine wSeq ?_
            obtain ⟨y129, hy129, h⟩ := bd h
            refine rg (cp (oIdx u39 z78 hy129 tm tm) (s2 rfl rfl) <| cp (oLd t78 tm) (s1 rfl) <| cw (oAlloc (id := 9) (ls := [.d (kI .i64) 0, .d (kI .i64) 0, .d (kI .i64) 0]) ze78 (fun g => ⟨[(.int .i64 0)], _, rfl, zI_i64 g.H, ⟨[(.int .i64 0)], _, rfl, zI_i64 g.H, ⟨[(.int .i64 0)], _, rfl, zI_i64 g.H, rfl⟩⟩⟩)) trivial <| cwn (oStA (n := 0) (fs := f_api_Instr) rfl rfl z78 tm tm) (s2 rfl rfl) <| .nil) (by kernel_rfl) ?_
            refine pSeq ?_
            refine wSeq ?_
            obtain ⟨y130, hy130, h⟩ := bd h
            refine rg (cp (oFldP o78_0 tm) (s1 rfl) <| cr (oLdB (n := 0) (k := 0) rfl rfl rfl t3 tm) (s1 rfl) <| cp (oCall rfl (table_Name.ok hy130) b40 (opds_cons tm opds_nil)) (s1 rfl) <| cp (oMv tm) (s1 rfl) <| cp (oExt (k := 0) rfl tm) (s1 rfl) <| cp (oExt (k := 1) rfl tm) (s1 rfl) <| cp (oAs tm) (s1 rfl) <| cp (oAs tm) (s1 rfl) <| .nil) (by kernel_rfl) ?_
            refine pSeq ?_
            refine wSeq ?_
            refine wSeq ?_
            obtain ⟨y131, hy131, h⟩ := bd h
            refine rg (cp (oFldP o78_0 tm) (s1 rfl) <| cr (oLdB (n := 0) (k := 0) rfl rfl rfl t3 tm) (s1 rfl) <| cp (oCall rfl (code_number.ok hy131) b41 (opds_cons tm opds_nil)) (s1 rfl) <| .nil) (by kernel_rfl) ?_
            refine pSeq ?_
            rcases ic h with ⟨hp132, h⟩ | ⟨hp132, h⟩
            · refine wBT hp132 tm (s1 rfl) ?_
              obtain ⟨y133, hy133, h⟩ := bd h
              obtain ⟨hc134, h⟩ := ib h
              obtain ⟨hc135, h⟩ := ib h
              refine rg (cp (oMv tm) (s1 rfl) <| cp (oFldP o78_1 tm) (s1 rfl) <| cr (oLdB (n := 0) (k := 1) rfl rfl rfl t3 tm) (s1 rfl) <| cp (oCall rfl (code_signed.ok hy133) b42 (opds_cons tm opds_nil)) (s1 rfl) <| cp (oSAdd hc134 (cS (by decide)) tm) (s1 rfl) <| cp (oSAdd hc135 tm tm) (s2 rfl rfl) <| cp (oAs tm) (s1 rfl) <| .nil) (by kernel_rfl) ?_
              refine pSeq ?_
              refine wSeq ?_
              refine wSeq ?_
              refine rg (cp (oFldP o78_0 tm) (s1 rfl) <| cr (oLdB (n := 0) (k := 0) rfl rfl rfl t3 tm) (s1 rfl) <| cp (oEq rfl tm (cI (by decide))) (s1 rfl) <| .nil) (by kernel_rfl) ?_
              refine pSeq ?_
              rcases ic h with ⟨hp136, h⟩ | ⟨hp136, h⟩
              · refine wCT hp136 tm (s1 rfl) ?_
                obtain ⟨y137, hy137, h⟩ := bd h
                obtain ⟨hc138, h⟩ := ib h
                obtain ⟨hc139, h⟩ := ib h
                refine rg (cp (oMv tm) (s1 rfl) <| cp (oFld (fs := f_api_Lattice) (k := 0) rfl o38_0 tm) (s1 rfl) <| cp (oLd t35 tm) (s1 rfl) <| cp (oFldP o78_2 tm) (s1 rfl) <| cr (oLdB (n := 0) (k := 2) rfl rfl rfl t3 tm) (s1 rfl) <| cp (oIdx u35 z9 hy137 tm tm) (s2 rfl rfl) <| cp (oLd t9 tm) (s1 rfl) <| cp (oSAdd hc138 (cS (by decide)) tm) (s1 rfl) <| cp (oSAdd hc139 tm tm) (s2 rfl rfl) <| cp (oAs tm) (s1 rfl) <| .nil) (by kernel_rfl) ?_
                refine pSeq ?_
                obtain ⟨hc140, h⟩ := ib h
                obtain ⟨hc141, h⟩ := ib h
                refine rg (cp (oMv tm) (s1 rfl) <| cp (oMv tm) (s1 rfl) <| cp (oSAdd hc140 tm (cS (by decide))) (s1 rfl) <| cp (oLit (d := kS) el35 (by decide) rfl rfl rfl (e1 tm e0)) (s1 rfl) <| cw (oApp (n := 1) (id' := 58) el35 (by decide) rfl (by decide) hc141 tm tm) (s2 rfl rfl) <| cp (oAs tm) (s1 rfl) <| .nil) (by kernel_rfl) ?_
                refine pBlkN ?_
                refine pDrop (.cons _ (.cons_cons _ .slnil)) ?_
                refine pSub (Γ' := [(2, .d (sP (kR f_api_Lattice) a0)), (7, .v 58), (21, .d ((kL (kR f_api_Instr)).sig a1)), (22, .d ((kI .i64).sig (a1.length : Int))), (23, .d ((kI .i64).sig v102))]) ⟨rfl, rfl, rfl, rfl, rfl, trivial⟩ ?_
                refine pRen 58 1007 rfl ?_
                exact pJ1 _ (so h) ⟨rfl, rfl, rfl, rfl, rfl, trivial⟩ rfl
              · refine wCF hp136 tm (s1 rfl) ?_
                refine wSkip ?_
                refine pSeq ?_
                obtain ⟨hc142, h⟩ := ib h
                obtain ⟨hc143, h⟩ := ib h
                refine rg (cp (oMv tm) (s1 rfl) <| cp (oMv tm) (s1 rfl) <| cp (oSAdd hc142 tm (cS (by decide))) (s1 rfl) <| cp (oLit (d := kS) el35 (by decide) rfl rfl rfl (e1 tm e0)) (s1 rfl) <| cw (oApp (n := 1) (id' := 58) el35 (by decide) rfl (by decide) hc143 tm tm) (s2 rfl rfl) <| cp (oAs tm) (s1 rfl) <| .nil) (by kernel_rfl) ?_
                refine pBlkN ?_
                refine pDrop (.cons _ (.cons_cons _ .slnil)) ?_
                refine pSub (Γ' := [(2, .d (sP (kR f_api_Lattice) a0)), (7, .v 58), (21, .d ((kL (kR f_api_Instr)).sig a1)), (22, .d ((kI .i64).sig (a1.length : Int))), (23, .d ((kI .i64).sig v102))]) ⟨rfl, rfl, rfl, rfl, rfl, trivial⟩ ?_
                refine pRen 58 1007 rfl ?_
                exact pJ1 _ (so h) ⟨rfl, rfl, rfl, rfl, rfl, trivial⟩ rfl
            · refine wBF hp132 tm (s1 rfl) ?_
              refine wSkip ?_
              refine pSeq ?_
              refine wSeq ?_
              refine wSeq ?_
              refine rg (cp (oFldP o78_0 tm) (s1 rfl) <| cr (oLdB (n := 0) (k := 0) rfl rfl rfl t3 tm) (s1 rfl) <| cp (oEq rfl tm (cI (by decide))) (s1 rfl) <| .nil) (by kernel_rfl) ?_
              refine pSeq ?_
              rcases ic h with ⟨hp144, h⟩ | ⟨hp144, h⟩
              · refine wCT hp144 tm (s1 rfl) ?_
                obtain ⟨y145, hy145, h⟩ := bd h
                obtain ⟨hc146, h⟩ := ib h
                obtain ⟨hc147, h⟩ := ib h
                refine rg (cp (oMv tm) (s1 rfl) <| cp (oFld (fs := f_api_Lattice) (k := 0) rfl o38_0 tm) (s1 rfl) <| cp (oLd t35 tm) (s1 rfl) <| cp (oFldP o78_2 tm) (s1 rfl) <| cr (oLdB (n := 0) (k := 2) rfl rfl rfl t3 tm) (s1 rfl) <| cp (oIdx u35 z9 hy145 tm tm) (s2 rfl rfl) <| cp (oLd t9 tm) (s1 rfl) <| cp (oSAdd hc146 (cS (by decide)) tm) (s1 rfl) <| cp (oSAdd hc147 tm tm) (s2 rfl rfl) <| cp (oAs tm) (s1 rfl) <| .nil) (by kernel_rfl) ?_
                refine pSeq ?_
                obtain ⟨hc148, h⟩ := ib h
                obtain ⟨hc149, h⟩ := ib h
                refine rg (cp (oMv tm) (s1 rfl) <| cp (oMv tm) (s1 rfl) <| cp (oSAdd hc148 tm (cS (by decide))) (s1 rfl) <| cp (oLit (d := kS) el35 (by decide) rfl rfl rfl (e1 tm e0)) (s1 rfl) <| cw (oApp (n := 1) (id' := 58) el35 (by decide) rfl (by decide) hc149 tm tm) (s2 rfl rfl) <| cp (oAs tm) (s1 rfl) <| .nil) (by kernel_rfl) ?_
                refine pBlkN ?_
                refine pDrop (.cons _ (.cons_cons _ .slnil)) ?_
                refine pSub (Γ' := [(2, .d (sP (kR f_api_Lattice) a0)), (7, .v 58), (21, .d ((kL (kR f_api_Instr)).sig a1)), (22, .d ((kI .i64).sig (a1.length : Int))), (23, .d ((kI .i64).sig v102))]) ⟨rfl, rfl, rfl, rfl, rfl, trivial⟩ ?_
                refine pRen 58 1007 rfl ?_
                exact pJ1 _ (so h) ⟨rfl, rfl, rfl, rfl, rfl, trivial⟩ rfl
              · refine wCF hp144 tm (s1 rfl) ?_
                refine wSkip ?_
                refine pSeq ?_
                obtain ⟨hc150, h⟩ := ib h
                obtain ⟨hc151, h⟩ := ib h
                refine rg (cp (oMv tm) (s1 rfl) <| cp (oMv tm) (s1 rfl) <| cp (oSAdd hc150 tm (cS (by decide))) (s1 rfl) <| cp (oLit (d := kS) el35 (by decide) rfl rfl rfl (e1 tm e0)) (s1 rfl) <| cw (oApp (n := 1) (id' := 58) el35 (by decide) rfl (by decide) hc151 tm tm) (s2 rfl rfl) <| cp (oAs tm) (s1 rfl) <| .nil) (by kernel_rfl) ?_
                refine pBlkN ?_
                refine pDrop (.cons _ (.cons_cons _ .slnil)) ?_
                refine pSub (Γ' := [(2, .d (sP (kR f_api_Lattice) a0)), (7, .v 58), (21, .d ((kL (kR f_api_Instr)).sig a1)), (22, .d ((kI .i64).sig (a1.length : Int))), (23, .d ((kI .i64).sig v102))]) ⟨rfl, rfl, rfl, rfl, rfl, trivial⟩ ?_
                refine pRen 58 1007 rfl ?_
                exact pJ1 _ (so h) ⟨rfl, rfl, rfl, rfl, rfl, trivial⟩ rfl
          · rintro x128 rfl
            replace h := hk2
            refine rg (cp (oAdd tm (cI (by decide))) (s1 rfl) <| cp (oMv tm) (s1 rfl) <| .nil) (by kernel_rfl) ?_
            exact pLoop (lW (ih _ _ h) ⟨rfl, rfl, rfl, rfl, rfl, trivial⟩ rfl)
        · refine wCF hp104 tm (s1 rfl) ?_
          refine wExit ?_
          refine pThenX ?_
          refine pThenX ?_
          refine pBlkX ?_
          exact pJ1 _ (so h) ⟨rfl, trivial⟩ rfl
      · rintro x103 rfl
        replace h := hk1
        refine pSeq ?_
        refine wSeq ?_
        obtain ⟨y152, hy152, h⟩ := bd h
        refine rg (cp (oMv tm) (s1 rfl) <| cr (oCallB rfl (libJoin Tryd.strings_Join_none Tryd.strings_Join hy152) (fK fS) b29 (rc1 (rR (n := 0) rfl) (rc1 (rD (cS (by decide))) rn0))) (s1 rfl) <| cp (oAs tm) (s1 rfl) <| cp (oAs (cI (by decide))) trivial <| .nil) (by kernel_rfl) ?_
        refine pSeq ?_
        refine wRet ?_
        obtain rfl := so h
        exact pRn (.inl rfl) rfl rfl (.tmp rfl <| .tmp rfl <| .nil)
  · refine wNF hp2 tm (s1 rfl) ?_
    refine wSeq ?_
    refine rg (cp (oMv tm) (s1 rfl) <| cp (oAs (cS (by decide))) trivial <| cp (oAs tm) (s1 rfl) <| .nil) (by kernel_rfl) ?_
    refine pSeq ?_
    refine wRet ?_
    refine pThenR ?_
    obtain rfl := so h
    exact pRn (.inl rfl) rfl rfl (.tmp rfl <| .tmp rfl <| .nil)

theorem lex_while.ok {a0 : Str} {a1 : Int → Option Bool} {r : Int} (h : lex_while.f a0 a1 = some r) : FnA Tryd.prog 119 [kS.sig a0, (sFun Tryd.prog (rl1 (kI .u8) kB a1))] ((kI .i64).sig r) := by
  refine fnIntro Tryd.func119 rfl (by kernel_rfl) fun H0 w0 => ?_
  unfold lex_while.f at h
  refine wSeq ?_
  refine rg (cp (oAs (cI (by decide))) trivial <| .nil) (by kernel_rfl) ?_
  refine pSeq ?_
  refine wSeq ?_
  refine rg (cp (oAs (cI (by decide))) trivial <| .nil) (by kernel_rfl) ?_
  refine pSeq ?_
  obtain ⟨o1, h, hk1⟩ := bd h
  refine wJ1 (fun x18 => x18 = o1) (fun x18 => [(5, .d ((kI .i64).sig x18))]) (fun x18 => []) ?_ ?_
  · refine wBlock (wLoop ?_)
    refine lW (pc1 o1 (fun v17 => [(0, .d (kS.sig a0)), (1, .d ((sFun Tryd.prog (rl1 (kI .u8) kB a1)))), (5, .d ((kI .i64).sig v17))]) (fun v17 => []) (lex_while.l0.partial_correctness a0 a1) ?_ _ h) ⟨rfl, rfl, rfl, trivial⟩ rfl
    clear h
    intro f' ih v17 h
    refine wSeq ?_
    obtain ⟨o2, h, hk2⟩ := bd h
    refine wJ1 (fun x22 => x22 = o2) (fun x22 => [(0, .d (kS.sig a0)), (1, .d ((sFun Tryd.prog (rl1 (kI .u8) kB a1)))), (5, .d ((kI .i64).sig v17)), (16, .d (kB.sig x22))]) (fun x22 => []) ?_ ?_
    · rcases ic h with ⟨hp23, h⟩ | ⟨hp23, h⟩
      · obtain ⟨hc24, h⟩ := ib h
        obtain ⟨y25, hy25, h⟩ := bd h
        refine rg (cp (oMv tm) (s1 rfl) <| cp (oMv tm) (s1 rfl) <| cp (oLenS u9 tm) (s1 rfl) <| cp (oLt rfl tm tm) (s2 rfl rfl) <| cp (oMv tm) (s1 rfl) <| cgB (decide_eq_true hp23) rfl rfl (oMv tm) (s1 rfl) <| cgB (decide_eq_true hp23) rfl rfl (oMv tm) (s1 rfl) <| cgB (decide_eq_true hp23) rfl rfl (oMv tm) (s1 rfl) <| cgB (decide_eq_true hp23) rfl rfl (oIdxS u9 hc24.1 hc24.2 tm tm) (s2 rfl rfl) <| cgB (decide_eq_true hp23) rfl rfl (oCallV rfl (rl1i hy25) tm (opds_cons tm opds_nil)) (s2 rfl rfl) <| cp (oPkT (decide_eq_true hp23) tm tm) (s2 rfl rfl) <| .nil) (by kernel_rfl) ?_
        exact pJ1 _ (so h) ⟨rfl, rfl, rfl, rfl, trivial⟩ rfl
      · refine rg (cp (oMv tm) (s1 rfl) <| cp (oMv tm) (s1 rfl) <| cp (oLenS u9 tm) (s1 rfl) <| cp (oLt rfl tm tm) (s2 rfl rfl) <| cp (oMv tm) (s1 rfl) <| csB (decide_eq_false hp23) rfl rfl <| csB (decide_eq_false hp23) rfl rfl <| csB (decide_eq_false hp23) rfl rfl <| csB (decide_eq_false hp23) rfl rfl <| csB (decide_eq_false hp23) rfl rfl <| cp (oPkF (decide_eq_false hp23) tm cB) (s1 rfl) <| .nil) (by kernel_rfl) ?_
        exact pJ1 _ (so h) ⟨rfl, rfl, rfl, rfl, trivial⟩ rfl
    · rintro x22 rfl
      replace h := hk2
      rcases ic h with ⟨hp26, h⟩ | ⟨hp26, h⟩
      · refine wBT hp26 tm (s1 rfl) ?_
        refine wSkip ?_
        refine pSeq ?_
        refine wBlock ?_
        refine rg (cp (oMv tm) (s1 rfl) <| cp (oAdd tm (cI (by decide))) (s1 rfl) <| cp (oAs tm) (s1 rfl) <| .nil) (by kernel_rfl) ?_
        refine pBlkN ?_
        exact pLoop (lW (ih _ h) ⟨rfl, rfl, rfl, trivial⟩ rfl)
      · refine wBF hp26 tm (s1 rfl) ?_
        refine wExit ?_
        refine pThenX ?_
        refine pThenX ?_
        refine pBlkX ?_
        exact pJ1 _ (so h) ⟨rfl, trivial⟩ rfl
  · rintro x18 rfl
    replace h := hk1
    refine wSeq ?_
    refine rg (cp (oMv tm) (s1 rfl) <| cp (oAs tm) (s1 rfl) <| .nil) (by kernel_rfl) ?_
    refine pSeq ?_
    refine wRet ?_
    obtain rfl := so h
    exact pR1 (.inl rfl) rfl (.tmp rfl <| .nil)

theorem lex_token_1.ok {a0 : Int} {r : Bool} (h : lex_token_1.f a0 = some r) : FnA Tryd.prog 120 [(kI .u8).sig a0] (kB.sig r) := by
  refine fnIntro Tryd.func120 rfl (by kernel_rfl) fun H0 w0 => ?_
  unfold lex_token_1.f at h
  refine wSeq ?_
  refine rg (cp (oAs cB) trivial <| .nil) (by kernel_rfl) ?_
  refine pSeq ?_
  refine wSeq ?_
  refine rg (cp (oMv tm) (s1 rfl) <| cp (oNe rfl tm (cI (by decide))) (s1 rfl) <| cp (oAs tm) (s1 rfl) <| .nil) (by kernel_rfl) ?_
  refine pSeq ?_
  refine wRet ?_
  obtain rfl := so h
  exact pR1 (.inl rfl) rfl (.tmp rfl <| .nil)

theorem lex_letter.ok {a0 : Int} {r : Bool} (h : lex_letter.f a0 = some r) : FnA Tryd.prog 121 [(kI .u8).sig a0] (kB.sig r) := by
  refine fnIntro Tryd.func121 rfl (by kernel_rfl) fun H0 w0 => ?_
  unfold lex_letter.f at h
  refine wSeq ?_
  refine rg (cp (oAs cB) trivial <| .nil) (by kernel_rfl) ?_
  refine pSeq ?_
  obtain ⟨o1, h, hk1⟩ := bd h
  refine wJ1 (fun x2 => x2 = o1) (fun x2 => [(2, .d (kB.sig x2))]) (fun x2 => []) ?_ ?_
  · rcases ic h with ⟨hp3, h⟩ | ⟨hp3, h⟩
    · refine rg (cp (oMv tm) (s1 rfl) <| cp (oGe rfl tm (cI (by decide))) (s1 rfl) <| cp (oMv tm) (s1 rfl) <| cgB (decide_eq_true hp3) rfl rfl (oMv tm) (s1 rfl) <| cgB (decide_eq_true hp3) rfl rfl (oLe rfl tm (cI (by decide))) (s1 rfl) <| cp (oPkT (decide_eq_true hp3) tm tm) (s2 rfl rfl) <| cp (oAs tm) (s1 rfl) <| .nil) (by kernel_rfl) ?_
      exact pJ1 _ (so h) ⟨rfl, trivial⟩ rfl
    · refine rg (cp (oMv tm) (s1 rfl) <| cp (oGe rfl tm (cI (by decide))) (s1 rfl) <| cp (oMv tm) (s1 rfl) <| csB (decide_eq_false hp3) rfl rfl <| csB (decide_eq_false hp3) rfl rfl <| cp (oPkF (decide_eq_false hp3) tm cB) (s1 rfl) <| cp (oAs tm) (s1 rfl) <| .nil) (by kernel_rfl) ?_
      exact pJ1 _ (so h) ⟨rfl, trivial⟩ rfl
  · rintro x2 rfl
    replace h := hk1
    refine wRet ?_
    obtain rfl := so h
    exact pR1 (.inl rfl) rfl (.tmp rfl <| .nil)

theorem lex_digit.ok {a0 : Int} {r : Bool} (h : lex_digit.f a0 = some r) : FnA Tryd.prog 122 [(kI .u8).sig a0] (kB.sig r) := by
  refine fnIntro Tryd.func122 rfl (by kernel_rfl) fun H0 w0 => ?_
  unfold lex_digit.f at h
  refine wSeq ?_
  refine rg (cp (oAs cB) trivial <| .nil) (by kernel_rfl) ?_
  refine pSeq ?_
  obtain ⟨o1, h, hk1⟩ := bd h
  refine wJ1 (fun x2 => x2 = o1) (fun x2 => [(2, .d (kB.sig x2))]) (fun x2 => []) ?_ ?_
  · rcases ic h with ⟨hp3, h⟩ | ⟨hp3, h⟩
    · refine rg (cp (oMv tm) (s1 rfl) <| cp (oGe rfl tm (cI (by decide))) (s1 rfl) <| cp (oMv tm) (s1 rfl) <| cgB (decide_eq_true hp3) rfl rfl (oMv tm) (s1 rfl) <| cgB (decide_eq_true hp3) rfl rfl (oLe rfl tm (cI (by decide))) (s1 rfl) <| cp (oPkT (decide_eq_true hp3) tm tm) (s2 rfl rfl) <| cp (oAs tm) (s1 rfl) <| .nil) (by kernel_rfl) ?_
      exact pJ1 _ (so h) ⟨rfl, trivial⟩ rfl
    · refine rg (cp (oMv tm) (s1 rfl) <| cp (oGe rfl tm (cI (by decide))) (s1 rfl) <| cp (oMv tm) (s1 rfl) <| csB (decide_eq_false hp3) rfl rfl <| csB (decide_eq_false hp3) rfl rfl <| cp (oPkF (decide_eq_false hp3) tm cB) (s1 rfl) <| cp (oAs tm) (s1 rfl) <| .nil) (by kernel_rfl) ?_
      exact pJ1 _ (so h) ⟨rfl, trivial⟩ rfl
  · rintro x2 rfl
    replace h := hk1
    refine wRet ?_
    obtain rfl := so h
    exact pR1 (.inl rfl) rfl (.tmp rfl <| .nil)

theorem stringslite_HasPrefix.ok {a0 : Str} {a1 : Str} {r : Bool} (h : stringslite_HasPrefix.f a0 a1 = some r) : FnA Tryd.prog 143 [kS.sig a0, kS.sig a1] (kB.sig r) := by
  refine fnIntro Tryd.func143 rfl (by kernel_rfl) fun H0 w0 => ?_
  unfold stringslite_HasPrefix.f at h
  refine wSeq ?_
  refine rg (cp (oAs cB) trivial <| .nil) (by kernel_rfl) ?_
  refine pSeq ?_
  obtain ⟨o1, h, hk1⟩ := bd h
  refine wJ1 (fun x3 => x3 = o1) (fun x3 => [(4, .d (kB.sig x3))]) (fun x3 => []) ?_ ?_
  · rcases ic h with ⟨hp4, h⟩ | ⟨hp4, h⟩
    · obtain ⟨hc5, h⟩ := ib h
      refine rg (cp (oMv tm) (s1 rfl) <| cp (oLenS u9 tm) (s1 rfl) <| cp (oMv tm) (s1 rfl) <| cp (oLenS u9 tm) (s1 rfl) <| cp (oGe rfl tm tm) (s2 rfl rfl) <| cp (oMv tm) (s1 rfl) <| cgB (decide_eq_true hp4) rfl rfl (oMv tm) (s1 rfl) <| cgB (decide_eq_true hp4) rfl rfl (oMv tm) (s1 rfl) <| cgB (decide_eq_true hp4) rfl rfl (oLenS u9 tm) (s1 rfl) <| cgB (decide_eq_true hp4) rfl rfl (oCutSH u9 hc5.1 hc5.2 tm tm) (s2 rfl rfl) <| cgB (decide_eq_true hp4) rfl rfl (oMv tm) (s1 rfl) <| cgB (decide_eq_true hp4) rfl rfl (oSEq rfl tm tm) (s2 rfl rfl) <| cp (oPkT (decide_eq_true hp4) tm tm) (s2 rfl rfl) <| cp (oAs tm) (s1 rfl) <| .nil) (by kernel_rfl) ?_
      exact pJ1 _ (so h) ⟨rfl, trivial⟩ rfl
    · refine rg (cp (oMv tm) (s1 rfl) <| cp (oLenS u9 tm) (s1 rfl) <| cp (oMv tm) (s1 rfl) <| cp (oLenS u9 tm) (s1 rfl) <| cp (oGe rfl tm tm) (s2 rfl rfl) <| cp (oMv tm) (s1 rfl) <| csB (decide_eq_false hp4) rfl rfl <| csB (decide_eq_false hp4) rfl rfl <| csB (decide_eq_false hp4) rfl rfl <| csB (decide_eq_false hp4) rfl rfl <| csB (decide_eq_false hp4) rfl rfl <| csB (decide_eq_false hp4) rfl rfl <| cp (oPkF (decide_eq_false hp4) tm cB) (s1 rfl) <| cp (oAs tm) (s1 rfl) <| .nil) (by kernel_rfl) ?_
      exact pJ1 _ (so h) ⟨rfl, trivial⟩ rfl
  · rintro x3 rfl
    replace h := hk1
    refine wRet ?_
    obtain rfl := so h
    exact pR1 (.inl rfl) rfl (.tmp rfl <| .nil)

theorem strings_HasPrefix.ok {a0 : Str} {a1 : Str} {r : Bool} (h : strings_HasPrefix.f a0 a1 = some r) : FnA Tryd.prog 123 [kS.sig a0, kS.sig a1] (kB.sig r) := by
  refine fnIntro Tryd.func123 rfl (by kernel_rfl) fun H0 w0 => ?_
  unfold strings_HasPrefix.f at h
  refine wSeq ?_
  refine rg (cp (oAs cB) trivial <| .nil) (by kernel_rfl) ?_
  refine pSeq ?_
  refine wSeq ?_
  obtain ⟨y1, hy1, h⟩ := bd h
  refine rg (cp (oMv tm) (s1 rfl) <| cp (oMv tm) (s1 rfl) <| cp (oCall rfl (stringslite_HasPrefix.ok hy1) b143 (opds_cons tm (opds_cons tm opds_nil))) (s2 rfl rfl) <| cp (oAs tm) (s1 rfl) <| .nil) (by kernel_rfl) ?_
  refine pSeq ?_
  refine wRet ?_
  obtain rfl := so h
  exact pR1 (.inl rfl) rfl (.tmp rfl <| .nil)

theorem lex_token.ok {a0 : Str} {r : Int × Int} (h : lex_token.f a0 = some r) : FnA Tryd.prog 87 [kS.sig a0] (tup [(kI .i64).sig r.1, (kI .i64).sig r.2]) := by
  refine fnIntro Tryd.func87 rfl (by kernel_rfl) fun H0 w0 => ?_
  unfold lex_token.f at h
  refine wSeq ?_
  refine rg (cp (oAs (cI (by decide))) trivial <| cp (oAs (cI (by decide))) trivial <| .nil) (by kernel_rfl) ?_
  refine pSeq ?_
  refine wSeq ?_
  obtain ⟨hc1, h⟩ := ib h
  refine rg (cp (oMv tm) (s1 rfl) <| cp (oIdxS u9 hc1.1 hc1.2 tm (cI (by decide))) (s1 rfl) <| cp (oAs tm) (s1 rfl) <| .nil) (by kernel_rfl) ?_
  refine pSeq ?_
  refine wSeq ?_
  refine wBlock ?_
  obtain ⟨o1, h, hk1⟩ := bd h
  refine wJ1 (fun x4 => x4 = o1) (fun x4 => [(0, .d (kS.sig a0)), (4, .d ((kI .u8).sig (sAt a0 0))), (7, .d (kB.sig x4))]) (fun x4 => []) ?_ ?_
  · rcases ic h with ⟨hp5, h⟩ | ⟨hp5, h⟩
    · refine rg (cp (oMv tm) (s1 rfl) <| cp (oEq rfl tm (cI (by decide))) (s1 rfl) <| cp (oMv tm) (s1 rfl) <| csB (decide_eq_true hp5) rfl rfl <| csB (decide_eq_true hp5) rfl rfl <| cp (oPkT (decide_eq_true hp5) tm cB) (s1 rfl) <| cp (oMv tm) (s1 rfl) <| csB rfl rfl rfl <| csB rfl rfl rfl <| cp (oPkT rfl tm cB) (s1 rfl) <| cp (oAs tm) (s1 rfl) <| .nil) (by kernel_rfl) ?_
      exact pJ1 _ (so h) ⟨rfl, rfl, rfl, trivial⟩ rfl
    · rcases ic h with ⟨hp6, h⟩ | ⟨hp6, h⟩
      · refine rg (cp (oMv tm) (s1 rfl) <| cp (oEq rfl tm (cI (by decide))) (s1 rfl) <| cp (oMv tm) (s1 rfl) <| cgB (decide_eq_false hp5) rfl rfl (oMv tm) (s1 rfl) <| cgB (decide_eq_false hp5) rfl rfl (oEq rfl tm (cI (by decide))) (s1 rfl) <| cp (oPkF (decide_eq_false hp5) tm tm) (s2 rfl rfl) <| cp (oMv tm) (s1 rfl) <| csB (decide_eq_true hp6) rfl rfl <| csB (decide_eq_true hp6) rfl rfl <| cp (oPkT (decide_eq_true hp6) tm cB) (s1 rfl) <| cp (oAs tm) (s1 rfl) <| .nil) (by kernel_rfl) ?_
        exact pJ1 _ (so h) ⟨rfl, rfl, rfl, trivial⟩ rfl
      · refine rg (cp (oMv tm) (s1 rfl) <| cp (oEq rfl tm (cI (by decide))) (s1 rfl) <| cp (oMv tm) (s1 rfl) <| cgB (decide_eq_false hp5) rfl rfl (oMv tm) (s1 rfl) <| cgB (decide_eq_false hp5) rfl rfl (oEq rfl tm (cI (by decide))) (s1 rfl) <| cp (oPkF (decide_eq_false hp5) tm tm) (s2 rfl rfl) <| cp (oMv tm) (s1 rfl) <| cgB (decide_eq_false hp6) rfl rfl (oMv tm) (s1 rfl) <| cgB (decide_eq_false hp6) rfl rfl (oEq rfl tm (cI (by decide))) (s1 rfl) <| cp (oPkF (decide_eq_false hp6) tm tm) (s2 rfl rfl) <| cp (oAs tm) (s1 rfl) <| .nil) (by kernel_rfl) ?_
        exact pJ1 _ (so h) ⟨rfl, rfl, rfl, trivial⟩ rfl
  · rintro x4 rfl
    replace h := hk1
    rcases ic h with ⟨hp7, h⟩ | ⟨hp7, h⟩
    · refine wBT hp7 tm (s1 rfl) ?_
      refine wSeq ?_
      refine rg (cp (oAs (cI (by decide))) trivial <| cp (oAs (cI (by decide))) trivial <| .nil) (by kernel_rfl) ?_
      refine pSeq ?_
      refine wRet ?_
      refine pBlkR ?_
      refine pThenR ?_
      obtain rfl := so h
      exact pRn (.inl rfl) rfl rfl (.tmp rfl <| .tmp rfl <| .nil)
    · refine wBF hp7 tm (s1 rfl) ?_
      refine wSeq ?_
      refine rg (cp (oMv tm) (s1 rfl) <| cp (oEq rfl tm (cI (by decide))) (s1 rfl) <| cp (oAs tm) (s1 rfl) <| .nil) (by kernel_rfl) ?_
      refine pSeq ?_
      rcases ic h with ⟨hp8, h⟩ | ⟨hp8, h⟩
      · refine wCT hp8 tm (s1 rfl) ?_
        refine wSeq ?_
        obtain ⟨y9, hy9, h⟩ := bd h
        refine rg (cp (oMv tm) (s1 rfl) <| cp (oCall rfl (lex_while.ok hy9) b119 (opds_cons tm (opds_cons (oFn b120 (rl1n lex_token_1.ok)) opds_nil))) (s1 rfl) <| cp (oAs (cI (by decide))) trivial <| cp (oAs tm) (s1 rfl) <| .nil) (by kernel_rfl) ?_
        refine pSeq ?_
        refine wRet ?_
        refine pBlkR ?_
        refine pThenR ?_
        obtain rfl := so h
        exact pRn (.inl rfl) rfl rfl (.tmp rfl <| .tmp rfl <| .nil)
      · refine wCF hp8 tm (s1 rfl) ?_
        refine wSeq ?_
        obtain ⟨y10, hy10, h⟩ := bd h
        refine rg (cp (oMv tm) (s1 rfl) <| cp (oCall rfl (lex_letter.ok hy10) b121 (opds_cons tm opds_nil)) (s1 rfl) <| cp (oAs tm) (s1 rfl) <| .nil) (by kernel_rfl) ?_
        refine pSeq ?_
        rcases ic h with ⟨hp11, h⟩ | ⟨hp11, h⟩
        · refine wBT hp11 tm (s1 rfl) ?_
          refine wSeq ?_
          obtain ⟨y12, hy12, h⟩ := bd h
          refine rg (cp (oMv tm) (s1 rfl) <| cp (oCall rfl (lex_while.ok hy12) b119 (opds_cons tm (opds_cons (oFn b121 (rl1n lex_letter.ok)) opds_nil))) (s1 rfl) <| cp (oAs (cI (by decide))) trivial <| cp (oAs tm) (s1 rfl) <| .nil) (by kernel_rfl) ?_
          refine pSeq ?_
          refine wRet ?_
          refine pBlkR ?_
          refine pThenR ?_
          obtain rfl := so h
          exact pRn (.inl rfl) rfl rfl (.tmp rfl <| .tmp rfl <| .nil)
        · refine wBF hp11 tm (s1 rfl) ?_
          refine wSeq ?_
          obtain ⟨y13, hy13, h⟩ := bd h
          refine rg (cp (oMv tm) (s1 rfl) <| cp (oCall rfl (lex_digit.ok hy13) b122 (opds_cons tm opds_nil)) (s1 rfl) <| cp (oAs tm) (s1 rfl) <| .nil) (by kernel_rfl) ?_
          refine pSeq ?_
          rcases ic h with ⟨hp14, h⟩ | ⟨hp14, h⟩
          · refine wBT hp14 tm (s1 rfl) ?_
            refine wSeq ?_
            obtain ⟨y15, hy15, h⟩ := bd h
            refine rg (cp (oMv tm) (s1 rfl) <| cp (oCall rfl (lex_while.ok hy15) b119 (opds_cons tm (opds_cons (oFn b122 (rl1n lex_digit.ok)) opds_nil))) (s1 rfl) <| cp (oAs (cI (by decide))) trivial <| cp (oAs tm) (s1 rfl) <| .nil) (by kernel_rfl) ?_
            refine pSeq ?_
            refine wRet ?_
            refine pBlkR ?_
            refine pThenR ?_
            obtain rfl := so h
            exact pRn (.inl rfl) rfl rfl (.tmp rfl <| .tmp rfl <| .nil)
          · refine wBF hp14 tm (s1 rfl) ?_
            refine wSeq ?_
            obtain ⟨y16, hy16, h⟩ := bd h
            refine rg (cp (oMv tm) (s1 rfl) <| cp (oCall rfl (strings_HasPrefix.ok hy16) b123 (opds_cons tm (opds_cons (cS (by decide)) opds_nil))) (s1 rfl) <| cp (oAs tm) (s1 rfl) <| .nil) (by kernel_rfl) ?_
            refine pSeq ?_
            rcases ic h with ⟨hp17, h⟩ | ⟨hp17, h⟩
            · refine wBT hp17 tm (s1 rfl) ?_
              refine wSeq ?_
              refine rg (cp (oAs (cI (by decide))) trivial <| cp (oAs (cI (by decide))) trivial <| .nil) (by kernel_rfl) ?_
              refine pSeq ?_
              refine wRet ?_
              refine pBlkR ?_
              refine pThenR ?_
              obtain rfl := so h
              exact pRn (.inl rfl) rfl rfl (.tmp rfl <| .tmp rfl <| .nil)
            · refine wBF hp17 tm (s1 rfl) ?_
              refine wSeq ?_
              obtain ⟨y18, hy18, h⟩ := bd h
              refine rg (cp (oMv tm) (s1 rfl) <| cp (oCall rfl (libIndexByte Tryd.strings_IndexByte hy18) b124 (opds_cons (cS (by decide)) (opds_cons tm opds_nil))) (s1 rfl) <| cp (oGe rfl tm (cI (by decide))) (s1 rfl) <| cp (oAs tm) (s1 rfl) <| .nil) (by kernel_rfl) ?_
              refine pSeq ?_
              rcases ic h with ⟨hp19, h⟩ | ⟨hp19, h⟩
              · refine wCT hp19 tm (s1 rfl) ?_
                refine wSeq ?_
                refine rg (cp (oAs (cI (by decide))) trivial <| cp (oAs (cI (by decide))) trivial <| .nil) (by kernel_rfl) ?_
                refine pSeq ?_
                refine wRet ?_
                refine pBlkR ?_
                refine pThenR ?_
                obtain rfl := so h
                exact pRn (.inl rfl) rfl rfl (.tmp rfl <| .tmp rfl <| .nil)
              · refine wCF hp19 tm (s1 rfl) ?_
                refine wSkip ?_
                refine pBlkN ?_
                refine pSeq ?_
                refine wSeq ?_
                refine rg (cp (oAs (cI (by decide))) trivial <| cp (oAs (cI (by decide))) trivial <| .nil) (by kernel_rfl) ?_
                refine pSeq ?_
                refine wRet ?_
                obtain rfl := so h
                exact pRn (.inl rfl) rfl rfl (.tmp rfl <| .tmp rfl <| .nil)

theorem lex_Lex.ok {a0 : Str} {r : (List api_Tok) × Int × Int} (h : lex_Lex.f a0 = some r) : FnA Tryd.prog 55 [kS.sig a0] (tup [(kL (kR f_api_Tok)).sig r.1, (kI .i64).sig r.2.1, (kI .i64).sig r.2.2]) := by
  refine fnIntro Tryd.func55 rfl (by kernel_rfl) fun H0 w0 => ?_
  unfold lex_Lex.f at h
  refine wSeq ?_
  refine rg (cp (oAs cV) trivial <| cp (oAs (cI (by decide))) trivial <| cp (oAs (cI (by decide))) trivial <| .nil) (by kernel_rfl) ?_
  refine pSeq ?_
  refine wSeq ?_
  refine wSeq ?_
  refine rg (cp (oMv tm) (s1 rfl) <| cp (oLenS u9 tm) (s1 rfl) <| cp (oGt rfl tm (cI (by decide))) (s1 rfl) <| .nil) (by kernel_rfl) ?_
  refine pSeq ?_
  rcases ic h with ⟨hp1, h⟩ | ⟨hp1, h⟩
  · refine wCT hp1 tm (s1 rfl) ?_
    refine wSeq ?_
    refine rg (cp (oAs cV) trivial <| cp (oAs (cI (by decide))) trivial <| cp (oAs (cI (by decide))) trivial <| .nil) (by kernel_rfl) ?_
    refine pSeq ?_
    refine wNil (kR f_api_Tok) 93 9002 2 rfl rfl ?_
    refine wFrzR (n := 0) (id := 9002) [2] rfl rfl ⟨rfl, trivial⟩ ?_
    refine wRet ?_
    refine pThenR ?_
    obtain rfl := so h
    exact pRn (.inl rfl) rfl rfl (.tmp rfl <| .tmp rfl <| .tmp rfl <| .nil)
  · refine wCF hp1 tm (s1 rfl) ?_
    refine wSkip ?_
    refine pSeq ?_
    refine wSeq ?_
    refine rg (cp (oAs cV) trivial <| .nil) (by kernel_rfl) ?_
    refine pSeq ?_
    refine wSeq ?_
    refine wSeq ?_
    refine rg (cp (oAs (cI (by decide))) trivial <| .nil) (by kernel_rfl) ?_
    refine pSeq ?_
    refine wNil (kR f_api_Tok) 93 1005 5 rfl rfl ?_
    obtain ⟨o1, h, hk1⟩ := bd h
    refine wK1 (fun x34 => .inr x34 = o1) (fun x34 => [(0, .d (kS.sig a0)), (5, .v 1005)]) (fun x34 => [.row 1005 93 (kR f_api_Tok) x34]) ?_ ?_
    · refine wBlock (wLoop ?_)
      refine lW (pc2 o1 (fun v32 v33 => [(0, .d (kS.sig a0)), (5, .v 1005), (6, .d ((kI .i64).sig v33))]) (fun v32 v33 => [.row 1005 93 (kR f_api_Tok) v32]) (lex_Lex.l0.partial_correctness a0) ?_ _ _ h) ⟨rfl, rfl, rfl, trivial⟩ rfl
      clear h
      intro f' ih v32 v33 h
      refine wSeq ?_
      refine wSeq ?_
      refine rg (cp (oMv tm) (s1 rfl) <| cp (oMv tm) (s1 rfl) <| cp (oLenS u9 tm) (s1 rfl) <| cp (oLt rfl tm tm) (s2 rfl rfl) <| .nil) (by kernel_rfl) ?_
      refine pSeq ?_
      rcases ic h with ⟨hp35, h⟩ | ⟨hp35, h⟩
      · refine wCT hp35 tm (s1 rfl) ?_
        refine wSkip ?_
        refine pSeq ?_
        obtain ⟨o2, h, hk2⟩ := bd h
        refine wK2 (fun x42 x43 => .inr (x42, x43) = o2) (fun x42 x43 => [(0, .d (kS.sig a0)), (5, .v 1005), (6, .d ((kI .i64).sig x43))]) (fun x42 x43 => [.row 1005 93 (kR f_api_Tok) x42]) ?_ ?_
        · refine wBlock ?_
          refine wSeq ?_
          obtain ⟨hc44, h⟩ := ib h
          obtain ⟨y45, hy45, h⟩ := bd h
          refine rg (cp (oMv tm) (s1 rfl) <| cp (oMv tm) (s1 rfl) <| cp (oCutSL u9 hc44.1 hc44.2 tm tm) (s2 rfl rfl) <| cp (oCall rfl (lex_token.ok hy45) b87 (opds_cons tm opds_nil)) (s1 rfl) <| cp (oMv tm) (s1 rfl) <| cp (oExt (k := 0) rfl tm) (s1 rfl) <| cp (oExt (k := 1) rfl tm) (s1 rfl) <| cp (oAs tm) (s1 rfl) <| cp (oAs tm) (s1 rfl) <| .nil) (by kernel_rfl) ?_
          refine pSeq ?_
          refine wSeq ?_
          refine wSeq ?_
          refine rg (cp (oMv tm) (s1 rfl) <| cp (oEq rfl tm (cI (by decide))) (s1 rfl) <| .nil) (by kernel_rfl) ?_
          refine pSeq ?_
          rcases ic h with ⟨hp46, h⟩ | ⟨hp46, h⟩
          · refine wCT hp46 tm (s1 rfl) ?_
            refine wSeq ?_
            refine rg (cp (oMv tm) (s1 rfl) <| cp (oAs cV) trivial <| cp (oAs tm) (s1 rfl) <| cp (oAs (cI (by decide))) trivial <| .nil) (by kernel_rfl) ?_
            refine pSeq ?_
            refine wNil (kR f_api_Tok) 93 9002 2 rfl rfl ?_
            refine wFrzR (n := 0) (id := 9002) [2] rfl rfl ⟨rfl, trivial⟩ ?_
            refine wRet ?_
            refine pThenR ?_
            refine pBlkR ?_
            refine pThenR ?_
            obtain rfl := so h
            replace h := hk2
            refine pThenR ?_
            refine pBlkR ?_
            refine pThenR ?_
            obtain rfl := so h
            replace h := hk1
            refine pThenR ?_
            obtain rfl := so h
            exact pRn (.inl rfl) rfl rfl (.tmp rfl <| .tmp rfl <| .tmp rfl <| .nil)
          · refine wCF hp46 tm (s1 rfl) ?_
            refine wSkip ?_
            refine pSeq ?_
            refine wSeq ?_
            refine wSeq ?_
            refine rg (cp (oMv tm) (s1 rfl) <| cp (oNe rfl tm (cI (by decide))) (s1 rfl) <| .nil) (by kernel_rfl) ?_
            refine pSeq ?_
            rcases ic h with ⟨hp47, h⟩ | ⟨hp47, h⟩
            · refine wNT hp47 tm (s1 rfl) ?_
              refine wSkip ?_
              refine pSeq ?_
              refine rg (cp (oMv tm) (s1 rfl) <| cp (oMv tm) (s1 rfl) <| cp (oAdd tm tm) (s2 rfl rfl) <| cp (oAs tm) (s1 rfl) <| .nil) (by kernel_rfl) ?_
              refine pBlkN ?_
              exact pJ2 _ _ (so h) ⟨rfl, rfl, rfl, trivial⟩ rfl
            · refine wNF hp47 tm (s1 rfl) ?_
              obtain ⟨hc48, h⟩ := ib h
              obtain ⟨hc49, h⟩ := ib h
              refine rg (cp (oMv tm) (s1 rfl) <| cp (oMv tm) (s1 rfl) <| cp (oMv tm) (s1 rfl) <| cp (oMv tm) (s1 rfl) <| cp (oMv tm) (s1 rfl) <| cp (oMv tm) (s1 rfl) <| cp (oAdd tm tm) (s2 rfl rfl) <| cp (oCutS u9 hc48.1 hc48.2.1 hc48.2.2 tm tm tm) (s3 rfl rfl rfl) <| cp (oMv tm) (s1 rfl) <| cp (oBuild (fs := f_api_Tok) (u := ⟨y45.1, sCut a0 v33 (IntKind.i64.wrap (v33 + y45.2)), v33⟩) rfl ze93 pl93 po93 (.op (zc := [(.int .i64 0)]) tm rfl (.op (zc := [(.string ⟨⟨[]⟩⟩)]) tm rfl (.op (zc := [(.int .i64 0)]) tm rfl .nil)))) (s3 rfl rfl rfl) <| cp (oLit (d := (kR f_api_Tok)) el88 (by decide) rfl rfl rfl (e1 tm e0)) (s1 rfl) <| cw (oApp (n := 0) (id' := 39) el88 (by decide) rfl (by decide) hc49 tm tm) (s2 rfl rfl) <| cp (oAs tm) (s1 rfl) <| .nil) (by kernel_rfl) ?_
              refine pSeq ?_
              refine rg (cp (oMv tm) (s1 rfl) <| cp (oMv tm) (s1 rfl) <| cp (oAdd tm tm) (s2 rfl rfl) <| cp (oAs tm) (s1 rfl) <| .nil) (by kernel_rfl) ?_
              refine pBlkN ?_
              refine pSub (Γ' := [(0, .d (kS.sig a0)), (5, .v 39), (6, .d ((kI .i64).sig (IntKind.i64.wrap (v33 + y45.2))))]) ⟨rfl, rfl, rfl, trivial⟩ ?_
              refine pRen 39 1005 rfl ?_
              exact pJ2 _ _ (so h) ⟨rfl, rfl, rfl, trivial⟩ rfl
        · rintro x42 x43 rfl
          replace h := hk2
          exact pLoop (lW (ih _ _ h) ⟨rfl, rfl, rfl, trivial⟩ rfl)
      · refine wCF hp35 tm (s1 rfl) ?_
        refine wExit ?_
        refine pThenX ?_
        refine pThenX ?_
        refine pBlkX ?_
        exact pJ1 _ (so h) ⟨rfl, rfl, trivial⟩ rfl
    · rintro x34 rfl
      replace h := hk1
      refine pSeq ?_
      refine wSeq ?_
      obtain ⟨hc50, h⟩ := ib h
      refine rg (cp (oMv tm) (s1 rfl) <| cp (oMv tm) (s1 rfl) <| cp (oLenS u9 tm) (s1 rfl) <| cp (oBuild (fs := f_api_Tok) (u := ⟨0, [], (a0.length : Int)⟩) rfl ze93 pl93 po93 (.ze (zc := [(.int .i64 0)]) zI_i64 (.ze (zc := [(.string ⟨⟨[]⟩⟩)]) zS (.op (zc := [(.int .i64 0)]) tm rfl .nil)))) (s1 rfl) <| cp (oLit (d := (kR f_api_Tok)) el88 (by decide) rfl rfl rfl (e1 tm e0)) (s1 rfl) <| cw (oApp (n := 0) (id' := 48) el88 (by decide) rfl (by decide) hc50 tm tm) (s2 rfl rfl) <| cp (oAs tm) (s1 rfl) <| .nil) (by kernel_rfl) ?_
      refine pSeq ?_
      refine wSeq ?_
      refine wSeq ?_
      refine rg (cp (oMv tm) (s1 rfl) <| cr (oLenR (n := 0) u88 rfl tm) (s1 rfl) <| cp (oGt rfl tm (cI (by decide))) (s1 rfl) <| .nil) (by kernel_rfl) ?_
      refine pSeq ?_
      rcases ic h with ⟨hp51, h⟩ | ⟨hp51, h⟩
      · refine wCT hp51 tm (s1 rfl) ?_
        refine wSeq ?_
        refine rg (cp (oAs cV) trivial <| cp (oAs (cI (by decide))) trivial <| cp (oAs (cI (by decide))) trivial <| .nil) (by kernel_rfl) ?_
        refine pSeq ?_
        refine wNil (kR f_api_Tok) 93 9002 2 rfl rfl ?_
        refine wFrzR (n := 0) (id := 9002) [2] rfl rfl ⟨rfl, trivial⟩ ?_
        refine wRet ?_
        refine pThenR ?_
        obtain rfl := so h
        exact pRn (.inl rfl) rfl rfl (.tmp rfl <| .tmp rfl <| .tmp rfl <| .nil)
      · refine wCF hp51 tm (s1 rfl) ?_
        refine wSkip ?_
        refine pSeq ?_
        refine wSeq ?_
        refine rg (cp (oMv tm) (s1 rfl) <| cp (oAs tm) (s1 rfl) <| cp (oAs (cI (by decide))) trivial <| cp (oAs (cI (by decide))) trivial <| .nil) (by kernel_rfl) ?_
        refine pSeq ?_
        refine wFrzR (n := 0) (id := 48) [2] rfl rfl ⟨rfl, trivial⟩ ?_
        refine wRet ?_
        obtain rfl := so h
        exact pRn (.inl rfl) rfl rfl (.tmp rfl <| .tmp rfl <| .tmp rfl <| .nil)

theorem code_reader_tok.ok {a0 : code_reader} {r : code_reader × api_Tok} (h : code_reader_tok.f a0 = some r) : FnS Tryd.prog 89 [.p 70000 0] [.box 70000 138 [.d (kL kS) a0.l_.Names, .d (kL (kI .u32)) a0.l_.Up, .d (kL (kR f_api_Tok)) a0.toks_, .d (kI .i64) a0.i_, .d (kI .i64) a0.bad_]] [70000] (.d ((kR f_api_Tok).sig r.2)) [.box 70000 138 [.d (kL kS) r.1.l_.Names, .d (kL (kI .u32)) r.1.l_.Up, .d (kL (kR f_api_Tok)) r.1.toks_, .d (kI .i64) r.1.i_, .d (kI .i64) r.1.bad_]] := by
  refine fnIntroS Tryd.func89 rfl (by kernel_rfl) fun X H0 w0 pv => ?_
  unfold code_reader_tok.f at h
  refine wSeq ?_
  refine rg (cw (oAlloc (id := 2) (ls := [.d (kI .i64) 0, .d kS [], .d (kI .i64) 0]) ze93 (fun g => ⟨[(.int .i64 0)], _, rfl, zI_i64 g.H, ⟨[(.string ⟨⟨[]⟩⟩)], _, rfl, zS g.H, ⟨[(.int .i64 0)], _, rfl, zI_i64 g.H, rfl⟩⟩⟩)) trivial <| .nil) (by kernel_rfl) ?_
  refine pSeq ?_
  refine wSeq ?_
  obtain ⟨y1, hy1, h⟩ := bd h
  refine rgD hm (cp (oMv tm) (s1 rfl) <| cp (oNilP tm) (s1 rfl) <| cp (oFldP o138_1 tm) (s1 rfl) <| cr (oLdB (n := 1) (k := 2) rfl rfl rfl t88 tm) (s1 rfl) <| cp (oMv tm) (s1 rfl) <| cp (oNilP tm) (s1 rfl) <| cp (oFldP o138_2 tm) (s1 rfl) <| cr (oLdB (n := 1) (k := 3) rfl rfl rfl t3 tm) (s1 rfl) <| cp (oIdx u88 z93 hy1 tm tm) (s2 rfl rfl) <| cp (oLd t93 tm) (s1 rfl) <| cwn (oStA (n := 0) (fs := f_api_Tok) rfl rfl z93 tm tm) (s2 rfl rfl) <| .nil) (by kernel_rfl) (by kernel_rfl) ?_
  refine pSeq ?_
  refine wRet ?_
  obtain rfl := so h
  exact pS1 [1] rfl rfl (.inl rfl) rfl (.box (n := 0) (fs := f_api_Tok) (u := ⟨y1.Kind, y1.Text, y1.At⟩) rfl rfl ⟨rfl, rfl, rfl, trivial⟩ t93 <| .nil)

theorem code_instruction.ok {a0 : api_Tok} {r : Int} (h : code_instruction.f a0 = some r) : FnA Tryd.prog 88 [(kR f_api_Tok).sig a0] ((kI .i64).sig r) := by
  refine fnIntro Tryd.func88 rfl (by kernel_rfl) fun H0 w0 => ?_
  unfold code_instruction.f at h
  refine wSeq ?_
  refine rg (cp (oBox tm) (s1 rfl) <| cp (oAs (cI (by decide))) trivial <| .nil) (by kernel_rfl) ?_
  refine pSeq ?_
  refine wSeq ?_
  refine wSeq ?_
  refine rg (cp (oMv (cI (by decide))) trivial <| .nil) (by kernel_rfl) ?_
  refine pSeq ?_
  obtain ⟨o1, h, hk1⟩ := bd h
  refine wK0 (.inr () = o1) ([]) ([]) ?_ ?_
  · refine wBlock (wLoop ?_)
    refine lW (pc1 o1 (fun v13 => [(1, .d (sP (kR f_api_Tok) a0)), (6, .d ((kI .i64).sig v13))]) (fun v13 => []) (code_instruction.l0.partial_correctness a0) ?_ _ h) ⟨rfl, rfl, trivial⟩ rfl
    clear h
    intro f' ih v13 h
    refine wSeq ?_
    refine rg (cp (oLt rfl tm (cI (by decide))) (s1 rfl) <| .nil) (by kernel_rfl) ?_
    refine pSeq ?_
    refine wSeq ?_
    rcases ic h with ⟨hp14, h⟩ | ⟨hp14, h⟩
    · refine wCT hp14 tm (s1 rfl) ?_
      refine wSkip ?_
      refine pSeq ?_
      refine wSeq ?_
      refine wBlock ?_
      refine wSeq ?_
      refine rg (cp (oMv tm) (s1 rfl) <| cp (oAs tm) (s1 rfl) <| .nil) (by kernel_rfl) ?_
      refine pSeq ?_
      refine wSeq ?_
      obtain ⟨y15, hy15, h⟩ := bd h
      refine rg (cp (oMv tm) (s1 rfl) <| cp (oCall rfl (table_Name.ok hy15) b40 (opds_cons tm opds_nil)) (s1 rfl) <| cp (oMv tm) (s1 rfl) <| cp (oExt (k := 0) rfl tm) (s1 rfl) <| cp (oExt (k := 1) rfl tm) (s1 rfl) <| cp (oAs tm) (s1 rfl) <| cp (oAs tm) (s1 rfl) <| .nil) (by kernel_rfl) ?_
      refine pSeq ?_
      obtain ⟨o2, h, hk2⟩ := bd h
      refine wJ1 (fun x17 => x17 = o2) (fun x17 => [(1, .d (sP (kR f_api_Tok) a0)), (3, .d ((kI .i64).sig v13)), (6, .d ((kI .i64).sig v13)), (22, .d (kB.sig x17))]) (fun x17 => []) ?_ ?_
      · rcases ic h with ⟨hp18, h⟩ | ⟨hp18, h⟩
        · refine rg (cp (oFld (fs := f_api_Tok) (k := 0) rfl o93_0 tm) (s1 rfl) <| cp (oLd t3 tm) (s1 rfl) <| cp (oEq rfl tm (cI (by decide))) (s1 rfl) <| cp (oMv tm) (s1 rfl) <| cgB (decide_eq_true hp18) rfl rfl (oMv tm) (s1 rfl) <| cgB (decide_eq_true hp18) rfl rfl (oFld (fs := f_api_Tok) (k := 1) rfl o93_1 tm) (s1 rfl) <| cgB (decide_eq_true hp18) rfl rfl (oLd t9 tm) (s1 rfl) <| cgB (decide_eq_true hp18) rfl rfl (oSEq rfl tm tm) (s2 rfl rfl) <| cp (oPkT (decide_eq_true hp18) tm tm) (s2 rfl rfl) <| .nil) (by kernel_rfl) ?_
          exact pJ1 _ (so h) ⟨rfl, rfl, rfl, rfl, trivial⟩ rfl
        · refine rg (cp (oFld (fs := f_api_Tok) (k := 0) rfl o93_0 tm) (s1 rfl) <| cp (oLd t3 tm) (s1 rfl) <| cp (oEq rfl tm (cI (by decide))) (s1 rfl) <| cp (oMv tm) (s1 rfl) <| csB (decide_eq_false hp18) rfl rfl <| csB (decide_eq_false hp18) rfl rfl <| csB (decide_eq_false hp18) rfl rfl <| csB (decide_eq_false hp18) rfl rfl <| cp (oPkF (decide_eq_false hp18) tm cB) (s1 rfl) <| .nil) (by kernel_rfl) ?_
          exact pJ1 _ (so h) ⟨rfl, rfl, rfl, rfl, trivial⟩ rfl
      · rintro x17 rfl
        replace h := hk2
        rcases ic h with ⟨hp19, h⟩ | ⟨hp19, h⟩
        · refine wBT hp19 tm (s1 rfl) ?_
          refine wSeq ?_
          refine rg (cp (oMv tm) (s1 rfl) <| cp (oAs tm) (s1 rfl) <| .nil) (by kernel_rfl) ?_
          refine pSeq ?_
          refine wRet ?_
          refine pBlkR ?_
          refine pThenR ?_
          refine pThenR ?_
          refine pBlkR ?_
          refine pThenR ?_
          obtain rfl := so h
          replace h := hk1
          refine pThenR ?_
          obtain rfl := so h
          exact pR1 (.inl rfl) rfl (.tmp rfl <| .nil)
        · refine wBF hp19 tm (s1 rfl) ?_
          refine wSkip ?_
          refine pBlkN ?_
          refine pSeq ?_
          refine rg (cp (oAdd tm (cI (by decide))) (s1 rfl) <| cp (oMv tm) (s1 rfl) <| .nil) (by kernel_rfl) ?_
          exact pLoop (lW (ih _ h) ⟨rfl, rfl, trivial⟩ rfl)
    · refine wCF hp14 tm (s1 rfl) ?_
      refine wExit ?_
      refine pThenX ?_
      refine pThenX ?_
      refine pBlkX ?_
      exact pJ0 (so h) trivial rfl
  · rintro rfl
    replace h := hk1
    refine pSeq ?_
    refine wSeq ?_
    refine rg (cp (oAs (cI (by decide))) trivial <| .nil) (by kernel_rfl) ?_
    refine pSeq ?_
    refine wRet ?_
    obtain rfl := so h
    exact pR1 (.inl rfl) rfl (.tmp rfl <| .nil)

theorem code_reader_fail.ok {a0 : code_reader} {a1 : Int} {r : code_reader} (h : code_reader_fail.f a0 a1 = some r) : FnS Tryd.prog 90 [.p 70000 0, .d ((kI .i64).sig a1)] [.box 70000 138 [.d (kL kS) a0.l_.Names, .d (kL (kI .u32)) a0.l_.Up, .d (kL (kR f_api_Tok)) a0.toks_, .d (kI .i64) a0.i_, .d (kI .i64) a0.bad_]] [70000] (.d (tup [])) [.box 70000 138 [.d (kL kS) r.l_.Names, .d (kL (kI .u32)) r.l_.Up, .d (kL (kR f_api_Tok)) r.toks_, .d (kI .i64) r.i_, .d (kI .i64) r.bad_]] := by
  refine fnIntroS Tryd.func90 rfl (by kernel_rfl) fun X H0 w0 pv => ?_
  unfold code_reader_fail.f at h
  refine wSeq ?_
  refine rg (cp (oMv tm) (s1 rfl) <| cp (oNilP tm) (s1 rfl) <| cp (oFldP o138_3 tm) (s1 rfl) <| cr (oLdB (n := 0) (k := 4) rfl rfl rfl t27 tm) (s1 rfl) <| cp (oEq rfl tm (cI (by decide))) (s1 rfl) <| .nil) (by kernel_rfl) ?_
  refine pSeq ?_
  rcases ic h with ⟨hp1, h⟩ | ⟨hp1, h⟩
  · refine wCT hp1 tm (s1 rfl) ?_
    refine rg (cp (oMv tm) (s1 rfl) <| cp (oMv tm) (s1 rfl) <| cp (oNilP tm) (s1 rfl) <| cp (oFldP o138_3 tm) (s1 rfl) <| cwn (oSt (n := 0) (k := 4) rfl rfl rfl rfl z27 tm tm) (s2 rfl rfl) <| .nil) (by kernel_rfl) ?_
    obtain rfl := so h
    exact pSn [0] rfl rfl (.inr rfl) rfl rfl (.nil)
  · refine wCF hp1 tm (s1 rfl) ?_
    refine wSkip ?_
    obtain rfl := so h
    exact pSn [0] rfl rfl (.inr rfl) rfl rfl (.nil)

theorem code_reader_number.ok {a0 : code_reader} {r : code_reader × Int} (h : code_reader_number.f a0 = some r) : FnS Tryd.prog 125 [.p 70000 0] [.box 70000 138 [.d (kL kS) a0.l_.Names, .d (kL (kI .u32)) a0.l_.Up, .d (kL (kR f_api_Tok)) a0.toks_, .d (kI .i64) a0.i_, .d (kI .i64) a0.bad_]] [70000] (.d ((kI .i64).sig r.2)) [.box 70000 138 [.d (kL kS) r.1.l_.Names, .d (kL (kI .u32)) r.1.l_.Up, .d (kL (kR f_api_Tok)) r.1.toks_, .d (kI .i64) r.1.i_, .d (kI .i64) r.1.bad_]] := by
  refine fnIntroS Tryd.func125 rfl (by kernel_rfl) fun X H0 w0 pv => ?_
  unfold code_reader_number.f at h
  refine wSeq ?_
  refine rg (cp (oAs (cI (by decide))) trivial <| .nil) (by kernel_rfl) ?_
  refine pSeq ?_
  refine wSeq ?_
  refine rg (cp (oAs (cI (by decide))) trivial <| .nil) (by kernel_rfl) ?_
  refine pSeq ?_
  refine wSeq ?_
  refine wSeq ?_
  obtain ⟨y1, hy1, h⟩ := bd h
  refine rg (cp (oMv tm) (s1 rfl) <| cm (oCallS (rest := []) (R' := [.box 70000 138 [.d (kL kS) y1.1.l_.Names, .d (kL (kI .u32)) y1.1.l_.Up, .d (kL (kR f_api_Tok)) y1.1.toks_, .d (kI .i64) y1.1.i_, .d (kI .i64) y1.1.bad_]]) (out' := .d ((kR f_api_Tok).sig y1.2)) [(70000, 70000)] [] [0] [] [0] rfl (code_reader_tok.ok hy1) b89 (oE1 tm oE0) rfl rfl rfl rfl rfl rfl rfl rfl) (s1 rfl) <| cw (oAlloc (id := 4) (ls := [.d (kI .i64) 0, .d kS [], .d (kI .i64) 0]) ze93 (fun g => ⟨[(.int .i64 0)], _, rfl, zI_i64 g.H, ⟨[(.string ⟨⟨[]⟩⟩)], _, rfl, zS g.H, ⟨[(.int .i64 0)], _, rfl, zI_i64 g.H, rfl⟩⟩⟩)) trivial <| cwn (oStA (n := 0) (fs := f_api_Tok) rfl rfl z93 tm tm) (s2 rfl rfl) <| .nil) (by kernel_rfl) ?_
  refine pSeq ?_
  obtain ⟨o1, h, hk1⟩ := bd h
  refine wJ1 (fun x3 => x3 = o1) (fun x3 => [(0, .p 70000 0), (3, .d ((kI .i64).sig 1)), (17, .d (kB.sig x3))]) (fun x3 => [.box 4 93 [.d (kI .i64) y1.2.Kind, .d kS y1.2.Text, .d (kI .i64) y1.2.At], .box 70000 138 [.d (kL kS) y1.1.l_.Names, .d (kL (kI .u32)) y1.1.l_.Up, .d (kL (kR f_api_Tok)) y1.1.toks_, .d (kI .i64) y1.1.i_, .d (kI .i64) y1.1.bad_]]) ?_ ?_
  · rcases ic h with ⟨hp4, h⟩ | ⟨hp4, h⟩
    · refine rg (cp (oFldP o93_0 tm) (s1 rfl) <| cr (oLdB (n := 0) (k := 0) rfl rfl rfl t3 tm) (s1 rfl) <| cp (oEq rfl tm (cI (by decide))) (s1 rfl) <| cp (oMv tm) (s1 rfl) <| cgB (decide_eq_true hp4) rfl rfl (oFldP o93_1 tm) (s1 rfl) <| crgB (decide_eq_true hp4) rfl rfl (oLdB (n := 0) (k := 1) rfl rfl rfl t9 tm) (s1 rfl) <| cgB (decide_eq_true hp4) rfl rfl (oSEq rfl tm (cS (by decide))) (s1 rfl) <| cp (oPkT (decide_eq_true hp4) tm tm) (s2 rfl rfl) <| .nil) (by kernel_rfl) ?_
      exact pJ1 _ (so h) ⟨rfl, rfl, rfl, trivial⟩ rfl
    · refine rg (cp (oFldP o93_0 tm) (s1 rfl) <| cr (oLdB (n := 0) (k := 0) rfl rfl rfl t3 tm) (s1 rfl) <| cp (oEq rfl tm (cI (by decide))) (s1 rfl) <| cp (oMv tm) (s1 rfl) <| csB (decide_eq_false hp4) rfl rfl <| csB (decide_eq_false hp4) rfl rfl <| csB (decide_eq_false hp4) rfl rfl <| cp (oPkF (decide_eq_false hp4) tm cB) (s1 rfl) <| .nil) (by kernel_rfl) ?_
      exact pJ1 _ (so h) ⟨rfl, rfl, rfl, trivial⟩ rfl
  · rintro x3 rfl
    replace h := hk1
    rcases ic h with ⟨hp5, h⟩ | ⟨hp5, h⟩
    · refine wBT hp5 tm (s1 rfl) ?_
      refine wSeq ?_
      refine rg (cp (oAs (cI (by decide))) trivial <| .nil) (by kernel_rfl) ?_
      refine pSeq ?_
      refine rg (cp (oMv tm) (s1 rfl) <| cp (oNilP tm) (s1 rfl) <| cp (oFldP o138_2 tm) (s1 rfl) <| cr (oLdB (n := 1) (k := 3) rfl rfl rfl t3 tm) (s1 rfl) <| cp (oAdd tm (cI (by decide))) (s1 rfl) <| cp (oNilP tm) (s1 rfl) <| cp (oFldP o138_2 tm) (s1 rfl) <| cwn (oSt (n := 1) (k := 3) rfl rfl rfl rfl z3 tm tm) (s2 rfl rfl) <| .nil) (by kernel_rfl) ?_
      refine pSeq ?_
      refine wSeq ?_
      obtain ⟨y6, hy6, h⟩ := bd h
      refine rg (cp (oMv tm) (s1 rfl) <| cm (oCallS (rest := [.box 4 93 [.d (kI .i64) y1.2.Kind, .d kS y1.2.Text, .d (kI .i64) y1.2.At]]) (R' := [.box 4 93 [.d (kI .i64) y1.2.Kind, .d kS y1.2.Text, .d (kI .i64) y1.2.At], .box 70000 138 [.d (kL kS) y6.1.l_.Names, .d (kL (kI .u32)) y6.1.l_.Up, .d (kL (kR f_api_Tok)) y6.1.toks_, .d (kI .i64) y6.1.i_, .d (kI .i64) y6.1.bad_]]) (out' := .d ((kR f_api_Tok).sig y6.2)) [(70000, 70000)] [] [1] [0] [1, 0] rfl (code_reader_tok.ok hy6) b89 (oE1 tm oE0) rfl rfl rfl rfl rfl rfl rfl rfl) (s1 rfl) <| cw (oAlloc (id := 5) (ls := [.d (kI .i64) 0, .d kS [], .d (kI .i64) 0]) ze93 (fun g => ⟨[(.int .i64 0)], _, rfl, zI_i64 g.H, ⟨[(.string ⟨⟨[]⟩⟩)], _, rfl, zS g.H, ⟨[(.int .i64 0)], _, rfl, zI_i64 g.H, rfl⟩⟩⟩)) trivial <| cwn (oStA (n := 0) (fs := f_api_Tok) rfl rfl z93 tm tm) (s2 rfl rfl) <| .nil) (by kernel_rfl) ?_
      refine pSeq ?_
      refine wSeq ?_
      obtain ⟨o1, h, hk1⟩ := bd h
      refine wJ1 (fun x8 => x8 = o1) (fun x8 => [(0, .p 70000 0), (3, .d ((kI .i64).sig (-1))), (5, .p 5 0), (35, .d (kB.sig x8))]) (fun x8 => [.box 5 93 [.d (kI .i64) y6.2.Kind, .d kS y6.2.Text, .d (kI .i64) y6.2.At], .box 4 93 [.d (kI .i64) y1.2.Kind, .d kS y1.2.Text, .d (kI .i64) y1.2.At], .box 70000 138 [.d (kL kS) y6.1.l_.Names, .d (kL (kI .u32)) y6.1.l_.Up, .d (kL (kR f_api_Tok)) y6.1.toks_, .d (kI .i64) y6.1.i_, .d (kI .i64) y6.1.bad_]]) ?_ ?_
      · rcases ic h with ⟨hp9, h⟩ | ⟨hp9, h⟩
        · refine rg (cp (oFldP o93_0 tm) (s1 rfl) <| cr (oLdB (n := 0) (k := 0) rfl rfl rfl t3 tm) (s1 rfl) <| cp (oNe rfl tm (cI (by decide))) (s1 rfl) <| cp (oMv tm) (s1 rfl) <| cgB (nf hp9) rfl rfl (oFldP o93_1 tm) (s1 rfl) <| crgB (nf hp9) rfl rfl (oLdB (n := 0) (k := 1) rfl rfl rfl t9 tm) (s1 rfl) <| cgB (nf hp9) rfl rfl (oLenS u9 tm) (s1 rfl) <| cgB (nf hp9) rfl rfl (oGt rfl tm (cI (by decide))) (s1 rfl) <| cp (oPkF (nf hp9) tm tm) (s2 rfl rfl) <| .nil) (by kernel_rfl) ?_
          exact pJ1 _ (so h) ⟨rfl, rfl, rfl, rfl, trivial⟩ rfl
        · refine rg (cp (oFldP o93_0 tm) (s1 rfl) <| cr (oLdB (n := 0) (k := 0) rfl rfl rfl t3 tm) (s1 rfl) <| cp (oNe rfl tm (cI (by decide))) (s1 rfl) <| cp (oMv tm) (s1 rfl) <| csB (nt hp9) rfl rfl <| csB (nt hp9) rfl rfl <| csB (nt hp9) rfl rfl <| csB (nt hp9) rfl rfl <| cp (oPkT (nt hp9) tm cB) (s1 rfl) <| .nil) (by kernel_rfl) ?_
          exact pJ1 _ (so h) ⟨rfl, rfl, rfl, rfl, trivial⟩ rfl
      · rintro x8 rfl
        replace h := hk1
        rcases ic h with ⟨hp10, h⟩ | ⟨hp10, h⟩
        · refine wBT hp10 tm (s1 rfl) ?_
          refine wSeq ?_
          obtain ⟨y11, hy11, h⟩ := bd h
          refine rg (cp (oMv tm) (s1 rfl) <| cm (oCallS (rest := [.box 5 93 [.d (kI .i64) y6.2.Kind, .d kS y6.2.Text, .d (kI .i64) y6.2.At], .box 4 93 [.d (kI .i64) y1.2.Kind, .d kS y1.2.Text, .d (kI .i64) y1.2.At]]) (R' := [.box 5 93 [.d (kI .i64) y6.2.Kind, .d kS y6.2.Text, .d (kI .i64) y6.2.At], .box 4 93 [.d (kI .i64) y1.2.Kind, .d kS y1.2.Text, .d (kI .i64) y1.2.At], .box 70000 138 [.d (kL kS) y11.l_.Names, .d (kL (kI .u32)) y11.l_.Up, .d (kL (kR f_api_Tok)) y11.toks_, .d (kI .i64) y11.i_, .d (kI .i64) y11.bad_]]) (out' := .d (tup [])) [(70000, 70000)] [] [2] [0, 1] [1, 2, 0] rfl (code_reader_fail.ok hy11) b90 (oE1 tm (oE1 (cI (by decide)) oE0)) rfl rfl rfl rfl rfl rfl rfl rfl) (s1 rfl) <| .nil) (by kernel_rfl) ?_
          refine pSeq ?_
          refine wSeq ?_
          refine rg (cp (oAs (cI (by decide))) trivial <| .nil) (by kernel_rfl) ?_
          refine pSeq ?_
          refine wRet ?_
          refine pThenR ?_
          obtain rfl := so h
          exact pS1 [2] rfl rfl (.inl rfl) rfl (.tmp rfl <| .nil)
        · refine wBF hp10 tm (s1 rfl) ?_
          refine wSkip ?_
          refine pSeq ?_
          refine wSeq ?_
          refine rg (cp (oAs (cI (by decide))) trivial <| .nil) (by kernel_rfl) ?_
          refine pSeq ?_
          refine wSeq ?_
          refine wSeq ?_
          refine rg (cp (oFldP o93_1 tm) (s1 rfl) <| cr (oLdB (n := 0) (k := 1) rfl rfl rfl t9 tm) (s1 rfl) <| cp (oLenS u9 tm) (s1 rfl) <| cp (oMv (cI (by decide))) trivial <| .nil) (by kernel_rfl) ?_
          refine pSeq ?_
          obtain ⟨o1, h, hk1⟩ := bd h
          refine wK1 (fun x18 => x18 = o1) (fun x18 => [(0, .p 70000 0), (3, .d ((kI .i64).sig (-1))), (6, .d ((kI .i64).sig x18))]) (fun x18 => [.box 5 93 [.d (kI .i64) y6.2.Kind, .d kS y6.2.Text, .d (kI .i64) y6.2.At], .box 4 93 [.d (kI .i64) y1.2.Kind, .d kS y1.2.Text, .d (kI .i64) y1.2.At], .box 70000 138 [.d (kL kS) y6.1.l_.Names, .d (kL (kI .u32)) y6.1.l_.Up, .d (kL (kR f_api_Tok)) y6.1.toks_, .d (kI .i64) y6.1.i_, .d (kI .i64) y6.1.bad_]]) ?_ ?_
          · refine wBlock (wLoop ?_)
            refine lW (pc2 o1 (fun v16 v17 => [(0, .p 70000 0), (3, .d ((kI .i64).sig (-1))), (5, .p 5 0), (6, .d ((kI .i64).sig v17)), (40, .d ((kI .i64).sig (y6.2.Text.length : Int))), (41, .d ((kI .i64).sig v16))]) (fun v16 v17 => [.box 5 93 [.d (kI .i64) y6.2.Kind, .d kS y6.2.Text, .d (kI .i64) y6.2.At], .box 4 93 [.d (kI .i64) y1.2.Kind, .d kS y1.2.Text, .d (kI .i64) y1.2.At], .box 70000 138 [.d (kL kS) y6.1.l_.Names, .d (kL (kI .u32)) y6.1.l_.Up, .d (kL (kR f_api_Tok)) y6.1.toks_, .d (kI .i64) y6.1.i_, .d (kI .i64) y6.1.bad_]]) (code_reader_number.l0.partial_correctness y6) ?_ _ _ h) ⟨rfl, rfl, rfl, rfl, rfl, rfl, trivial⟩ rfl
            clear h
            intro f' ih v16 v17 h
            refine wSeq ?_
            refine rg (cp (oLt rfl tm tm) (s2 rfl rfl) <| .nil) (by kernel_rfl) ?_
            refine pSeq ?_
            refine wSeq ?_
            rcases ic h with ⟨hp19, h⟩ | ⟨hp19, h⟩
            · refine wCT hp19 tm (s1 rfl) ?_
              refine wSkip ?_
              refine pSeq ?_
              refine wSeq ?_
              refine wBlock ?_
              refine wSeq ?_
              refine rg (cp (oMv tm) (s1 rfl) <| cp (oAs tm) (s1 rfl) <| .nil) (by kernel_rfl) ?_
              refine pSeq ?_
              obtain ⟨hc20, h⟩ := ib h
              refine rg (cp (oMv tm) (s1 rfl) <| cp (oMul (cI (by decide)) tm) (s1 rfl) <| cp (oFldP o93_1 tm) (s1 rfl) <| cr (oLdB (n := 0) (k := 1) rfl rfl rfl t9 tm) (s1 rfl) <| cp (oMv tm) (s1 rfl) <| cp (oIdxS u9 hc20.1 hc20.2 tm tm) (s2 rfl rfl) <| cp (oAnd tm (cI (by decide))) (s1 rfl) <| cp (oConv u5 u3 tm) (s1 rfl) <| cp (oAdd tm tm) (s2 rfl rfl) <| cp (oAs tm) (s1 rfl) <| .nil) (by kernel_rfl) ?_
              refine pBlkN ?_
              refine pSeq ?_
              refine rg (cp (oAdd tm (cI (by decide))) (s1 rfl) <| cp (oMv tm) (s1 rfl) <| .nil) (by kernel_rfl) ?_
              exact pLoop (lW (ih _ _ h) ⟨rfl, rfl, rfl, rfl, rfl, rfl, trivial⟩ rfl)
            · refine wCF hp19 tm (s1 rfl) ?_
              refine wExit ?_
              refine pThenX ?_
              refine pThenX ?_
              refine pBlkX ?_
              exact pJ1 _ (so h) ⟨rfl, rfl, rfl, trivial⟩ rfl
          · rintro x18 rfl
            replace h := hk1
            refine pSeq ?_
            refine wSeq ?_
            refine rg (cp (oMv tm) (s1 rfl) <| cp (oNilP tm) (s1 rfl) <| cp (oFldP o138_2 tm) (s1 rfl) <| cr (oLdB (n := 2) (k := 3) rfl rfl rfl t3 tm) (s1 rfl) <| cp (oAdd tm (cI (by decide))) (s1 rfl) <| cp (oNilP tm) (s1 rfl) <| cp (oFldP o138_2 tm) (s1 rfl) <| cwn (oSt (n := 2) (k := 3) rfl rfl rfl rfl z3 tm tm) (s2 rfl rfl) <| .nil) (by kernel_rfl) ?_
            refine pSeq ?_
            refine wSeq ?_
            refine rg (cp (oMv tm) (s1 rfl) <| cp (oMv tm) (s1 rfl) <| cp (oMul tm tm) (s2 rfl rfl) <| cp (oAs tm) (s1 rfl) <| .nil) (by kernel_rfl) ?_
            refine pSeq ?_
            refine wRet ?_
            obtain rfl := so h
            exact pS1 [2] rfl rfl (.inl rfl) rfl (.tmp rfl <| .nil)
    · refine wBF hp5 tm (s1 rfl) ?_
      refine wSkip ?_
      refine pSeq ?_
      refine wSeq ?_
      obtain ⟨y21, hy21, h⟩ := bd h
      refine rg (cp (oMv tm) (s1 rfl) <| cm (oCallS (rest := [.box 4 93 [.d (kI .i64) y1.2.Kind, .d kS y1.2.Text, .d (kI .i64) y1.2.At]]) (R' := [.box 4 93 [.d (kI .i64) y1.2.Kind, .d kS y1.2.Text, .d (kI .i64) y1.2.At], .box 70000 138 [.d (kL kS) y21.1.l_.Names, .d (kL (kI .u32)) y21.1.l_.Up, .d (kL (kR f_api_Tok)) y21.1.toks_, .d (kI .i64) y21.1.i_, .d (kI .i64) y21.1.bad_]]) (out' := .d ((kR f_api_Tok).sig y21.2)) [(70000, 70000)] [] [1] [0] [1, 0] rfl (code_reader_tok.ok hy21) b89 (oE1 tm oE0) rfl rfl rfl rfl rfl rfl rfl rfl) (s1 rfl) <| cw (oAlloc (id := 5) (ls := [.d (kI .i64) 0, .d kS [], .d (kI .i64) 0]) ze93 (fun g => ⟨[(.int .i64 0)], _, rfl, zI_i64 g.H, ⟨[(.string ⟨⟨[]⟩⟩)], _, rfl, zS g.H, ⟨[(.int .i64 0)], _, rfl, zI_i64 g.H, rfl⟩⟩⟩)) trivial <| cwn (oStA (n := 0) (fs := f_api_Tok) rfl rfl z93 tm tm) (s2 rfl rfl) <| .nil) (by kernel_rfl) ?_
      refine pSeq ?_
      refine wSeq ?_
      obtain ⟨o1, h, hk1⟩ := bd h
      refine wJ1 (fun x23 => x23 = o1) (fun x23 => [(0, .p 70000 0), (3, .d ((kI .i64).sig 1)), (5, .p 5 0), (35, .d (kB.sig x23))]) (fun x23 => [.box 5 93 [.d (kI .i64) y21.2.Kind, .d kS y21.2.Text, .d (kI .i64) y21.2.At], .box 4 93 [.d (kI .i64) y1.2.Kind, .d kS y1.2.Text, .d (kI .i64) y1.2.At], .box 70000 138 [.d (kL kS) y21.1.l_.Names, .d (kL (kI .u32)) y21.1.l_.Up, .d (kL (kR f_api_Tok)) y21.1.toks_, .d (kI .i64) y21.1.i_, .d (kI .i64) y21.1.bad_]]) ?_ ?_
      · rcases ic h with ⟨hp24, h⟩ | ⟨hp24, h⟩
        · refine rg (cp (oFldP o93_0 tm) (s1 rfl) <| cr (oLdB (n := 0) (k := 0) rfl rfl rfl t3 tm) (s1 rfl) <| cp (oNe rfl tm (cI (by decide))) (s1 rfl) <| cp (oMv tm) (s1 rfl) <| cgB (nf hp24) rfl rfl (oFldP o93_1 tm) (s1 rfl) <| crgB (nf hp24) rfl rfl (oLdB (n := 0) (k := 1) rfl rfl rfl t9 tm) (s1 rfl) <| cgB (nf hp24) rfl rfl (oLenS u9 tm) (s1 rfl) <| cgB (nf hp24) rfl rfl (oGt rfl tm (cI (by decide))) (s1 rfl) <| cp (oPkF (nf hp24) tm tm) (s2 rfl rfl) <| .nil) (by kernel_rfl) ?_
          exact pJ1 _ (so h) ⟨rfl, rfl, rfl, rfl, trivial⟩ rfl
        · refine rg (cp (oFldP o93_0 tm) (s1 rfl) <| cr (oLdB (n := 0) (k := 0) rfl rfl rfl t3 tm) (s1 rfl) <| cp (oNe rfl tm (cI (by decide))) (s1 rfl) <| cp (oMv tm) (s1 rfl) <| csB (nt hp24) rfl rfl <| csB (nt hp24) rfl rfl <| csB (nt hp24) rfl rfl <| csB (nt hp24) rfl rfl <| cp (oPkT (nt hp24) tm cB) (s1 rfl) <| .nil) (by kernel_rfl) ?_
          exact pJ1 _ (so h) ⟨rfl, rfl, rfl, rfl, trivial⟩ rfl
      · rintro x23 rfl
        replace h := hk1
        rcases ic h with ⟨hp25, h⟩ | ⟨hp25, h⟩
        · refine wBT hp25 tm (s1 rfl) ?_
          refine wSeq ?_
          obtain ⟨y26, hy26, h⟩ := bd h
          refine rg (cp (oMv tm) (s1 rfl) <| cm (oCallS (rest := [.box 5 93 [.d (kI .i64) y21.2.Kind, .d kS y21.2.Text, .d (kI .i64) y21.2.At], .box 4 93 [.d (kI .i64) y1.2.Kind, .d kS y1.2.Text, .d (kI .i64) y1.2.At]]) (R' := [.box 5 93 [.d (kI .i64) y21.2.Kind, .d kS y21.2.Text, .d (kI .i64) y21.2.At], .box 4 93 [.d (kI .i64) y1.2.Kind, .d kS y1.2.Text, .d (kI .i64) y1.2.At], .box 70000 138 [.d (kL kS) y26.l_.Names, .d (kL (kI .u32)) y26.l_.Up, .d (kL (kR f_api_Tok)) y26.toks_, .d (kI .i64) y26.i_, .d (kI .i64) y26.bad_]]) (out' := .d (tup [])) [(70000, 70000)] [] [2] [0, 1] [1, 2, 0] rfl (code_reader_fail.ok hy26) b90 (oE1 tm (oE1 (cI (by decide)) oE0)) rfl rfl rfl rfl rfl rfl rfl rfl) (s1 rfl) <| .nil) (by kernel_rfl) ?_
          refine pSeq ?_
          refine wSeq ?_
          refine rg (cp (oAs (cI (by decide))) trivial <| .nil) (by kernel_rfl) ?_
          refine pSeq ?_
          refine wRet ?_
          refine pThenR ?_
          obtain rfl := so h
          exact pS1 [2] rfl rfl (.inl rfl) rfl (.tmp rfl <| .nil)
        · refine wBF hp25 tm (s1 rfl) ?_
          refine wSkip ?_
          refine pSeq ?_
          refine wSeq ?_
          refine rg (cp (oAs (cI (by decide))) trivial <| .nil) (by kernel_rfl) ?_
          refine pSeq ?_
          refine wSeq ?_
          refine wSeq ?_
          refine rg (cp (oFldP o93_1 tm) (s1 rfl) <| cr (oLdB (n := 0) (k := 1) rfl rfl rfl t9 tm) (s1 rfl) <| cp (oLenS u9 tm) (s1 rfl) <| cp (oMv (cI (by decide))) trivial <| .nil) (by kernel_rfl) ?_
          refine pSeq ?_
          obtain ⟨o1, h, hk1⟩ := bd h
          refine wK1 (fun x33 => x33 = o1) (fun x33 => [(0, .p 70000 0), (3, .d ((kI .i64).sig 1)), (6, .d ((kI .i64).sig x33))]) (fun x33 => [.box 5 93 [.d (kI .i64) y21.2.Kind, .d kS y21.2.Text, .d (kI .i64) y21.2.At], .box 4 93 [.d (kI .i64) y1.2.Kind, .d kS y1.2.Text, .d (kI .i64) y1.2.At], .box 70000 138 [.d (kL kS) y21.1.l_.Names, .d (kL (kI .u32)) y21.1.l_.Up, .d (kL (kR f_api_Tok)) y21.1.toks_, .d (kI .i64) y21.1.i_, .d (kI .i64) y21.1.bad_]]) ?_ ?_
          · refine wBlock (wLoop ?_)
            refine lW (pc2 o1 (fun v31 v32 => [(0, .p 70000 0), (3, .d ((kI .i64).sig 1)), (5, .p 5 0), (6, .d ((kI .i64).sig v32)), (40, .d ((kI .i64).sig (y21.2.Text.length : Int))), (41, .d ((kI .i64).sig v31))]) (fun v31 v32 => [.box 5 93 [.d (kI .i64) y21.2.Kind, .d kS y21.2.Text, .d (kI .i64) y21.2.At], .box 4 93 [.d (kI .i64) y1.2.Kind, .d kS y1.2.Text, .d (kI .i64) y1.2.At], .box 70000 138 [.d (kL kS) y21.1.l_.Names, .d (kL (kI .u32)) y21.1.l_.Up, .d (kL (kR f_api_Tok)) y21.1.toks_, .d (kI .i64) y21.1.i_, .d (kI .i64) y21.1.bad_]]) (code_reader_number.l1.partial_correctness y21) ?_ _ _ h) ⟨rfl, rfl, rfl, rfl, rfl, rfl, trivial⟩ rfl
            clear h
            intro f' ih v31 v32 h
            refine wSeq ?_
            refine rg (cp (oLt rfl tm tm) (s2 rfl rfl) <| .nil) (by kernel_rfl) ?_
            refine pSeq ?_
            refine wSeq ?_
            rcases ic h with ⟨hp34, h⟩ | ⟨hp34, h⟩
            · refine wCT hp34 tm (s1 rfl) ?_
              refine wSkip ?_
              refine pSeq ?_
              refine wSeq ?_
              refine wBlock ?_
              refine wSeq ?_
              refine rg (cp (oMv tm) (s1 rfl) <| cp (oAs tm) (s1 rfl) <| .nil) (by kernel_rfl) ?_
              refine pSeq ?_
              obtain ⟨hc35, h⟩ := ib h
              refine rg (cp (oMv tm) (s1 rfl) <| cp (oMul (cI (by decide)) tm) (s1 rfl) <| cp (oFldP o93_1 tm) (s1 rfl) <| cr (oLdB (n := 0) (k := 1) rfl rfl rfl t9 tm) (s1 rfl) <| cp (oMv tm) (s1 rfl) <| cp (oIdxS u9 hc35.1 hc35.2 tm tm) (s2 rfl rfl) <| cp (oAnd tm (cI (by decide))) (s1 rfl) <| cp (oConv u5 u3 tm) (s1 rfl) <| cp (oAdd tm tm) (s2 rfl rfl) <| cp (oAs tm) (s1 rfl) <| .nil) (by kernel_rfl) ?_
              refine pBlkN ?_
              refine pSeq ?_
              refine rg (cp (oAdd tm (cI (by decide))) (s1 rfl) <| cp (oMv tm) (s1 rfl) <| .nil) (by kernel_rfl) ?_
              exact pLoop (lW (ih _ _ h) ⟨rfl, rfl, rfl, rfl, rfl, rfl, trivial⟩ rfl)
            · refine wCF hp34 tm (s1 rfl) ?_
              refine wExit ?_
              refine pThenX ?_
              refine pThenX ?_
              refine pBlkX ?_
              exact pJ1 _ (so h) ⟨rfl, rfl, rfl, trivial⟩ rfl
          · rintro x33 rfl
            replace h := hk1
            refine pSeq ?_
            refine wSeq ?_
            refine rg (cp (oMv tm) (s1 rfl) <| cp (oNilP tm) (s1 rfl) <| cp (oFldP o138_2 tm) (s1 rfl) <| cr (oLdB (n := 2) (k := 3) rfl rfl rfl t3 tm) (s1 rfl) <| cp (oAdd tm (cI (by decide))) (s1 rfl) <| cp (oNilP tm) (s1 rfl) <| cp (oFldP o138_2 tm) (s1 rfl) <| cwn (oSt (n := 2) (k := 3) rfl rfl rfl rfl z3 tm tm) (s2 rfl rfl) <| .nil) (by kernel_rfl) ?_
            refine pSeq ?_
            refine wSeq ?_
            refine rg (cp (oMv tm) (s1 rfl) <| cp (oMv tm) (s1 rfl) <| cp (oMul tm tm) (s2 rfl rfl) <| cp (oAs tm) (s1 rfl) <| .nil) (by kernel_rfl) ?_
            refine pSeq ?_
            refine wRet ?_
            obtain rfl := so h
            exact pS1 [2] rfl rfl (.inl rfl) rfl (.tmp rfl <| .nil)

theorem code_reader_mark.ok {a0 : code_reader} {a1 : Str} {r : code_reader} (h : code_reader_mark.f a0 a1 = some r) : FnS Tryd.prog 127 [.p 70000 0, .d (kS.sig a1)] [.box 70000 138 [.d (kL kS) a0.l_.Names, .d (kL (kI .u32)) a0.l_.Up, .d (kL (kR f_api_Tok)) a0.toks_, .d (kI .i64) a0.i_, .d (kI .i64) a0.bad_]] [70000] (.d (tup [])) [.box 70000 138 [.d (kL kS) r.l_.Names, .d (kL (kI .u32)) r.l_.Up, .d (kL (kR f_api_Tok)) r.toks_, .d (kI .i64) r.i_, .d (kI .i64) r.bad_]] := by
  refine fnIntroS Tryd.func127 rfl (by kernel_rfl) fun X H0 w0 pv => ?_
  unfold code_reader_mark.f at h
  refine wSeq ?_
  obtain ⟨y1, hy1, h⟩ := bd h
  refine rg (cp (oMv tm) (s1 rfl) <| cm (oCallS (rest := []) (R' := [.box 70000 138 [.d (kL kS) y1.1.l_.Names, .d (kL (kI .u32)) y1.1.l_.Up, .d (kL (kR f_api_Tok)) y1.1.toks_, .d (kI .i64) y1.1.i_, .d (kI .i64) y1.1.bad_]]) (out' := .d ((kR f_api_Tok).sig y1.2)) [(70000, 70000)] [] [0] [] [0] rfl (code_reader_tok.ok hy1) b89 (oE1 tm oE0) rfl rfl rfl rfl rfl rfl rfl rfl) (s1 rfl) <| cw (oAlloc (id := 4) (ls := [.d (kI .i64) 0, .d kS [], .d (kI .i64) 0]) ze93 (fun g => ⟨[(.int .i64 0)], _, rfl, zI_i64 g.H, ⟨[(.string ⟨⟨[]⟩⟩)], _, rfl, zS g.H, ⟨[(.int .i64 0)], _, rfl, zI_i64 g.H, rfl⟩⟩⟩)) trivial <| cwn (oStA (n := 0) (fs := f_api_Tok) rfl rfl z93 tm tm) (s2 rfl rfl) <| .nil) (by kernel_rfl) ?_
  refine pSeq ?_
  obtain ⟨o1, h, hk1⟩ := bd h
  refine wK5 (fun x8 x9 x10 x11 x12 => (x8, x9, x10, x11, x12) = o1) (fun x8 x9 x10 x11 x12 => []) (fun x8 x9 x10 x11 x12 => [.box 4 93 [.d (kI .i64) y1.2.Kind, .d kS y1.2.Text, .d (kI .i64) y1.2.At], .box 70000 138 [.d (kL kS) x8, .d (kL (kI .u32)) x9, .d (kL (kR f_api_Tok)) x10, .d (kI .i64) x11, .d (kI .i64) x12]]) ?_ ?_
  · refine wBlock ?_
    refine wSeq ?_
    refine rg (cp (oMv tm) (s1 rfl) <| cp (oNilP tm) (s1 rfl) <| cp (oFldP o138_3 tm) (s1 rfl) <| cr (oLdB (n := 1) (k := 4) rfl rfl rfl t27 tm) (s1 rfl) <| cp (oNe rfl tm (cI (by decide))) (s1 rfl) <| cp (oAs tm) (s1 rfl) <| .nil) (by kernel_rfl) ?_
    refine pSeq ?_
    rcases ic h with ⟨hp13, h⟩ | ⟨hp13, h⟩
    · refine wNT hp13 tm (s1 rfl) ?_
      obtain ⟨o2, h, hk2⟩ := bd h
      refine wJ1 (fun x15 => x15 = o2) (fun x15 => [(0, .p 70000 0), (20, .d (kB.sig x15))]) (fun x15 => [.box 4 93 [.d (kI .i64) y1.2.Kind, .d kS y1.2.Text, .d (kI .i64) y1.2.At], .box 70000 138 [.d (kL kS) y1.1.l_.Names, .d (kL (kI .u32)) y1.1.l_.Up, .d (kL (kR f_api_Tok)) y1.1.toks_, .d (kI .i64) y1.1.i_, .d (kI .i64) y1.1.bad_]]) ?_ ?_
      · rcases ic h with ⟨hp16, h⟩ | ⟨hp16, h⟩
        · refine rg (cp (oFldP o93_0 tm) (s1 rfl) <| cr (oLdB (n := 0) (k := 0) rfl rfl rfl t3 tm) (s1 rfl) <| cp (oNe rfl tm (cI (by decide))) (s1 rfl) <| cp (oMv tm) (s1 rfl) <| cgB (nf hp16) rfl rfl (oFldP o93_1 tm) (s1 rfl) <| crgB (nf hp16) rfl rfl (oLdB (n := 0) (k := 1) rfl rfl rfl t9 tm) (s1 rfl) <| cgB (nf hp16) rfl rfl (oMv tm) (s1 rfl) <| cgB (nf hp16) rfl rfl (oSNe rfl tm tm) (s2 rfl rfl) <| cp (oPkF (nf hp16) tm tm) (s2 rfl rfl) <| cp (oAs tm) (s1 rfl) <| .nil) (by kernel_rfl) ?_
          exact pJ1 _ (so h) ⟨rfl, rfl, trivial⟩ rfl
        · refine rg (cp (oFldP o93_0 tm) (s1 rfl) <| cr (oLdB (n := 0) (k := 0) rfl rfl rfl t3 tm) (s1 rfl) <| cp (oNe rfl tm (cI (by decide))) (s1 rfl) <| cp (oMv tm) (s1 rfl) <| csB (nt hp16) rfl rfl <| csB (nt hp16) rfl rfl <| csB (nt hp16) rfl rfl <| csB (nt hp16) rfl rfl <| cp (oPkT (nt hp16) tm cB) (s1 rfl) <| cp (oAs tm) (s1 rfl) <| .nil) (by kernel_rfl) ?_
          exact pJ1 _ (so h) ⟨rfl, rfl, trivial⟩ rfl
      · rintro x15 rfl
        replace h := hk2
        rcases ic h with ⟨hp17, h⟩ | ⟨hp17, h⟩
        · refine wBT hp17 tm (s1 rfl) ?_
          obtain ⟨y18, hy18, h⟩ := bd h
          refine rg (cp (oMv tm) (s1 rfl) <| cm (oCallS (rest := [.box 4 93 [.d (kI .i64) y1.2.Kind, .d kS y1.2.Text, .d (kI .i64) y1.2.At]]) (R' := [.box 4 93 [.d (kI .i64) y1.2.Kind, .d kS y1.2.Text, .d (kI .i64) y1.2.At], .box 70000 138 [.d (kL kS) y18.l_.Names, .d (kL (kI .u32)) y18.l_.Up, .d (kL (kR f_api_Tok)) y18.toks_, .d (kI .i64) y18.i_, .d (kI .i64) y18.bad_]]) (out' := .d (tup [])) [(70000, 70000)] [] [1] [0] [1, 0] rfl (code_reader_fail.ok hy18) b90 (oE1 tm (oE1 (cI (by decide)) oE0)) rfl rfl rfl rfl rfl rfl rfl rfl) (s1 rfl) <| .nil) (by kernel_rfl) ?_
          refine pBlkN ?_
          exact pJ5 _ _ _ _ _ (so h) trivial rfl
        · refine wBF hp17 tm (s1 rfl) ?_
          refine rg (cp (oMv tm) (s1 rfl) <| cp (oNilP tm) (s1 rfl) <| cp (oFldP o138_2 tm) (s1 rfl) <| cr (oLdB (n := 1) (k := 3) rfl rfl rfl t3 tm) (s1 rfl) <| cp (oAdd tm (cI (by decide))) (s1 rfl) <| cp (oNilP tm) (s1 rfl) <| cp (oFldP o138_2 tm) (s1 rfl) <| cwn (oSt (n := 1) (k := 3) rfl rfl rfl rfl z3 tm tm) (s2 rfl rfl) <| .nil) (by kernel_rfl) ?_
          refine pBlkN ?_
          exact pJ5 _ _ _ _ _ (so h) trivial rfl
    · refine wNF hp13 tm (s1 rfl) ?_
      refine wSkip ?_
      refine pBlkN ?_
      exact pJ5 _ _ _ _ _ (so h) trivial rfl
  · rintro x8 x9 x10 x11 x12 rfl
    replace h := hk1
    obtain rfl := so h
    exact pSn [1] rfl rfl (.inr rfl) rfl rfl (.nil)

theorem order_Find.ok {a0 : api_Lattice} {a1 : Str} {r : Int × Int} (h : order_Find.f a0 a1 = some r) : FnA Tryd.prog 145 [(kR f_api_Lattice).sig a0, kS.sig a1] (tup [(kI .i64).sig r.1, (kI .i64).sig r.2]) := by
  refine fnIntro Tryd.func145 rfl (by kernel_rfl) fun H0 w0 => ?_
  unfold order_Find.f at h
  refine wSeq ?_
  refine rg (cp (oBox tm) (s1 rfl) <| cp (oAs (cI (by decide))) trivial <| cp (oAs (cI (by decide))) trivial <| .nil) (by kernel_rfl) ?_
  refine pSeq ?_
  refine wSeq ?_
  refine wSeq ?_
  obtain ⟨y1, hy1, h⟩ := bd h
  refine rg (cp (oLd t38 tm) (s1 rfl) <| cp (oCall rfl (lattice_Check.ok hy1) b39 (opds_cons tm opds_nil)) (s1 rfl) <| cp (oAs tm) (s1 rfl) <| .nil) (by kernel_rfl) ?_
  refine pSeq ?_
  refine wSeq ?_
  refine rg (cp (oMv tm) (s1 rfl) <| cp (oNe rfl tm (cI (by decide))) (s1 rfl) <| .nil) (by kernel_rfl) ?_
  refine pSeq ?_
  rcases ic h with ⟨hp2, h⟩ | ⟨hp2, h⟩
  · refine wNT hp2 tm (s1 rfl) ?_
    refine wSkip ?_
    refine pSeq ?_
    refine wSeq ?_
    obtain ⟨y3, hy3, h⟩ := bd h
    refine rg (cp (oFld (fs := f_api_Lattice) (k := 0) rfl o38_0 tm) (s1 rfl) <| cp (oLd t35 tm) (s1 rfl) <| cp (oMv tm) (s1 rfl) <| cp (oCall rfl (slices_Index_string_string.ok hy3) b65 (opds_cons tm (opds_cons tm opds_nil))) (s2 rfl rfl) <| cp (oAs tm) (s1 rfl) <| .nil) (by kernel_rfl) ?_
    refine pSeq ?_
    refine wSeq ?_
    refine wSeq ?_
    refine rg (cp (oMv tm) (s1 rfl) <| cp (oLt rfl tm (cI (by decide))) (s1 rfl) <| .nil) (by kernel_rfl) ?_
    refine pSeq ?_
    rcases ic h with ⟨hp4, h⟩ | ⟨hp4, h⟩
    · refine wCT hp4 tm (s1 rfl) ?_
      refine wSeq ?_
      refine rg (cp (oAs (cI (by decide))) trivial <| cp (oAs (cI (by decide))) trivial <| .nil) (by kernel_rfl) ?_
      refine pSeq ?_
      refine wRet ?_
      refine pThenR ?_
      obtain rfl := so h
      exact pRn (.inl rfl) rfl rfl (.tmp rfl <| .tmp rfl <| .nil)
    · refine wCF hp4 tm (s1 rfl) ?_
      refine wSkip ?_
      refine pSeq ?_
      refine wSeq ?_
      refine rg (cp (oMv tm) (s1 rfl) <| cp (oAs tm) (s1 rfl) <| cp (oAs (cI (by decide))) trivial <| .nil) (by kernel_rfl) ?_
      refine pSeq ?_
      refine wRet ?_
      obtain rfl := so h
      exact pRn (.inl rfl) rfl rfl (.tmp rfl <| .tmp rfl <| .nil)
  · refine wNF hp2 tm (s1 rfl) ?_
    refine wSeq ?_
    refine rg (cp (oMv tm) (s1 rfl) <| cp (oAs (cI (by decide))) trivial <| cp (oAs tm) (s1 rfl) <| .nil) (by kernel_rfl) ?_
    refine pSeq ?_
    refine wRet ?_
    refine pThenR ?_
    obtain rfl := so h
    exact pRn (.inl rfl) rfl rfl (.tmp rfl <| .tmp rfl <| .nil)

theorem code_reader_label.ok {a0 : code_reader} {r : code_reader × Int} (h : code_reader_label.f a0 = some r) : FnS Tryd.prog 126 [.p 70000 0] [.box 70000 138 [.d (kL kS) a0.l_.Names, .d (kL (kI .u32)) a0.l_.Up, .d (kL (kR f_api_Tok)) a0.toks_, .d (kI .i64) a0.i_, .d (kI .i64) a0.bad_]] [70000] (.d ((kI .i64).sig r.2)) [.box 70000 138 [.d (kL kS) r.1.l_.Names, .d (kL (kI .u32)) r.1.l_.Up, .d (kL (kR f_api_Tok)) r.1.toks_, .d (kI .i64) r.1.i_, .d (kI .i64) r.1.bad_]] := by
  refine fnIntroS Tryd.func126 rfl (by kernel_rfl) fun X H0 w0 pv => ?_
  unfold code_reader_label.f at h
  refine wSeq ?_
  refine rg (cp (oAs (cI (by decide))) trivial <| .nil) (by kernel_rfl) ?_
  refine pSeq ?_
  refine wSeq ?_
  obtain ⟨y1, hy1, h⟩ := bd h
  refine rg (cp (oMv tm) (s1 rfl) <| cm (oCallS (rest := []) (R' := [.box 70000 138 [.d (kL kS) y1.l_.Names, .d (kL (kI .u32)) y1.l_.Up, .d (kL (kR f_api_Tok)) y1.toks_, .d (kI .i64) y1.i_, .d (kI .i64) y1.bad_]]) (out' := .d (tup [])) [(70000, 70000)] [] [0] [] [0] rfl (code_reader_mark.ok hy1) b127 (oE1 tm (oE1 (cS (by decide)) oE0)) rfl rfl rfl rfl rfl rfl rfl rfl) (s1 rfl) <| .nil) (by kernel_rfl) ?_
  refine pSeq ?_
  refine wSeq ?_
  obtain ⟨y2, hy2, h⟩ := bd h
  refine rg (cp (oMv tm) (s1 rfl) <| cm (oCallS (rest := []) (R' := [.box 70000 138 [.d (kL kS) y2.1.l_.Names, .d (kL (kI .u32)) y2.1.l_.Up, .d (kL (kR f_api_Tok)) y2.1.toks_, .d (kI .i64) y2.1.i_, .d (kI .i64) y2.1.bad_]]) (out' := .d ((kR f_api_Tok).sig y2.2)) [(70000, 70000)] [] [0] [] [0] rfl (code_reader_tok.ok hy2) b89 (oE1 tm oE0) rfl rfl rfl rfl rfl rfl rfl rfl) (s1 rfl) <| cw (oAlloc (id := 3) (ls := [.d (kI .i64) 0, .d kS [], .d (kI .i64) 0]) ze93 (fun g => ⟨[(.int .i64 0)], _, rfl, zI_i64 g.H, ⟨[(.string ⟨⟨[]⟩⟩)], _, rfl, zS g.H, ⟨[(.int .i64 0)], _, rfl, zI_i64 g.H, rfl⟩⟩⟩)) trivial <| cwn (oStA (n := 0) (fs := f_api_Tok) rfl rfl z93 tm tm) (s2 rfl rfl) <| .nil) (by kernel_rfl) ?_
  refine pSeq ?_
  refine wSeq ?_
  refine wBlock ?_
  refine wSeq ?_
  refine rg (cp (oMv tm) (s1 rfl) <| cp (oNilP tm) (s1 rfl) <| cp (oFldP o138_3 tm) (s1 rfl) <| cr (oLdB (n := 1) (k := 4) rfl rfl rfl t27 tm) (s1 rfl) <| cp (oNe rfl tm (cI (by decide))) (s1 rfl) <| cp (oAs tm) (s1 rfl) <| .nil) (by kernel_rfl) ?_
  refine pSeq ?_
  rcases ic h with ⟨hp3, h⟩ | ⟨hp3, h⟩
  · refine wNT hp3 tm (s1 rfl) ?_
    refine wSeq ?_
    refine rg (cp (oFldP o93_0 tm) (s1 rfl) <| cr (oLdB (n := 0) (k := 0) rfl rfl rfl t3 tm) (s1 rfl) <| cp (oNe rfl tm (cI (by decide))) (s1 rfl) <| cp (oAs tm) (s1 rfl) <| .nil) (by kernel_rfl) ?_
    refine pSeq ?_
    rcases ic h with ⟨hp4, h⟩ | ⟨hp4, h⟩
    · refine wNT hp4 tm (s1 rfl) ?_
      refine wSkip ?_
      refine pBlkN ?_
      refine pSeq ?_
      refine wSeq ?_
      obtain ⟨y5, hy5, h⟩ := bd h
      refine rgD hm (cp (oMv tm) (s1 rfl) <| cp (oNilP tm) (s1 rfl) <| cp (oFldP o138_0 tm) (s1 rfl) <| cr (oLdP (n := 1) (k := 0) (m := 2) (d := (kR f_api_Lattice)) (u := y2.1.l_) (lfS (lfC lf1 (lfC lf1 lfN))) rfl rfl rfl t38 tm) (s1 rfl) <| cp (oFldP o93_1 tm) (s1 rfl) <| cr (oLdB (n := 0) (k := 1) rfl rfl rfl t9 tm) (s1 rfl) <| cp (oCall rfl (order_Find.ok hy5) b145 (opds_cons tm (opds_cons tm opds_nil))) (s2 rfl rfl) <| cp (oMv tm) (s1 rfl) <| cp (oExt (k := 0) rfl tm) (s1 rfl) <| cp (oExt (k := 1) rfl tm) (s1 rfl) <| cp (oAs tm) (s1 rfl) <| cp (oAs tm) (s1 rfl) <| .nil) (by kernel_rfl) (by kernel_rfl) ?_
      refine pSeq ?_
      refine wSeq ?_
      refine wSeq ?_
      refine rg (cp (oMv tm) (s1 rfl) <| cp (oNe rfl tm (cI (by decide))) (s1 rfl) <| .nil) (by kernel_rfl) ?_
      refine pSeq ?_
      rcases ic h with ⟨hp6, h⟩ | ⟨hp6, h⟩
      · refine wNT hp6 tm (s1 rfl) ?_
        refine wSkip ?_
        refine pSeq ?_
        refine wSeq ?_
        refine rg (cp (oMv tm) (s1 rfl) <| cp (oNilP tm) (s1 rfl) <| cp (oFldP o138_2 tm) (s1 rfl) <| cr (oLdB (n := 1) (k := 3) rfl rfl rfl t3 tm) (s1 rfl) <| cp (oAdd tm (cI (by decide))) (s1 rfl) <| cp (oNilP tm) (s1 rfl) <| cp (oFldP o138_2 tm) (s1 rfl) <| cwn (oSt (n := 1) (k := 3) rfl rfl rfl rfl z3 tm tm) (s2 rfl rfl) <| .nil) (by kernel_rfl) ?_
        refine pSeq ?_
        refine wSeq ?_
        refine rg (cp (oMv tm) (s1 rfl) <| cp (oAs tm) (s1 rfl) <| .nil) (by kernel_rfl) ?_
        refine pSeq ?_
        refine wRet ?_
        obtain rfl := so h
        exact pS1 [1] rfl rfl (.inl rfl) rfl (.tmp rfl <| .nil)
      · refine wNF hp6 tm (s1 rfl) ?_
        refine wSeq ?_
        obtain ⟨y7, hy7, h⟩ := bd h
        refine rg (cp (oMv tm) (s1 rfl) <| cm (oCallS (rest := [.box 3 93 [.d (kI .i64) y2.2.Kind, .d kS y2.2.Text, .d (kI .i64) y2.2.At]]) (R' := [.box 3 93 [.d (kI .i64) y2.2.Kind, .d kS y2.2.Text, .d (kI .i64) y2.2.At], .box 70000 138 [.d (kL kS) y7.l_.Names, .d (kL (kI .u32)) y7.l_.Up, .d (kL (kR f_api_Tok)) y7.toks_, .d (kI .i64) y7.i_, .d (kI .i64) y7.bad_]]) (out' := .d (tup [])) [(70000, 70000)] [] [1] [0] [1, 0] rfl (code_reader_fail.ok hy7) b90 (oE1 tm (oE1 (cI (by decide)) oE0)) rfl rfl rfl rfl rfl rfl rfl rfl) (s1 rfl) <| .nil) (by kernel_rfl) ?_
        refine pSeq ?_
        refine wSeq ?_
        refine rg (cp (oAs (cI (by decide))) trivial <| .nil) (by kernel_rfl) ?_
        refine pSeq ?_
        refine wRet ?_
        refine pThenR ?_
        obtain rfl := so h
        exact pS1 [1] rfl rfl (.inl rfl) rfl (.tmp rfl <| .nil)
    · refine wNF hp4 tm (s1 rfl) ?_
      refine wSeq ?_
      obtain ⟨y8, hy8, h⟩ := bd h
      refine rg (cp (oMv tm) (s1 rfl) <| cm (oCallS (rest := [.box 3 93 [.d (kI .i64) y2.2.Kind, .d kS y2.2.Text, .d (kI .i64) y2.2.At]]) (R' := [.box 3 93 [.d (kI .i64) y2.2.Kind, .d kS y2.2.Text, .d (kI .i64) y2.2.At], .box 70000 138 [.d (kL kS) y8.l_.Names, .d (kL (kI .u32)) y8.l_.Up, .d (kL (kR f_api_Tok)) y8.toks_, .d (kI .i64) y8.i_, .d (kI .i64) y8.bad_]]) (out' := .d (tup [])) [(70000, 70000)] [] [1] [0] [1, 0] rfl (code_reader_fail.ok hy8) b90 (oE1 tm (oE1 (cI (by decide)) oE0)) rfl rfl rfl rfl rfl rfl rfl rfl) (s1 rfl) <| .nil) (by kernel_rfl) ?_
      refine pSeq ?_
      refine wSeq ?_
      refine rg (cp (oAs (cI (by decide))) trivial <| .nil) (by kernel_rfl) ?_
      refine pSeq ?_
      refine wRet ?_
      refine pBlkR ?_
      refine pThenR ?_
      obtain rfl := so h
      exact pS1 [1] rfl rfl (.inl rfl) rfl (.tmp rfl <| .nil)
  · refine wNF hp3 tm (s1 rfl) ?_
    refine wSeq ?_
    refine rg (cp (oAs (cI (by decide))) trivial <| .nil) (by kernel_rfl) ?_
    refine pSeq ?_
    refine wRet ?_
    refine pBlkR ?_
    refine pThenR ?_
    obtain rfl := so h
    exact pS1 [1] rfl rfl (.inl rfl) rfl (.tmp rfl <| .nil)

end Go.Proofs.YtkmobcaobmchpaaDoor.CK
