import Derived.Test.YthpmbokenhpakaaShelf
import Derived.Test.YthpmbokenhpakaaDLE
import Derived.Test.YthpmbokenhpakaaProg
set_option linter.unusedVariables false
set_option maxRecDepth 10000
namespace Go.Proofs.Ythpmbokenhpakaa.LE
open Go Go.Proofs.Ythpmbokenhpakaa.Ab

theorem hm : Try.prog.follows .mixedOrders = true := by kernel_rfl
theorem zL : ∀ {α : Type} {d : Kd α} (H : FH), (kL d).reps H [.slice none 0 0] [] := fun _ => ⟨none, 0, rfl, Nat.le_refl _, by omega, by simp [big], .inl rfl⟩
theorem ze42 : zeroIs Try.prog 42 [(.slice none 0 0), (.slice none 0 0)] := by unfold zeroIs; kernel_rfl
theorem o42_1 : fofs Try.prog 42 1 = some 1 := by kernel_rfl
theorem t40 : tinf Try.prog 40 = some (false, 1) := by kernel_rfl
theorem u40 : Try.prog.underlying 40 = some (.slice 64) := by kernel_rfl
theorem z64 : sizeIs Try.prog 64 1 := by unfold sizeIs; kernel_rfl
theorem pl42 : places Try.prog 42 = some [(0, 1), (1, 1)] := by kernel_rfl
theorem po42_0 : ∀ q f, f_api_Lattice_n0[q]? = some f → ([(0, 1), (1, 1)] : List (Nat × Nat))[q]? = some (offF f_api_Lattice_n0 q, f.d.sz) := fun q f h => by
  unfold f_api_Lattice_n0 at h
  match q, h with
  | 0, h => cases h; rfl
  | 1, h => cases h; rfl
  | n + 2, h => simp at h
theorem z42 : sizeIs Try.prog 42 2 := by unfold sizeIs; kernel_rfl
theorem o42_0 : fofs Try.prog 42 0 = some 0 := by kernel_rfl
theorem t39 : tinf Try.prog 39 = some (false, 1) := by kernel_rfl
theorem u39 : Try.prog.underlying 39 = some (.slice 9) := by kernel_rfl
theorem z9 : sizeIs Try.prog 9 1 := by unfold sizeIs; kernel_rfl
theorem t9 : tinf Try.prog 9 = some (false, 1) := by kernel_rfl
theorem u9 : Try.prog.underlying 9 = some (.string) := by kernel_rfl
theorem el39 : ElTy Try.prog 39 9 1 16 := ⟨by kernel_rfl, by kernel_rfl⟩
theorem z39 : sizeIs Try.prog 39 1 := by unfold sizeIs; kernel_rfl
theorem t42 : tinf Try.prog 42 = some (true, 2) := by kernel_rfl
theorem b128 : bodied Try.prog 128 := by unfold bodied; kernel_rfl
theorem b106 : bodied Try.prog 106 := by unfold bodied; kernel_rfl
theorem b107 : bodied Try.prog 107 := by unfold bodied; kernel_rfl
theorem t64 : tinf Try.prog 64 = some (false, 1) := by kernel_rfl
theorem t3 : tinf Try.prog 3 = some (false, 1) := by kernel_rfl
theorem zB : ∀ H, kB.reps H [.bool false] false := fun _ => rfl
theorem ze4 : zeroIs Try.prog 4 [(.bool false)] := by unfold zeroIs; kernel_rfl
theorem b82 : bodied Try.prog 82 := by unfold bodied; kernel_rfl
theorem b70 : bodied Try.prog 70 := by unfold bodied; kernel_rfl
theorem z4 : sizeIs Try.prog 4 1 := by unfold sizeIs; kernel_rfl
theorem t4 : tinf Try.prog 4 = some (false, 1) := by kernel_rfl
theorem b108 : bodied Try.prog 108 := by unfold bodied; kernel_rfl
theorem zI_u32 : ∀ H, (kI .u32).reps H [.int .u32 0] 0 := fun _ => ⟨rfl, by decide⟩
theorem ze64 : zeroIs Try.prog 64 [(.int .u32 0)] := by unfold zeroIs; kernel_rfl
theorem b102 : bodied Try.prog 102 := by unfold bodied; kernel_rfl
theorem b77 : bodied Try.prog 77 := by unfold bodied; kernel_rfl
theorem b103 : bodied Try.prog 103 := by unfold bodied; kernel_rfl
theorem zI_i64 : ∀ H, (kI .i64).reps H [.int .i64 0] 0 := fun _ => ⟨rfl, by decide⟩
theorem ze23 : zeroIs Try.prog 23 [(.int .i64 0)] := by unfold zeroIs; kernel_rfl
theorem b80 : bodied Try.prog 80 := by unfold bodied; kernel_rfl
theorem z23 : sizeIs Try.prog 23 1 := by unfold sizeIs; kernel_rfl
theorem t23 : tinf Try.prog 23 = some (false, 1) := by kernel_rfl
theorem b81 : bodied Try.prog 81 := by unfold bodied; kernel_rfl
theorem b71 : bodied Try.prog 71 := by unfold bodied; kernel_rfl
theorem b72 : bodied Try.prog 72 := by unfold bodied; kernel_rfl
theorem ze148 : zeroIs Try.prog 148 [(.slice none 0 0)] := by unfold zeroIs; kernel_rfl
theorem t148 : tinf Try.prog 148 = some (false, 1) := by kernel_rfl
theorem u148 : Try.prog.underlying 148 = some (.slice 107) := by kernel_rfl
theorem z107 : sizeIs Try.prog 107 1 := by unfold sizeIs; kernel_rfl
theorem t107 : tinf Try.prog 107 = some (false, 1) := by kernel_rfl
theorem u107 : Try.prog.underlying 107 = some (.bool) := by kernel_rfl
theorem z148 : sizeIs Try.prog 148 1 := by unfold sizeIs; kernel_rfl
theorem u22 : Try.prog.underlying 22 = some (.slice 3) := by kernel_rfl
theorem z3 : sizeIs Try.prog 3 1 := by unfold sizeIs; kernel_rfl
theorem el148 : ElTy Try.prog 148 107 1 1 := ⟨by kernel_rfl, by kernel_rfl⟩
theorem b112 : bodied Try.prog 112 := by unfold bodied; kernel_rfl
theorem b85 : bodied Try.prog 85 := by unfold bodied; kernel_rfl
theorem u4 : Try.prog.underlying 4 = some (.bool) := by kernel_rfl
theorem b127 : bodied Try.prog 127 := by unfold bodied; kernel_rfl
theorem b39 : bodied Try.prog 39 := by unfold bodied; kernel_rfl
theorem b113 : bodied Try.prog 113 := by unfold bodied; kernel_rfl
theorem b47 : bodied Try.prog 47 := by unfold bodied; kernel_rfl
theorem b100 : bodied Try.prog 100 := by unfold bodied; kernel_rfl
theorem o117_2 : fofs Try.prog 117 2 = some 3 := by kernel_rfl
theorem t115 : tinf Try.prog 115 = some (false, 1) := by kernel_rfl
theorem el115 : ElTy Try.prog 115 113 1 16 := ⟨by kernel_rfl, by kernel_rfl⟩
theorem z115 : sizeIs Try.prog 115 1 := by unfold sizeIs; kernel_rfl
theorem b101 : bodied Try.prog 101 := by unfold bodied; kernel_rfl
theorem b69 : bodied Try.prog 69 := by unfold bodied; kernel_rfl
theorem b76 : bodied Try.prog 76 := by unfold bodied; kernel_rfl
theorem u5 : Try.prog.underlying 5 = some (.int .u8) := by kernel_rfl
theorem u3 : Try.prog.underlying 3 = some (.int .i64) := by kernel_rfl
theorem b79 : bodied Try.prog 79 := by unfold bodied; kernel_rfl
theorem b78 : bodied Try.prog 78 := by unfold bodied; kernel_rfl
theorem u115 : Try.prog.underlying 115 = some (.slice 113) := by kernel_rfl
theorem z113 : sizeIs Try.prog 113 1 := by unfold sizeIs; kernel_rfl
theorem t113 : tinf Try.prog 113 = some (false, 1) := by kernel_rfl
theorem el22 : ElTy Try.prog 22 3 1 8 := ⟨by kernel_rfl, by kernel_rfl⟩
theorem cb110 : conB Try.prog 110 = true := by kernel_rfl
theorem zv110 : zeroV Try.prog 110 (.bool false) := by unfold zeroV; kernel_rfl
theorem cb119 : conB Try.prog 119 = true := by kernel_rfl
theorem zv119 : zeroV Try.prog 119 (.int .i64 0) := by unfold zeroV; kernel_rfl
theorem o117_0 : fofs Try.prog 117 0 = some 0 := by kernel_rfl
theorem b26 : bodied Try.prog 26 := by unfold bodied; kernel_rfl
theorem b27 : bodied Try.prog 27 := by unfold bodied; kernel_rfl
theorem b28 : bodied Try.prog 28 := by unfold bodied; kernel_rfl
theorem b114 : bodied Try.prog 114 := by unfold bodied; kernel_rfl
theorem b37 : bodied Try.prog 37 := by unfold bodied; kernel_rfl
theorem b38 : bodied Try.prog 38 := by unfold bodied; kernel_rfl
theorem o117_1 : fofs Try.prog 117 1 = some 2 := by kernel_rfl
theorem t22 : tinf Try.prog 22 = some (false, 1) := by kernel_rfl
theorem b115 : bodied Try.prog 115 := by unfold bodied; kernel_rfl
theorem b116 : bodied Try.prog 116 := by unfold bodied; kernel_rfl
theorem b87 : bodied Try.prog 87 := by unfold bodied; kernel_rfl
theorem pl117 : places Try.prog 117 = some [(0, 2), (2, 1), (3, 1)] := by kernel_rfl
theorem po117_2 : ∀ q f, f_judge_judge_n2[q]? = some f → ([(0, 2), (2, 1), (3, 1)] : List (Nat × Nat))[q]? = some (offF f_judge_judge_n2 q, f.d.sz) := fun q f h => by
  unfold f_judge_judge_n2 at h
  match q, h with
  | 0, h => cases h; rfl
  | 1, h => cases h; rfl
  | 2, h => cases h; rfl
  | n + 3, h => simp at h
theorem ze117 : zeroIs Try.prog 117 [(.slice none 0 0), (.slice none 0 0), (.slice none 0 0), (.slice none 0 0)] := by unfold zeroIs; kernel_rfl
theorem b88 : bodied Try.prog 88 := by unfold bodied; kernel_rfl
theorem b104 : bodied Try.prog 104 := by unfold bodied; kernel_rfl
theorem b105 : bodied Try.prog 105 := by unfold bodied; kernel_rfl
theorem b34 : bodied Try.prog 34 := by unfold bodied; kernel_rfl
theorem b74 : bodied Try.prog 74 := by unfold bodied; kernel_rfl
theorem b75 : bodied Try.prog 75 := by unfold bodied; kernel_rfl
theorem b35 : bodied Try.prog 35 := by unfold bodied; kernel_rfl
theorem b36 : bodied Try.prog 36 := by unfold bodied; kernel_rfl
theorem b63 : bodied Try.prog 63 := by unfold bodied; kernel_rfl
theorem b15 : bodied Try.prog 15 := by unfold bodied; kernel_rfl
theorem b30 : bodied Try.prog 30 := by unfold bodied; kernel_rfl
theorem b49 : bodied Try.prog 49 := by unfold bodied; kernel_rfl
theorem el40 : ElTy Try.prog 40 64 1 4 := ⟨by kernel_rfl, by kernel_rfl⟩
theorem po42 : ∀ q f, f_api_Lattice[q]? = some f → ([(0, 1), (1, 1)] : List (Nat × Nat))[q]? = some (offF f_api_Lattice q, f.d.sz) := fun q f h => by
  unfold f_api_Lattice at h
  match q, h with
  | 0, h => cases h; rfl
  | 1, h => cases h; rfl
  | n + 2, h => simp at h
theorem b53 : bodied Try.prog 53 := by unfold bodied; kernel_rfl
theorem ze72 : zeroIs Try.prog 72 [(.bool false), (.int .i64 0), (.int .i64 0)] := by unfold zeroIs; kernel_rfl
theorem pl72 : places Try.prog 72 = some [(0, 1), (1, 1), (2, 1)] := by kernel_rfl
theorem po72 : ∀ q f, f_reticentref07_V[q]? = some f → ([(0, 1), (1, 1), (2, 1)] : List (Nat × Nat))[q]? = some (offF f_reticentref07_V q, f.d.sz) := fun q f h => by
  unfold f_reticentref07_V at h
  match q, h with
  | 0, h => cases h; rfl
  | 1, h => cases h; rfl
  | 2, h => cases h; rfl
  | n + 3, h => simp at h
theorem z72 : sizeIs Try.prog 72 3 := by unfold sizeIs; kernel_rfl
theorem t72 : tinf Try.prog 72 = some (true, 3) := by kernel_rfl
theorem b40 : bodied Try.prog 40 := by unfold bodied; kernel_rfl
theorem b41 : bodied Try.prog 41 := by unfold bodied; kernel_rfl
theorem b89 : bodied Try.prog 89 := by unfold bodied; kernel_rfl
theorem o72_2 : fofs Try.prog 72 2 = some 2 := by kernel_rfl
theorem o72_0 : fofs Try.prog 72 0 = some 0 := by kernel_rfl
theorem o72_1 : fofs Try.prog 72 1 = some 1 := by kernel_rfl
theorem b51 : bodied Try.prog 51 := by unfold bodied; kernel_rfl
theorem b52 : bodied Try.prog 52 := by unfold bodied; kernel_rfl
theorem b54 : bodied Try.prog 54 := by unfold bodied; kernel_rfl
theorem b55 : bodied Try.prog 55 := by unfold bodied; kernel_rfl
theorem b56 : bodied Try.prog 56 := by unfold bodied; kernel_rfl
theorem ff72_0 : ffld Try.prog 72 0 = some (0, 4) := by kernel_rfl
theorem ff72_1 : ffld Try.prog 72 1 = some (1, 3) := by kernel_rfl
theorem b58 : bodied Try.prog 58 := by unfold bodied; kernel_rfl
theorem b48 : bodied Try.prog 48 := by unfold bodied; kernel_rfl

theorem reticentlaw07_few.ok {a0 : api_Lattice} {r : api_Lattice} (h : reticentlaw07_few.f a0 = some r) : FnA Try.prog 51 [(kR f_api_Lattice).sig a0] ((kR f_api_Lattice).sig r) := by
  refine fnIntro Try.func51 rfl (by kernel_rfl) fun H0 w0 => ?_
  unfold reticentlaw07_few.f at h
  refine wSeq ?_
  refine rg (cp (oBox tm) (s1 rfl) <| cw (oAlloc (id := 2) (ls := [.d (kN Str) [], .d (kL (kI .u32)) []]) ze42 (fun g => ⟨[(.slice none 0 0)], _, rfl, zN g.H, ⟨[(.slice none 0 0)], _, rfl, zL g.H, rfl⟩⟩)) trivial <| .nil) (by kernel_rfl) ?_
  refine pSeq ?_
  refine wSeq ?_
  obtain ⟨hc1, h⟩ := ib h
  refine rg (cp (oFld (fs := f_api_Lattice) (k := 1) rfl o42_1 tm) (s1 rfl) <| cp (oLd t40 tm) (s1 rfl) <| cp (oFld (fs := f_api_Lattice) (k := 1) rfl o42_1 tm) (s1 rfl) <| cp (oLd t40 tm) (s1 rfl) <| cp (oLenL u40 tm) (s1 rfl) <| cp (oMin tm (cI (by decide))) (s1 rfl) <| cp (oCutHi u40 z64 hc1.1 hc1.2 tm tm) (s2 rfl rfl) <| cp (oBuild (fs := f_api_Lattice_n0) (u := ⟨[], lCut a0.Up 0 (if 10 < (a0.Up.length : Int) then 10 else (a0.Up.length : Int))⟩) rfl ze42 pl42 po42_0 (.ze (zc := [(.slice none 0 0)]) zN (.op (zc := [(.slice none 0 0)]) tm rfl .nil))) (s1 rfl) <| cw (oAlloc (id := 3) (ls := [.d (kN Str) [], .d (kL (kI .u32)) []]) ze42 (fun g => ⟨[(.slice none 0 0)], _, rfl, zN g.H, ⟨[(.slice none 0 0)], _, rfl, zL g.H, rfl⟩⟩)) trivial <| cwn (oStA (n := 0) (fs := f_api_Lattice_n0) rfl rfl z42 tm tm) (s2 rfl rfl) <| .nil) (by kernel_rfl) ?_
  refine pSeq ?_
  refine wSeq ?_
  refine wSeq ?_
  obtain ⟨hc2, h⟩ := ib h
  refine rg (cp (oFld (fs := f_api_Lattice) (k := 0) rfl o42_0 tm) (s1 rfl) <| cp (oLd t39 tm) (s1 rfl) <| cp (oFld (fs := f_api_Lattice) (k := 0) rfl o42_0 tm) (s1 rfl) <| cp (oLd t39 tm) (s1 rfl) <| cp (oLenL u39 tm) (s1 rfl) <| cp (oMin tm (cI (by decide))) (s1 rfl) <| cp (oCutHi u39 z9 hc2.1 hc2.2 tm tm) (s2 rfl rfl) <| cp (oLenL u39 tm) (s1 rfl) <| cp (oMv (cI (by decide))) trivial <| .nil) (by kernel_rfl) ?_
  refine pSeq ?_
  refine wNilL kS 9 5150 (n := 0) (k := 0) rfl rfl rfl ?_
  obtain ⟨o1, h, hk1⟩ := bd h
  refine wK1 (fun x13 => x13 = o1) (fun x13 => [(2, .p 2 0), (3, .p 3 0)]) (fun x13 => [.row 5150 9 kS x13, .box 3 42 [.v 5150, .d (kL (kI .u32)) ((⟨[], lCut a0.Up 0 (if 10 < (a0.Up.length : Int) then 10 else (a0.Up.length : Int))⟩ : api_Lattice).Up)], .box 2 42 [.d (kN Str) [], .d (kL (kI .u32)) []]]) ?_ ?_
  · refine wBlock (wLoop ?_)
    refine lW (pc2 o1 (fun v11 v12 => [(2, .p 2 0), (3, .p 3 0), (20, .d ((kL kS).sig (lCut a0.Names 0 (if 10 < (a0.Names.length : Int) then 10 else (a0.Names.length : Int))))), (21, .d ((kI .i64).sig ((lCut a0.Names 0 (if 10 < (a0.Names.length : Int) then 10 else (a0.Names.length : Int))).length : Int))), (22, .d ((kI .i64).sig v12))]) (fun v11 v12 => [.row 5150 9 kS v11, .box 3 42 [.v 5150, .d (kL (kI .u32)) ((⟨[], lCut a0.Up 0 (if 10 < (a0.Up.length : Int) then 10 else (a0.Up.length : Int))⟩ : api_Lattice).Up)], .box 2 42 [.d (kN Str) [], .d (kL (kI .u32)) []]]) (reticentlaw07_few.l0.partial_correctness a0) ?_ _ _ h) ⟨rfl, rfl, rfl, rfl, rfl, trivial⟩ rfl
    clear h
    intro f' ih v11 v12 h
    refine wSeq ?_
    refine rg (cp (oLt rfl tm tm) (s2 rfl rfl) <| .nil) (by kernel_rfl) ?_
    refine pSeq ?_
    refine wSeq ?_
    rcases ic h with ⟨hp14, h⟩ | ⟨hp14, h⟩
    · refine wCT hp14 tm (s1 rfl) ?_
      refine wSkip ?_
      refine pSeq ?_
      refine wSeq ?_
      refine wBlock ?_
      refine wSeq ?_
      obtain ⟨y15, hy15, h⟩ := bd h
      refine rg (cp (oIdx u39 z9 hy15 tm tm) (s2 rfl rfl) <| cp (oLd t9 tm) (s1 rfl) <| cp (oAs tm) (s1 rfl) <| .nil) (by kernel_rfl) ?_
      refine pSeq ?_
      obtain ⟨hc16, h⟩ := ib h
      obtain ⟨hc17, h⟩ := ib h
      refine rgD hm (cp (oFldP o42_0 tm) (s1 rfl) <| cr (oLdN (n := 1) (k := 0) rfl rfl rfl t39 tm) (s1 rfl) <| cp (oMv tm) (s1 rfl) <| cp (oMv tm) (s1 rfl) <| cp (oLenS u9 tm) (s1 rfl) <| cp (oMin tm (cI (by decide))) (s1 rfl) <| cp (oCutSH u9 hc16.1 hc16.2 tm tm) (s2 rfl rfl) <| cp (oLit (d := kS) el39 (by decide) rfl rfl rfl (e1 tm e0)) (s1 rfl) <| cw (oApp (n := 0) (id' := 34) el39 (by decide) rfl (by decide) hc17 tm tm) (s2 rfl rfl) <| cp (oFldP o42_0 tm) (s1 rfl) <| cwn (oStN (n := 1) (m := 0) (k := 0) rfl rfl rfl rfl z39 rfl tm tm) (s2 rfl rfl) <| .nil) (by kernel_rfl) (by kernel_rfl) ?_
      refine pBlkN ?_
      refine pSeq ?_
      refine rg (cp (oAdd tm (cI (by decide))) (s1 rfl) <| cp (oMv tm) (s1 rfl) <| .nil) (by kernel_rfl) ?_
      refine pSub (Γ' := [(2, .p 2 0), (3, .p 3 0), (20, .d ((kL kS).sig (lCut a0.Names 0 (if 10 < (a0.Names.length : Int) then 10 else (a0.Names.length : Int))))), (21, .d ((kI .i64).sig ((lCut a0.Names 0 (if 10 < (a0.Names.length : Int) then 10 else (a0.Names.length : Int))).length : Int))), (22, .d ((kI .i64).sig (IntKind.i64.wrap (v12 + 1))))]) ⟨rfl, rfl, rfl, rfl, rfl, trivial⟩ ?_
      refine pRen 34 5150 rfl ?_
      exact pLoop (lW (ih _ _ h) ⟨rfl, rfl, rfl, rfl, rfl, trivial⟩ rfl)
    · refine wCF hp14 tm (s1 rfl) ?_
      refine wExit ?_
      refine pThenX ?_
      refine pThenX ?_
      refine pBlkX ?_
      exact pJ1 _ (so h) ⟨rfl, rfl, trivial⟩ rfl
  · rintro x13 rfl
    replace h := hk1
    refine pSeq ?_
    refine wSeq ?_
    refine wFrzR (n := 0) (id := 5150) [] rfl rfl trivial ?_
    refine rg (cr (oLdA (n := 0) (fs := f_api_Lattice) (u := ⟨x13, (⟨[], lCut a0.Up 0 (if 10 < (a0.Up.length : Int) then 10 else (a0.Up.length : Int))⟩ : api_Lattice).Up⟩) rfl ⟨rfl, rfl, trivial⟩ t42 tm) (s1 rfl) <| cwn (oStA (n := 1) (fs := f_api_Lattice) rfl rfl z42 tm tm) (s2 rfl rfl) <| .nil) (by kernel_rfl) ?_
    refine pSeq ?_
    refine wRet ?_
    obtain rfl := so h
    exact pR1 (.inl rfl) rfl (.box (n := 1) (fs := f_api_Lattice) (u := ⟨(⟨x13, (⟨[], lCut a0.Up 0 (if 10 < (a0.Up.length : Int) then 10 else (a0.Up.length : Int))⟩ : api_Lattice).Up⟩ : api_Lattice).Names, (⟨x13, (⟨[], lCut a0.Up 0 (if 10 < (a0.Up.length : Int) then 10 else (a0.Up.length : Int))⟩ : api_Lattice).Up⟩ : api_Lattice).Up⟩) rfl rfl ⟨rfl, rfl, trivial⟩ t42 <| .nil)

theorem lattice_name.ok {a0 : Str} {r : Bool} (h : lattice_name.f a0 = some r) : FnA Try.prog 106 [kS.sig a0] (kB.sig r) := by
  refine fnIntro Try.func106 rfl (by kernel_rfl) fun H0 w0 => ?_
  unfold lattice_name.f at h
  refine wSeq ?_
  refine rg (cp (oAs cB) trivial <| .nil) (by kernel_rfl) ?_
  refine pSeq ?_
  refine wSeq ?_
  refine wSeq ?_
  refine rg (cp (oMv tm) (s1 rfl) <| cp (oLenS u9 tm) (s1 rfl) <| cp (oMv (cI (by decide))) trivial <| .nil) (by kernel_rfl) ?_
  refine pSeq ?_
  obtain ⟨o1, h, hk1⟩ := bd h
  refine wK0 (.inr () = o1) ([(0, .d (kS.sig a0))]) ([]) ?_ ?_
  · refine wBlock (wLoop ?_)
    refine lW (pc1 o1 (fun v19 => [(0, .d (kS.sig a0)), (5, .d ((kI .i64).sig (a0.length : Int))), (6, .d ((kI .i64).sig v19))]) (fun v19 => []) (lattice_name.l0.partial_correctness a0) ?_ _ h) ⟨rfl, rfl, rfl, trivial⟩ rfl
    clear h
    intro f' ih v19 h
    refine wSeq ?_
    refine rg (cp (oLt rfl tm tm) (s2 rfl rfl) <| .nil) (by kernel_rfl) ?_
    refine pSeq ?_
    refine wSeq ?_
    rcases ic h with ⟨hp20, h⟩ | ⟨hp20, h⟩
    · refine wCT hp20 tm (s1 rfl) ?_
      refine wSkip ?_
      refine pSeq ?_
      refine wSeq ?_
      refine wBlock ?_
      refine wSeq ?_
      refine rg (cp (oMv tm) (s1 rfl) <| cp (oAs tm) (s1 rfl) <| .nil) (by kernel_rfl) ?_
      refine pSeq ?_
      obtain ⟨o2, h, hk2⟩ := bd h
      refine wJ1 (fun x24 => x24 = o2) (fun x24 => [(0, .d (kS.sig a0)), (5, .d ((kI .i64).sig (a0.length : Int))), (6, .d ((kI .i64).sig v19)), (18, .d (kB.sig x24))]) (fun x24 => []) ?_ ?_
      · obtain ⟨hc25, h⟩ := ib h
        rcases ic h with ⟨hp26, h⟩ | ⟨hp26, h⟩
        · refine rg (cp (oMv tm) (s1 rfl) <| cp (oMv tm) (s1 rfl) <| cp (oIdxS u9 hc25.1 hc25.2 tm tm) (s2 rfl rfl) <| cp (oLt rfl tm (cI (by decide))) (s1 rfl) <| cp (oMv tm) (s1 rfl) <| csB (decide_eq_true hp26) rfl rfl <| csB (decide_eq_true hp26) rfl rfl <| csB (decide_eq_true hp26) rfl rfl <| csB (decide_eq_true hp26) rfl rfl <| cp (oPkT (decide_eq_true hp26) tm cB) (s1 rfl) <| .nil) (by kernel_rfl) ?_
          exact pJ1 _ (so h) ⟨rfl, rfl, rfl, rfl, trivial⟩ rfl
        · obtain ⟨hc27, h⟩ := ib h
          refine rg (cp (oMv tm) (s1 rfl) <| cp (oMv tm) (s1 rfl) <| cp (oIdxS u9 hc25.1 hc25.2 tm tm) (s2 rfl rfl) <| cp (oLt rfl tm (cI (by decide))) (s1 rfl) <| cp (oMv tm) (s1 rfl) <| cgB (decide_eq_false hp26) rfl rfl (oMv tm) (s1 rfl) <| cgB (decide_eq_false hp26) rfl rfl (oMv tm) (s1 rfl) <| cgB (decide_eq_false hp26) rfl rfl (oIdxS u9 hc27.1 hc27.2 tm tm) (s2 rfl rfl) <| cgB (decide_eq_false hp26) rfl rfl (oGt rfl tm (cI (by decide))) (s1 rfl) <| cp (oPkF (decide_eq_false hp26) tm tm) (s2 rfl rfl) <| .nil) (by kernel_rfl) ?_
          exact pJ1 _ (so h) ⟨rfl, rfl, rfl, rfl, trivial⟩ rfl
      · rintro x24 rfl
        replace h := hk2
        rcases ic h with ⟨hp28, h⟩ | ⟨hp28, h⟩
        · refine wBT hp28 tm (s1 rfl) ?_
          refine wSeq ?_
          refine rg (cp (oAs cB) trivial <| .nil) (by kernel_rfl) ?_
          refine pSeq ?_
          refine wRet ?_
          refine pBlkR ?_
          refine pThenR ?_
          refine pThenR ?_
          refine pBlkR ?_
          refine pThenR ?_
          obtain rfl := so h
          replace h := hk1
          refine pThenR ?_
          obtain rfl := so h
          exact pR1 (.inl rfl) rfl (.tmp rfl <| .nil)
        · refine wBF hp28 tm (s1 rfl) ?_
          refine wSkip ?_
          refine pBlkN ?_
          refine pSeq ?_
          refine rg (cp (oAdd tm (cI (by decide))) (s1 rfl) <| cp (oMv tm) (s1 rfl) <| .nil) (by kernel_rfl) ?_
          exact pLoop (lW (ih _ h) ⟨rfl, rfl, rfl, trivial⟩ rfl)
    · refine wCF hp20 tm (s1 rfl) ?_
      refine wExit ?_
      refine pThenX ?_
      refine pThenX ?_
      refine pBlkX ?_
      exact pJ0 (so h) ⟨rfl, trivial⟩ rfl
  · rintro rfl
    replace h := hk1
    refine pSeq ?_
    obtain ⟨o1, h, hk1⟩ := bd h
    refine wJ1 (fun x30 => x30 = o1) (fun x30 => [(2, .d (kB.sig x30))]) (fun x30 => []) ?_ ?_
    · rcases ic h with ⟨hp31, h⟩ | ⟨hp31, h⟩
      · refine rg (cp (oMv tm) (s1 rfl) <| cp (oSNe rfl tm (cS (by decide))) (s1 rfl) <| cp (oMv tm) (s1 rfl) <| csB (nf hp31) rfl rfl <| csB (nf hp31) rfl rfl <| csB (nf hp31) rfl rfl <| cp (oPkF (nf hp31) tm cB) (s1 rfl) <| cp (oAs tm) (s1 rfl) <| .nil) (by kernel_rfl) ?_
        exact pJ1 _ (so h) ⟨rfl, trivial⟩ rfl
      · refine rg (cp (oMv tm) (s1 rfl) <| cp (oSNe rfl tm (cS (by decide))) (s1 rfl) <| cp (oMv tm) (s1 rfl) <| cgB (nt hp31) rfl rfl (oMv tm) (s1 rfl) <| cgB (nt hp31) rfl rfl (oLenS u9 tm) (s1 rfl) <| cgB (nt hp31) rfl rfl (oLe rfl tm (cI (by decide))) (s1 rfl) <| cp (oPkT (nt hp31) tm tm) (s2 rfl rfl) <| cp (oAs tm) (s1 rfl) <| .nil) (by kernel_rfl) ?_
        exact pJ1 _ (so h) ⟨rfl, trivial⟩ rfl
    · rintro x30 rfl
      replace h := hk1
      refine wRet ?_
      obtain rfl := so h
      exact pR1 (.inl rfl) rfl (.tmp rfl <| .nil)

theorem slices_Index_string_string.ok {a0 : List Str} {a1 : Str} {r : Int} (h : slices_Index_string_string.f a0 a1 = some r) : FnA Try.prog 128 [(kL kS).sig a0, kS.sig a1] ((kI .i64).sig r) := by
  refine fnIntro Try.func128 rfl (by kernel_rfl) fun H0 w0 => ?_
  unfold slices_Index_string_string.f at h
  refine wSeq ?_
  refine rg (cp (oAs (cI (by decide))) trivial <| .nil) (by kernel_rfl) ?_
  refine pSeq ?_
  refine wSeq ?_
  refine wSeq ?_
  refine rg (cp (oMv tm) (s1 rfl) <| cp (oLenL u39 tm) (s1 rfl) <| cp (oMv (cI (by decide))) trivial <| .nil) (by kernel_rfl) ?_
  refine pSeq ?_
  obtain ⟨o1, h, hk1⟩ := bd h
  refine wK0 (.inr () = o1) ([]) ([]) ?_ ?_
  · refine wBlock (wLoop ?_)
    refine lW (pc1 o1 (fun v7 => [(0, .d ((kL kS).sig a0)), (1, .d (kS.sig a1)), (7, .d ((kI .i64).sig (a0.length : Int))), (8, .d ((kI .i64).sig v7))]) (fun v7 => []) (slices_Index_string_string.l0.partial_correctness a0 a1) ?_ _ h) ⟨rfl, rfl, rfl, rfl, trivial⟩ rfl
    clear h
    intro f' ih v7 h
    refine wSeq ?_
    refine rg (cp (oLt rfl tm tm) (s2 rfl rfl) <| .nil) (by kernel_rfl) ?_
    refine pSeq ?_
    refine wSeq ?_
    rcases ic h with ⟨hp8, h⟩ | ⟨hp8, h⟩
    · refine wCT hp8 tm (s1 rfl) ?_
      refine wSkip ?_
      refine pSeq ?_
      refine wSeq ?_
      refine wBlock ?_
      refine wSeq ?_
      refine rg (cp (oMv tm) (s1 rfl) <| cp (oAs tm) (s1 rfl) <| .nil) (by kernel_rfl) ?_
      refine pSeq ?_
      refine wSeq ?_
      obtain ⟨y9, hy9, h⟩ := bd h
      refine rg (cp (oMv tm) (s1 rfl) <| cp (oMv tm) (s1 rfl) <| cp (oMv tm) (s1 rfl) <| cp (oIdx u39 z9 hy9 tm tm) (s2 rfl rfl) <| cp (oLd t9 tm) (s1 rfl) <| cp (oSEq rfl tm tm) (s2 rfl rfl) <| .nil) (by kernel_rfl) ?_
      refine pSeq ?_
      rcases ic h with ⟨hp10, h⟩ | ⟨hp10, h⟩
      · refine wCT hp10 tm (s1 rfl) ?_
        refine wSeq ?_
        refine rg (cp (oMv tm) (s1 rfl) <| cp (oAs tm) (s1 rfl) <| .nil) (by kernel_rfl) ?_
        refine pSeq ?_
        refine wRet ?_
        refine pBlkR ?_
        refine pThenR ?_
        refine pThenR ?_
        refine pBlkR ?_
        refine pThenR ?_
        obtain rfl := so h
        replace h := hk1
        refine pThenR ?_
        obtain rfl := so h
        exact pR1 (.inl rfl) rfl (.tmp rfl <| .nil)
      · refine wCF hp10 tm (s1 rfl) ?_
        refine wSkip ?_
        refine pBlkN ?_
        refine pSeq ?_
        refine rg (cp (oAdd tm (cI (by decide))) (s1 rfl) <| cp (oMv tm) (s1 rfl) <| .nil) (by kernel_rfl) ?_
        exact pLoop (lW (ih _ h) ⟨rfl, rfl, rfl, rfl, trivial⟩ rfl)
    · refine wCF hp8 tm (s1 rfl) ?_
      refine wExit ?_
      refine pThenX ?_
      refine pThenX ?_
      refine pBlkX ?_
      exact pJ0 (so h) trivial rfl
  · rintro rfl
    replace h := hk1
    refine pSeq ?_
    refine wSeq ?_
    refine rg (cp (oAs (cI (by decide))) trivial <| .nil) (by kernel_rfl) ?_
    refine pSeq ?_
    refine wRet ?_
    obtain rfl := so h
    exact pR1 (.inl rfl) rfl (.tmp rfl <| .nil)

theorem slices_Contains_string_string.ok {a0 : List Str} {a1 : Str} {r : Bool} (h : slices_Contains_string_string.f a0 a1 = some r) : FnA Try.prog 107 [(kL kS).sig a0, kS.sig a1] (kB.sig r) := by
  refine fnIntro Try.func107 rfl (by kernel_rfl) fun H0 w0 => ?_
  unfold slices_Contains_string_string.f at h
  refine wSeq ?_
  refine rg (cp (oAs cB) trivial <| .nil) (by kernel_rfl) ?_
  refine pSeq ?_
  refine wSeq ?_
  obtain ⟨y1, hy1, h⟩ := bd h
  refine rg (cp (oMv tm) (s1 rfl) <| cp (oMv tm) (s1 rfl) <| cp (oCall rfl (slices_Index_string_string.ok hy1) b128 (opds_cons tm (opds_cons tm opds_nil))) (s2 rfl rfl) <| cp (oGe rfl tm (cI (by decide))) (s1 rfl) <| cp (oAs tm) (s1 rfl) <| .nil) (by kernel_rfl) ?_
  refine pSeq ?_
  refine wRet ?_
  obtain rfl := so h
  exact pR1 (.inl rfl) rfl (.tmp rfl <| .nil)

theorem lattice_may.ok {a0 : api_Lattice} {r : Bool} (h : lattice_may.f a0 = some r) : FnA Try.prog 80 [(kR f_api_Lattice).sig a0] (kB.sig r) := by
  refine fnIntro Try.func80 rfl (by kernel_rfl) fun H0 w0 => ?_
  unfold lattice_may.f at h
  refine wSeq ?_
  refine rg (cp (oBox tm) (s1 rfl) <| cp (oAs cB) trivial <| .nil) (by kernel_rfl) ?_
  refine pSeq ?_
  refine wSeq ?_
  refine rg (cp (oFld (fs := f_api_Lattice) (k := 1) rfl o42_1 tm) (s1 rfl) <| cp (oLd t40 tm) (s1 rfl) <| cp (oLenL u40 tm) (s1 rfl) <| cp (oAs tm) (s1 rfl) <| .nil) (by kernel_rfl) ?_
  refine pSeq ?_
  refine wSeq ?_
  obtain ⟨o1, h, hk1⟩ := bd h
  refine wJ1 (fun x3 => x3 = o1) (fun x3 => [(1, .d (sP (kR f_api_Lattice) a0)), (3, .d ((kI .i64).sig (a0.Up.length : Int))), (21, .d (kB.sig x3))]) (fun x3 => []) ?_ ?_
  · rcases ic h with ⟨hp4, h⟩ | ⟨hp4, h⟩
    · refine rg (cp (oMv tm) (s1 rfl) <| cp (oLt rfl tm (cI (by decide))) (s1 rfl) <| cp (oMv tm) (s1 rfl) <| csB (decide_eq_true hp4) rfl rfl <| csB (decide_eq_true hp4) rfl rfl <| cp (oPkT (decide_eq_true hp4) tm cB) (s1 rfl) <| cp (oMv tm) (s1 rfl) <| csB rfl rfl rfl <| csB rfl rfl rfl <| csB rfl rfl rfl <| csB rfl rfl rfl <| csB rfl rfl rfl <| cp (oPkT rfl tm cB) (s1 rfl) <| .nil) (by kernel_rfl) ?_
      exact pJ1 _ (so h) ⟨rfl, rfl, rfl, trivial⟩ rfl
    · rcases ic h with ⟨hp5, h⟩ | ⟨hp5, h⟩
      · refine rg (cp (oMv tm) (s1 rfl) <| cp (oLt rfl tm (cI (by decide))) (s1 rfl) <| cp (oMv tm) (s1 rfl) <| cgB (decide_eq_false hp4) rfl rfl (oMv tm) (s1 rfl) <| cgB (decide_eq_false hp4) rfl rfl (oGt rfl tm (cI (by decide))) (s1 rfl) <| cp (oPkF (decide_eq_false hp4) tm tm) (s2 rfl rfl) <| cp (oMv tm) (s1 rfl) <| csB (decide_eq_true hp5) rfl rfl <| csB (decide_eq_true hp5) rfl rfl <| csB (decide_eq_true hp5) rfl rfl <| csB (decide_eq_true hp5) rfl rfl <| csB (decide_eq_true hp5) rfl rfl <| cp (oPkT (decide_eq_true hp5) tm cB) (s1 rfl) <| .nil) (by kernel_rfl) ?_
        exact pJ1 _ (so h) ⟨rfl, rfl, rfl, trivial⟩ rfl
      · refine rg (cp (oMv tm) (s1 rfl) <| cp (oLt rfl tm (cI (by decide))) (s1 rfl) <| cp (oMv tm) (s1 rfl) <| cgB (decide_eq_false hp4) rfl rfl (oMv tm) (s1 rfl) <| cgB (decide_eq_false hp4) rfl rfl (oGt rfl tm (cI (by decide))) (s1 rfl) <| cp (oPkF (decide_eq_false hp4) tm tm) (s2 rfl rfl) <| cp (oMv tm) (s1 rfl) <| cgB (decide_eq_false hp5) rfl rfl (oFld (fs := f_api_Lattice) (k := 0) rfl o42_0 tm) (s1 rfl) <| cgB (decide_eq_false hp5) rfl rfl (oLd t39 tm) (s1 rfl) <| cgB (decide_eq_false hp5) rfl rfl (oLenL u39 tm) (s1 rfl) <| cgB (decide_eq_false hp5) rfl rfl (oMv tm) (s1 rfl) <| cgB (decide_eq_false hp5) rfl rfl (oNe rfl tm tm) (s2 rfl rfl) <| cp (oPkF (decide_eq_false hp5) tm tm) (s2 rfl rfl) <| .nil) (by kernel_rfl) ?_
        exact pJ1 _ (so h) ⟨rfl, rfl, rfl, trivial⟩ rfl
  · rintro x3 rfl
    replace h := hk1
    rcases ic h with ⟨hp6, h⟩ | ⟨hp6, h⟩
    · refine wBT hp6 tm (s1 rfl) ?_
      refine wSeq ?_
      refine rg (cp (oAs cB) trivial <| .nil) (by kernel_rfl) ?_
      refine pSeq ?_
      refine wRet ?_
      refine pThenR ?_
      obtain rfl := so h
      exact pR1 (.inl rfl) rfl (.tmp rfl <| .nil)
    · refine wBF hp6 tm (s1 rfl) ?_
      refine wSkip ?_
      refine pSeq ?_
      refine wSeq ?_
      refine wSeq ?_
      refine rg (cp (oFld (fs := f_api_Lattice) (k := 0) rfl o42_0 tm) (s1 rfl) <| cp (oLd t39 tm) (s1 rfl) <| cp (oLenL u39 tm) (s1 rfl) <| cp (oMv (cI (by decide))) trivial <| .nil) (by kernel_rfl) ?_
      refine pSeq ?_
      obtain ⟨o1, h, hk1⟩ := bd h
      refine wK0 (.inr () = o1) ([]) ([]) ?_ ?_
      · refine wBlock (wLoop ?_)
        refine lW (pc1 o1 (fun v43 => [(1, .d (sP (kR f_api_Lattice) a0)), (3, .d ((kI .i64).sig (a0.Up.length : Int))), (23, .d ((kL kS).sig a0.Names)), (24, .d ((kI .i64).sig (a0.Names.length : Int))), (25, .d ((kI .i64).sig v43))]) (fun v43 => []) (lattice_may.l0.partial_correctness a0) ?_ _ h) ⟨rfl, rfl, rfl, rfl, rfl, trivial⟩ rfl
        clear h
        intro f' ih v43 h
        refine wSeq ?_
        refine rg (cp (oLt rfl tm tm) (s2 rfl rfl) <| .nil) (by kernel_rfl) ?_
        refine pSeq ?_
        refine wSeq ?_
        rcases ic h with ⟨hp44, h⟩ | ⟨hp44, h⟩
        · refine wCT hp44 tm (s1 rfl) ?_
          refine wSkip ?_
          refine pSeq ?_
          refine wSeq ?_
          refine wBlock ?_
          refine wSeq ?_
          obtain ⟨y45, hy45, h⟩ := bd h
          refine rg (cp (oMv tm) (s1 rfl) <| cp (oIdx u39 z9 hy45 tm tm) (s2 rfl rfl) <| cp (oLd t9 tm) (s1 rfl) <| cp (oAs tm) (s1 rfl) <| cp (oAs tm) (s1 rfl) <| .nil) (by kernel_rfl) ?_
          refine pSeq ?_
          obtain ⟨o2, h, hk2⟩ := bd h
          refine wJ1 (fun x53 => x53 = o2) (fun x53 => [(1, .d (sP (kR f_api_Lattice) a0)), (3, .d ((kI .i64).sig (a0.Up.length : Int))), (23, .d ((kL kS).sig a0.Names)), (24, .d ((kI .i64).sig (a0.Names.length : Int))), (25, .d ((kI .i64).sig v43)), (50, .d (kB.sig x53))]) (fun x53 => []) ?_ ?_
          · obtain ⟨y54, hy54, h⟩ := bd h
            rcases ic h with ⟨hp55, h⟩ | ⟨hp55, h⟩
            · refine rg (cp (oMv tm) (s1 rfl) <| cp (oCall rfl (lattice_name.ok hy54) b106 (opds_cons tm opds_nil)) (s1 rfl) <| cp (oNot tm) (s1 rfl) <| cp (oMv tm) (s1 rfl) <| csB hp55 rfl rfl <| csB hp55 rfl rfl <| csB hp55 rfl rfl <| csB hp55 rfl rfl <| csB hp55 rfl rfl <| csB hp55 rfl rfl <| cp (oPkT hp55 tm cB) (s1 rfl) <| cp (oMv tm) (s1 rfl) <| csB rfl rfl rfl <| csB rfl rfl rfl <| csB rfl rfl rfl <| csB rfl rfl rfl <| csB rfl rfl rfl <| csB rfl rfl rfl <| csB rfl rfl rfl <| csB rfl rfl rfl <| cp (oPkT rfl tm cB) (s1 rfl) <| .nil) (by kernel_rfl) ?_
              exact pJ1 _ (so h) ⟨rfl, rfl, rfl, rfl, rfl, rfl, trivial⟩ rfl
            · obtain ⟨hc56, h⟩ := ib h
              obtain ⟨y57, hy57, h⟩ := bd h
              rcases ic h with ⟨hp58, h⟩ | ⟨hp58, h⟩
              · refine rg (cp (oMv tm) (s1 rfl) <| cp (oCall rfl (lattice_name.ok hy54) b106 (opds_cons tm opds_nil)) (s1 rfl) <| cp (oNot tm) (s1 rfl) <| cp (oMv tm) (s1 rfl) <| cgB (nb hp55) rfl rfl (oFld (fs := f_api_Lattice) (k := 0) rfl o42_0 tm) (s1 rfl) <| cgB (nb hp55) rfl rfl (oLd t39 tm) (s1 rfl) <| cgB (nb hp55) rfl rfl (oMv tm) (s1 rfl) <| cgB (nb hp55) rfl rfl (oCutHi u39 z9 hc56.1 hc56.2 tm tm) (s2 rfl rfl) <| cgB (nb hp55) rfl rfl (oMv tm) (s1 rfl) <| cgB (nb hp55) rfl rfl (oCall rfl (slices_Contains_string_string.ok hy57) b107 (opds_cons tm (opds_cons tm opds_nil))) (s2 rfl rfl) <| cp (oPkF (nb hp55) tm tm) (s2 rfl rfl) <| cp (oMv tm) (s1 rfl) <| csB hp58 rfl rfl <| csB hp58 rfl rfl <| csB hp58 rfl rfl <| csB hp58 rfl rfl <| csB hp58 rfl rfl <| csB hp58 rfl rfl <| csB hp58 rfl rfl <| csB hp58 rfl rfl <| cp (oPkT hp58 tm cB) (s1 rfl) <| .nil) (by kernel_rfl) ?_
                exact pJ1 _ (so h) ⟨rfl, rfl, rfl, rfl, rfl, rfl, trivial⟩ rfl
              · obtain ⟨y59, hy59, h⟩ := bd h
                obtain ⟨hc60, h⟩ := ib h
                refine rg (cp (oMv tm) (s1 rfl) <| cp (oCall rfl (lattice_name.ok hy54) b106 (opds_cons tm opds_nil)) (s1 rfl) <| cp (oNot tm) (s1 rfl) <| cp (oMv tm) (s1 rfl) <| cgB (nb hp55) rfl rfl (oFld (fs := f_api_Lattice) (k := 0) rfl o42_0 tm) (s1 rfl) <| cgB (nb hp55) rfl rfl (oLd t39 tm) (s1 rfl) <| cgB (nb hp55) rfl rfl (oMv tm) (s1 rfl) <| cgB (nb hp55) rfl rfl (oCutHi u39 z9 hc56.1 hc56.2 tm tm) (s2 rfl rfl) <| cgB (nb hp55) rfl rfl (oMv tm) (s1 rfl) <| cgB (nb hp55) rfl rfl (oCall rfl (slices_Contains_string_string.ok hy57) b107 (opds_cons tm (opds_cons tm opds_nil))) (s2 rfl rfl) <| cp (oPkF (nb hp55) tm tm) (s2 rfl rfl) <| cp (oMv tm) (s1 rfl) <| cgB (nb hp58) rfl rfl (oFld (fs := f_api_Lattice) (k := 1) rfl o42_1 tm) (s1 rfl) <| cgB (nb hp58) rfl rfl (oLd t40 tm) (s1 rfl) <| cgB (nb hp58) rfl rfl (oMv tm) (s1 rfl) <| cgB (nb hp58) rfl rfl (oIdx u40 z64 hy59 tm tm) (s2 rfl rfl) <| cgB (nb hp58) rfl rfl (oLd t64 tm) (s1 rfl) <| cgB (nb hp58) rfl rfl (oMv tm) (s1 rfl) <| cgB (nb hp58) rfl rfl (oShr hc60 tm tm) (s2 rfl rfl) <| cgB (nb hp58) rfl rfl (oNe rfl tm (cI (by decide))) (s1 rfl) <| cp (oPkF (nb hp58) tm tm) (s2 rfl rfl) <| .nil) (by kernel_rfl) ?_
                exact pJ1 _ (so h) ⟨rfl, rfl, rfl, rfl, rfl, rfl, trivial⟩ rfl
          · rintro x53 rfl
            replace h := hk2
            rcases ic h with ⟨hp61, h⟩ | ⟨hp61, h⟩
            · refine wBT hp61 tm (s1 rfl) ?_
              refine wSeq ?_
              refine rg (cp (oAs cB) trivial <| .nil) (by kernel_rfl) ?_
              refine pSeq ?_
              refine wRet ?_
              refine pBlkR ?_
              refine pThenR ?_
              refine pThenR ?_
              refine pBlkR ?_
              refine pThenR ?_
              obtain rfl := so h
              replace h := hk1
              refine pThenR ?_
              obtain rfl := so h
              exact pR1 (.inl rfl) rfl (.tmp rfl <| .nil)
            · refine wBF hp61 tm (s1 rfl) ?_
              refine wSkip ?_
              refine pBlkN ?_
              refine pSeq ?_
              refine rg (cp (oAdd tm (cI (by decide))) (s1 rfl) <| cp (oMv tm) (s1 rfl) <| .nil) (by kernel_rfl) ?_
              exact pLoop (lW (ih _ h) ⟨rfl, rfl, rfl, rfl, rfl, trivial⟩ rfl)
        · refine wCF hp44 tm (s1 rfl) ?_
          refine wExit ?_
          refine pThenX ?_
          refine pThenX ?_
          refine pBlkX ?_
          exact pJ0 (so h) trivial rfl
      · rintro rfl
        replace h := hk1
        refine pSeq ?_
        refine wSeq ?_
        refine rg (cp (oAs cB) trivial <| .nil) (by kernel_rfl) ?_
        refine pSeq ?_
        refine wRet ?_
        obtain rfl := so h
        exact pR1 (.inl rfl) rfl (.tmp rfl <| .nil)

theorem lattice_pairs_1.ok {a1 : Int} : FnY Try.prog 108 (fun z => (kI .i64).sig z) (fun z => (kI .i64).sig z) [sP (kI .i64) a1] (fun {σ} a_y a_s => lattice_pairs_1.f a_y a_s a1) := by
  refine fnIntroY 7777 Try.func108 rfl (by kernel_rfl) (fun σ A a_y a_s a_r h bs H0 w0 => ?_)
  replace h : lattice_pairs_1.f a_y a_s a1 = some a_r := h
  unfold lattice_pairs_1.f at h
  refine wSeq ?_
  refine rg (cp (oLd t3 tm) (s1 rfl) <| cp (oMv (cI (by decide))) trivial <| .nil) (by kernel_rfl) ?_
  refine pSeq ?_
  obtain ⟨o1, h, hk1⟩ := bd h
  refine wK1 (fun x29 => .inr x29 = o1) (fun x29 => []) (fun x29 => [.abs 7777 A x29]) ?_ ?_
  · refine wBlock (wLoop ?_)
    refine lW (pc2 o1 (fun v27 v28 => [(0, .d (sYield Try.prog A a_y (fun z => (kI .i64).sig z) (fun z => (kI .i64).sig z))), (1, .d (sP (kI .i64) a1)), (5, .d ((kI .i64).sig a1)), (6, .d ((kI .i64).sig v28))]) (fun v27 v28 => [.abs 7777 A v27]) (lattice_pairs_1.l2.partial_correctness a_y a1) ?_ _ _ h) ⟨rfl, rfl, rfl, rfl, trivial⟩ rfl
    clear h
    intro f' ih v27 v28 h
    refine wSeq ?_
    refine rg (cp (oLt rfl tm tm) (s2 rfl rfl) <| .nil) (by kernel_rfl) ?_
    refine pSeq ?_
    refine wSeq ?_
    rcases ic h with ⟨hp30, h⟩ | ⟨hp30, h⟩
    · refine wCT hp30 tm (s1 rfl) ?_
      refine wSkip ?_
      refine pSeq ?_
      refine wSeq ?_
      refine wBlock ?_
      refine wSeq ?_
      refine rg (cp (oMv tm) (s1 rfl) <| cp (oAs tm) (s1 rfl) <| .nil) (by kernel_rfl) ?_
      refine pSeq ?_
      refine wSeq ?_
      refine rg (cp (oLd t3 tm) (s1 rfl) <| cp (oMv (cI (by decide))) trivial <| .nil) (by kernel_rfl) ?_
      refine pSeq ?_
      obtain ⟨o2, h, hk2⟩ := bd h
      refine wK1 (fun x39 => .inr x39 = o2) (fun x39 => [(0, .d (sYield Try.prog A a_y (fun z => (kI .i64).sig z) (fun z => (kI .i64).sig z))), (1, .d (sP (kI .i64) a1)), (5, .d ((kI .i64).sig a1)), (6, .d ((kI .i64).sig v28))]) (fun x39 => [.abs 7777 A x39]) ?_ ?_
      · refine wBlock (wLoop ?_)
        refine lW (pc2 o2 (fun v37 v38 => [(0, .d (sYield Try.prog A a_y (fun z => (kI .i64).sig z) (fun z => (kI .i64).sig z))), (1, .d (sP (kI .i64) a1)), (3, .d ((kI .i64).sig v28)), (5, .d ((kI .i64).sig a1)), (6, .d ((kI .i64).sig v28)), (9, .d ((kI .i64).sig a1)), (10, .d ((kI .i64).sig v38))]) (fun v37 v38 => [.abs 7777 A v37]) (lattice_pairs_1.l3.partial_correctness a_y a1 v28) ?_ _ _ h) ⟨rfl, rfl, rfl, rfl, rfl, rfl, rfl, trivial⟩ rfl
        clear h
        intro f' ih v37 v38 h
        refine wSeq ?_
        refine rg (cp (oLt rfl tm tm) (s2 rfl rfl) <| .nil) (by kernel_rfl) ?_
        refine pSeq ?_
        refine wSeq ?_
        rcases ic h with ⟨hp40, h⟩ | ⟨hp40, h⟩
        · refine wCT hp40 tm (s1 rfl) ?_
          refine wSkip ?_
          refine pSeq ?_
          refine wSeq ?_
          refine wBlock ?_
          refine wSeq ?_
          refine rg (cp (oMv tm) (s1 rfl) <| cp (oAs tm) (s1 rfl) <| .nil) (by kernel_rfl) ?_
          refine pSeq ?_
          refine wSeq ?_
          obtain ⟨y41, hy41, h⟩ := bd h
          refine rg (cp (oMv tm) (s1 rfl) <| cp (oMv tm) (s1 rfl) <| cp (oMv tm) (s1 rfl) <| cm (oYield (n := 0) (id' := 16) rfl hy41 tm tm tm) (s3 rfl rfl rfl) <| cp (oNot tm) (s1 rfl) <| .nil) (by kernel_rfl) ?_
          refine pSeq ?_
          rcases ic h with ⟨hp42, h⟩ | ⟨hp42, h⟩
          · refine wBT hp42 tm (s1 rfl) ?_
            refine wRet ?_
            refine pBlkR ?_
            refine pThenR ?_
            refine pThenR ?_
            refine pBlkR ?_
            refine pThenR ?_
            obtain rfl := so h
            replace h := hk2
            refine pBlkR ?_
            refine pThenR ?_
            refine pThenR ?_
            refine pBlkR ?_
            refine pThenR ?_
            obtain rfl := so h
            replace h := hk1
            obtain rfl := so h
            exact pRY (n := 0) (.inl rfl) rfl rfl rfl
          · refine wBF hp42 tm (s1 rfl) ?_
            refine wSkip ?_
            refine pBlkN ?_
            refine pSeq ?_
            refine rg (cp (oAdd tm (cI (by decide))) (s1 rfl) <| cp (oMv tm) (s1 rfl) <| .nil) (by kernel_rfl) ?_
            refine pSub (Γ' := [(0, .d (sYield Try.prog A a_y (fun z => (kI .i64).sig z) (fun z => (kI .i64).sig z))), (1, .d (sP (kI .i64) a1)), (3, .d ((kI .i64).sig v28)), (5, .d ((kI .i64).sig a1)), (6, .d ((kI .i64).sig v28)), (9, .d ((kI .i64).sig a1)), (10, .d ((kI .i64).sig (IntKind.i64.wrap (v38 + 1))))]) ⟨rfl, rfl, rfl, rfl, rfl, rfl, rfl, trivial⟩ ?_
            refine pRen 16 7777 rfl ?_
            exact pLoop (lW (ih _ _ h) ⟨rfl, rfl, rfl, rfl, rfl, rfl, rfl, trivial⟩ rfl)
        · refine wCF hp40 tm (s1 rfl) ?_
          refine wExit ?_
          refine pThenX ?_
          refine pThenX ?_
          refine pBlkX ?_
          exact pJ1 _ (so h) ⟨rfl, rfl, rfl, rfl, trivial⟩ rfl
      · rintro x39 rfl
        replace h := hk2
        refine pBlkN ?_
        refine pSeq ?_
        refine rg (cp (oAdd tm (cI (by decide))) (s1 rfl) <| cp (oMv tm) (s1 rfl) <| .nil) (by kernel_rfl) ?_
        exact pLoop (lW (ih _ _ h) ⟨rfl, rfl, rfl, rfl, trivial⟩ rfl)
    · refine wCF hp30 tm (s1 rfl) ?_
      refine wExit ?_
      refine pThenX ?_
      refine pThenX ?_
      refine pBlkX ?_
      exact pJ1 _ (so h) trivial rfl
  · rintro x29 rfl
    replace h := hk1
    obtain rfl := so h
    exact pRY (n := 0) (.inr rfl) rfl rfl rfl

theorem lattice_pairs.ok {a0 : Int} {r : Int} (h : lattice_pairs.f a0 = some r) : FnA Try.prog 82 [(kI .i64).sig a0] ((sClo 108 [sP (kI .i64) r])) := by
  refine fnIntro Try.func82 rfl (by kernel_rfl) fun H0 w0 => ?_
  unfold lattice_pairs.f at h
  refine wSeq ?_
  refine rg (cp (oBox tm) (s1 rfl) <| cp (oAs cV) trivial <| .nil) (by kernel_rfl) ?_
  refine pSeq ?_
  refine wSeq ?_
  refine rg (cp (oMkC (caps := [sP (kI .i64) a0]) rfl (opds_cons tm opds_nil)) (s1 rfl) <| cp (oAs tm) (s1 rfl) <| .nil) (by kernel_rfl) ?_
  refine pSeq ?_
  refine wRet ?_
  obtain rfl := so h
  exact pR1 (.inl rfl) rfl (.tmp rfl <| .nil)

theorem lattice_flows.ok {a0 : api_Lattice} {a1 : Int} {a2 : Int} {r : Bool} (h : lattice_flows.f a0 a1 a2 = some r) : FnA Try.prog 70 [(kR f_api_Lattice).sig a0, (kI .i64).sig a1, (kI .i64).sig a2] (kB.sig r) := by
  refine fnIntro Try.func70 rfl (by kernel_rfl) fun H0 w0 => ?_
  unfold lattice_flows.f at h
  refine wSeq ?_
  refine rg (cp (oBox tm) (s1 rfl) <| cp (oAs cB) trivial <| .nil) (by kernel_rfl) ?_
  refine pSeq ?_
  refine wSeq ?_
  obtain ⟨y1, hy1, h⟩ := bd h
  obtain ⟨hc2, h⟩ := ib h
  refine rg (cp (oFld (fs := f_api_Lattice) (k := 1) rfl o42_1 tm) (s1 rfl) <| cp (oLd t40 tm) (s1 rfl) <| cp (oMv tm) (s1 rfl) <| cp (oIdx u40 z64 hy1 tm tm) (s2 rfl rfl) <| cp (oLd t64 tm) (s1 rfl) <| cp (oMv tm) (s1 rfl) <| cp (oShr hc2 tm tm) (s2 rfl rfl) <| cp (oAnd tm (cI (by decide))) (s1 rfl) <| cp (oEq rfl tm (cI (by decide))) (s1 rfl) <| cp (oAs tm) (s1 rfl) <| .nil) (by kernel_rfl) ?_
  refine pSeq ?_
  refine wRet ?_
  obtain rfl := so h
  exact pR1 (.inl rfl) rfl (.tmp rfl <| .nil)

theorem lattice_order.ok {a0 : api_Lattice} {r : Bool} (h : lattice_order.f a0 = some r) : FnA Try.prog 81 [(kR f_api_Lattice).sig a0] (kB.sig r) := by
  refine fnIntro Try.func81 rfl (by kernel_rfl) fun H0 w0 => ?_
  unfold lattice_order.f at h
  refine wSeq ?_
  refine rg (cp (oBox tm) (s1 rfl) <| cw (oAlloc (id := 2) (ls := [.d kB false]) ze4 (fun g => ⟨[(.bool false)], _, rfl, zB g.H, rfl⟩)) trivial <| .nil) (by kernel_rfl) ?_
  refine pSeq ?_
  refine wSeq ?_
  refine wSeq ?_
  obtain ⟨y1, hy1, h⟩ := bd h
  refine rg (cp (oFld (fs := f_api_Lattice) (k := 1) rfl o42_1 tm) (s1 rfl) <| cp (oLd t40 tm) (s1 rfl) <| cp (oLenL u40 tm) (s1 rfl) <| cp (oCall rfl (lattice_pairs.ok hy1) b82 (opds_cons tm opds_nil)) (s1 rfl) <| .nil) (by kernel_rfl) ?_
  refine pSeq ?_
  refine wBlock ?_
  obtain ⟨y53, hy53, h⟩ := bd h
  refine wRange (Γ' := [(1, .d (sP (kR f_api_Lattice) a0)), (2, .p 2 0)]) (Γ2 := fun v27 v28 => [(1, .d (sP (kR f_api_Lattice) a0)), (2, .p 2 0), (3, .d ((kI .i64).sig v27)), (4, .d ((kI .i64).sig v28))]) (fun v26 => [.box 2 4 [.d kB false]]) [Code.ret] [2] (lattice_order.y0 a0) () rfl (lattice_pairs_1.ok (a1 := y1)) b108 hy53 rfl ⟨rfl, rfl, trivial⟩ rfl rfl rfl ?_ ?_ ?_
  · intro X H0 w0 l pv v26 v27 v28
    refine wSeq ?_
    refine rg (cp (oAs tm) (s1 rfl) <| .nil) (by kernel_rfl) ?_
    refine pSeq ?_
    refine rg (cp (oAs tm) (s1 rfl) <| .nil) (by kernel_rfl) ?_
    exact qA ⟨rfl, rfl, rfl, rfl, trivial⟩
  · intro X H0 w0 l pv v26 v27 v28 o h
    unfold lattice_order.y0 at h
    refine wBlock ?_
    refine wSeq ?_
    obtain ⟨o2, h, hk2⟩ := bd h
    refine wJ1 (fun x35 => x35 = o2) (fun x35 => [(1, .d (sP (kR f_api_Lattice) a0)), (2, .p 2 0), (3, .d ((kI .i64).sig v27)), (4, .d ((kI .i64).sig v28)), (37, .d (kB.sig x35))]) (fun x35 => [.box 2 4 [.d kB false]]) ?_ ?_
    · rcases ic h with ⟨hp36, h⟩ | ⟨hp36, h⟩
      · obtain ⟨y37, hy37, h⟩ := bd h
        rcases ic h with ⟨hp38, h⟩ | ⟨hp38, h⟩
        · refine rg (cp (oMv tm) (s1 rfl) <| cp (oMv tm) (s1 rfl) <| cp (oEq rfl tm tm) (s2 rfl rfl) <| cp (oMv tm) (s1 rfl) <| cgB (decide_eq_true hp36) rfl rfl (oLd t42 tm) (s1 rfl) <| cgB (decide_eq_true hp36) rfl rfl (oMv tm) (s1 rfl) <| cgB (decide_eq_true hp36) rfl rfl (oMv tm) (s1 rfl) <| cgB (decide_eq_true hp36) rfl rfl (oCall rfl (lattice_flows.ok hy37) b70 (opds_cons tm (opds_cons tm (opds_cons tm opds_nil)))) (s3 rfl rfl rfl) <| cgB (decide_eq_true hp36) rfl rfl (oNot tm) (s1 rfl) <| cp (oPkT (decide_eq_true hp36) tm tm) (s2 rfl rfl) <| cp (oMv tm) (s1 rfl) <| csB hp38 rfl rfl <| csB hp38 rfl rfl <| csB hp38 rfl rfl <| csB hp38 rfl rfl <| csU rfl rfl <| csU rfl rfl <| csU rfl rfl <| csU rfl rfl <| csB hp38 rfl rfl <| csB hp38 rfl rfl <| csU rfl rfl <| csU rfl rfl <| csU rfl rfl <| csU rfl rfl <| csB hp38 rfl rfl <| cp (oPkT hp38 tm cB) (s1 rfl) <| .nil) (by kernel_rfl) ?_
          exact pJ1 _ (so h) ⟨rfl, rfl, rfl, rfl, rfl, trivial⟩ rfl
        · refine rg (cp (oMv tm) (s1 rfl) <| cp (oMv tm) (s1 rfl) <| cp (oEq rfl tm tm) (s2 rfl rfl) <| cp (oMv tm) (s1 rfl) <| cgB (decide_eq_true hp36) rfl rfl (oLd t42 tm) (s1 rfl) <| cgB (decide_eq_true hp36) rfl rfl (oMv tm) (s1 rfl) <| cgB (decide_eq_true hp36) rfl rfl (oMv tm) (s1 rfl) <| cgB (decide_eq_true hp36) rfl rfl (oCall rfl (lattice_flows.ok hy37) b70 (opds_cons tm (opds_cons tm (opds_cons tm opds_nil)))) (s3 rfl rfl rfl) <| cgB (decide_eq_true hp36) rfl rfl (oNot tm) (s1 rfl) <| cp (oPkT (decide_eq_true hp36) tm tm) (s2 rfl rfl) <| cp (oMv tm) (s1 rfl) <| cgB (nb hp38) rfl rfl (oMv tm) (s1 rfl) <| cgB (nb hp38) rfl rfl (oMv tm) (s1 rfl) <| cgB (nb hp38) rfl rfl (oNe rfl tm tm) (s2 rfl rfl) <| cgB (nb hp38) rfl rfl (oMv tm) (s1 rfl) <| csB (nf hp36) rfl rfl <| csB (nf hp36) rfl rfl <| csB (nf hp36) rfl rfl <| csB (nf hp36) rfl rfl <| cgB (nb hp38) rfl rfl (oPkF (nf hp36) tm cB) (s1 rfl) <| cgB (nb hp38) rfl rfl (oMv tm) (s1 rfl) <| csB rfl rfl rfl <| csB rfl rfl rfl <| csB rfl rfl rfl <| csB rfl rfl rfl <| cgB (nb hp38) rfl rfl (oPkF rfl tm cB) (s1 rfl) <| cp (oPkF (nb hp38) tm tm) (s2 rfl rfl) <| .nil) (by kernel_rfl) ?_
          exact pJ1 _ (so h) ⟨rfl, rfl, rfl, rfl, rfl, trivial⟩ rfl
      · obtain ⟨y39, hy39, h⟩ := bd h
        rcases ic h with ⟨hp40, h⟩ | ⟨hp40, h⟩
        · obtain ⟨y41, hy41, h⟩ := bd h
          refine rg (cp (oMv tm) (s1 rfl) <| cp (oMv tm) (s1 rfl) <| cp (oEq rfl tm tm) (s2 rfl rfl) <| cp (oMv tm) (s1 rfl) <| csB (decide_eq_false hp36) rfl rfl <| csB (decide_eq_false hp36) rfl rfl <| csB (decide_eq_false hp36) rfl rfl <| csB (decide_eq_false hp36) rfl rfl <| csB (decide_eq_false hp36) rfl rfl <| cp (oPkF (decide_eq_false hp36) tm cB) (s1 rfl) <| cp (oMv tm) (s1 rfl) <| cgB rfl rfl rfl (oMv tm) (s1 rfl) <| cgB rfl rfl rfl (oMv tm) (s1 rfl) <| cgB rfl rfl rfl (oNe rfl tm tm) (s2 rfl rfl) <| cgB rfl rfl rfl (oMv tm) (s1 rfl) <| cgB (nt hp36) rfl rfl (oLd t42 tm) (s1 rfl) <| cgB (nt hp36) rfl rfl (oMv tm) (s1 rfl) <| cgB (nt hp36) rfl rfl (oMv tm) (s1 rfl) <| cgB (nt hp36) rfl rfl (oCall rfl (lattice_flows.ok hy39) b70 (opds_cons tm (opds_cons tm (opds_cons tm opds_nil)))) (s3 rfl rfl rfl) <| cgB rfl rfl rfl (oPkT (nt hp36) tm tm) (s2 rfl rfl) <| cgB rfl rfl rfl (oMv tm) (s1 rfl) <| cgB hp40 rfl rfl (oLd t42 tm) (s1 rfl) <| cgB hp40 rfl rfl (oMv tm) (s1 rfl) <| cgB hp40 rfl rfl (oMv tm) (s1 rfl) <| cgB hp40 rfl rfl (oCall rfl (lattice_flows.ok hy41) b70 (opds_cons tm (opds_cons tm (opds_cons tm opds_nil)))) (s3 rfl rfl rfl) <| cgB rfl rfl rfl (oPkT hp40 tm tm) (s2 rfl rfl) <| cp (oPkF rfl tm tm) (s2 rfl rfl) <| .nil) (by kernel_rfl) ?_
          exact pJ1 _ (so h) ⟨rfl, rfl, rfl, rfl, rfl, trivial⟩ rfl
        · refine rg (cp (oMv tm) (s1 rfl) <| cp (oMv tm) (s1 rfl) <| cp (oEq rfl tm tm) (s2 rfl rfl) <| cp (oMv tm) (s1 rfl) <| csB (decide_eq_false hp36) rfl rfl <| csB (decide_eq_false hp36) rfl rfl <| csB (decide_eq_false hp36) rfl rfl <| csB (decide_eq_false hp36) rfl rfl <| csB (decide_eq_false hp36) rfl rfl <| cp (oPkF (decide_eq_false hp36) tm cB) (s1 rfl) <| cp (oMv tm) (s1 rfl) <| cgB rfl rfl rfl (oMv tm) (s1 rfl) <| cgB rfl rfl rfl (oMv tm) (s1 rfl) <| cgB rfl rfl rfl (oNe rfl tm tm) (s2 rfl rfl) <| cgB rfl rfl rfl (oMv tm) (s1 rfl) <| cgB (nt hp36) rfl rfl (oLd t42 tm) (s1 rfl) <| cgB (nt hp36) rfl rfl (oMv tm) (s1 rfl) <| cgB (nt hp36) rfl rfl (oMv tm) (s1 rfl) <| cgB (nt hp36) rfl rfl (oCall rfl (lattice_flows.ok hy39) b70 (opds_cons tm (opds_cons tm (opds_cons tm opds_nil)))) (s3 rfl rfl rfl) <| cgB rfl rfl rfl (oPkT (nt hp36) tm tm) (s2 rfl rfl) <| cgB rfl rfl rfl (oMv tm) (s1 rfl) <| csB (nb hp40) rfl rfl <| csB (nb hp40) rfl rfl <| csB (nb hp40) rfl rfl <| csB (nb hp40) rfl rfl <| cgB rfl rfl rfl (oPkF (nb hp40) tm cB) (s1 rfl) <| cp (oPkF rfl tm tm) (s2 rfl rfl) <| .nil) (by kernel_rfl) ?_
          exact pJ1 _ (so h) ⟨rfl, rfl, rfl, rfl, rfl, trivial⟩ rfl
    · rintro x35 rfl
      replace h := hk2
      rcases ic h with ⟨hp42, h⟩ | ⟨hp42, h⟩
      · refine wBT hp42 tm (s1 rfl) ?_
        refine wSeq ?_
        refine rg (cwn (oSt (n := 0) (k := 0) rfl rfl rfl rfl z4 tm cB) (s1 rfl) <| .nil) (by kernel_rfl) ?_
        refine pSeq ?_
        refine wRet ?_
        refine pThenR ?_
        refine pBlkR ?_
        obtain rfl := so h
        exact qR rfl
      · refine wBF hp42 tm (s1 rfl) ?_
        refine wSkip ?_
        refine pSeq ?_
        obtain ⟨o2, h, hk2⟩ := bd h
        refine wJ1 (fun x47 => x47 = o2) (fun x47 => [(2, .p 2 0), (55, .d (kB.sig x47))]) (fun x47 => [.box 2 4 [.d kB false]]) ?_ ?_
        · obtain ⟨y48, hy48, h⟩ := bd h
          rcases ic h with ⟨hp49, h⟩ | ⟨hp49, h⟩
          · obtain ⟨y50, hy50, h⟩ := bd h
            obtain ⟨y51, hy51, h⟩ := bd h
            refine rgD hm (cp (oLd t42 tm) (s1 rfl) <| cp (oMv tm) (s1 rfl) <| cp (oMv tm) (s1 rfl) <| cp (oCall rfl (lattice_flows.ok hy48) b70 (opds_cons tm (opds_cons tm (opds_cons tm opds_nil)))) (s3 rfl rfl rfl) <| cp (oMv tm) (s1 rfl) <| cgB hp49 rfl rfl (oFld (fs := f_api_Lattice) (k := 1) rfl o42_1 tm) (s1 rfl) <| cgB hp49 rfl rfl (oLd t40 tm) (s1 rfl) <| cgB hp49 rfl rfl (oMv tm) (s1 rfl) <| cgB hp49 rfl rfl (oIdx u40 z64 hy50 tm tm) (s2 rfl rfl) <| cgB hp49 rfl rfl (oLd t64 tm) (s1 rfl) <| cgB hp49 rfl rfl (oFld (fs := f_api_Lattice) (k := 1) rfl o42_1 tm) (s1 rfl) <| cgB hp49 rfl rfl (oLd t40 tm) (s1 rfl) <| cgB hp49 rfl rfl (oMv tm) (s1 rfl) <| cgB hp49 rfl rfl (oIdx u40 z64 hy51 tm tm) (s2 rfl rfl) <| cgB hp49 rfl rfl (oLd t64 tm) (s1 rfl) <| cgB hp49 rfl rfl (oAndNot tm tm) (s2 rfl rfl) <| cgB hp49 rfl rfl (oNe rfl tm (cI (by decide))) (s1 rfl) <| cp (oPkT hp49 tm tm) (s2 rfl rfl) <| .nil) (by kernel_rfl) (by kernel_rfl) ?_
            exact pJ1 _ (so h) ⟨rfl, rfl, trivial⟩ rfl
          · refine rgD hm (cp (oLd t42 tm) (s1 rfl) <| cp (oMv tm) (s1 rfl) <| cp (oMv tm) (s1 rfl) <| cp (oCall rfl (lattice_flows.ok hy48) b70 (opds_cons tm (opds_cons tm (opds_cons tm opds_nil)))) (s3 rfl rfl rfl) <| cp (oMv tm) (s1 rfl) <| csB (nb hp49) rfl rfl <| csB (nb hp49) rfl rfl <| csB (nb hp49) rfl rfl <| csB (nb hp49) rfl rfl <| csB (nb hp49) rfl rfl <| csB (nb hp49) rfl rfl <| csB (nb hp49) rfl rfl <| csB (nb hp49) rfl rfl <| csB (nb hp49) rfl rfl <| csB (nb hp49) rfl rfl <| csB (nb hp49) rfl rfl <| csB (nb hp49) rfl rfl <| cp (oPkF (nb hp49) tm cB) (s1 rfl) <| .nil) (by kernel_rfl) (by kernel_rfl) ?_
            exact pJ1 _ (so h) ⟨rfl, rfl, trivial⟩ rfl
        · rintro x47 rfl
          replace h := hk2
          rcases ic h with ⟨hp52, h⟩ | ⟨hp52, h⟩
          · refine wBT hp52 tm (s1 rfl) ?_
            refine wSeq ?_
            refine rg (cwn (oSt (n := 0) (k := 0) rfl rfl rfl rfl z4 tm cB) (s1 rfl) <| .nil) (by kernel_rfl) ?_
            refine pSeq ?_
            refine wRet ?_
            refine pBlkR ?_
            obtain rfl := so h
            exact qR rfl
          · refine wBF hp52 tm (s1 rfl) ?_
            refine wSkip ?_
            refine pBlkN ?_
            obtain rfl := so h
            exact qN
  · rcases ic h with ⟨hj53, h⟩ | ⟨hj53, h⟩
    · refine jp0 hj53 ?_
      refine pBlkN ?_
      refine pSeq ?_
      refine wSeq ?_
      refine rg (cwn (oSt (n := 0) (k := 0) rfl rfl rfl rfl z4 tm cB) (s1 rfl) <| .nil) (by kernel_rfl) ?_
      refine pSeq ?_
      refine wRet ?_
      obtain rfl := so h
      exact pR1 (.inl rfl) rfl (.boxV (n := 0) rfl rfl t4 <| .nil)
    · rcases ic h with ⟨hj53, h⟩ | ⟨hj53, h⟩
      · refine jpR hj53 rfl ?_
        refine pBlkR ?_
        refine pThenR ?_
        obtain rfl := so h
        exact pR1 (.inl rfl) rfl (.boxV (n := 0) rfl rfl t4 <| .nil)
      · cases h

theorem slices_IndexFunc_uint32_uint32.ok {a0 : List Int} {a1 : Int → Option Bool} {r : Int} (h : slices_IndexFunc_uint32_uint32.f a0 a1 = some r) : FnA Try.prog 77 [(kL (kI .u32)).sig a0, (sFun Try.prog (rl1 (kI .u32) kB a1))] ((kI .i64).sig r) := by
  refine fnIntro Try.func77 rfl (by kernel_rfl) fun H0 w0 => ?_
  unfold slices_IndexFunc_uint32_uint32.f at h
  refine wSeq ?_
  refine rg (cp (oAs (cI (by decide))) trivial <| .nil) (by kernel_rfl) ?_
  refine pSeq ?_
  refine wSeq ?_
  refine wSeq ?_
  refine rg (cp (oMv tm) (s1 rfl) <| cp (oLenL u40 tm) (s1 rfl) <| cp (oMv (cI (by decide))) trivial <| .nil) (by kernel_rfl) ?_
  refine pSeq ?_
  obtain ⟨o1, h, hk1⟩ := bd h
  refine wK0 (.inr () = o1) ([]) ([]) ?_ ?_
  · refine wBlock (wLoop ?_)
    refine lW (pc1 o1 (fun v9 => [(0, .d ((kL (kI .u32)).sig a0)), (1, .d ((sFun Try.prog (rl1 (kI .u32) kB a1)))), (7, .d ((kI .i64).sig (a0.length : Int))), (8, .d ((kI .i64).sig v9))]) (fun v9 => []) (slices_IndexFunc_uint32_uint32.l0.partial_correctness a0 a1) ?_ _ h) ⟨rfl, rfl, rfl, rfl, trivial⟩ rfl
    clear h
    intro f' ih v9 h
    refine wSeq ?_
    refine rg (cp (oLt rfl tm tm) (s2 rfl rfl) <| .nil) (by kernel_rfl) ?_
    refine pSeq ?_
    refine wSeq ?_
    rcases ic h with ⟨hp10, h⟩ | ⟨hp10, h⟩
    · refine wCT hp10 tm (s1 rfl) ?_
      refine wSkip ?_
      refine pSeq ?_
      refine wSeq ?_
      refine wBlock ?_
      refine wSeq ?_
      refine rg (cp (oMv tm) (s1 rfl) <| cp (oAs tm) (s1 rfl) <| .nil) (by kernel_rfl) ?_
      refine pSeq ?_
      refine wSeq ?_
      obtain ⟨y11, hy11, h⟩ := bd h
      obtain ⟨y12, hy12, h⟩ := bd h
      refine rg (cp (oMv tm) (s1 rfl) <| cp (oMv tm) (s1 rfl) <| cp (oMv tm) (s1 rfl) <| cp (oIdx u40 z64 hy11 tm tm) (s2 rfl rfl) <| cp (oLd t64 tm) (s1 rfl) <| cp (oCallV rfl (rl1i hy12) tm (opds_cons tm opds_nil)) (s2 rfl rfl) <| .nil) (by kernel_rfl) ?_
      refine pSeq ?_
      rcases ic h with ⟨hp13, h⟩ | ⟨hp13, h⟩
      · refine wBT hp13 tm (s1 rfl) ?_
        refine wSeq ?_
        refine rg (cp (oMv tm) (s1 rfl) <| cp (oAs tm) (s1 rfl) <| .nil) (by kernel_rfl) ?_
        refine pSeq ?_
        refine wRet ?_
        refine pBlkR ?_
        refine pThenR ?_
        refine pThenR ?_
        refine pBlkR ?_
        refine pThenR ?_
        obtain rfl := so h
        replace h := hk1
        refine pThenR ?_
        obtain rfl := so h
        exact pR1 (.inl rfl) rfl (.tmp rfl <| .nil)
      · refine wBF hp13 tm (s1 rfl) ?_
        refine wSkip ?_
        refine pBlkN ?_
        refine pSeq ?_
        refine rg (cp (oAdd tm (cI (by decide))) (s1 rfl) <| cp (oMv tm) (s1 rfl) <| .nil) (by kernel_rfl) ?_
        exact pLoop (lW (ih _ h) ⟨rfl, rfl, rfl, rfl, trivial⟩ rfl)
    · refine wCF hp10 tm (s1 rfl) ?_
      refine wExit ?_
      refine pThenX ?_
      refine pThenX ?_
      refine pBlkX ?_
      exact pJ0 (so h) trivial rfl
  · rintro rfl
    replace h := hk1
    refine pSeq ?_
    refine wSeq ?_
    refine rg (cp (oAs (cI (by decide))) trivial <| .nil) (by kernel_rfl) ?_
    refine pSeq ?_
    refine wRet ?_
    obtain rfl := so h
    exact pR1 (.inl rfl) rfl (.tmp rfl <| .nil)

theorem lattice_join_1.ok {a0 : Int} {a1 : Int} {r : Bool} (h : lattice_join_1.f a0 a1 = some r) : FnA Try.prog 102 [(kI .u32).sig a0, sP (kI .u32) a1] (kB.sig r) := by
  refine fnIntro Try.func102 rfl (by kernel_rfl) fun H0 w0 => ?_
  unfold lattice_join_1.f at h
  refine wSeq ?_
  refine rg (cp (oAs cB) trivial <| .nil) (by kernel_rfl) ?_
  refine pSeq ?_
  refine wSeq ?_
  refine rg (cp (oMv tm) (s1 rfl) <| cp (oLd t64 tm) (s1 rfl) <| cp (oEq rfl tm tm) (s2 rfl rfl) <| cp (oAs tm) (s1 rfl) <| .nil) (by kernel_rfl) ?_
  refine pSeq ?_
  refine wRet ?_
  obtain rfl := so h
  exact pR1 (.inl rfl) rfl (.tmp rfl <| .nil)

theorem lattice_join.ok {a0 : api_Lattice} {a1 : Int} {a2 : Int} {r : Int} (h : lattice_join.f a0 a1 a2 = some r) : FnA Try.prog 71 [(kR f_api_Lattice).sig a0, (kI .i64).sig a1, (kI .i64).sig a2] ((kI .i64).sig r) := by
  refine fnIntro Try.func71 rfl (by kernel_rfl) fun H0 w0 => ?_
  unfold lattice_join.f at h
  refine wSeq ?_
  refine rg (cp (oBox tm) (s1 rfl) <| cp (oAs (cI (by decide))) trivial <| .nil) (by kernel_rfl) ?_
  refine pSeq ?_
  refine wSeq ?_
  obtain ⟨y1, hy1, h⟩ := bd h
  obtain ⟨y2, hy2, h⟩ := bd h
  refine rgD hm (cp (oFld (fs := f_api_Lattice) (k := 1) rfl o42_1 tm) (s1 rfl) <| cp (oLd t40 tm) (s1 rfl) <| cp (oMv tm) (s1 rfl) <| cp (oIdx u40 z64 hy1 tm tm) (s2 rfl rfl) <| cp (oLd t64 tm) (s1 rfl) <| cp (oFld (fs := f_api_Lattice) (k := 1) rfl o42_1 tm) (s1 rfl) <| cp (oLd t40 tm) (s1 rfl) <| cp (oMv tm) (s1 rfl) <| cp (oIdx u40 z64 hy2 tm tm) (s2 rfl rfl) <| cp (oLd t64 tm) (s1 rfl) <| cp (oAnd tm tm) (s2 rfl rfl) <| cw (oAlloc (id := 7) (ls := [.d (kI .u32) 0]) ze64 (fun g => ⟨[(.int .u32 0)], _, rfl, zI_u32 g.H, rfl⟩)) trivial <| cwn (oSt (n := 0) (k := 0) rfl rfl rfl rfl z64 tm tm) (s2 rfl rfl) <| .nil) (by kernel_rfl) (by kernel_rfl) ?_
  refine pSeq ?_
  refine wSeq ?_
  refine wFrzV 7 (n := 0) (id := 7) rfl rfl rfl ?_
  obtain ⟨y3, hy3, h⟩ := bd h
  refine rg (cp (oFld (fs := f_api_Lattice) (k := 1) rfl o42_1 tm) (s1 rfl) <| cp (oLd t40 tm) (s1 rfl) <| cp (oMkF (Rl := rl1 (kI .u32) kB (fun z0 => lattice_join_1.f z0 (bAnd .u32 y1 y2))) rfl b102 (rl1e lattice_join_1.ok) (opds_cons tm opds_nil)) (s1 rfl) <| cp (oCall rfl (slices_IndexFunc_uint32_uint32.ok hy3) b77 (opds_cons tm (opds_cons tm opds_nil))) (s2 rfl rfl) <| cp (oAs tm) (s1 rfl) <| .nil) (by kernel_rfl) ?_
  refine pSeq ?_
  refine wRet ?_
  obtain rfl := so h
  exact pR1 (.inl rfl) rfl (.tmp rfl <| .nil)

theorem lattice_down.ok {a0 : api_Lattice} {a1 : Int} {r : Int} (h : lattice_down.f a0 a1 = some r) : FnA Try.prog 103 [(kR f_api_Lattice).sig a0, (kI .i64).sig a1] ((kI .u32).sig r) := by
  refine fnIntro Try.func103 rfl (by kernel_rfl) fun H0 w0 => ?_
  unfold lattice_down.f at h
  refine wSeq ?_
  refine rg (cp (oBox tm) (s1 rfl) <| cp (oAs (cI (by decide))) trivial <| .nil) (by kernel_rfl) ?_
  refine pSeq ?_
  refine wSeq ?_
  refine rg (cp (oAs (cI (by decide))) trivial <| .nil) (by kernel_rfl) ?_
  refine pSeq ?_
  refine wSeq ?_
  refine wSeq ?_
  refine rg (cp (oFld (fs := f_api_Lattice) (k := 1) rfl o42_1 tm) (s1 rfl) <| cp (oLd t40 tm) (s1 rfl) <| cp (oLenL u40 tm) (s1 rfl) <| cp (oMv (cI (by decide))) trivial <| .nil) (by kernel_rfl) ?_
  refine pSeq ?_
  obtain ⟨o1, h, hk1⟩ := bd h
  refine wK1 (fun x10 => x10 = o1) (fun x10 => [(5, .d ((kI .u32).sig x10))]) (fun x10 => []) ?_ ?_
  · refine wBlock (wLoop ?_)
    refine lW (pc2 o1 (fun v8 v9 => [(1, .d ((kI .i64).sig a1)), (2, .d (sP (kR f_api_Lattice) a0)), (5, .d ((kI .u32).sig v9)), (9, .d ((kI .i64).sig (a0.Up.length : Int))), (10, .d ((kI .i64).sig v8))]) (fun v8 v9 => []) (lattice_down.l0.partial_correctness a0 a1) ?_ _ _ h) ⟨rfl, rfl, rfl, rfl, rfl, trivial⟩ rfl
    clear h
    intro f' ih v8 v9 h
    refine wSeq ?_
    refine rg (cp (oLt rfl tm tm) (s2 rfl rfl) <| .nil) (by kernel_rfl) ?_
    refine pSeq ?_
    refine wSeq ?_
    rcases ic h with ⟨hp11, h⟩ | ⟨hp11, h⟩
    · refine wCT hp11 tm (s1 rfl) ?_
      refine wSkip ?_
      refine pSeq ?_
      refine wSeq ?_
      refine wBlock ?_
      refine wSeq ?_
      refine rg (cp (oMv tm) (s1 rfl) <| cp (oAs tm) (s1 rfl) <| .nil) (by kernel_rfl) ?_
      refine pSeq ?_
      obtain ⟨y12, hy12, h⟩ := bd h
      obtain ⟨hc13, h⟩ := ib h
      obtain ⟨hc14, h⟩ := ib h
      refine rg (cp (oMv tm) (s1 rfl) <| cp (oFld (fs := f_api_Lattice) (k := 1) rfl o42_1 tm) (s1 rfl) <| cp (oLd t40 tm) (s1 rfl) <| cp (oMv tm) (s1 rfl) <| cp (oIdx u40 z64 hy12 tm tm) (s2 rfl rfl) <| cp (oLd t64 tm) (s1 rfl) <| cp (oMv tm) (s1 rfl) <| cp (oShr hc13 tm tm) (s2 rfl rfl) <| cp (oAnd tm (cI (by decide))) (s1 rfl) <| cp (oMv tm) (s1 rfl) <| cp (oShl hc14 tm tm) (s2 rfl rfl) <| cp (oOr tm tm) (s2 rfl rfl) <| cp (oAs tm) (s1 rfl) <| .nil) (by kernel_rfl) ?_
      refine pBlkN ?_
      refine pSeq ?_
      refine rg (cp (oAdd tm (cI (by decide))) (s1 rfl) <| cp (oMv tm) (s1 rfl) <| .nil) (by kernel_rfl) ?_
      exact pLoop (lW (ih _ _ h) ⟨rfl, rfl, rfl, rfl, rfl, trivial⟩ rfl)
    · refine wCF hp11 tm (s1 rfl) ?_
      refine wExit ?_
      refine pThenX ?_
      refine pThenX ?_
      refine pBlkX ?_
      exact pJ1 _ (so h) ⟨rfl, trivial⟩ rfl
  · rintro x10 rfl
    replace h := hk1
    refine pSeq ?_
    refine wSeq ?_
    refine rg (cp (oMv tm) (s1 rfl) <| cp (oAs tm) (s1 rfl) <| .nil) (by kernel_rfl) ?_
    refine pSeq ?_
    refine wRet ?_
    obtain rfl := so h
    exact pR1 (.inl rfl) rfl (.tmp rfl <| .nil)

theorem lattice_meet.ok {a0 : api_Lattice} {a1 : Int} {a2 : Int} {r : Int} (h : lattice_meet.f a0 a1 a2 = some r) : FnA Try.prog 72 [(kR f_api_Lattice).sig a0, (kI .i64).sig a1, (kI .i64).sig a2] ((kI .i64).sig r) := by
  refine fnIntro Try.func72 rfl (by kernel_rfl) fun H0 w0 => ?_
  unfold lattice_meet.f at h
  refine wSeq ?_
  refine rg (cp (oBox tm) (s1 rfl) <| cp (oAs (cI (by decide))) trivial <| .nil) (by kernel_rfl) ?_
  refine pSeq ?_
  refine wSeq ?_
  obtain ⟨y1, hy1, h⟩ := bd h
  obtain ⟨y2, hy2, h⟩ := bd h
  refine rgD hm (cp (oLd t42 tm) (s1 rfl) <| cp (oMv tm) (s1 rfl) <| cp (oCall rfl (lattice_down.ok hy1) b103 (opds_cons tm (opds_cons tm opds_nil))) (s2 rfl rfl) <| cp (oLd t42 tm) (s1 rfl) <| cp (oMv tm) (s1 rfl) <| cp (oCall rfl (lattice_down.ok hy2) b103 (opds_cons tm (opds_cons tm opds_nil))) (s2 rfl rfl) <| cp (oAnd tm tm) (s2 rfl rfl) <| cp (oAs tm) (s1 rfl) <| .nil) (by kernel_rfl) (by kernel_rfl) ?_
  refine pSeq ?_
  refine wSeq ?_
  refine wSeq ?_
  refine rg (cp (oFld (fs := f_api_Lattice) (k := 1) rfl o42_1 tm) (s1 rfl) <| cp (oLd t40 tm) (s1 rfl) <| cp (oLenL u40 tm) (s1 rfl) <| cp (oMv (cI (by decide))) trivial <| .nil) (by kernel_rfl) ?_
  refine pSeq ?_
  obtain ⟨o1, h, hk1⟩ := bd h
  refine wK0 (.inr () = o1) ([]) ([]) ?_ ?_
  · refine wBlock (wLoop ?_)
    refine lW (pc1 o1 (fun v9 => [(3, .d (sP (kR f_api_Lattice) a0)), (7, .d ((kI .u32).sig (bAnd .u32 y1 y2))), (18, .d ((kI .i64).sig (a0.Up.length : Int))), (19, .d ((kI .i64).sig v9))]) (fun v9 => []) (lattice_meet.l0.partial_correctness a0 y1 y2) ?_ _ h) ⟨rfl, rfl, rfl, rfl, trivial⟩ rfl
    clear h
    intro f' ih v9 h
    refine wSeq ?_
    refine rg (cp (oLt rfl tm tm) (s2 rfl rfl) <| .nil) (by kernel_rfl) ?_
    refine pSeq ?_
    refine wSeq ?_
    rcases ic h with ⟨hp10, h⟩ | ⟨hp10, h⟩
    · refine wCT hp10 tm (s1 rfl) ?_
      refine wSkip ?_
      refine pSeq ?_
      refine wSeq ?_
      refine wBlock ?_
      refine wSeq ?_
      refine rg (cp (oMv tm) (s1 rfl) <| cp (oAs tm) (s1 rfl) <| .nil) (by kernel_rfl) ?_
      refine pSeq ?_
      refine wSeq ?_
      obtain ⟨y11, hy11, h⟩ := bd h
      refine rg (cp (oLd t42 tm) (s1 rfl) <| cp (oMv tm) (s1 rfl) <| cp (oCall rfl (lattice_down.ok hy11) b103 (opds_cons tm (opds_cons tm opds_nil))) (s2 rfl rfl) <| cp (oMv tm) (s1 rfl) <| cp (oEq rfl tm tm) (s2 rfl rfl) <| .nil) (by kernel_rfl) ?_
      refine pSeq ?_
      rcases ic h with ⟨hp12, h⟩ | ⟨hp12, h⟩
      · refine wCT hp12 tm (s1 rfl) ?_
        refine wSeq ?_
        refine rg (cp (oMv tm) (s1 rfl) <| cp (oAs tm) (s1 rfl) <| .nil) (by kernel_rfl) ?_
        refine pSeq ?_
        refine wRet ?_
        refine pBlkR ?_
        refine pThenR ?_
        refine pThenR ?_
        refine pBlkR ?_
        refine pThenR ?_
        obtain rfl := so h
        replace h := hk1
        refine pThenR ?_
        obtain rfl := so h
        exact pR1 (.inl rfl) rfl (.tmp rfl <| .nil)
      · refine wCF hp12 tm (s1 rfl) ?_
        refine wSkip ?_
        refine pBlkN ?_
        refine pSeq ?_
        refine rg (cp (oAdd tm (cI (by decide))) (s1 rfl) <| cp (oMv tm) (s1 rfl) <| .nil) (by kernel_rfl) ?_
        exact pLoop (lW (ih _ h) ⟨rfl, rfl, rfl, rfl, trivial⟩ rfl)
    · refine wCF hp10 tm (s1 rfl) ?_
      refine wExit ?_
      refine pThenX ?_
      refine pThenX ?_
      refine pBlkX ?_
      exact pJ0 (so h) trivial rfl
  · rintro rfl
    replace h := hk1
    refine pSeq ?_
    refine wSeq ?_
    refine rg (cp (oAs (cI (by decide))) trivial <| .nil) (by kernel_rfl) ?_
    refine pSeq ?_
    refine wRet ?_
    obtain rfl := so h
    exact pR1 (.inl rfl) rfl (.tmp rfl <| .nil)

theorem lattice_Check.ok {a0 : api_Lattice} {r : Int} (h : lattice_Check.f a0 = some r) : FnA Try.prog 39 [(kR f_api_Lattice).sig a0] ((kI .i64).sig r) := by
  refine fnIntro Try.func39 rfl (by kernel_rfl) fun H0 w0 => ?_
  unfold lattice_Check.f at h
  refine wSeq ?_
  refine rg (cp (oBox tm) (s1 rfl) <| cw (oAlloc (id := 2) (ls := [.d (kI .i64) 0]) ze23 (fun g => ⟨[(.int .i64 0)], _, rfl, zI_i64 g.H, rfl⟩)) trivial <| .nil) (by kernel_rfl) ?_
  refine pSeq ?_
  refine wSeq ?_
  refine wBlock ?_
  refine wSeq ?_
  obtain ⟨y1, hy1, h⟩ := bd h
  refine rg (cp (oLd t42 tm) (s1 rfl) <| cp (oCall rfl (lattice_may.ok hy1) b80 (opds_cons tm opds_nil)) (s1 rfl) <| cp (oNot tm) (s1 rfl) <| cp (oAs tm) (s1 rfl) <| .nil) (by kernel_rfl) ?_
  refine pSeq ?_
  rcases ic h with ⟨hp2, h⟩ | ⟨hp2, h⟩
  · refine wBT hp2 tm (s1 rfl) ?_
    refine wSeq ?_
    refine rg (cwn (oSt (n := 0) (k := 0) rfl rfl rfl rfl z23 tm (cI (by decide))) (s1 rfl) <| .nil) (by kernel_rfl) ?_
    refine pSeq ?_
    refine wRet ?_
    refine pBlkR ?_
    refine pThenR ?_
    obtain rfl := so h
    exact pR1 (.inl rfl) rfl (.boxV (n := 0) rfl rfl t23 <| .nil)
  · refine wBF hp2 tm (s1 rfl) ?_
    refine wSeq ?_
    obtain ⟨y3, hy3, h⟩ := bd h
    refine rg (cp (oLd t42 tm) (s1 rfl) <| cp (oCall rfl (lattice_order.ok hy3) b81 (opds_cons tm opds_nil)) (s1 rfl) <| cp (oNot tm) (s1 rfl) <| cp (oAs tm) (s1 rfl) <| .nil) (by kernel_rfl) ?_
    refine pSeq ?_
    rcases ic h with ⟨hp4, h⟩ | ⟨hp4, h⟩
    · refine wBT hp4 tm (s1 rfl) ?_
      refine wSeq ?_
      refine rg (cwn (oSt (n := 0) (k := 0) rfl rfl rfl rfl z23 tm (cI (by decide))) (s1 rfl) <| .nil) (by kernel_rfl) ?_
      refine pSeq ?_
      refine wRet ?_
      refine pBlkR ?_
      refine pThenR ?_
      obtain rfl := so h
      exact pR1 (.inl rfl) rfl (.boxV (n := 0) rfl rfl t23 <| .nil)
    · refine wBF hp4 tm (s1 rfl) ?_
      refine wSkip ?_
      refine pBlkN ?_
      refine pSeq ?_
      refine wSeq ?_
      refine wSeq ?_
      obtain ⟨y5, hy5, h⟩ := bd h
      refine rg (cp (oFld (fs := f_api_Lattice) (k := 1) rfl o42_1 tm) (s1 rfl) <| cp (oLd t40 tm) (s1 rfl) <| cp (oLenL u40 tm) (s1 rfl) <| cp (oCall rfl (lattice_pairs.ok hy5) b82 (opds_cons tm opds_nil)) (s1 rfl) <| .nil) (by kernel_rfl) ?_
      refine pSeq ?_
      refine wBlock ?_
      obtain ⟨y33, hy33, h⟩ := bd h
      refine wRange (Γ' := [(1, .d (sP (kR f_api_Lattice) a0)), (2, .p 2 0)]) (Γ2 := fun v23 v24 => [(1, .d (sP (kR f_api_Lattice) a0)), (2, .p 2 0), (3, .d ((kI .i64).sig v23)), (4, .d ((kI .i64).sig v24))]) (fun v22 => [.box 2 23 [.d (kI .i64) v22]]) [Code.ret] [2] (lattice_Check.y0 a0) 0 rfl (lattice_pairs_1.ok (a1 := y5)) b108 hy33 rfl ⟨rfl, rfl, trivial⟩ rfl rfl rfl ?_ ?_ ?_
      · intro X H0 w0 l pv v22 v23 v24
        refine wSeq ?_
        refine rg (cp (oAs tm) (s1 rfl) <| .nil) (by kernel_rfl) ?_
        refine pSeq ?_
        refine rg (cp (oAs tm) (s1 rfl) <| .nil) (by kernel_rfl) ?_
        exact qA ⟨rfl, rfl, rfl, rfl, trivial⟩
      · intro X H0 w0 l pv v22 v23 v24 o h
        unfold lattice_Check.y0 at h
        refine wBlock ?_
        obtain ⟨o2, h, hk2⟩ := bd h
        refine wJ1 (fun x28 => x28 = o2) (fun x28 => [(2, .p 2 0), (30, .d (kB.sig x28))]) (fun x28 => [.box 2 23 [.d (kI .i64) v22]]) ?_ ?_
        · obtain ⟨y29, hy29, h⟩ := bd h
          rcases ic h with ⟨hp30, h⟩ | ⟨hp30, h⟩
          · refine rg (cp (oLd t42 tm) (s1 rfl) <| cp (oMv tm) (s1 rfl) <| cp (oMv tm) (s1 rfl) <| cp (oCall rfl (lattice_join.ok hy29) b71 (opds_cons tm (opds_cons tm (opds_cons tm opds_nil)))) (s3 rfl rfl rfl) <| cp (oLt rfl tm (cI (by decide))) (s1 rfl) <| cp (oMv tm) (s1 rfl) <| csB (decide_eq_true hp30) rfl rfl <| csB (decide_eq_true hp30) rfl rfl <| csB (decide_eq_true hp30) rfl rfl <| csB (decide_eq_true hp30) rfl rfl <| csB (decide_eq_true hp30) rfl rfl <| cp (oPkT (decide_eq_true hp30) tm cB) (s1 rfl) <| .nil) (by kernel_rfl) ?_
            exact pJ1 _ (so h) ⟨rfl, rfl, trivial⟩ rfl
          · obtain ⟨y31, hy31, h⟩ := bd h
            refine rg (cp (oLd t42 tm) (s1 rfl) <| cp (oMv tm) (s1 rfl) <| cp (oMv tm) (s1 rfl) <| cp (oCall rfl (lattice_join.ok hy29) b71 (opds_cons tm (opds_cons tm (opds_cons tm opds_nil)))) (s3 rfl rfl rfl) <| cp (oLt rfl tm (cI (by decide))) (s1 rfl) <| cp (oMv tm) (s1 rfl) <| cgB (decide_eq_false hp30) rfl rfl (oLd t42 tm) (s1 rfl) <| cgB (decide_eq_false hp30) rfl rfl (oMv tm) (s1 rfl) <| cgB (decide_eq_false hp30) rfl rfl (oMv tm) (s1 rfl) <| cgB (decide_eq_false hp30) rfl rfl (oCall rfl (lattice_meet.ok hy31) b72 (opds_cons tm (opds_cons tm (opds_cons tm opds_nil)))) (s3 rfl rfl rfl) <| cgB (decide_eq_false hp30) rfl rfl (oLt rfl tm (cI (by decide))) (s1 rfl) <| cp (oPkF (decide_eq_false hp30) tm tm) (s2 rfl rfl) <| .nil) (by kernel_rfl) ?_
            exact pJ1 _ (so h) ⟨rfl, rfl, trivial⟩ rfl
        · rintro x28 rfl
          replace h := hk2
          rcases ic h with ⟨hp32, h⟩ | ⟨hp32, h⟩
          · refine wBT hp32 tm (s1 rfl) ?_
            refine wSeq ?_
            refine rg (cwn (oSt (n := 0) (k := 0) rfl rfl rfl rfl z23 tm (cI (by decide))) (s1 rfl) <| .nil) (by kernel_rfl) ?_
            refine pSeq ?_
            refine wRet ?_
            refine pBlkR ?_
            obtain rfl := so h
            exact qR rfl
          · refine wBF hp32 tm (s1 rfl) ?_
            refine wSkip ?_
            refine pBlkN ?_
            obtain rfl := so h
            exact qN
      · rcases ic h with ⟨hj33, h⟩ | ⟨hj33, h⟩
        · refine jp0 hj33 ?_
          refine pBlkN ?_
          refine pSeq ?_
          refine wSeq ?_
          refine rg (cwn (oSt (n := 0) (k := 0) rfl rfl rfl rfl z23 tm (cI (by decide))) (s1 rfl) <| .nil) (by kernel_rfl) ?_
          refine pSeq ?_
          refine wRet ?_
          obtain rfl := so h
          exact pR1 (.inl rfl) rfl (.boxV (n := 0) rfl rfl t23 <| .nil)
        · rcases ic h with ⟨hj33, h⟩ | ⟨hj33, h⟩
          · refine jpR hj33 rfl ?_
            refine pBlkR ?_
            refine pThenR ?_
            obtain rfl := so h
            exact pR1 (.inl rfl) rfl (.boxV (n := 0) rfl rfl t23 <| .nil)
          · cases h

theorem rule_made_1.ok {a0 : Bool} {a1 : List Bool} {r : (List Bool) × Bool} (h : rule_made_1.f a0 a1 = some r) : FnS Try.prog 112 [.d (kB.sig a0), .p 70100 0] [.box 70100 148 [.v 70101], .row 70101 107 kB a1] [70100] (.d (kB.sig r.2)) [.box 70100 148 [.v 70101], .row 70101 107 kB r.1] := by
  refine fnIntroS Try.func112 rfl (by kernel_rfl) fun X H0 w0 pv => ?_
  unfold rule_made_1.f at h
  refine wSeq ?_
  refine rg (cp (oAs cB) trivial <| .nil) (by kernel_rfl) ?_
  refine pSeq ?_
  refine wSeq ?_
  refine rg (cr (oLdN (n := 0) (k := 0) rfl rfl rfl t148 tm) (s1 rfl) <| cr (oLenR (n := 1) u148 rfl tm) (s1 rfl) <| cp (oSub tm (cI (by decide))) (s1 rfl) <| cp (oAs tm) (s1 rfl) <| .nil) (by kernel_rfl) ?_
  refine pSeq ?_
  refine wSeq ?_
  refine wWeak (Γ' := [(0, .d (kB.sig a0)), (1, .p 70100 0), (4, .d ((kI .i64).sig (IntKind.i64.wrap ((a1.length : Int) - 1))))]) ⟨rfl, rfl, rfl, trivial⟩ ?_
  refine wRen 70101 3510000 rfl ?_
  obtain ⟨o1, h, hk1⟩ := bd h
  refine wJ1 (fun x5 => x5 = o1) (fun x5 => [(1, .p 70100 0), (4, .d ((kI .i64).sig (IntKind.i64.wrap ((a1.length : Int) - 1)))), (26, .d (kB.sig x5))]) (fun x5 => [.box 70100 148 [.v 3510000], .row 3510000 107 kB a1]) ?_ ?_
  · rcases ic h with ⟨hp6, h⟩ | ⟨hp6, h⟩
    · refine rg (cp (oMv tm) (s1 rfl) <| cp (oLt rfl tm (cI (by decide))) (s1 rfl) <| cp (oMv tm) (s1 rfl) <| csB (decide_eq_true hp6) rfl rfl <| csB (decide_eq_true hp6) rfl rfl <| csB (decide_eq_true hp6) rfl rfl <| csB (decide_eq_true hp6) rfl rfl <| csB (decide_eq_true hp6) rfl rfl <| csB (decide_eq_true hp6) rfl rfl <| cp (oPkT (decide_eq_true hp6) tm cB) (s1 rfl) <| cp (oMv tm) (s1 rfl) <| csB rfl rfl rfl <| csB rfl rfl rfl <| csB rfl rfl rfl <| csB rfl rfl rfl <| csB rfl rfl rfl <| csB rfl rfl rfl <| csB rfl rfl rfl <| cp (oPkT rfl tm cB) (s1 rfl) <| .nil) (by kernel_rfl) ?_
      exact pJ1 _ (so h) ⟨rfl, rfl, rfl, trivial⟩ rfl
    · obtain ⟨y7, hy7, h⟩ := bd h
      rcases ic h with ⟨hp8, h⟩ | ⟨hp8, h⟩
      · obtain ⟨y9, hy9, h⟩ := bd h
        refine rg (cp (oMv tm) (s1 rfl) <| cp (oLt rfl tm (cI (by decide))) (s1 rfl) <| cp (oMv tm) (s1 rfl) <| crgB (decide_eq_false hp6) rfl rfl (oLdN (n := 0) (k := 0) rfl rfl rfl t148 tm) (s1 rfl) <| cgB (decide_eq_false hp6) rfl rfl (oMv tm) (s1 rfl) <| crgB (decide_eq_false hp6) rfl rfl (oIdxR (n := 1) u148 z107 rfl hy7 tm tm) (s2 rfl rfl) <| crgB (decide_eq_false hp6) rfl rfl (oLdE (n := 1) rfl hy7 rfl t107 tm) (s1 rfl) <| cgB (decide_eq_false hp6) rfl rfl (oMv tm) (s1 rfl) <| cgB (decide_eq_false hp6) rfl rfl (oBNe u107 rfl tm tm) (s2 rfl rfl) <| cp (oPkF (decide_eq_false hp6) tm tm) (s2 rfl rfl) <| cp (oMv tm) (s1 rfl) <| crgB (nf hp8) rfl rfl (oLdN (n := 0) (k := 0) rfl rfl rfl t148 tm) (s1 rfl) <| cgB (nf hp8) rfl rfl (oMv tm) (s1 rfl) <| cgB (nf hp8) rfl rfl (oSub tm (cI (by decide))) (s1 rfl) <| crgB (nf hp8) rfl rfl (oIdxR (n := 1) u148 z107 rfl hy9 tm tm) (s2 rfl rfl) <| crgB (nf hp8) rfl rfl (oLdE (n := 1) rfl hy9 rfl t107 tm) (s1 rfl) <| cgB (nf hp8) rfl rfl (oMv tm) (s1 rfl) <| cgB (nf hp8) rfl rfl (oBNe u107 rfl tm tm) (s2 rfl rfl) <| cp (oPkF (nf hp8) tm tm) (s2 rfl rfl) <| .nil) (by kernel_rfl) ?_
        exact pJ1 _ (so h) ⟨rfl, rfl, rfl, trivial⟩ rfl
      · refine rg (cp (oMv tm) (s1 rfl) <| cp (oLt rfl tm (cI (by decide))) (s1 rfl) <| cp (oMv tm) (s1 rfl) <| crgB (decide_eq_false hp6) rfl rfl (oLdN (n := 0) (k := 0) rfl rfl rfl t148 tm) (s1 rfl) <| cgB (decide_eq_false hp6) rfl rfl (oMv tm) (s1 rfl) <| crgB (decide_eq_false hp6) rfl rfl (oIdxR (n := 1) u148 z107 rfl hy7 tm tm) (s2 rfl rfl) <| crgB (decide_eq_false hp6) rfl rfl (oLdE (n := 1) rfl hy7 rfl t107 tm) (s1 rfl) <| cgB (decide_eq_false hp6) rfl rfl (oMv tm) (s1 rfl) <| cgB (decide_eq_false hp6) rfl rfl (oBNe u107 rfl tm tm) (s2 rfl rfl) <| cp (oPkF (decide_eq_false hp6) tm tm) (s2 rfl rfl) <| cp (oMv tm) (s1 rfl) <| csB (nt hp8) rfl rfl <| csB (nt hp8) rfl rfl <| csB (nt hp8) rfl rfl <| csB (nt hp8) rfl rfl <| csB (nt hp8) rfl rfl <| csB (nt hp8) rfl rfl <| csB (nt hp8) rfl rfl <| cp (oPkT (nt hp8) tm cB) (s1 rfl) <| .nil) (by kernel_rfl) ?_
        exact pJ1 _ (so h) ⟨rfl, rfl, rfl, trivial⟩ rfl
  · rintro x5 rfl
    replace h := hk1
    rcases ic h with ⟨hp10, h⟩ | ⟨hp10, h⟩
    · refine wBT hp10 tm (s1 rfl) ?_
      refine wSeq ?_
      refine rg (cp (oAs cB) trivial <| .nil) (by kernel_rfl) ?_
      refine pSeq ?_
      refine wRet ?_
      refine pThenR ?_
      obtain rfl := so h
      refine pSub (Γ' := [(3, .d (kB.sig false))]) ⟨rfl, trivial⟩ ?_
      refine pRen 3510000 70101 rfl ?_
      exact pS1 [0, 1] rfl rfl (.inl rfl) rfl (.tmp rfl <| .nil)
    · refine wBF hp10 tm (s1 rfl) ?_
      refine wSkip ?_
      refine pSeq ?_
      refine wSeq ?_
      obtain ⟨hc11, h⟩ := ib h
      refine rg (cr (oLdN (n := 0) (k := 0) rfl rfl rfl t148 tm) (s1 rfl) <| cp (oMv tm) (s1 rfl) <| cp (oSub tm (cI (by decide))) (s1 rfl) <| cw (oCutR (n := 1) (id' := 30) u148 z107 rfl hc11.1 hc11.2 tm tm) (s2 rfl rfl) <| cwn (oStN (n := 0) (m := 1) (k := 0) rfl rfl rfl rfl z148 rfl tm tm) (s2 rfl rfl) <| .nil) (by kernel_rfl) ?_
      refine pSeq ?_
      refine wSeq ?_
      refine rg (cp (oAs cB) trivial <| .nil) (by kernel_rfl) ?_
      refine pSeq ?_
      refine wRet ?_
      obtain rfl := so h
      refine pSub (Γ' := [(3, .d (kB.sig true))]) ⟨rfl, trivial⟩ ?_
      refine pRen 30 70101 rfl ?_
      exact pS1 [0, 1] rfl rfl (.inl rfl) rfl (.tmp rfl <| .nil)

theorem rule_made.ok {a0 : List Int} {r : Bool × Bool} (h : rule_made.f a0 = some r) : FnA Try.prog 85 [(kL (kI .i64)).sig a0] (tup [kB.sig r.1, kB.sig r.2]) := by
  refine fnIntro Try.func85 rfl (by kernel_rfl) fun H0 w0 => ?_
  unfold rule_made.f at h
  refine wSeq ?_
  refine rg (cp (oAs cB) trivial <| cp (oAs cB) trivial <| .nil) (by kernel_rfl) ?_
  refine pSeq ?_
  refine wSeq ?_
  refine rg (cw (oAlloc (id := 4) (ls := [.d (kN Bool) []]) ze148 (fun g => ⟨[(.slice none 0 0)], _, rfl, zN g.H, rfl⟩)) trivial <| .nil) (by kernel_rfl) ?_
  refine pSeq ?_
  refine wSeq ?_
  refine rg (cp (oMkN (ids := [4]) (caps := [none]) rfl (oNp tm oN0)) (s1 rfl) <| cp (oAs tm) (s1 rfl) <| .nil) (by kernel_rfl) ?_
  refine pSeq ?_
  refine wSeq ?_
  refine wSeq ?_
  refine rg (cp (oMv tm) (s1 rfl) <| cp (oLenL u22 tm) (s1 rfl) <| cp (oMv (cI (by decide))) trivial <| .nil) (by kernel_rfl) ?_
  refine pSeq ?_
  refine wNilL kB 107 5200 (n := 0) (k := 0) rfl rfl rfl ?_
  obtain ⟨o1, h, hk1⟩ := bd h
  refine wK1 (fun x271 => .inr x271 = o1) (fun x271 => [(0, .d ((kL (kI .i64)).sig a0)), (4, .p 4 0)]) (fun x271 => [.row 5200 107 kB x271, .box 4 148 [.v 5200]]) ?_ ?_
  · refine wBlock (wLoop ?_)
    refine lW (pc2 o1 (fun v269 v270 => [(0, .d ((kL (kI .i64)).sig a0)), (4, .p 4 0), (5, .f [4] (sCloN 112 [none])), (10, .d ((kL (kI .i64)).sig a0)), (11, .d ((kI .i64).sig (a0.length : Int))), (12, .d ((kI .i64).sig v270))]) (fun v269 v270 => [.row 5200 107 kB v269, .box 4 148 [.v 5200]]) (rule_made.l0.partial_correctness a0) ?_ _ _ h) ⟨rfl, rfl, rfl, rfl, rfl, rfl, trivial⟩ rfl
    clear h
    intro f' ih v269 v270 h
    refine wSeq ?_
    refine rg (cp (oLt rfl tm tm) (s2 rfl rfl) <| .nil) (by kernel_rfl) ?_
    refine pSeq ?_
    refine wSeq ?_
    rcases ic h with ⟨hp272, h⟩ | ⟨hp272, h⟩
    · refine wCT hp272 tm (s1 rfl) ?_
      refine wSkip ?_
      refine pSeq ?_
      obtain ⟨o2, h, hk2⟩ := bd h
      refine wJ1 (fun x339 => .inr x339 = o2) (fun x339 => [(0, .d ((kL (kI .i64)).sig a0)), (4, .p 4 0), (5, .f [4] (sCloN 112 [none])), (10, .d ((kL (kI .i64)).sig a0)), (11, .d ((kI .i64).sig (a0.length : Int))), (12, .d ((kI .i64).sig v270))]) (fun x339 => [.row 5200 107 kB x339, .box 4 148 [.v 5200]]) ?_ ?_
      · refine wBlock ?_
        refine wSeq ?_
        obtain ⟨y340, hy340, h⟩ := bd h
        refine rg (cp (oIdx u22 z3 hy340 tm tm) (s2 rfl rfl) <| cp (oLd t3 tm) (s1 rfl) <| cp (oAs tm) (s1 rfl) <| .nil) (by kernel_rfl) ?_
        refine pSeq ?_
        refine wSeq ?_
        refine rg (cp (oAs cB) trivial <| .nil) (by kernel_rfl) ?_
        refine pSeq ?_
        refine wSeq ?_
        refine wSeq ?_
        refine rg (cp (oMv tm) (s1 rfl) <| .nil) (by kernel_rfl) ?_
        refine pSeq ?_
        obtain ⟨o3, h, hk3⟩ := bd h
        refine wK2 (fun x372 x373 => (x372, x373) = o3) (fun x372 x373 => [(0, .d ((kL (kI .i64)).sig a0)), (4, .p 4 0), (5, .f [4] (sCloN 112 [none])), (8, .d (kB.sig x373)), (10, .d ((kL (kI .i64)).sig a0)), (11, .d ((kI .i64).sig (a0.length : Int))), (12, .d ((kI .i64).sig v270))]) (fun x372 x373 => [.row 5200 107 kB x372, .box 4 148 [.v 5200]]) ?_ ?_
        · refine wBlock ?_
          refine wSeq ?_
          refine wSeq ?_
          refine rg (cp (oEq rfl tm (cI (by decide))) (s1 rfl) <| cp (oAs tm) (s1 rfl) <| .nil) (by kernel_rfl) ?_
          refine pSeq ?_
          rcases ic h with ⟨hp374, h⟩ | ⟨hp374, h⟩
          · refine wCT hp374 tm (s1 rfl) ?_
            refine wSkip ?_
            refine pSeq ?_
            refine wCT hp374 tm (s1 rfl) ?_
            obtain ⟨hc375, h⟩ := ib h
            refine rg (cr (oLdN (n := 1) (k := 0) rfl rfl rfl t148 tm) (s1 rfl) <| cp (oLit (d := kB) el148 (by decide) rfl rfl rfl (e1 cB e0)) trivial <| cw (oApp (n := 0) (id' := 22) el148 (by decide) rfl (by decide) hc375 tm tm) (s2 rfl rfl) <| cwn (oStN (n := 1) (m := 0) (k := 0) rfl rfl rfl rfl z148 rfl tm tm) (s2 rfl rfl) <| .nil) (by kernel_rfl) ?_
            refine pBlkN ?_
            refine pSub (Γ' := [(0, .d ((kL (kI .i64)).sig a0)), (4, .p 4 0), (5, .f [4] (sCloN 112 [none])), (8, .d (kB.sig true)), (10, .d ((kL (kI .i64)).sig a0)), (11, .d ((kI .i64).sig (a0.length : Int))), (12, .d ((kI .i64).sig v270))]) ⟨rfl, rfl, rfl, rfl, rfl, rfl, rfl, trivial⟩ ?_
            refine pRen 22 5200 rfl ?_
            exact pJ2 _ _ (so h) ⟨rfl, rfl, rfl, rfl, rfl, rfl, rfl, trivial⟩ rfl
          · refine wCF hp374 tm (s1 rfl) ?_
            refine rg (cp (oEq rfl tm (cI (by decide))) (s1 rfl) <| cp (oAs tm) (s1 rfl) <| .nil) (by kernel_rfl) ?_
            refine pSeq ?_
            rcases ic h with ⟨hp376, h⟩ | ⟨hp376, h⟩
            · refine wCT hp376 tm (s1 rfl) ?_
              obtain ⟨hc377, h⟩ := ib h
              refine rg (cr (oLdN (n := 1) (k := 0) rfl rfl rfl t148 tm) (s1 rfl) <| cp (oLit (d := kB) el148 (by decide) rfl rfl rfl (e1 cB e0)) trivial <| cw (oApp (n := 0) (id' := 22) el148 (by decide) rfl (by decide) hc377 tm tm) (s2 rfl rfl) <| cwn (oStN (n := 1) (m := 0) (k := 0) rfl rfl rfl rfl z148 rfl tm tm) (s2 rfl rfl) <| .nil) (by kernel_rfl) ?_
              refine pBlkN ?_
              refine pSub (Γ' := [(0, .d ((kL (kI .i64)).sig a0)), (4, .p 4 0), (5, .f [4] (sCloN 112 [none])), (8, .d (kB.sig true)), (10, .d ((kL (kI .i64)).sig a0)), (11, .d ((kI .i64).sig (a0.length : Int))), (12, .d ((kI .i64).sig v270))]) ⟨rfl, rfl, rfl, rfl, rfl, rfl, rfl, trivial⟩ ?_
              refine pRen 22 5200 rfl ?_
              exact pJ2 _ _ (so h) ⟨rfl, rfl, rfl, rfl, rfl, rfl, rfl, trivial⟩ rfl
            · refine wCF hp376 tm (s1 rfl) ?_
              refine wSeq ?_
              refine wSeq ?_
              refine rg (cp (oEq rfl tm (cI (by decide))) (s1 rfl) <| cp (oAs tm) (s1 rfl) <| .nil) (by kernel_rfl) ?_
              refine pSeq ?_
              rcases ic h with ⟨hp378, h⟩ | ⟨hp378, h⟩
              · refine wCT hp378 tm (s1 rfl) ?_
                refine wSkip ?_
                refine pSeq ?_
                refine wCT hp378 tm (s1 rfl) ?_
                obtain ⟨hc379, h⟩ := ib h
                refine rg (cr (oLdN (n := 1) (k := 0) rfl rfl rfl t148 tm) (s1 rfl) <| cp (oLit (d := kB) el148 (by decide) rfl rfl rfl (e1 cB e0)) trivial <| cw (oApp (n := 0) (id' := 32) el148 (by decide) rfl (by decide) hc379 tm tm) (s2 rfl rfl) <| cwn (oStN (n := 1) (m := 0) (k := 0) rfl rfl rfl rfl z148 rfl tm tm) (s2 rfl rfl) <| .nil) (by kernel_rfl) ?_
                refine pBlkN ?_
                refine pSub (Γ' := [(0, .d ((kL (kI .i64)).sig a0)), (4, .p 4 0), (5, .f [4] (sCloN 112 [none])), (8, .d (kB.sig true)), (10, .d ((kL (kI .i64)).sig a0)), (11, .d ((kI .i64).sig (a0.length : Int))), (12, .d ((kI .i64).sig v270))]) ⟨rfl, rfl, rfl, rfl, rfl, rfl, rfl, trivial⟩ ?_
                refine pRen 32 5200 rfl ?_
                exact pJ2 _ _ (so h) ⟨rfl, rfl, rfl, rfl, rfl, rfl, rfl, trivial⟩ rfl
              · refine wCF hp378 tm (s1 rfl) ?_
                refine wSeq ?_
                refine rg (cp (oEq rfl tm (cI (by decide))) (s1 rfl) <| cp (oAs tm) (s1 rfl) <| .nil) (by kernel_rfl) ?_
                refine pSeq ?_
                rcases ic h with ⟨hp380, h⟩ | ⟨hp380, h⟩
                · refine wCT hp380 tm (s1 rfl) ?_
                  refine wSkip ?_
                  refine pSeq ?_
                  refine wCT hp380 tm (s1 rfl) ?_
                  obtain ⟨hc381, h⟩ := ib h
                  refine rg (cr (oLdN (n := 1) (k := 0) rfl rfl rfl t148 tm) (s1 rfl) <| cp (oLit (d := kB) el148 (by decide) rfl rfl rfl (e1 cB e0)) trivial <| cw (oApp (n := 0) (id' := 32) el148 (by decide) rfl (by decide) hc381 tm tm) (s2 rfl rfl) <| cwn (oStN (n := 1) (m := 0) (k := 0) rfl rfl rfl rfl z148 rfl tm tm) (s2 rfl rfl) <| .nil) (by kernel_rfl) ?_
                  refine pBlkN ?_
                  refine pSub (Γ' := [(0, .d ((kL (kI .i64)).sig a0)), (4, .p 4 0), (5, .f [4] (sCloN 112 [none])), (8, .d (kB.sig true)), (10, .d ((kL (kI .i64)).sig a0)), (11, .d ((kI .i64).sig (a0.length : Int))), (12, .d ((kI .i64).sig v270))]) ⟨rfl, rfl, rfl, rfl, rfl, rfl, rfl, trivial⟩ ?_
                  refine pRen 32 5200 rfl ?_
                  exact pJ2 _ _ (so h) ⟨rfl, rfl, rfl, rfl, rfl, rfl, rfl, trivial⟩ rfl
                · refine wCF hp380 tm (s1 rfl) ?_
                  refine wSeq ?_
                  refine rg (cp (oEq rfl tm (cI (by decide))) (s1 rfl) <| cp (oAs tm) (s1 rfl) <| .nil) (by kernel_rfl) ?_
                  refine pSeq ?_
                  rcases ic h with ⟨hp382, h⟩ | ⟨hp382, h⟩
                  · refine wCT hp382 tm (s1 rfl) ?_
                    refine wSkip ?_
                    refine pSeq ?_
                    refine wCT hp382 tm (s1 rfl) ?_
                    obtain ⟨hc383, h⟩ := ib h
                    refine rg (cr (oLdN (n := 1) (k := 0) rfl rfl rfl t148 tm) (s1 rfl) <| cp (oLit (d := kB) el148 (by decide) rfl rfl rfl (e1 cB e0)) trivial <| cw (oApp (n := 0) (id' := 32) el148 (by decide) rfl (by decide) hc383 tm tm) (s2 rfl rfl) <| cwn (oStN (n := 1) (m := 0) (k := 0) rfl rfl rfl rfl z148 rfl tm tm) (s2 rfl rfl) <| .nil) (by kernel_rfl) ?_
                    refine pBlkN ?_
                    refine pSub (Γ' := [(0, .d ((kL (kI .i64)).sig a0)), (4, .p 4 0), (5, .f [4] (sCloN 112 [none])), (8, .d (kB.sig true)), (10, .d ((kL (kI .i64)).sig a0)), (11, .d ((kI .i64).sig (a0.length : Int))), (12, .d ((kI .i64).sig v270))]) ⟨rfl, rfl, rfl, rfl, rfl, rfl, rfl, trivial⟩ ?_
                    refine pRen 32 5200 rfl ?_
                    exact pJ2 _ _ (so h) ⟨rfl, rfl, rfl, rfl, rfl, rfl, rfl, trivial⟩ rfl
                  · refine wCF hp382 tm (s1 rfl) ?_
                    refine wSeq ?_
                    refine rg (cp (oEq rfl tm (cI (by decide))) (s1 rfl) <| cp (oAs tm) (s1 rfl) <| .nil) (by kernel_rfl) ?_
                    refine pSeq ?_
                    rcases ic h with ⟨hp384, h⟩ | ⟨hp384, h⟩
                    · refine wCT hp384 tm (s1 rfl) ?_
                      refine wSkip ?_
                      refine pSeq ?_
                      refine wCT hp384 tm (s1 rfl) ?_
                      obtain ⟨hc385, h⟩ := ib h
                      refine rg (cr (oLdN (n := 1) (k := 0) rfl rfl rfl t148 tm) (s1 rfl) <| cp (oLit (d := kB) el148 (by decide) rfl rfl rfl (e1 cB e0)) trivial <| cw (oApp (n := 0) (id' := 32) el148 (by decide) rfl (by decide) hc385 tm tm) (s2 rfl rfl) <| cwn (oStN (n := 1) (m := 0) (k := 0) rfl rfl rfl rfl z148 rfl tm tm) (s2 rfl rfl) <| .nil) (by kernel_rfl) ?_
                      refine pBlkN ?_
                      refine pSub (Γ' := [(0, .d ((kL (kI .i64)).sig a0)), (4, .p 4 0), (5, .f [4] (sCloN 112 [none])), (8, .d (kB.sig true)), (10, .d ((kL (kI .i64)).sig a0)), (11, .d ((kI .i64).sig (a0.length : Int))), (12, .d ((kI .i64).sig v270))]) ⟨rfl, rfl, rfl, rfl, rfl, rfl, rfl, trivial⟩ ?_
                      refine pRen 32 5200 rfl ?_
                      exact pJ2 _ _ (so h) ⟨rfl, rfl, rfl, rfl, rfl, rfl, rfl, trivial⟩ rfl
                    · refine wCF hp384 tm (s1 rfl) ?_
                      refine wSeq ?_
                      refine rg (cp (oEq rfl tm (cI (by decide))) (s1 rfl) <| cp (oAs tm) (s1 rfl) <| .nil) (by kernel_rfl) ?_
                      refine pSeq ?_
                      rcases ic h with ⟨hp386, h⟩ | ⟨hp386, h⟩
                      · refine wCT hp386 tm (s1 rfl) ?_
                        refine wSkip ?_
                        refine pSeq ?_
                        refine wCT hp386 tm (s1 rfl) ?_
                        obtain ⟨hc387, h⟩ := ib h
                        refine rg (cr (oLdN (n := 1) (k := 0) rfl rfl rfl t148 tm) (s1 rfl) <| cp (oLit (d := kB) el148 (by decide) rfl rfl rfl (e1 cB e0)) trivial <| cw (oApp (n := 0) (id' := 32) el148 (by decide) rfl (by decide) hc387 tm tm) (s2 rfl rfl) <| cwn (oStN (n := 1) (m := 0) (k := 0) rfl rfl rfl rfl z148 rfl tm tm) (s2 rfl rfl) <| .nil) (by kernel_rfl) ?_
                        refine pBlkN ?_
                        refine pSub (Γ' := [(0, .d ((kL (kI .i64)).sig a0)), (4, .p 4 0), (5, .f [4] (sCloN 112 [none])), (8, .d (kB.sig true)), (10, .d ((kL (kI .i64)).sig a0)), (11, .d ((kI .i64).sig (a0.length : Int))), (12, .d ((kI .i64).sig v270))]) ⟨rfl, rfl, rfl, rfl, rfl, rfl, rfl, trivial⟩ ?_
                        refine pRen 32 5200 rfl ?_
                        exact pJ2 _ _ (so h) ⟨rfl, rfl, rfl, rfl, rfl, rfl, rfl, trivial⟩ rfl
                      · refine wCF hp386 tm (s1 rfl) ?_
                        refine rg (cp (oEq rfl tm (cI (by decide))) (s1 rfl) <| cp (oAs tm) (s1 rfl) <| .nil) (by kernel_rfl) ?_
                        refine pSeq ?_
                        rcases ic h with ⟨hp388, h⟩ | ⟨hp388, h⟩
                        · refine wCT hp388 tm (s1 rfl) ?_
                          obtain ⟨hc389, h⟩ := ib h
                          refine rg (cr (oLdN (n := 1) (k := 0) rfl rfl rfl t148 tm) (s1 rfl) <| cp (oLit (d := kB) el148 (by decide) rfl rfl rfl (e1 cB e0)) trivial <| cw (oApp (n := 0) (id' := 32) el148 (by decide) rfl (by decide) hc389 tm tm) (s2 rfl rfl) <| cwn (oStN (n := 1) (m := 0) (k := 0) rfl rfl rfl rfl z148 rfl tm tm) (s2 rfl rfl) <| .nil) (by kernel_rfl) ?_
                          refine pBlkN ?_
                          refine pSub (Γ' := [(0, .d ((kL (kI .i64)).sig a0)), (4, .p 4 0), (5, .f [4] (sCloN 112 [none])), (8, .d (kB.sig true)), (10, .d ((kL (kI .i64)).sig a0)), (11, .d ((kI .i64).sig (a0.length : Int))), (12, .d ((kI .i64).sig v270))]) ⟨rfl, rfl, rfl, rfl, rfl, rfl, rfl, trivial⟩ ?_
                          refine pRen 32 5200 rfl ?_
                          exact pJ2 _ _ (so h) ⟨rfl, rfl, rfl, rfl, rfl, rfl, rfl, trivial⟩ rfl
                        · refine wCF hp388 tm (s1 rfl) ?_
                          refine wSeq ?_
                          refine wSeq ?_
                          refine rg (cp (oEq rfl tm (cI (by decide))) (s1 rfl) <| cp (oAs tm) (s1 rfl) <| .nil) (by kernel_rfl) ?_
                          refine pSeq ?_
                          rcases ic h with ⟨hp390, h⟩ | ⟨hp390, h⟩
                          · refine wCT hp390 tm (s1 rfl) ?_
                            refine wSkip ?_
                            refine pSeq ?_
                            refine wCT hp390 tm (s1 rfl) ?_
                            refine wSeq ?_
                            obtain ⟨y391, hy391, h⟩ := bd h
                            refine rg (cp (oMv tm) (s1 rfl) <| cm (oCallN (ins := [.d (kB.sig false)]) (caps := [none]) (kn := [70100]) (rest := []) (R' := [.row 510040 107 kB y391.1, .box 4 148 [.v 510040]]) (out' := .d (kB.sig y391.2)) [(70100, 4), (70101, 5200)] [(70101, 510040)] [1, 0] [] [1, 0] rfl tm (rule_made_1.ok hy391) rfl b112 (oE1 cB oE0) rfl rfl rfl rfl rfl rfl rfl rfl) (s1 rfl) <| cp (oAs tm) (s1 rfl) <| .nil) (by kernel_rfl) ?_
                            refine pSeq ?_
                            obtain ⟨hc392, h⟩ := ib h
                            refine rg (cr (oLdN (n := 1) (k := 0) rfl rfl rfl t148 tm) (s1 rfl) <| cp (oLit (d := kB) el148 (by decide) rfl rfl rfl (e1 cB e0)) trivial <| cw (oApp (n := 0) (id' := 40) el148 (by decide) rfl (by decide) hc392 tm tm) (s2 rfl rfl) <| cwn (oStN (n := 1) (m := 0) (k := 0) rfl rfl rfl rfl z148 rfl tm tm) (s2 rfl rfl) <| .nil) (by kernel_rfl) ?_
                            refine pBlkN ?_
                            refine pSub (Γ' := [(0, .d ((kL (kI .i64)).sig a0)), (4, .p 4 0), (5, .f [4] (sCloN 112 [none])), (8, .d (kB.sig y391.2)), (10, .d ((kL (kI .i64)).sig a0)), (11, .d ((kI .i64).sig (a0.length : Int))), (12, .d ((kI .i64).sig v270))]) ⟨rfl, rfl, rfl, rfl, rfl, rfl, rfl, trivial⟩ ?_
                            refine pRen 40 5200 rfl ?_
                            exact pJ2 _ _ (so h) ⟨rfl, rfl, rfl, rfl, rfl, rfl, rfl, trivial⟩ rfl
                          · refine wCF hp390 tm (s1 rfl) ?_
                            refine rg (cp (oEq rfl tm (cI (by decide))) (s1 rfl) <| cp (oAs tm) (s1 rfl) <| .nil) (by kernel_rfl) ?_
                            refine pSeq ?_
                            rcases ic h with ⟨hp393, h⟩ | ⟨hp393, h⟩
                            · refine wCT hp393 tm (s1 rfl) ?_
                              refine wSeq ?_
                              obtain ⟨y394, hy394, h⟩ := bd h
                              refine rg (cp (oMv tm) (s1 rfl) <| cm (oCallN (ins := [.d (kB.sig false)]) (caps := [none]) (kn := [70100]) (rest := []) (R' := [.row 510040 107 kB y394.1, .box 4 148 [.v 510040]]) (out' := .d (kB.sig y394.2)) [(70100, 4), (70101, 5200)] [(70101, 510040)] [1, 0] [] [1, 0] rfl tm (rule_made_1.ok hy394) rfl b112 (oE1 cB oE0) rfl rfl rfl rfl rfl rfl rfl rfl) (s1 rfl) <| cp (oAs tm) (s1 rfl) <| .nil) (by kernel_rfl) ?_
                              refine pSeq ?_
                              obtain ⟨hc395, h⟩ := ib h
                              refine rg (cr (oLdN (n := 1) (k := 0) rfl rfl rfl t148 tm) (s1 rfl) <| cp (oLit (d := kB) el148 (by decide) rfl rfl rfl (e1 cB e0)) trivial <| cw (oApp (n := 0) (id' := 40) el148 (by decide) rfl (by decide) hc395 tm tm) (s2 rfl rfl) <| cwn (oStN (n := 1) (m := 0) (k := 0) rfl rfl rfl rfl z148 rfl tm tm) (s2 rfl rfl) <| .nil) (by kernel_rfl) ?_
                              refine pBlkN ?_
                              refine pSub (Γ' := [(0, .d ((kL (kI .i64)).sig a0)), (4, .p 4 0), (5, .f [4] (sCloN 112 [none])), (8, .d (kB.sig y394.2)), (10, .d ((kL (kI .i64)).sig a0)), (11, .d ((kI .i64).sig (a0.length : Int))), (12, .d ((kI .i64).sig v270))]) ⟨rfl, rfl, rfl, rfl, rfl, rfl, rfl, trivial⟩ ?_
                              refine pRen 40 5200 rfl ?_
                              exact pJ2 _ _ (so h) ⟨rfl, rfl, rfl, rfl, rfl, rfl, rfl, trivial⟩ rfl
                            · refine wCF hp393 tm (s1 rfl) ?_
                              refine wSeq ?_
                              refine rg (cp (oEq rfl tm (cI (by decide))) (s1 rfl) <| cp (oAs tm) (s1 rfl) <| .nil) (by kernel_rfl) ?_
                              refine pSeq ?_
                              rcases ic h with ⟨hp396, h⟩ | ⟨hp396, h⟩
                              · refine wCT hp396 tm (s1 rfl) ?_
                                refine wSeq ?_
                                obtain ⟨y397, hy397, h⟩ := bd h
                                refine rg (cp (oMv tm) (s1 rfl) <| cm (oCallN (ins := [.d (kB.sig true)]) (caps := [none]) (kn := [70100]) (rest := []) (R' := [.row 540040 107 kB y397.1, .box 4 148 [.v 540040]]) (out' := .d (kB.sig y397.2)) [(70100, 4), (70101, 5200)] [(70101, 540040)] [1, 0] [] [1, 0] rfl tm (rule_made_1.ok hy397) rfl b112 (oE1 cB oE0) rfl rfl rfl rfl rfl rfl rfl rfl) (s1 rfl) <| cp (oAs tm) (s1 rfl) <| .nil) (by kernel_rfl) ?_
                                refine pSeq ?_
                                obtain ⟨hc398, h⟩ := ib h
                                refine rg (cr (oLdN (n := 1) (k := 0) rfl rfl rfl t148 tm) (s1 rfl) <| cp (oLit (d := kB) el148 (by decide) rfl rfl rfl (e1 cB e0)) trivial <| cw (oApp (n := 0) (id' := 47) el148 (by decide) rfl (by decide) hc398 tm tm) (s2 rfl rfl) <| cwn (oStN (n := 1) (m := 0) (k := 0) rfl rfl rfl rfl z148 rfl tm tm) (s2 rfl rfl) <| .nil) (by kernel_rfl) ?_
                                refine pBlkN ?_
                                refine pSub (Γ' := [(0, .d ((kL (kI .i64)).sig a0)), (4, .p 4 0), (5, .f [4] (sCloN 112 [none])), (8, .d (kB.sig y397.2)), (10, .d ((kL (kI .i64)).sig a0)), (11, .d ((kI .i64).sig (a0.length : Int))), (12, .d ((kI .i64).sig v270))]) ⟨rfl, rfl, rfl, rfl, rfl, rfl, rfl, trivial⟩ ?_
                                refine pRen 47 5200 rfl ?_
                                exact pJ2 _ _ (so h) ⟨rfl, rfl, rfl, rfl, rfl, rfl, rfl, trivial⟩ rfl
                              · refine wCF hp396 tm (s1 rfl) ?_
                                refine wSeq ?_
                                refine wSeq ?_
                                refine rg (cp (oEq rfl tm (cI (by decide))) (s1 rfl) <| cp (oAs tm) (s1 rfl) <| .nil) (by kernel_rfl) ?_
                                refine pSeq ?_
                                rcases ic h with ⟨hp399, h⟩ | ⟨hp399, h⟩
                                · refine wCT hp399 tm (s1 rfl) ?_
                                  refine wSkip ?_
                                  refine pSeq ?_
                                  refine wCT hp399 tm (s1 rfl) ?_
                                  refine wSeq ?_
                                  obtain ⟨y400, hy400, h⟩ := bd h
                                  refine rg (cp (oMv tm) (s1 rfl) <| cm (oCallN (ins := [.d (kB.sig true)]) (caps := [none]) (kn := [70100]) (rest := []) (R' := [.row 580040 107 kB y400.1, .box 4 148 [.v 580040]]) (out' := .d (kB.sig y400.2)) [(70100, 4), (70101, 5200)] [(70101, 580040)] [1, 0] [] [1, 0] rfl tm (rule_made_1.ok hy400) rfl b112 (oE1 cB oE0) rfl rfl rfl rfl rfl rfl rfl rfl) (s1 rfl) <| cp (oAs tm) (s1 rfl) <| .nil) (by kernel_rfl) ?_
                                  refine pSeq ?_
                                  obtain ⟨hc401, h⟩ := ib h
                                  refine rg (cr (oLdN (n := 1) (k := 0) rfl rfl rfl t148 tm) (s1 rfl) <| cp (oLit (d := kB) el148 (by decide) rfl rfl rfl (e1 cB e0)) trivial <| cw (oApp (n := 0) (id' := 55) el148 (by decide) rfl (by decide) hc401 tm tm) (s2 rfl rfl) <| cwn (oStN (n := 1) (m := 0) (k := 0) rfl rfl rfl rfl z148 rfl tm tm) (s2 rfl rfl) <| .nil) (by kernel_rfl) ?_
                                  refine pBlkN ?_
                                  refine pSub (Γ' := [(0, .d ((kL (kI .i64)).sig a0)), (4, .p 4 0), (5, .f [4] (sCloN 112 [none])), (8, .d (kB.sig y400.2)), (10, .d ((kL (kI .i64)).sig a0)), (11, .d ((kI .i64).sig (a0.length : Int))), (12, .d ((kI .i64).sig v270))]) ⟨rfl, rfl, rfl, rfl, rfl, rfl, rfl, trivial⟩ ?_
                                  refine pRen 55 5200 rfl ?_
                                  exact pJ2 _ _ (so h) ⟨rfl, rfl, rfl, rfl, rfl, rfl, rfl, trivial⟩ rfl
                                · refine wCF hp399 tm (s1 rfl) ?_
                                  refine rg (cp (oEq rfl tm (cI (by decide))) (s1 rfl) <| cp (oAs tm) (s1 rfl) <| .nil) (by kernel_rfl) ?_
                                  refine pSeq ?_
                                  rcases ic h with ⟨hp402, h⟩ | ⟨hp402, h⟩
                                  · refine wCT hp402 tm (s1 rfl) ?_
                                    refine wSeq ?_
                                    obtain ⟨y403, hy403, h⟩ := bd h
                                    refine rg (cp (oMv tm) (s1 rfl) <| cm (oCallN (ins := [.d (kB.sig true)]) (caps := [none]) (kn := [70100]) (rest := []) (R' := [.row 580040 107 kB y403.1, .box 4 148 [.v 580040]]) (out' := .d (kB.sig y403.2)) [(70100, 4), (70101, 5200)] [(70101, 580040)] [1, 0] [] [1, 0] rfl tm (rule_made_1.ok hy403) rfl b112 (oE1 cB oE0) rfl rfl rfl rfl rfl rfl rfl rfl) (s1 rfl) <| cp (oAs tm) (s1 rfl) <| .nil) (by kernel_rfl) ?_
                                    refine pSeq ?_
                                    obtain ⟨hc404, h⟩ := ib h
                                    refine rg (cr (oLdN (n := 1) (k := 0) rfl rfl rfl t148 tm) (s1 rfl) <| cp (oLit (d := kB) el148 (by decide) rfl rfl rfl (e1 cB e0)) trivial <| cw (oApp (n := 0) (id' := 55) el148 (by decide) rfl (by decide) hc404 tm tm) (s2 rfl rfl) <| cwn (oStN (n := 1) (m := 0) (k := 0) rfl rfl rfl rfl z148 rfl tm tm) (s2 rfl rfl) <| .nil) (by kernel_rfl) ?_
                                    refine pBlkN ?_
                                    refine pSub (Γ' := [(0, .d ((kL (kI .i64)).sig a0)), (4, .p 4 0), (5, .f [4] (sCloN 112 [none])), (8, .d (kB.sig y403.2)), (10, .d ((kL (kI .i64)).sig a0)), (11, .d ((kI .i64).sig (a0.length : Int))), (12, .d ((kI .i64).sig v270))]) ⟨rfl, rfl, rfl, rfl, rfl, rfl, rfl, trivial⟩ ?_
                                    refine pRen 55 5200 rfl ?_
                                    exact pJ2 _ _ (so h) ⟨rfl, rfl, rfl, rfl, rfl, rfl, rfl, trivial⟩ rfl
                                  · refine wCF hp402 tm (s1 rfl) ?_
                                    refine rg (cp (oAs cB) trivial <| .nil) (by kernel_rfl) ?_
                                    refine pBlkN ?_
                                    exact pJ2 _ _ (so h) ⟨rfl, rfl, rfl, rfl, rfl, rfl, rfl, trivial⟩ rfl
        · rintro x372 x373 rfl
          replace h := hk3
          refine pSeq ?_
          refine wSeq ?_
          refine rg (cp (oMv tm) (s1 rfl) <| cp (oNot tm) (s1 rfl) <| .nil) (by kernel_rfl) ?_
          refine pSeq ?_
          rcases ic h with ⟨hp405, h⟩ | ⟨hp405, h⟩
          · refine wBT hp405 tm (s1 rfl) ?_
            refine wSeq ?_
            refine rg (cp (oAs cB) trivial <| cp (oAs cB) trivial <| .nil) (by kernel_rfl) ?_
            refine pSeq ?_
            refine wRet ?_
            refine pBlkR ?_
            refine pThenR ?_
            obtain rfl := so h
            replace h := hk2
            refine pThenR ?_
            refine pBlkR ?_
            refine pThenR ?_
            obtain rfl := so h
            replace h := hk1
            refine pThenR ?_
            obtain rfl := so h
            exact pRn (.inl rfl) rfl rfl (.tmp rfl <| .tmp rfl <| .nil)
          · refine wBF hp405 tm (s1 rfl) ?_
            refine wSkip ?_
            refine pBlkN ?_
            exact pJ1 _ (so h) ⟨rfl, rfl, rfl, rfl, rfl, rfl, trivial⟩ rfl
      · rintro x339 rfl
        replace h := hk2
        refine rg (cp (oAdd tm (cI (by decide))) (s1 rfl) <| cp (oMv tm) (s1 rfl) <| .nil) (by kernel_rfl) ?_
        exact pLoop (lW (ih _ _ h) ⟨rfl, rfl, rfl, rfl, rfl, rfl, trivial⟩ rfl)
    · refine wCF hp272 tm (s1 rfl) ?_
      refine wExit ?_
      refine pThenX ?_
      refine pThenX ?_
      refine pBlkX ?_
      exact pJ1 _ (so h) ⟨rfl, rfl, trivial⟩ rfl
  · rintro x271 rfl
    replace h := hk1
    refine pSeq ?_
    refine wSeq ?_
    obtain ⟨o1, h, hk1⟩ := bd h
    refine wJ1 (fun x407 => x407 = o1) (fun x407 => [(4, .p 4 0), (66, .d (kB.sig x407))]) (fun x407 => [.row 5200 107 kB x271, .box 4 148 [.v 5200]]) ?_ ?_
    · rcases ic h with ⟨hp408, h⟩ | ⟨hp408, h⟩
      · refine rg (cr (oLdN (n := 1) (k := 0) rfl rfl rfl t148 tm) (s1 rfl) <| cr (oLenR (n := 0) u148 rfl tm) (s1 rfl) <| cp (oNe rfl tm (cI (by decide))) (s1 rfl) <| cp (oMv tm) (s1 rfl) <| cgB (nf hp408) rfl rfl (oMv tm) (s1 rfl) <| cgB (nf hp408) rfl rfl (oLenL u22 tm) (s1 rfl) <| cgB (nf hp408) rfl rfl (oGt rfl tm (cI (by decide))) (s1 rfl) <| cp (oPkF (nf hp408) tm tm) (s2 rfl rfl) <| .nil) (by kernel_rfl) ?_
        exact pJ1 _ (so h) ⟨rfl, rfl, trivial⟩ rfl
      · refine rg (cr (oLdN (n := 1) (k := 0) rfl rfl rfl t148 tm) (s1 rfl) <| cr (oLenR (n := 0) u148 rfl tm) (s1 rfl) <| cp (oNe rfl tm (cI (by decide))) (s1 rfl) <| cp (oMv tm) (s1 rfl) <| csB (nt hp408) rfl rfl <| csB (nt hp408) rfl rfl <| csB (nt hp408) rfl rfl <| cp (oPkT (nt hp408) tm cB) (s1 rfl) <| .nil) (by kernel_rfl) ?_
        exact pJ1 _ (so h) ⟨rfl, rfl, trivial⟩ rfl
    · rintro x407 rfl
      replace h := hk1
      rcases ic h with ⟨hp409, h⟩ | ⟨hp409, h⟩
      · refine wBT hp409 tm (s1 rfl) ?_
        refine wSeq ?_
        refine rg (cp (oAs cB) trivial <| cp (oAs cB) trivial <| .nil) (by kernel_rfl) ?_
        refine pSeq ?_
        refine wRet ?_
        refine pThenR ?_
        obtain rfl := so h
        exact pRn (.inl rfl) rfl rfl (.tmp rfl <| .tmp rfl <| .nil)
      · refine wBF hp409 tm (s1 rfl) ?_
        refine wSkip ?_
        refine pSeq ?_
        refine wSeq ?_
        obtain ⟨y410, hy410, h⟩ := bd h
        refine rg (cr (oLdN (n := 1) (k := 0) rfl rfl rfl t148 tm) (s1 rfl) <| cr (oIdxR (n := 0) u148 z107 rfl hy410 tm (cI (by decide))) (s1 rfl) <| cr (oLdE (n := 0) rfl hy410 rfl t107 tm) (s1 rfl) <| cp (oAs tm) (s1 rfl) <| cp (oAs cB) trivial <| .nil) (by kernel_rfl) ?_
        refine pSeq ?_
        refine wRet ?_
        obtain rfl := so h
        exact pRn (.inl rfl) rfl rfl (.tmp rfl <| .tmp rfl <| .nil)

theorem rule_Right.ok {a0 : List Int} {a1 : Bool} {r : Bool} (h : rule_Right.f a0 a1 = some r) : FnA Try.prog 47 [(kL (kI .i64)).sig a0, kB.sig a1] (kB.sig r) := by
  refine fnIntro Try.func47 rfl (by kernel_rfl) fun H0 w0 => ?_
  unfold rule_Right.f at h
  refine wSeq ?_
  refine rg (cp (oAs cB) trivial <| .nil) (by kernel_rfl) ?_
  refine pSeq ?_
  refine wSeq ?_
  obtain ⟨y1, hy1, h⟩ := bd h
  refine rg (cp (oMv tm) (s1 rfl) <| cp (oCall rfl (rule_made.ok hy1) b85 (opds_cons tm opds_nil)) (s1 rfl) <| cp (oMv tm) (s1 rfl) <| cp (oExt (k := 0) rfl tm) (s1 rfl) <| cp (oExt (k := 1) rfl tm) (s1 rfl) <| cp (oAs tm) (s1 rfl) <| cp (oAs tm) (s1 rfl) <| .nil) (by kernel_rfl) ?_
  refine pSeq ?_
  obtain ⟨o1, h, hk1⟩ := bd h
  refine wJ1 (fun x3 => x3 = o1) (fun x3 => [(4, .d (kB.sig x3))]) (fun x3 => []) ?_ ?_
  · rcases ic h with ⟨hp4, h⟩ | ⟨hp4, h⟩
    · refine rg (cp (oMv tm) (s1 rfl) <| cp (oMv tm) (s1 rfl) <| cgB hp4 rfl rfl (oMv tm) (s1 rfl) <| cgB hp4 rfl rfl (oMv tm) (s1 rfl) <| cgB hp4 rfl rfl (oBEq u4 rfl tm tm) (s2 rfl rfl) <| cp (oPkT hp4 tm tm) (s2 rfl rfl) <| cp (oAs tm) (s1 rfl) <| .nil) (by kernel_rfl) ?_
      exact pJ1 _ (so h) ⟨rfl, trivial⟩ rfl
    · refine rg (cp (oMv tm) (s1 rfl) <| cp (oMv tm) (s1 rfl) <| csB (nb hp4) rfl rfl <| csB (nb hp4) rfl rfl <| csB (nb hp4) rfl rfl <| cp (oPkF (nb hp4) tm cB) (s1 rfl) <| cp (oAs tm) (s1 rfl) <| .nil) (by kernel_rfl) ?_
      exact pJ1 _ (so h) ⟨rfl, trivial⟩ rfl
  · rintro x3 rfl
    replace h := hk1
    refine wRet ?_
    obtain rfl := so h
    exact pR1 (.inl rfl) rfl (.tmp rfl <| .nil)

theorem slices_IndexFunc_int_int.ok {a0 : List Int} {a1 : Int → Option Bool} {r : Int} (h : slices_IndexFunc_int_int.f a0 a1 = some r) : FnA Try.prog 127 [(kL (kI .i64)).sig a0, (sFun Try.prog (rl1 (kI .i64) kB a1))] ((kI .i64).sig r) := by
  refine fnIntro Try.func127 rfl (by kernel_rfl) fun H0 w0 => ?_
  unfold slices_IndexFunc_int_int.f at h
  refine wSeq ?_
  refine rg (cp (oAs (cI (by decide))) trivial <| .nil) (by kernel_rfl) ?_
  refine pSeq ?_
  refine wSeq ?_
  refine wSeq ?_
  refine rg (cp (oMv tm) (s1 rfl) <| cp (oLenL u22 tm) (s1 rfl) <| cp (oMv (cI (by decide))) trivial <| .nil) (by kernel_rfl) ?_
  refine pSeq ?_
  obtain ⟨o1, h, hk1⟩ := bd h
  refine wK0 (.inr () = o1) ([]) ([]) ?_ ?_
  · refine wBlock (wLoop ?_)
    refine lW (pc1 o1 (fun v9 => [(0, .d ((kL (kI .i64)).sig a0)), (1, .d ((sFun Try.prog (rl1 (kI .i64) kB a1)))), (7, .d ((kI .i64).sig (a0.length : Int))), (8, .d ((kI .i64).sig v9))]) (fun v9 => []) (slices_IndexFunc_int_int.l0.partial_correctness a0 a1) ?_ _ h) ⟨rfl, rfl, rfl, rfl, trivial⟩ rfl
    clear h
    intro f' ih v9 h
    refine wSeq ?_
    refine rg (cp (oLt rfl tm tm) (s2 rfl rfl) <| .nil) (by kernel_rfl) ?_
    refine pSeq ?_
    refine wSeq ?_
    rcases ic h with ⟨hp10, h⟩ | ⟨hp10, h⟩
    · refine wCT hp10 tm (s1 rfl) ?_
      refine wSkip ?_
      refine pSeq ?_
      refine wSeq ?_
      refine wBlock ?_
      refine wSeq ?_
      refine rg (cp (oMv tm) (s1 rfl) <| cp (oAs tm) (s1 rfl) <| .nil) (by kernel_rfl) ?_
      refine pSeq ?_
      refine wSeq ?_
      obtain ⟨y11, hy11, h⟩ := bd h
      obtain ⟨y12, hy12, h⟩ := bd h
      refine rg (cp (oMv tm) (s1 rfl) <| cp (oMv tm) (s1 rfl) <| cp (oMv tm) (s1 rfl) <| cp (oIdx u22 z3 hy11 tm tm) (s2 rfl rfl) <| cp (oLd t3 tm) (s1 rfl) <| cp (oCallV rfl (rl1i hy12) tm (opds_cons tm opds_nil)) (s2 rfl rfl) <| .nil) (by kernel_rfl) ?_
      refine pSeq ?_
      rcases ic h with ⟨hp13, h⟩ | ⟨hp13, h⟩
      · refine wBT hp13 tm (s1 rfl) ?_
        refine wSeq ?_
        refine rg (cp (oMv tm) (s1 rfl) <| cp (oAs tm) (s1 rfl) <| .nil) (by kernel_rfl) ?_
        refine pSeq ?_
        refine wRet ?_
        refine pBlkR ?_
        refine pThenR ?_
        refine pThenR ?_
        refine pBlkR ?_
        refine pThenR ?_
        obtain rfl := so h
        replace h := hk1
        refine pThenR ?_
        obtain rfl := so h
        exact pR1 (.inl rfl) rfl (.tmp rfl <| .nil)
      · refine wBF hp13 tm (s1 rfl) ?_
        refine wSkip ?_
        refine pBlkN ?_
        refine pSeq ?_
        refine rg (cp (oAdd tm (cI (by decide))) (s1 rfl) <| cp (oMv tm) (s1 rfl) <| .nil) (by kernel_rfl) ?_
        exact pLoop (lW (ih _ h) ⟨rfl, rfl, rfl, rfl, trivial⟩ rfl)
    · refine wCF hp10 tm (s1 rfl) ?_
      refine wExit ?_
      refine pThenX ?_
      refine pThenX ?_
      refine pBlkX ?_
      exact pJ0 (so h) trivial rfl
  · rintro rfl
    replace h := hk1
    refine pSeq ?_
    refine wSeq ?_
    refine rg (cp (oAs (cI (by decide))) trivial <| .nil) (by kernel_rfl) ?_
    refine pSeq ?_
    refine wRet ?_
    obtain rfl := so h
    exact pR1 (.inl rfl) rfl (.tmp rfl <| .nil)

theorem slices_ContainsFunc_int_int.ok {a0 : List Int} {a1 : Int → Option Bool} {r : Bool} (h : slices_ContainsFunc_int_int.f a0 a1 = some r) : FnA Try.prog 100 [(kL (kI .i64)).sig a0, (sFun Try.prog (rl1 (kI .i64) kB a1))] (kB.sig r) := by
  refine fnIntro Try.func100 rfl (by kernel_rfl) fun H0 w0 => ?_
  unfold slices_ContainsFunc_int_int.f at h
  refine wSeq ?_
  refine rg (cp (oAs cB) trivial <| .nil) (by kernel_rfl) ?_
  refine pSeq ?_
  refine wSeq ?_
  obtain ⟨y1, hy1, h⟩ := bd h
  refine rg (cp (oMv tm) (s1 rfl) <| cp (oMv tm) (s1 rfl) <| cp (oCall rfl (slices_IndexFunc_int_int.ok hy1) b127 (opds_cons tm (opds_cons tm opds_nil))) (s2 rfl rfl) <| cp (oGe rfl tm (cI (by decide))) (s1 rfl) <| cp (oAs tm) (s1 rfl) <| .nil) (by kernel_rfl) ?_
  refine pSeq ?_
  refine wRet ?_
  obtain rfl := so h
  exact pR1 (.inl rfl) rfl (.tmp rfl <| .nil)

theorem judge_may_1.ok {a0 : Int} {a1 : api_Lattice} {r : Bool} (h : judge_may_1.f a0 a1 = some r) : FnA Try.prog 113 [(kI .i64).sig a0, sP (kR f_api_Lattice) a1] (kB.sig r) := by
  refine fnIntro Try.func113 rfl (by kernel_rfl) fun H0 w0 => ?_
  unfold judge_may_1.f at h
  refine wSeq ?_
  refine rg (cp (oAs cB) trivial <| .nil) (by kernel_rfl) ?_
  refine pSeq ?_
  obtain ⟨o1, h, hk1⟩ := bd h
  refine wJ1 (fun x2 => x2 = o1) (fun x2 => [(3, .d (kB.sig x2))]) (fun x2 => []) ?_ ?_
  · rcases ic h with ⟨hp3, h⟩ | ⟨hp3, h⟩
    · refine rg (cp (oMv tm) (s1 rfl) <| cp (oLt rfl tm (cI (by decide))) (s1 rfl) <| cp (oMv tm) (s1 rfl) <| csB (decide_eq_true hp3) rfl rfl <| csB (decide_eq_true hp3) rfl rfl <| csB (decide_eq_true hp3) rfl rfl <| csB (decide_eq_true hp3) rfl rfl <| csB (decide_eq_true hp3) rfl rfl <| cp (oPkT (decide_eq_true hp3) tm cB) (s1 rfl) <| cp (oAs tm) (s1 rfl) <| .nil) (by kernel_rfl) ?_
      exact pJ1 _ (so h) ⟨rfl, trivial⟩ rfl
    · refine rg (cp (oMv tm) (s1 rfl) <| cp (oLt rfl tm (cI (by decide))) (s1 rfl) <| cp (oMv tm) (s1 rfl) <| cgB (decide_eq_false hp3) rfl rfl (oMv tm) (s1 rfl) <| cgB (decide_eq_false hp3) rfl rfl (oFld (fs := f_api_Lattice) (k := 1) rfl o42_1 tm) (s1 rfl) <| cgB (decide_eq_false hp3) rfl rfl (oLd t40 tm) (s1 rfl) <| cgB (decide_eq_false hp3) rfl rfl (oLenL u40 tm) (s1 rfl) <| cgB (decide_eq_false hp3) rfl rfl (oGe rfl tm tm) (s2 rfl rfl) <| cp (oPkF (decide_eq_false hp3) tm tm) (s2 rfl rfl) <| cp (oAs tm) (s1 rfl) <| .nil) (by kernel_rfl) ?_
      exact pJ1 _ (so h) ⟨rfl, trivial⟩ rfl
  · rintro x2 rfl
    replace h := hk1
    refine wRet ?_
    obtain rfl := so h
    exact pR1 (.inl rfl) rfl (.tmp rfl <| .nil)

theorem judge_may.ok {a0 : api_Lattice} {a1 : List Int} {a2 : List Int} {a3 : Bool} {r : Int} (h : judge_may.f a0 a1 a2 a3 = some r) : FnA Try.prog 87 [(kR f_api_Lattice).sig a0, (kL (kI .i64)).sig a1, (kL (kI .i64)).sig a2, kB.sig a3] ((kI .i64).sig r) := by
  refine fnIntro Try.func87 rfl (by kernel_rfl) fun H0 w0 => ?_
  unfold judge_may.f at h
  refine wSeq ?_
  refine rg (cp (oBox tm) (s1 rfl) <| cp (oAs (cI (by decide))) trivial <| .nil) (by kernel_rfl) ?_
  refine pSeq ?_
  refine wSeq ?_
  refine wSeq ?_
  obtain ⟨y1, hy1, h⟩ := bd h
  refine rg (cp (oLd t42 tm) (s1 rfl) <| cp (oCall rfl (lattice_Check.ok hy1) b39 (opds_cons tm opds_nil)) (s1 rfl) <| cp (oAs tm) (s1 rfl) <| .nil) (by kernel_rfl) ?_
  refine pSeq ?_
  refine wSeq ?_
  refine rg (cp (oMv tm) (s1 rfl) <| cp (oNe rfl tm (cI (by decide))) (s1 rfl) <| .nil) (by kernel_rfl) ?_
  refine pSeq ?_
  rcases ic h with ⟨hp2, h⟩ | ⟨hp2, h⟩
  · refine wNT hp2 tm (s1 rfl) ?_
    refine wSkip ?_
    refine pSeq ?_
    refine wSeq ?_
    refine rg (cp (oMkF (Rl := rl1 (kI .i64) kB (fun z0 => judge_may_1.f z0 a0)) rfl b113 (rl1e judge_may_1.ok) (opds_cons tm opds_nil)) (s1 rfl) <| cp (oAs tm) (s1 rfl) <| .nil) (by kernel_rfl) ?_
    refine pSeq ?_
    refine wSeq ?_
    refine wBlock ?_
    refine wSeq ?_
    obtain ⟨y3, hy3, h⟩ := bd h
    refine rg (cp (oMv tm) (s1 rfl) <| cp (oMv tm) (s1 rfl) <| cp (oCall rfl (rule_Right.ok hy3) b47 (opds_cons tm (opds_cons tm opds_nil))) (s2 rfl rfl) <| cp (oNot tm) (s1 rfl) <| cp (oAs tm) (s1 rfl) <| .nil) (by kernel_rfl) ?_
    refine pSeq ?_
    rcases ic h with ⟨hp4, h⟩ | ⟨hp4, h⟩
    · refine wBT hp4 tm (s1 rfl) ?_
      refine wSeq ?_
      refine rg (cp (oAs (cI (by decide))) trivial <| .nil) (by kernel_rfl) ?_
      refine pSeq ?_
      refine wRet ?_
      refine pBlkR ?_
      refine pThenR ?_
      obtain rfl := so h
      exact pR1 (.inl rfl) rfl (.tmp rfl <| .nil)
    · refine wBF hp4 tm (s1 rfl) ?_
      obtain ⟨o1, h, hk1⟩ := bd h
      refine wJ1 (fun x7 => x7 = o1) (fun x7 => [(22, .d (kB.sig x7))]) (fun x7 => []) ?_ ?_
      · rcases ic h with ⟨hp8, h⟩ | ⟨hp8, h⟩
        · obtain ⟨y9, hy9, h⟩ := bd h
          refine rg (cp (oMv tm) (s1 rfl) <| cp (oLenL u22 tm) (s1 rfl) <| cp (oNe rfl tm (cI (by decide))) (s1 rfl) <| cp (oMv tm) (s1 rfl) <| cgB (nf hp8) rfl rfl (oMv tm) (s1 rfl) <| cgB (nf hp8) rfl rfl (oMv tm) (s1 rfl) <| cgB (nf hp8) rfl rfl (oCall rfl (slices_ContainsFunc_int_int.ok hy9) b100 (opds_cons tm (opds_cons tm opds_nil))) (s2 rfl rfl) <| cp (oPkF (nf hp8) tm tm) (s2 rfl rfl) <| cp (oAs tm) (s1 rfl) <| .nil) (by kernel_rfl) ?_
          exact pJ1 _ (so h) ⟨rfl, trivial⟩ rfl
        · refine rg (cp (oMv tm) (s1 rfl) <| cp (oLenL u22 tm) (s1 rfl) <| cp (oNe rfl tm (cI (by decide))) (s1 rfl) <| cp (oMv tm) (s1 rfl) <| csB (nt hp8) rfl rfl <| csB (nt hp8) rfl rfl <| csB (nt hp8) rfl rfl <| cp (oPkT (nt hp8) tm cB) (s1 rfl) <| cp (oAs tm) (s1 rfl) <| .nil) (by kernel_rfl) ?_
          exact pJ1 _ (so h) ⟨rfl, trivial⟩ rfl
      · rintro x7 rfl
        replace h := hk1
        rcases ic h with ⟨hp10, h⟩ | ⟨hp10, h⟩
        · refine wBT hp10 tm (s1 rfl) ?_
          refine wSeq ?_
          refine rg (cp (oAs (cI (by decide))) trivial <| .nil) (by kernel_rfl) ?_
          refine pSeq ?_
          refine wRet ?_
          refine pBlkR ?_
          refine pThenR ?_
          obtain rfl := so h
          exact pR1 (.inl rfl) rfl (.tmp rfl <| .nil)
        · refine wBF hp10 tm (s1 rfl) ?_
          refine wSkip ?_
          refine pBlkN ?_
          refine pSeq ?_
          refine wSeq ?_
          refine rg (cp (oAs (cI (by decide))) trivial <| .nil) (by kernel_rfl) ?_
          refine pSeq ?_
          refine wRet ?_
          obtain rfl := so h
          exact pR1 (.inl rfl) rfl (.tmp rfl <| .nil)
  · refine wNF hp2 tm (s1 rfl) ?_
    refine wSeq ?_
    refine rg (cp (oMv tm) (s1 rfl) <| cp (oAs tm) (s1 rfl) <| .nil) (by kernel_rfl) ?_
    refine pSeq ?_
    refine wRet ?_
    refine pThenR ?_
    obtain rfl := so h
    exact pR1 (.inl rfl) rfl (.tmp rfl <| .nil)

theorem judge_judge_put.ok {a0 : judge_judge} {a1 : If113} {r : judge_judge} (h : judge_judge_put.f a0 a1 = some r) : FnS Try.prog 114 [.p 70000 0, .d ((kF vIf113).sig a1)] [.box 70000 117 [.d (kR f_api_Lattice) a0.l_, .d (kL (kI .i64)) a0.labels_, .v 70003], .row 70003 113 (kF vIf113) a0.pile_] [70000] (.d (tup [])) [.box 70000 117 [.d (kR f_api_Lattice) r.l_, .d (kL (kI .i64)) r.labels_, .v 70003], .row 70003 113 (kF vIf113) r.pile_] := by
  refine fnIntroS Try.func114 rfl (by kernel_rfl) fun X H0 w0 pv => ?_
  unfold judge_judge_put.f at h
  obtain ⟨hc1, h⟩ := ib h
  refine rg (cp (oMv tm) (s1 rfl) <| cp (oMv tm) (s1 rfl) <| cp (oNilP tm) (s1 rfl) <| cp (oFldP o117_2 tm) (s1 rfl) <| cr (oLdN (n := 0) (k := 2) rfl rfl rfl t115 tm) (s1 rfl) <| cp (oMv tm) (s1 rfl) <| cp (oLit (d := (kF vIf113)) el115 (by decide) rfl rfl rfl (e1 tm e0)) (s1 rfl) <| cw (oApp (n := 1) (id' := 11) el115 (by decide) rfl (by decide) hc1 tm tm) (s2 rfl rfl) <| cp (oNilP tm) (s1 rfl) <| cp (oFldP o117_2 tm) (s1 rfl) <| cwn (oStN (n := 0) (m := 1) (k := 2) rfl rfl rfl rfl z115 rfl tm tm) (s2 rfl rfl) <| .nil) (by kernel_rfl) ?_
  obtain rfl := so h
  refine pSub (Γ' := []) trivial ?_
  refine pRen 11 70003 rfl ?_
  exact pSn [0, 1] rfl rfl (.inr rfl) rfl rfl (.nil)

theorem lattice_there_1.ok {a0 : Int} {a1 : api_Lattice} {r : Bool} (h : lattice_there_1.f a0 a1 = some r) : FnA Try.prog 101 [(kI .i64).sig a0, sP (kR f_api_Lattice) a1] (kB.sig r) := by
  refine fnIntro Try.func101 rfl (by kernel_rfl) fun H0 w0 => ?_
  unfold lattice_there_1.f at h
  refine wSeq ?_
  refine rg (cp (oAs cB) trivial <| .nil) (by kernel_rfl) ?_
  refine pSeq ?_
  obtain ⟨o1, h, hk1⟩ := bd h
  refine wJ1 (fun x2 => x2 = o1) (fun x2 => [(3, .d (kB.sig x2))]) (fun x2 => []) ?_ ?_
  · rcases ic h with ⟨hp3, h⟩ | ⟨hp3, h⟩
    · refine rg (cp (oMv tm) (s1 rfl) <| cp (oLt rfl tm (cI (by decide))) (s1 rfl) <| cp (oMv tm) (s1 rfl) <| csB (decide_eq_true hp3) rfl rfl <| csB (decide_eq_true hp3) rfl rfl <| csB (decide_eq_true hp3) rfl rfl <| csB (decide_eq_true hp3) rfl rfl <| csB (decide_eq_true hp3) rfl rfl <| cp (oPkT (decide_eq_true hp3) tm cB) (s1 rfl) <| cp (oAs tm) (s1 rfl) <| .nil) (by kernel_rfl) ?_
      exact pJ1 _ (so h) ⟨rfl, trivial⟩ rfl
    · refine rg (cp (oMv tm) (s1 rfl) <| cp (oLt rfl tm (cI (by decide))) (s1 rfl) <| cp (oMv tm) (s1 rfl) <| cgB (decide_eq_false hp3) rfl rfl (oMv tm) (s1 rfl) <| cgB (decide_eq_false hp3) rfl rfl (oFld (fs := f_api_Lattice) (k := 1) rfl o42_1 tm) (s1 rfl) <| cgB (decide_eq_false hp3) rfl rfl (oLd t40 tm) (s1 rfl) <| cgB (decide_eq_false hp3) rfl rfl (oLenL u40 tm) (s1 rfl) <| cgB (decide_eq_false hp3) rfl rfl (oGe rfl tm tm) (s2 rfl rfl) <| cp (oPkF (decide_eq_false hp3) tm tm) (s2 rfl rfl) <| cp (oAs tm) (s1 rfl) <| .nil) (by kernel_rfl) ?_
      exact pJ1 _ (so h) ⟨rfl, trivial⟩ rfl
  · rintro x2 rfl
    replace h := hk1
    refine wRet ?_
    obtain rfl := so h
    exact pR1 (.inl rfl) rfl (.tmp rfl <| .nil)

theorem lattice_there.ok {a0 : api_Lattice} {a1 : List Int} {r : Int} (h : lattice_there.f a0 a1 = some r) : FnA Try.prog 69 [(kR f_api_Lattice).sig a0, (kL (kI .i64)).sig a1] ((kI .i64).sig r) := by
  refine fnIntro Try.func69 rfl (by kernel_rfl) fun H0 w0 => ?_
  unfold lattice_there.f at h
  refine wSeq ?_
  refine rg (cp (oBox tm) (s1 rfl) <| cp (oAs (cI (by decide))) trivial <| .nil) (by kernel_rfl) ?_
  refine pSeq ?_
  refine wSeq ?_
  refine wSeq ?_
  obtain ⟨y1, hy1, h⟩ := bd h
  refine rg (cp (oLd t42 tm) (s1 rfl) <| cp (oCall rfl (lattice_Check.ok hy1) b39 (opds_cons tm opds_nil)) (s1 rfl) <| cp (oAs tm) (s1 rfl) <| .nil) (by kernel_rfl) ?_
  refine pSeq ?_
  refine wSeq ?_
  refine rg (cp (oMv tm) (s1 rfl) <| cp (oNe rfl tm (cI (by decide))) (s1 rfl) <| .nil) (by kernel_rfl) ?_
  refine pSeq ?_
  rcases ic h with ⟨hp2, h⟩ | ⟨hp2, h⟩
  · refine wNT hp2 tm (s1 rfl) ?_
    refine wSkip ?_
    refine pSeq ?_
    refine wSeq ?_
    refine wSeq ?_
    obtain ⟨y3, hy3, h⟩ := bd h
    refine rg (cp (oMv tm) (s1 rfl) <| cp (oMkF (Rl := rl1 (kI .i64) kB (fun z0 => lattice_there_1.f z0 a0)) rfl b101 (rl1e lattice_there_1.ok) (opds_cons tm opds_nil)) (s1 rfl) <| cp (oCall rfl (slices_ContainsFunc_int_int.ok hy3) b100 (opds_cons tm (opds_cons tm opds_nil))) (s2 rfl rfl) <| .nil) (by kernel_rfl) ?_
    refine pSeq ?_
    rcases ic h with ⟨hp4, h⟩ | ⟨hp4, h⟩
    · refine wBT hp4 tm (s1 rfl) ?_
      refine wSeq ?_
      refine rg (cp (oAs (cI (by decide))) trivial <| .nil) (by kernel_rfl) ?_
      refine pSeq ?_
      refine wRet ?_
      refine pThenR ?_
      obtain rfl := so h
      exact pR1 (.inl rfl) rfl (.tmp rfl <| .nil)
    · refine wBF hp4 tm (s1 rfl) ?_
      refine wSkip ?_
      refine pSeq ?_
      refine wSeq ?_
      refine rg (cp (oAs (cI (by decide))) trivial <| .nil) (by kernel_rfl) ?_
      refine pSeq ?_
      refine wRet ?_
      obtain rfl := so h
      exact pR1 (.inl rfl) rfl (.tmp rfl <| .nil)
  · refine wNF hp2 tm (s1 rfl) ?_
    refine wSeq ?_
    refine rg (cp (oMv tm) (s1 rfl) <| cp (oAs tm) (s1 rfl) <| .nil) (by kernel_rfl) ?_
    refine pSeq ?_
    refine wRet ?_
    refine pThenR ?_
    obtain rfl := so h
    exact pR1 (.inl rfl) rfl (.tmp rfl <| .nil)

theorem slices_Index_uint32_uint32.ok {a0 : List Int} {a1 : Int} {r : Int} (h : slices_Index_uint32_uint32.f a0 a1 = some r) : FnA Try.prog 76 [(kL (kI .u32)).sig a0, (kI .u32).sig a1] ((kI .i64).sig r) := by
  refine fnIntro Try.func76 rfl (by kernel_rfl) fun H0 w0 => ?_
  unfold slices_Index_uint32_uint32.f at h
  refine wSeq ?_
  refine rg (cp (oAs (cI (by decide))) trivial <| .nil) (by kernel_rfl) ?_
  refine pSeq ?_
  refine wSeq ?_
  refine wSeq ?_
  refine rg (cp (oMv tm) (s1 rfl) <| cp (oLenL u40 tm) (s1 rfl) <| cp (oMv (cI (by decide))) trivial <| .nil) (by kernel_rfl) ?_
  refine pSeq ?_
  obtain ⟨o1, h, hk1⟩ := bd h
  refine wK0 (.inr () = o1) ([]) ([]) ?_ ?_
  · refine wBlock (wLoop ?_)
    refine lW (pc1 o1 (fun v7 => [(0, .d ((kL (kI .u32)).sig a0)), (1, .d ((kI .u32).sig a1)), (7, .d ((kI .i64).sig (a0.length : Int))), (8, .d ((kI .i64).sig v7))]) (fun v7 => []) (slices_Index_uint32_uint32.l0.partial_correctness a0 a1) ?_ _ h) ⟨rfl, rfl, rfl, rfl, trivial⟩ rfl
    clear h
    intro f' ih v7 h
    refine wSeq ?_
    refine rg (cp (oLt rfl tm tm) (s2 rfl rfl) <| .nil) (by kernel_rfl) ?_
    refine pSeq ?_
    refine wSeq ?_
    rcases ic h with ⟨hp8, h⟩ | ⟨hp8, h⟩
    · refine wCT hp8 tm (s1 rfl) ?_
      refine wSkip ?_
      refine pSeq ?_
      refine wSeq ?_
      refine wBlock ?_
      refine wSeq ?_
      refine rg (cp (oMv tm) (s1 rfl) <| cp (oAs tm) (s1 rfl) <| .nil) (by kernel_rfl) ?_
      refine pSeq ?_
      refine wSeq ?_
      obtain ⟨y9, hy9, h⟩ := bd h
      refine rg (cp (oMv tm) (s1 rfl) <| cp (oMv tm) (s1 rfl) <| cp (oMv tm) (s1 rfl) <| cp (oIdx u40 z64 hy9 tm tm) (s2 rfl rfl) <| cp (oLd t64 tm) (s1 rfl) <| cp (oEq rfl tm tm) (s2 rfl rfl) <| .nil) (by kernel_rfl) ?_
      refine pSeq ?_
      rcases ic h with ⟨hp10, h⟩ | ⟨hp10, h⟩
      · refine wCT hp10 tm (s1 rfl) ?_
        refine wSeq ?_
        refine rg (cp (oMv tm) (s1 rfl) <| cp (oAs tm) (s1 rfl) <| .nil) (by kernel_rfl) ?_
        refine pSeq ?_
        refine wRet ?_
        refine pBlkR ?_
        refine pThenR ?_
        refine pThenR ?_
        refine pBlkR ?_
        refine pThenR ?_
        obtain rfl := so h
        replace h := hk1
        refine pThenR ?_
        obtain rfl := so h
        exact pR1 (.inl rfl) rfl (.tmp rfl <| .nil)
      · refine wCF hp10 tm (s1 rfl) ?_
        refine wSkip ?_
        refine pBlkN ?_
        refine pSeq ?_
        refine rg (cp (oAdd tm (cI (by decide))) (s1 rfl) <| cp (oMv tm) (s1 rfl) <| .nil) (by kernel_rfl) ?_
        exact pLoop (lW (ih _ h) ⟨rfl, rfl, rfl, rfl, trivial⟩ rfl)
    · refine wCF hp8 tm (s1 rfl) ?_
      refine wExit ?_
      refine pThenX ?_
      refine pThenX ?_
      refine pBlkX ?_
      exact pJ0 (so h) trivial rfl
  · rintro rfl
    replace h := hk1
    refine pSeq ?_
    refine wSeq ?_
    refine rg (cp (oAs (cI (by decide))) trivial <| .nil) (by kernel_rfl) ?_
    refine pSeq ?_
    refine wRet ?_
    obtain rfl := so h
    exact pR1 (.inl rfl) rfl (.tmp rfl <| .nil)

theorem lattice_Bottom.ok {a0 : api_Lattice} {r : Int × Int} (h : lattice_Bottom.f a0 = some r) : FnA Try.prog 37 [(kR f_api_Lattice).sig a0] (tup [(kI .i64).sig r.1, (kI .i64).sig r.2]) := by
  refine fnIntro Try.func37 rfl (by kernel_rfl) fun H0 w0 => ?_
  unfold lattice_Bottom.f at h
  refine wSeq ?_
  refine rg (cp (oBox tm) (s1 rfl) <| cp (oAs (cI (by decide))) trivial <| cp (oAs (cI (by decide))) trivial <| .nil) (by kernel_rfl) ?_
  refine pSeq ?_
  refine wSeq ?_
  refine wSeq ?_
  obtain ⟨y1, hy1, h⟩ := bd h
  refine rg (cp (oLd t42 tm) (s1 rfl) <| cp (oCall rfl (lattice_there.ok hy1) b69 (opds_cons tm (opds_cons (cN (d := (kI .i64))) opds_nil))) (s1 rfl) <| cp (oAs tm) (s1 rfl) <| .nil) (by kernel_rfl) ?_
  refine pSeq ?_
  refine wSeq ?_
  refine rg (cp (oMv tm) (s1 rfl) <| cp (oNe rfl tm (cI (by decide))) (s1 rfl) <| .nil) (by kernel_rfl) ?_
  refine pSeq ?_
  rcases ic h with ⟨hp2, h⟩ | ⟨hp2, h⟩
  · refine wNT hp2 tm (s1 rfl) ?_
    refine wSkip ?_
    refine pSeq ?_
    refine wSeq ?_
    obtain ⟨hc3, h⟩ := ib h
    refine rg (cp (oFld (fs := f_api_Lattice) (k := 1) rfl o42_1 tm) (s1 rfl) <| cp (oLd t40 tm) (s1 rfl) <| cp (oLenL u40 tm) (s1 rfl) <| cp (oShl hc3 (cI (by decide)) tm) (s1 rfl) <| cp (oSub tm (cI (by decide))) (s1 rfl) <| cp (oAs tm) (s1 rfl) <| .nil) (by kernel_rfl) ?_
    refine pSeq ?_
    refine wSeq ?_
    obtain ⟨y4, hy4, h⟩ := bd h
    refine rg (cp (oFld (fs := f_api_Lattice) (k := 1) rfl o42_1 tm) (s1 rfl) <| cp (oLd t40 tm) (s1 rfl) <| cp (oMv tm) (s1 rfl) <| cp (oCall rfl (slices_Index_uint32_uint32.ok hy4) b76 (opds_cons tm (opds_cons tm opds_nil))) (s2 rfl rfl) <| cp (oAs tm) (s1 rfl) <| cp (oAs (cI (by decide))) trivial <| .nil) (by kernel_rfl) ?_
    refine pSeq ?_
    refine wRet ?_
    obtain rfl := so h
    exact pRn (.inl rfl) rfl rfl (.tmp rfl <| .tmp rfl <| .nil)
  · refine wNF hp2 tm (s1 rfl) ?_
    refine wSeq ?_
    refine rg (cp (oMv tm) (s1 rfl) <| cp (oAs (cI (by decide))) trivial <| cp (oAs tm) (s1 rfl) <| .nil) (by kernel_rfl) ?_
    refine pSeq ?_
    refine wRet ?_
    refine pThenR ?_
    obtain rfl := so h
    exact pRn (.inl rfl) rfl rfl (.tmp rfl <| .tmp rfl <| .nil)

theorem bits_OnesCount32.ok {a0 : Int} {r : Int} (h : bits_OnesCount32.f a0 = some r) : FnA Try.prog 79 [(kI .u32).sig a0] ((kI .i64).sig r) := by
  refine fnIntro Try.func79 rfl (by kernel_rfl) fun H0 w0 => ?_
  unfold bits_OnesCount32.f at h
  refine wSeq ?_
  refine rg (cp (oAs (cI (by decide))) trivial <| .nil) (by kernel_rfl) ?_
  refine pSeq ?_
  refine wSeq ?_
  obtain ⟨hc1, h⟩ := ib h
  obtain ⟨hc2, h⟩ := ib h
  obtain ⟨hc3, h⟩ := ib h
  obtain ⟨hc4, h⟩ := ib h
  refine rgD hm (cp (oMv tm) (s1 rfl) <| cp (oShr (by decide) tm (cI (by decide))) (s1 rfl) <| cp (oIdxS u9 hc1.1 hc1.2 (cS (s := ks0) (by decide)) tm) (s1 rfl) <| cp (oMv tm) (s1 rfl) <| cp (oShr (by decide) tm (cI (by decide))) (s1 rfl) <| cp (oAnd tm (cI (by decide))) (s1 rfl) <| cp (oIdxS u9 hc2.1 hc2.2 (cS (s := ks0) (by decide)) tm) (s1 rfl) <| cp (oAdd tm tm) (s2 rfl rfl) <| cp (oMv tm) (s1 rfl) <| cp (oShr (by decide) tm (cI (by decide))) (s1 rfl) <| cp (oAnd tm (cI (by decide))) (s1 rfl) <| cp (oIdxS u9 hc3.1 hc3.2 (cS (s := ks0) (by decide)) tm) (s1 rfl) <| cp (oAdd tm tm) (s2 rfl rfl) <| cp (oMv tm) (s1 rfl) <| cp (oAnd tm (cI (by decide))) (s1 rfl) <| cp (oIdxS u9 hc4.1 hc4.2 (cS (s := ks0) (by decide)) tm) (s1 rfl) <| cp (oAdd tm tm) (s2 rfl rfl) <| cp (oConv u5 u3 tm) (s1 rfl) <| cp (oAs tm) (s1 rfl) <| .nil) (by kernel_rfl) (by kernel_rfl) ?_
  refine pSeq ?_
  refine wRet ?_
  obtain rfl := so h
  exact pR1 (.inl rfl) rfl (.tmp rfl <| .nil)

theorem lattice_Top_1.ok {a0 : Int} {r : Bool} (h : lattice_Top_1.f a0 = some r) : FnA Try.prog 78 [(kI .u32).sig a0] (kB.sig r) := by
  refine fnIntro Try.func78 rfl (by kernel_rfl) fun H0 w0 => ?_
  unfold lattice_Top_1.f at h
  refine wSeq ?_
  refine rg (cp (oAs cB) trivial <| .nil) (by kernel_rfl) ?_
  refine pSeq ?_
  refine wSeq ?_
  obtain ⟨y1, hy1, h⟩ := bd h
  refine rg (cp (oMv tm) (s1 rfl) <| cp (oCall rfl (bits_OnesCount32.ok hy1) b79 (opds_cons tm opds_nil)) (s1 rfl) <| cp (oEq rfl tm (cI (by decide))) (s1 rfl) <| cp (oAs tm) (s1 rfl) <| .nil) (by kernel_rfl) ?_
  refine pSeq ?_
  refine wRet ?_
  obtain rfl := so h
  exact pR1 (.inl rfl) rfl (.tmp rfl <| .nil)

theorem lattice_Top.ok {a0 : api_Lattice} {r : Int × Int} (h : lattice_Top.f a0 = some r) : FnA Try.prog 38 [(kR f_api_Lattice).sig a0] (tup [(kI .i64).sig r.1, (kI .i64).sig r.2]) := by
  refine fnIntro Try.func38 rfl (by kernel_rfl) fun H0 w0 => ?_
  unfold lattice_Top.f at h
  refine wSeq ?_
  refine rg (cp (oBox tm) (s1 rfl) <| cp (oAs (cI (by decide))) trivial <| cp (oAs (cI (by decide))) trivial <| .nil) (by kernel_rfl) ?_
  refine pSeq ?_
  refine wSeq ?_
  refine wSeq ?_
  obtain ⟨y1, hy1, h⟩ := bd h
  refine rg (cp (oLd t42 tm) (s1 rfl) <| cp (oCall rfl (lattice_there.ok hy1) b69 (opds_cons tm (opds_cons (cN (d := (kI .i64))) opds_nil))) (s1 rfl) <| cp (oAs tm) (s1 rfl) <| .nil) (by kernel_rfl) ?_
  refine pSeq ?_
  refine wSeq ?_
  refine rg (cp (oMv tm) (s1 rfl) <| cp (oNe rfl tm (cI (by decide))) (s1 rfl) <| .nil) (by kernel_rfl) ?_
  refine pSeq ?_
  rcases ic h with ⟨hp2, h⟩ | ⟨hp2, h⟩
  · refine wNT hp2 tm (s1 rfl) ?_
    refine wSkip ?_
    refine pSeq ?_
    refine wSeq ?_
    obtain ⟨y3, hy3, h⟩ := bd h
    refine rg (cp (oFld (fs := f_api_Lattice) (k := 1) rfl o42_1 tm) (s1 rfl) <| cp (oLd t40 tm) (s1 rfl) <| cp (oCall rfl (slices_IndexFunc_uint32_uint32.ok hy3) b77 (opds_cons tm (opds_cons (oFn b78 (rl1n lattice_Top_1.ok)) opds_nil))) (s1 rfl) <| cp (oAs tm) (s1 rfl) <| cp (oAs (cI (by decide))) trivial <| .nil) (by kernel_rfl) ?_
    refine pSeq ?_
    refine wRet ?_
    obtain rfl := so h
    exact pRn (.inl rfl) rfl rfl (.tmp rfl <| .tmp rfl <| .nil)
  · refine wNF hp2 tm (s1 rfl) ?_
    refine wSeq ?_
    refine rg (cp (oMv tm) (s1 rfl) <| cp (oAs (cI (by decide))) trivial <| cp (oAs tm) (s1 rfl) <| .nil) (by kernel_rfl) ?_
    refine pSeq ?_
    refine wRet ?_
    refine pThenR ?_
    obtain rfl := so h
    exact pRn (.inl rfl) rfl rfl (.tmp rfl <| .tmp rfl <| .nil)

theorem judge_judge_two.ok {a0 : judge_judge} {r : judge_judge × If113 × If113} (h : judge_judge_two.f a0 = some r) : FnS Try.prog 115 [.p 70000 0] [.box 70000 117 [.d (kR f_api_Lattice) a0.l_, .d (kL (kI .i64)) a0.labels_, .v 70003], .row 70003 113 (kF vIf113) a0.pile_] [70000] (.d (tup [(kF vIf113).sig r.2.1, (kF vIf113).sig r.2.2])) [.box 70000 117 [.d (kR f_api_Lattice) r.1.l_, .d (kL (kI .i64)) r.1.labels_, .v 70003], .row 70003 113 (kF vIf113) r.1.pile_] := by
  refine fnIntroS Try.func115 rfl (by kernel_rfl) fun X H0 w0 pv => ?_
  unfold judge_judge_two.f at h
  refine wSeq ?_
  refine rg (cp (oAs (cNil (view := vIf113) (x := .nil) rfl)) trivial <| cp (oAs (cNil (view := vIf113) (x := .nil) rfl)) trivial <| .nil) (by kernel_rfl) ?_
  refine pSeq ?_
  refine wSeq ?_
  refine rg (cp (oMv tm) (s1 rfl) <| cp (oNilP tm) (s1 rfl) <| cp (oFldP o117_2 tm) (s1 rfl) <| cr (oLdN (n := 0) (k := 2) rfl rfl rfl t115 tm) (s1 rfl) <| cr (oLenR (n := 1) u115 rfl tm) (s1 rfl) <| cp (oSub tm (cI (by decide))) (s1 rfl) <| cp (oAs tm) (s1 rfl) <| .nil) (by kernel_rfl) ?_
  refine pSeq ?_
  refine wSeq ?_
  obtain ⟨y1, hy1, h⟩ := bd h
  obtain ⟨y2, hy2, h⟩ := bd h
  refine rgD hm (cp (oMv tm) (s1 rfl) <| cp (oNilP tm) (s1 rfl) <| cp (oFldP o117_2 tm) (s1 rfl) <| cr (oLdN (n := 0) (k := 2) rfl rfl rfl t115 tm) (s1 rfl) <| cp (oMv tm) (s1 rfl) <| cr (oIdxR (n := 1) u115 z113 rfl hy1 tm tm) (s2 rfl rfl) <| cr (oLdE (n := 1) rfl hy1 rfl t113 tm) (s1 rfl) <| cp (oMv tm) (s1 rfl) <| cp (oNilP tm) (s1 rfl) <| cp (oFldP o117_2 tm) (s1 rfl) <| cr (oLdN (n := 0) (k := 2) rfl rfl rfl t115 tm) (s1 rfl) <| cp (oMv tm) (s1 rfl) <| cp (oAdd tm (cI (by decide))) (s1 rfl) <| cr (oIdxR (n := 1) u115 z113 rfl hy2 tm tm) (s2 rfl rfl) <| cr (oLdE (n := 1) rfl hy2 rfl t113 tm) (s1 rfl) <| cp (oAs tm) (s1 rfl) <| cp (oAs tm) (s1 rfl) <| .nil) (by kernel_rfl) (by kernel_rfl) ?_
  refine pSeq ?_
  refine wSeq ?_
  obtain ⟨hc3, h⟩ := ib h
  refine rg (cp (oMv tm) (s1 rfl) <| cp (oMv tm) (s1 rfl) <| cp (oNilP tm) (s1 rfl) <| cp (oFldP o117_2 tm) (s1 rfl) <| cr (oLdN (n := 0) (k := 2) rfl rfl rfl t115 tm) (s1 rfl) <| cp (oMv tm) (s1 rfl) <| cw (oCutR (n := 1) (id' := 34) u115 z113 rfl hc3.1 hc3.2 tm tm) (s2 rfl rfl) <| cp (oNilP tm) (s1 rfl) <| cp (oFldP o117_2 tm) (s1 rfl) <| cwn (oStN (n := 0) (m := 1) (k := 2) rfl rfl rfl rfl z115 rfl tm tm) (s2 rfl rfl) <| .nil) (by kernel_rfl) ?_
  refine pSeq ?_
  refine wSeq ?_
  refine rg (cp (oMv tm) (s1 rfl) <| cp (oMv tm) (s1 rfl) <| cp (oAs tm) (s1 rfl) <| cp (oAs tm) (s1 rfl) <| .nil) (by kernel_rfl) ?_
  refine pSeq ?_
  refine wRet ?_
  obtain rfl := so h
  refine pSub (Γ' := [(2, .d ((kF vIf113).sig y1)), (3, .d ((kF vIf113).sig y2))]) ⟨rfl, rfl, trivial⟩ ?_
  refine pRen 34 70003 rfl ?_
  exact pSn [0, 1] rfl rfl (.inl rfl) rfl rfl (.tmp rfl <| .tmp rfl <| .nil)

theorem lattice_Flows.ok {a0 : api_Lattice} {a1 : Int} {a2 : Int} {r : Bool × Int} (h : lattice_Flows.f a0 a1 a2 = some r) : FnA Try.prog 26 [(kR f_api_Lattice).sig a0, (kI .i64).sig a1, (kI .i64).sig a2] (tup [kB.sig r.1, (kI .i64).sig r.2]) := by
  refine fnIntro Try.func26 rfl (by kernel_rfl) fun H0 w0 => ?_
  unfold lattice_Flows.f at h
  refine wSeq ?_
  refine rg (cp (oBox tm) (s1 rfl) <| cp (oAs cB) trivial <| cp (oAs (cI (by decide))) trivial <| .nil) (by kernel_rfl) ?_
  refine pSeq ?_
  refine wSeq ?_
  refine wSeq ?_
  obtain ⟨y1, hy1, h⟩ := bd h
  refine rg (cp (oLd t42 tm) (s1 rfl) <| cp (oMv tm) (s1 rfl) <| cp (oMv tm) (s1 rfl) <| cp (oLit (d := (kI .i64)) el22 (by decide) rfl rfl rfl (e1 tm (e1 tm e0))) (s2 rfl rfl) <| cp (oCall rfl (lattice_there.ok hy1) b69 (opds_cons tm (opds_cons tm opds_nil))) (s2 rfl rfl) <| cp (oAs tm) (s1 rfl) <| .nil) (by kernel_rfl) ?_
  refine pSeq ?_
  refine wSeq ?_
  refine rg (cp (oMv tm) (s1 rfl) <| cp (oNe rfl tm (cI (by decide))) (s1 rfl) <| .nil) (by kernel_rfl) ?_
  refine pSeq ?_
  rcases ic h with ⟨hp2, h⟩ | ⟨hp2, h⟩
  · refine wNT hp2 tm (s1 rfl) ?_
    refine wSkip ?_
    refine pSeq ?_
    refine wSeq ?_
    obtain ⟨y3, hy3, h⟩ := bd h
    refine rg (cp (oLd t42 tm) (s1 rfl) <| cp (oMv tm) (s1 rfl) <| cp (oMv tm) (s1 rfl) <| cp (oCall rfl (lattice_flows.ok hy3) b70 (opds_cons tm (opds_cons tm (opds_cons tm opds_nil)))) (s3 rfl rfl rfl) <| cp (oAs tm) (s1 rfl) <| cp (oAs (cI (by decide))) trivial <| .nil) (by kernel_rfl) ?_
    refine pSeq ?_
    refine wRet ?_
    obtain rfl := so h
    exact pRn (.inl rfl) rfl rfl (.tmp rfl <| .tmp rfl <| .nil)
  · refine wNF hp2 tm (s1 rfl) ?_
    refine wSeq ?_
    refine rg (cp (oMv tm) (s1 rfl) <| cp (oAs cB) trivial <| cp (oAs tm) (s1 rfl) <| .nil) (by kernel_rfl) ?_
    refine pSeq ?_
    refine wRet ?_
    refine pThenR ?_
    obtain rfl := so h
    exact pRn (.inl rfl) rfl rfl (.tmp rfl <| .tmp rfl <| .nil)

theorem lattice_Join.ok {a0 : api_Lattice} {a1 : Int} {a2 : Int} {r : Int × Int} (h : lattice_Join.f a0 a1 a2 = some r) : FnA Try.prog 27 [(kR f_api_Lattice).sig a0, (kI .i64).sig a1, (kI .i64).sig a2] (tup [(kI .i64).sig r.1, (kI .i64).sig r.2]) := by
  refine fnIntro Try.func27 rfl (by kernel_rfl) fun H0 w0 => ?_
  unfold lattice_Join.f at h
  refine wSeq ?_
  refine rg (cp (oBox tm) (s1 rfl) <| cp (oAs (cI (by decide))) trivial <| cp (oAs (cI (by decide))) trivial <| .nil) (by kernel_rfl) ?_
  refine pSeq ?_
  refine wSeq ?_
  refine wSeq ?_
  obtain ⟨y1, hy1, h⟩ := bd h
  refine rg (cp (oLd t42 tm) (s1 rfl) <| cp (oMv tm) (s1 rfl) <| cp (oMv tm) (s1 rfl) <| cp (oLit (d := (kI .i64)) el22 (by decide) rfl rfl rfl (e1 tm (e1 tm e0))) (s2 rfl rfl) <| cp (oCall rfl (lattice_there.ok hy1) b69 (opds_cons tm (opds_cons tm opds_nil))) (s2 rfl rfl) <| cp (oAs tm) (s1 rfl) <| .nil) (by kernel_rfl) ?_
  refine pSeq ?_
  refine wSeq ?_
  refine rg (cp (oMv tm) (s1 rfl) <| cp (oNe rfl tm (cI (by decide))) (s1 rfl) <| .nil) (by kernel_rfl) ?_
  refine pSeq ?_
  rcases ic h with ⟨hp2, h⟩ | ⟨hp2, h⟩
  · refine wNT hp2 tm (s1 rfl) ?_
    refine wSkip ?_
    refine pSeq ?_
    refine wSeq ?_
    obtain ⟨y3, hy3, h⟩ := bd h
    refine rg (cp (oLd t42 tm) (s1 rfl) <| cp (oMv tm) (s1 rfl) <| cp (oMv tm) (s1 rfl) <| cp (oCall rfl (lattice_join.ok hy3) b71 (opds_cons tm (opds_cons tm (opds_cons tm opds_nil)))) (s3 rfl rfl rfl) <| cp (oAs tm) (s1 rfl) <| cp (oAs (cI (by decide))) trivial <| .nil) (by kernel_rfl) ?_
    refine pSeq ?_
    refine wRet ?_
    obtain rfl := so h
    exact pRn (.inl rfl) rfl rfl (.tmp rfl <| .tmp rfl <| .nil)
  · refine wNF hp2 tm (s1 rfl) ?_
    refine wSeq ?_
    refine rg (cp (oMv tm) (s1 rfl) <| cp (oAs (cI (by decide))) trivial <| cp (oAs tm) (s1 rfl) <| .nil) (by kernel_rfl) ?_
    refine pSeq ?_
    refine wRet ?_
    refine pThenR ?_
    obtain rfl := so h
    exact pRn (.inl rfl) rfl rfl (.tmp rfl <| .tmp rfl <| .nil)

theorem lattice_Meet.ok {a0 : api_Lattice} {a1 : Int} {a2 : Int} {r : Int × Int} (h : lattice_Meet.f a0 a1 a2 = some r) : FnA Try.prog 28 [(kR f_api_Lattice).sig a0, (kI .i64).sig a1, (kI .i64).sig a2] (tup [(kI .i64).sig r.1, (kI .i64).sig r.2]) := by
  refine fnIntro Try.func28 rfl (by kernel_rfl) fun H0 w0 => ?_
  unfold lattice_Meet.f at h
  refine wSeq ?_
  refine rg (cp (oBox tm) (s1 rfl) <| cp (oAs (cI (by decide))) trivial <| cp (oAs (cI (by decide))) trivial <| .nil) (by kernel_rfl) ?_
  refine pSeq ?_
  refine wSeq ?_
  refine wSeq ?_
  obtain ⟨y1, hy1, h⟩ := bd h
  refine rg (cp (oLd t42 tm) (s1 rfl) <| cp (oMv tm) (s1 rfl) <| cp (oMv tm) (s1 rfl) <| cp (oLit (d := (kI .i64)) el22 (by decide) rfl rfl rfl (e1 tm (e1 tm e0))) (s2 rfl rfl) <| cp (oCall rfl (lattice_there.ok hy1) b69 (opds_cons tm (opds_cons tm opds_nil))) (s2 rfl rfl) <| cp (oAs tm) (s1 rfl) <| .nil) (by kernel_rfl) ?_
  refine pSeq ?_
  refine wSeq ?_
  refine rg (cp (oMv tm) (s1 rfl) <| cp (oNe rfl tm (cI (by decide))) (s1 rfl) <| .nil) (by kernel_rfl) ?_
  refine pSeq ?_
  rcases ic h with ⟨hp2, h⟩ | ⟨hp2, h⟩
  · refine wNT hp2 tm (s1 rfl) ?_
    refine wSkip ?_
    refine pSeq ?_
    refine wSeq ?_
    obtain ⟨y3, hy3, h⟩ := bd h
    refine rg (cp (oLd t42 tm) (s1 rfl) <| cp (oMv tm) (s1 rfl) <| cp (oMv tm) (s1 rfl) <| cp (oCall rfl (lattice_meet.ok hy3) b72 (opds_cons tm (opds_cons tm (opds_cons tm opds_nil)))) (s3 rfl rfl rfl) <| cp (oAs tm) (s1 rfl) <| cp (oAs (cI (by decide))) trivial <| .nil) (by kernel_rfl) ?_
    refine pSeq ?_
    refine wRet ?_
    obtain rfl := so h
    exact pRn (.inl rfl) rfl rfl (.tmp rfl <| .tmp rfl <| .nil)
  · refine wNF hp2 tm (s1 rfl) ?_
    refine wSeq ?_
    refine rg (cp (oMv tm) (s1 rfl) <| cp (oAs (cI (by decide))) trivial <| cp (oAs tm) (s1 rfl) <| .nil) (by kernel_rfl) ?_
    refine pSeq ?_
    refine wRet ?_
    refine pThenR ?_
    obtain rfl := so h
    exact pRn (.inl rfl) rfl rfl (.tmp rfl <| .tmp rfl <| .nil)

theorem judge_judge_both.ok {a0 : judge_judge} {a1 : Int} {a2 : If113} {a3 : If113} {r : judge_judge × If113} (h : judge_judge_both.f a0 a1 a2 a3 = some r) : FnS Try.prog 116 [.p 70000 0, .d ((kI .i64).sig a1), .d ((kF vIf113).sig a2), .d ((kF vIf113).sig a3)] [.box 70000 117 [.d (kR f_api_Lattice) a0.l_, .d (kL (kI .i64)) a0.labels_, .v 70003], .row 70003 113 (kF vIf113) a0.pile_] [70000] (.d ((kF vIf113).sig r.2)) [.box 70000 117 [.d (kR f_api_Lattice) r.1.l_, .d (kL (kI .i64)) r.1.labels_, .v 70003], .row 70003 113 (kF vIf113) r.1.pile_] := by
  refine fnIntroS Try.func116 rfl (by kernel_rfl) fun X H0 w0 pv => ?_
  unfold judge_judge_both.f at h
  refine wSeq ?_
  refine rg (cp (oAs (cNil (view := vIf113) (x := .nil) rfl)) trivial <| .nil) (by kernel_rfl) ?_
  refine pSeq ?_
  refine wSeq ?_
  refine wSeq ?_
  refine rg (cp (oMv tm) (s1 rfl) <| .nil) (by kernel_rfl) ?_
  refine pSeq ?_
  refine wBlock ?_
  refine wSeq ?_
  refine rg (cp (oTA asOk113_110 cb110 zv110 zvB tm) (s1 rfl) <| cp (oExt (k := 1) rfl tm) (s1 rfl) <| cp (oExt (k := 0) rfl tm) (s1 rfl) <| .nil) (by kernel_rfl) ?_
  refine pSeq ?_
  rcases ic h with ⟨hp1, h⟩ | ⟨hp1, h⟩
  · refine wBT hp1 tm (s1 rfl) ?_
    refine wSeq ?_
    refine rg (cp (oAs tm) (s1 rfl) <| .nil) (by kernel_rfl) ?_
    refine pSeq ?_
    refine wSeq ?_
    refine rg (cp (oMv tm) (s1 rfl) <| cp (oTA asOk113_110 cb110 zv110 zvB tm) (s1 rfl) <| cp (oMv tm) (s1 rfl) <| cp (oExt (k := 0) rfl tm) (s1 rfl) <| cp (oExt (k := 1) rfl tm) (s1 rfl) <| cp (oAs tm) (s1 rfl) <| cp (oAs tm) (s1 rfl) <| .nil) (by kernel_rfl) ?_
    refine pSeq ?_
    refine wSeq ?_
    refine wSeq ?_
    refine rg (cp (oMv tm) (s1 rfl) <| cp (oEq rfl tm (cI (by decide))) (s1 rfl) <| .nil) (by kernel_rfl) ?_
    refine pSeq ?_
    rcases ic h with ⟨hp2, h⟩ | ⟨hp2, h⟩
    · refine wCT hp2 tm (s1 rfl) ?_
      refine wWeak (Γ' := [(8, .d ((kF vIf113).sig If113.nil)), (9, .d (kB.sig ((as113_110 a2).1))), (10, .d (kB.sig ((as113_110 a3).1)))]) ⟨rfl, rfl, rfl, trivial⟩ ?_
      refine wRen 70003 3505002 rfl ?_
      obtain ⟨o1, h, hk1⟩ := bd h
      refine wJ1 (fun x4 => x4 = o1) (fun x4 => [(8, .d ((kF vIf113).sig x4))]) (fun x4 => [.box 70000 117 [.d (kR f_api_Lattice) a0.l_, .d (kL (kI .i64)) a0.labels_, .v 3505002], .row 3505002 113 (kF vIf113) a0.pile_]) ?_ ?_
      · rcases ic h with ⟨hp5, h⟩ | ⟨hp5, h⟩
        · refine rg (cp (oMv tm) (s1 rfl) <| cp (oMv tm) (s1 rfl) <| cgB hp5 rfl rfl (oMv tm) (s1 rfl) <| cp (oPkT hp5 tm tm) (s2 rfl rfl) <| cp (oMkI (view := vIf113) (x0 := If113.c110 ((as113_110 a3).1)) rfl cb110 tm) (s1 rfl) <| cp (oAs tm) (s1 rfl) <| .nil) (by kernel_rfl) ?_
          exact pJ1 _ (so h) ⟨rfl, trivial⟩ rfl
        · refine rg (cp (oMv tm) (s1 rfl) <| cp (oMv tm) (s1 rfl) <| csB (nb hp5) rfl rfl <| cp (oPkF (nb hp5) tm cB) (s1 rfl) <| cp (oMkI (view := vIf113) (x0 := If113.c110 false) rfl cb110 tm) (s1 rfl) <| cp (oAs tm) (s1 rfl) <| .nil) (by kernel_rfl) ?_
          exact pJ1 _ (so h) ⟨rfl, trivial⟩ rfl
      · rintro x4 rfl
        replace h := hk1
        refine wRet ?_
        refine pThenR ?_
        refine pBlkR ?_
        refine pThenR ?_
        obtain rfl := so h
        refine pSub (Γ' := [(8, .d ((kF vIf113).sig x4))]) ⟨rfl, trivial⟩ ?_
        refine pRen 3505002 70003 rfl ?_
        exact pS1 [0, 1] rfl rfl (.inl rfl) rfl (.tmp rfl <| .nil)
    · refine wCF hp2 tm (s1 rfl) ?_
      refine wSkip ?_
      refine pSeq ?_
      refine wWeak (Γ' := [(8, .d ((kF vIf113).sig If113.nil)), (9, .d (kB.sig ((as113_110 a2).1))), (10, .d (kB.sig ((as113_110 a3).1)))]) ⟨rfl, rfl, rfl, trivial⟩ ?_
      refine wRen 70003 3505002 rfl ?_
      obtain ⟨o1, h, hk1⟩ := bd h
      refine wJ1 (fun x7 => x7 = o1) (fun x7 => [(8, .d ((kF vIf113).sig x7))]) (fun x7 => [.box 70000 117 [.d (kR f_api_Lattice) a0.l_, .d (kL (kI .i64)) a0.labels_, .v 3505002], .row 3505002 113 (kF vIf113) a0.pile_]) ?_ ?_
      · rcases ic h with ⟨hp8, h⟩ | ⟨hp8, h⟩
        · refine rg (cp (oMv tm) (s1 rfl) <| cp (oMv tm) (s1 rfl) <| csB hp8 rfl rfl <| cp (oPkT hp8 tm cB) (s1 rfl) <| cp (oMkI (view := vIf113) (x0 := If113.c110 true) rfl cb110 tm) (s1 rfl) <| cp (oAs tm) (s1 rfl) <| .nil) (by kernel_rfl) ?_
          exact pJ1 _ (so h) ⟨rfl, trivial⟩ rfl
        · refine rg (cp (oMv tm) (s1 rfl) <| cp (oMv tm) (s1 rfl) <| cgB (nb hp8) rfl rfl (oMv tm) (s1 rfl) <| cp (oPkF (nb hp8) tm tm) (s2 rfl rfl) <| cp (oMkI (view := vIf113) (x0 := If113.c110 ((as113_110 a3).1)) rfl cb110 tm) (s1 rfl) <| cp (oAs tm) (s1 rfl) <| .nil) (by kernel_rfl) ?_
          exact pJ1 _ (so h) ⟨rfl, trivial⟩ rfl
      · rintro x7 rfl
        replace h := hk1
        refine wRet ?_
        refine pBlkR ?_
        refine pThenR ?_
        obtain rfl := so h
        refine pSub (Γ' := [(8, .d ((kF vIf113).sig x7))]) ⟨rfl, trivial⟩ ?_
        refine pRen 3505002 70003 rfl ?_
        exact pS1 [0, 1] rfl rfl (.inl rfl) rfl (.tmp rfl <| .nil)
  · refine wBF hp1 tm (s1 rfl) ?_
    refine wSeq ?_
    refine rg (cp (oTA asOk113_119 cb119 zv119 (zvI (by decide)) tm) (s1 rfl) <| cp (oExt (k := 1) rfl tm) (s1 rfl) <| cp (oExt (k := 0) rfl tm) (s1 rfl) <| .nil) (by kernel_rfl) ?_
    refine pSeq ?_
    rcases ic h with ⟨hp9, h⟩ | ⟨hp9, h⟩
    · refine wBT hp9 tm (s1 rfl) ?_
      refine wSeq ?_
      refine rg (cp (oAs tm) (s1 rfl) <| .nil) (by kernel_rfl) ?_
      refine pSeq ?_
      refine wSeq ?_
      refine rg (cp (oMv tm) (s1 rfl) <| cp (oTA asOk113_119 cb119 zv119 (zvI (by decide)) tm) (s1 rfl) <| cp (oMv tm) (s1 rfl) <| cp (oExt (k := 0) rfl tm) (s1 rfl) <| cp (oExt (k := 1) rfl tm) (s1 rfl) <| cp (oAs tm) (s1 rfl) <| cp (oAs tm) (s1 rfl) <| .nil) (by kernel_rfl) ?_
      refine pSeq ?_
      refine wSeq ?_
      refine wSeq ?_
      refine rg (cp (oMv tm) (s1 rfl) <| .nil) (by kernel_rfl) ?_
      refine pSeq ?_
      refine wBlock ?_
      refine wSeq ?_
      refine rg (cp (oEq rfl tm (cI (by decide))) (s1 rfl) <| cp (oAs tm) (s1 rfl) <| .nil) (by kernel_rfl) ?_
      refine pSeq ?_
      rcases ic h with ⟨hp10, h⟩ | ⟨hp10, h⟩
      · refine wCT hp10 tm (s1 rfl) ?_
        refine wSeq ?_
        obtain ⟨y11, hy11, h⟩ := bd h
        refine rg (cp (oMv tm) (s1 rfl) <| cp (oNilP tm) (s1 rfl) <| cp (oFldP o117_0 tm) (s1 rfl) <| cr (oLdB (n := 0) (k := 0) rfl rfl rfl t42 tm) (s1 rfl) <| cp (oMv tm) (s1 rfl) <| cp (oMv tm) (s1 rfl) <| cp (oCall rfl (lattice_Flows.ok hy11) b26 (opds_cons tm (opds_cons tm (opds_cons tm opds_nil)))) (s3 rfl rfl rfl) <| cp (oMv tm) (s1 rfl) <| cp (oExt (k := 0) rfl tm) (s1 rfl) <| cp (oExt (k := 1) rfl tm) (s1 rfl) <| cp (oAs tm) (s1 rfl) <| cp (oAs tm) (s1 rfl) <| .nil) (by kernel_rfl) ?_
        refine pSeq ?_
        refine wSeq ?_
        refine rg (cp (oMv tm) (s1 rfl) <| cp (oMkI (view := vIf113) (x0 := If113.c110 y11.1) rfl cb110 tm) (s1 rfl) <| cp (oAs tm) (s1 rfl) <| .nil) (by kernel_rfl) ?_
        refine pSeq ?_
        refine wRet ?_
        refine pBlkR ?_
        refine pThenR ?_
        refine pBlkR ?_
        refine pThenR ?_
        obtain rfl := so h
        exact pS1 [0, 1] rfl rfl (.inl rfl) rfl (.tmp rfl <| .nil)
      · refine wCF hp10 tm (s1 rfl) ?_
        refine wSeq ?_
        refine rg (cp (oEq rfl tm (cI (by decide))) (s1 rfl) <| cp (oAs tm) (s1 rfl) <| .nil) (by kernel_rfl) ?_
        refine pSeq ?_
        rcases ic h with ⟨hp12, h⟩ | ⟨hp12, h⟩
        · refine wCT hp12 tm (s1 rfl) ?_
          refine wSeq ?_
          obtain ⟨y13, hy13, h⟩ := bd h
          refine rg (cp (oMv tm) (s1 rfl) <| cp (oNilP tm) (s1 rfl) <| cp (oFldP o117_0 tm) (s1 rfl) <| cr (oLdB (n := 0) (k := 0) rfl rfl rfl t42 tm) (s1 rfl) <| cp (oMv tm) (s1 rfl) <| cp (oMv tm) (s1 rfl) <| cp (oCall rfl (lattice_Join.ok hy13) b27 (opds_cons tm (opds_cons tm (opds_cons tm opds_nil)))) (s3 rfl rfl rfl) <| cp (oMv tm) (s1 rfl) <| cp (oExt (k := 0) rfl tm) (s1 rfl) <| cp (oExt (k := 1) rfl tm) (s1 rfl) <| cp (oAs tm) (s1 rfl) <| cp (oAs tm) (s1 rfl) <| .nil) (by kernel_rfl) ?_
          refine pSeq ?_
          refine wSeq ?_
          refine rg (cp (oMv tm) (s1 rfl) <| cp (oMkI (view := vIf113) (x0 := If113.c119 y13.1) rfl cb119 tm) (s1 rfl) <| cp (oAs tm) (s1 rfl) <| .nil) (by kernel_rfl) ?_
          refine pSeq ?_
          refine wRet ?_
          refine pBlkR ?_
          refine pThenR ?_
          refine pBlkR ?_
          refine pThenR ?_
          obtain rfl := so h
          exact pS1 [0, 1] rfl rfl (.inl rfl) rfl (.tmp rfl <| .nil)
        · refine wCF hp12 tm (s1 rfl) ?_
          refine wSkip ?_
          refine pBlkN ?_
          refine pSeq ?_
          refine wSeq ?_
          obtain ⟨y14, hy14, h⟩ := bd h
          refine rg (cp (oMv tm) (s1 rfl) <| cp (oNilP tm) (s1 rfl) <| cp (oFldP o117_0 tm) (s1 rfl) <| cr (oLdB (n := 0) (k := 0) rfl rfl rfl t42 tm) (s1 rfl) <| cp (oMv tm) (s1 rfl) <| cp (oMv tm) (s1 rfl) <| cp (oCall rfl (lattice_Meet.ok hy14) b28 (opds_cons tm (opds_cons tm (opds_cons tm opds_nil)))) (s3 rfl rfl rfl) <| cp (oMv tm) (s1 rfl) <| cp (oExt (k := 0) rfl tm) (s1 rfl) <| cp (oExt (k := 1) rfl tm) (s1 rfl) <| cp (oAs tm) (s1 rfl) <| cp (oAs tm) (s1 rfl) <| .nil) (by kernel_rfl) ?_
          refine pSeq ?_
          refine wSeq ?_
          refine rg (cp (oMv tm) (s1 rfl) <| cp (oMkI (view := vIf113) (x0 := If113.c119 y14.1) rfl cb119 tm) (s1 rfl) <| cp (oAs tm) (s1 rfl) <| .nil) (by kernel_rfl) ?_
          refine pSeq ?_
          refine wRet ?_
          refine pBlkR ?_
          refine pThenR ?_
          obtain rfl := so h
          exact pS1 [0, 1] rfl rfl (.inl rfl) rfl (.tmp rfl <| .nil)
    · refine wBF hp9 tm (s1 rfl) ?_
      refine wSkip ?_
      refine pBlkN ?_
      refine pSeq ?_
      refine wSeq ?_
      refine rg (cp (oMv tm) (s1 rfl) <| cp (oAs tm) (s1 rfl) <| .nil) (by kernel_rfl) ?_
      refine pSeq ?_
      refine wRet ?_
      obtain rfl := so h
      exact pS1 [0, 1] rfl rfl (.inl rfl) rfl (.tmp rfl <| .nil)

theorem judge_judge_comes.ok {a0 : judge_judge} {a1 : List Int} {r : judge_judge × If113} (h : judge_judge_comes.f a0 a1 = some r) : FnS Try.prog 88 [.p 70000 0, .d ((kL (kI .i64)).sig a1)] [.box 70000 117 [.d (kR f_api_Lattice) a0.l_, .d (kL (kI .i64)) a0.labels_, .v 70003], .row 70003 113 (kF vIf113) a0.pile_] [70000] (.d ((kF vIf113).sig r.2)) [.box 70000 117 [.d (kR f_api_Lattice) r.1.l_, .d (kL (kI .i64)) r.1.labels_, .v 70003], .row 70003 113 (kF vIf113) r.1.pile_] := by
  refine fnIntroS Try.func88 rfl (by kernel_rfl) fun X H0 w0 pv => ?_
  unfold judge_judge_comes.f at h
  refine wSeq ?_
  refine rg (cp (oAs (cNil (view := vIf113) (x := .nil) rfl)) trivial <| .nil) (by kernel_rfl) ?_
  refine pSeq ?_
  refine wSeq ?_
  refine wSeq ?_
  refine rg (cp (oMv tm) (s1 rfl) <| cp (oLenL u22 tm) (s1 rfl) <| cp (oMv (cI (by decide))) trivial <| .nil) (by kernel_rfl) ?_
  refine pSeq ?_
  refine wWeak (Γ' := [(0, .p 70000 0), (13, .d ((kL (kI .i64)).sig a1)), (14, .d ((kI .i64).sig (a1.length : Int))), (15, .d ((kI .i64).sig 0))]) ⟨rfl, rfl, rfl, rfl, trivial⟩ ?_
  refine wRen 70003 3505002 rfl ?_
  obtain ⟨o1, h, hk1⟩ := bd h
  refine wK3 (fun x229 x230 x231 => (x229, x230, x231) = o1) (fun x229 x230 x231 => [(0, .p 70000 0)]) (fun x229 x230 x231 => [.box 70000 117 [.d (kR f_api_Lattice) x229, .d (kL (kI .i64)) x230, .v 3505002], .row 3505002 113 (kF vIf113) x231]) ?_ ?_
  · refine wBlock (wLoop ?_)
    refine lW (pc4 o1 (fun v225 v226 v227 v228 => [(0, .p 70000 0), (13, .d ((kL (kI .i64)).sig a1)), (14, .d ((kI .i64).sig (a1.length : Int))), (15, .d ((kI .i64).sig v228))]) (fun v225 v226 v227 v228 => [.box 70000 117 [.d (kR f_api_Lattice) v225, .d (kL (kI .i64)) v226, .v 3505002], .row 3505002 113 (kF vIf113) v227]) (judge_judge_comes.l0.partial_correctness a1) ?_ _ _ _ _ h) ⟨rfl, rfl, rfl, rfl, trivial⟩ rfl
    clear h
    intro f' ih v225 v226 v227 v228 h
    refine wSeq ?_
    refine rg (cp (oLt rfl tm tm) (s2 rfl rfl) <| .nil) (by kernel_rfl) ?_
    refine pSeq ?_
    refine wSeq ?_
    rcases ic h with ⟨hp232, h⟩ | ⟨hp232, h⟩
    · refine wCT hp232 tm (s1 rfl) ?_
      refine wSkip ?_
      refine pSeq ?_
      obtain ⟨o2, h, hk2⟩ := bd h
      refine wJ3 (fun x287 x288 x289 => (x287, x288, x289) = o2) (fun x287 x288 x289 => [(0, .p 70000 0), (13, .d ((kL (kI .i64)).sig a1)), (14, .d ((kI .i64).sig (a1.length : Int))), (15, .d ((kI .i64).sig v228))]) (fun x287 x288 x289 => [.box 70000 117 [.d (kR f_api_Lattice) x287, .d (kL (kI .i64)) x288, .v 3505002], .row 3505002 113 (kF vIf113) x289]) ?_ ?_
      · refine wBlock ?_
        refine wSeq ?_
        obtain ⟨y290, hy290, h⟩ := bd h
        refine rg (cp (oIdx u22 z3 hy290 tm tm) (s2 rfl rfl) <| cp (oLd t3 tm) (s1 rfl) <| cp (oAs tm) (s1 rfl) <| .nil) (by kernel_rfl) ?_
        refine pSeq ?_
        refine wSeq ?_
        refine rg (cp (oMv tm) (s1 rfl) <| .nil) (by kernel_rfl) ?_
        refine pSeq ?_
        obtain ⟨o3, h, hk3⟩ := bd h
        refine wK3 (fun x316 x317 x318 => (x316, x317, x318) = o3) (fun x316 x317 x318 => [(0, .p 70000 0), (13, .d ((kL (kI .i64)).sig a1)), (14, .d ((kI .i64).sig (a1.length : Int))), (15, .d ((kI .i64).sig v228))]) (fun x316 x317 x318 => [.box 70000 117 [.d (kR f_api_Lattice) x316, .d (kL (kI .i64)) x317, .v 3505002], .row 3505002 113 (kF vIf113) x318]) ?_ ?_
        · refine wBlock ?_
          refine wSeq ?_
          refine wSeq ?_
          refine rg (cp (oEq rfl tm (cI (by decide))) (s1 rfl) <| cp (oAs tm) (s1 rfl) <| .nil) (by kernel_rfl) ?_
          refine pSeq ?_
          rcases ic h with ⟨hp319, h⟩ | ⟨hp319, h⟩
          · refine wCT hp319 tm (s1 rfl) ?_
            refine wSkip ?_
            refine pSeq ?_
            refine wCT hp319 tm (s1 rfl) ?_
            obtain ⟨y320, hy320, h⟩ := bd h
            refine rg (cp (oMv tm) (s1 rfl) <| cp (oMv tm) (s1 rfl) <| cp (oEq rfl tm (cI (by decide))) (s1 rfl) <| cp (oMkI (view := vIf113) (x0 := If113.c110 (decide (y290 = 1))) rfl cb110 tm) (s1 rfl) <| cm (oCallS (rest := []) (R' := [.box 70000 117 [.d (kR f_api_Lattice) y320.l_, .d (kL (kI .i64)) y320.labels_, .v 390160], .row 390160 113 (kF vIf113) y320.pile_]) (out' := .d (tup [])) [(70000, 70000), (70003, 3505002)] [(70003, 390160)] [0, 1] [] [0, 1] rfl (judge_judge_put.ok hy320) b114 (oE1 tm (oE1 tm oE0)) rfl rfl rfl rfl rfl rfl rfl rfl) (s2 rfl rfl) <| .nil) (by kernel_rfl) ?_
            refine pBlkN ?_
            refine pSub (Γ' := [(0, .p 70000 0), (13, .d ((kL (kI .i64)).sig a1)), (14, .d ((kI .i64).sig (a1.length : Int))), (15, .d ((kI .i64).sig v228))]) ⟨rfl, rfl, rfl, rfl, trivial⟩ ?_
            refine pRen 390160 3505002 rfl ?_
            exact pJ3 _ _ _ (so h) ⟨rfl, rfl, rfl, rfl, trivial⟩ rfl
          · refine wCF hp319 tm (s1 rfl) ?_
            refine rg (cp (oEq rfl tm (cI (by decide))) (s1 rfl) <| cp (oAs tm) (s1 rfl) <| .nil) (by kernel_rfl) ?_
            refine pSeq ?_
            rcases ic h with ⟨hp321, h⟩ | ⟨hp321, h⟩
            · refine wCT hp321 tm (s1 rfl) ?_
              obtain ⟨y322, hy322, h⟩ := bd h
              refine rg (cp (oMv tm) (s1 rfl) <| cp (oMv tm) (s1 rfl) <| cp (oEq rfl tm (cI (by decide))) (s1 rfl) <| cp (oMkI (view := vIf113) (x0 := If113.c110 (decide (y290 = 1))) rfl cb110 tm) (s1 rfl) <| cm (oCallS (rest := []) (R' := [.box 70000 117 [.d (kR f_api_Lattice) y322.l_, .d (kL (kI .i64)) y322.labels_, .v 390160], .row 390160 113 (kF vIf113) y322.pile_]) (out' := .d (tup [])) [(70000, 70000), (70003, 3505002)] [(70003, 390160)] [0, 1] [] [0, 1] rfl (judge_judge_put.ok hy322) b114 (oE1 tm (oE1 tm oE0)) rfl rfl rfl rfl rfl rfl rfl rfl) (s2 rfl rfl) <| .nil) (by kernel_rfl) ?_
              refine pBlkN ?_
              refine pSub (Γ' := [(0, .p 70000 0), (13, .d ((kL (kI .i64)).sig a1)), (14, .d ((kI .i64).sig (a1.length : Int))), (15, .d ((kI .i64).sig v228))]) ⟨rfl, rfl, rfl, rfl, trivial⟩ ?_
              refine pRen 390160 3505002 rfl ?_
              exact pJ3 _ _ _ (so h) ⟨rfl, rfl, rfl, rfl, trivial⟩ rfl
            · refine wCF hp321 tm (s1 rfl) ?_
              refine wSeq ?_
              refine rg (cp (oEq rfl tm (cI (by decide))) (s1 rfl) <| cp (oAs tm) (s1 rfl) <| .nil) (by kernel_rfl) ?_
              refine pSeq ?_
              rcases ic h with ⟨hp323, h⟩ | ⟨hp323, h⟩
              · refine wCT hp323 tm (s1 rfl) ?_
                refine wSeq ?_
                obtain ⟨y324, hy324, h⟩ := bd h
                refine rg (cp (oMv tm) (s1 rfl) <| cp (oNilP tm) (s1 rfl) <| cp (oFldP o117_0 tm) (s1 rfl) <| cr (oLdB (n := 0) (k := 0) rfl rfl rfl t42 tm) (s1 rfl) <| cp (oCall rfl (lattice_Bottom.ok hy324) b37 (opds_cons tm opds_nil)) (s1 rfl) <| cp (oMv tm) (s1 rfl) <| cp (oExt (k := 0) rfl tm) (s1 rfl) <| cp (oExt (k := 1) rfl tm) (s1 rfl) <| cp (oAs tm) (s1 rfl) <| cp (oAs tm) (s1 rfl) <| .nil) (by kernel_rfl) ?_
                refine pSeq ?_
                obtain ⟨y325, hy325, h⟩ := bd h
                refine rg (cp (oMv tm) (s1 rfl) <| cp (oMv tm) (s1 rfl) <| cp (oMkI (view := vIf113) (x0 := If113.c119 y324.1) rfl cb119 tm) (s1 rfl) <| cm (oCallS (rest := []) (R' := [.box 70000 117 [.d (kR f_api_Lattice) y325.l_, .d (kL (kI .i64)) y325.labels_, .v 420120], .row 420120 113 (kF vIf113) y325.pile_]) (out' := .d (tup [])) [(70000, 70000), (70003, 3505002)] [(70003, 420120)] [0, 1] [] [0, 1] rfl (judge_judge_put.ok hy325) b114 (oE1 tm (oE1 tm oE0)) rfl rfl rfl rfl rfl rfl rfl rfl) (s2 rfl rfl) <| .nil) (by kernel_rfl) ?_
                refine pBlkN ?_
                refine pSub (Γ' := [(0, .p 70000 0), (13, .d ((kL (kI .i64)).sig a1)), (14, .d ((kI .i64).sig (a1.length : Int))), (15, .d ((kI .i64).sig v228))]) ⟨rfl, rfl, rfl, rfl, trivial⟩ ?_
                refine pRen 420120 3505002 rfl ?_
                exact pJ3 _ _ _ (so h) ⟨rfl, rfl, rfl, rfl, trivial⟩ rfl
              · refine wCF hp323 tm (s1 rfl) ?_
                refine wSeq ?_
                refine rg (cp (oEq rfl tm (cI (by decide))) (s1 rfl) <| cp (oAs tm) (s1 rfl) <| .nil) (by kernel_rfl) ?_
                refine pSeq ?_
                rcases ic h with ⟨hp326, h⟩ | ⟨hp326, h⟩
                · refine wCT hp326 tm (s1 rfl) ?_
                  refine wSeq ?_
                  obtain ⟨y327, hy327, h⟩ := bd h
                  refine rg (cp (oMv tm) (s1 rfl) <| cp (oNilP tm) (s1 rfl) <| cp (oFldP o117_0 tm) (s1 rfl) <| cr (oLdB (n := 0) (k := 0) rfl rfl rfl t42 tm) (s1 rfl) <| cp (oCall rfl (lattice_Top.ok hy327) b38 (opds_cons tm opds_nil)) (s1 rfl) <| cp (oMv tm) (s1 rfl) <| cp (oExt (k := 0) rfl tm) (s1 rfl) <| cp (oExt (k := 1) rfl tm) (s1 rfl) <| cp (oAs tm) (s1 rfl) <| cp (oAs tm) (s1 rfl) <| .nil) (by kernel_rfl) ?_
                  refine pSeq ?_
                  obtain ⟨y328, hy328, h⟩ := bd h
                  refine rg (cp (oMv tm) (s1 rfl) <| cp (oMv tm) (s1 rfl) <| cp (oMkI (view := vIf113) (x0 := If113.c119 y327.1) rfl cb119 tm) (s1 rfl) <| cm (oCallS (rest := []) (R' := [.box 70000 117 [.d (kR f_api_Lattice) y328.l_, .d (kL (kI .i64)) y328.labels_, .v 450120], .row 450120 113 (kF vIf113) y328.pile_]) (out' := .d (tup [])) [(70000, 70000), (70003, 3505002)] [(70003, 450120)] [0, 1] [] [0, 1] rfl (judge_judge_put.ok hy328) b114 (oE1 tm (oE1 tm oE0)) rfl rfl rfl rfl rfl rfl rfl rfl) (s2 rfl rfl) <| .nil) (by kernel_rfl) ?_
                  refine pBlkN ?_
                  refine pSub (Γ' := [(0, .p 70000 0), (13, .d ((kL (kI .i64)).sig a1)), (14, .d ((kI .i64).sig (a1.length : Int))), (15, .d ((kI .i64).sig v228))]) ⟨rfl, rfl, rfl, rfl, trivial⟩ ?_
                  refine pRen 450120 3505002 rfl ?_
                  exact pJ3 _ _ _ (so h) ⟨rfl, rfl, rfl, rfl, trivial⟩ rfl
                · refine wCF hp326 tm (s1 rfl) ?_
                  refine wSeq ?_
                  refine wSeq ?_
                  refine rg (cp (oEq rfl tm (cI (by decide))) (s1 rfl) <| cp (oAs tm) (s1 rfl) <| .nil) (by kernel_rfl) ?_
                  refine pSeq ?_
                  rcases ic h with ⟨hp329, h⟩ | ⟨hp329, h⟩
                  · refine wCT hp329 tm (s1 rfl) ?_
                    refine wSkip ?_
                    refine pSeq ?_
                    refine wCT hp329 tm (s1 rfl) ?_
                    obtain ⟨y330, hy330, h⟩ := bd h
                    obtain ⟨y331, hy331, h⟩ := bd h
                    refine rg (cp (oMv tm) (s1 rfl) <| cp (oMv tm) (s1 rfl) <| cp (oNilP tm) (s1 rfl) <| cp (oFldP o117_1 tm) (s1 rfl) <| cr (oLdB (n := 0) (k := 1) rfl rfl rfl t22 tm) (s1 rfl) <| cp (oMv tm) (s1 rfl) <| cp (oSub tm (cI (by decide))) (s1 rfl) <| cp (oIdx u22 z3 hy330 tm tm) (s2 rfl rfl) <| cp (oLd t3 tm) (s1 rfl) <| cp (oMkI (view := vIf113) (x0 := If113.c119 y330) rfl cb119 tm) (s1 rfl) <| cm (oCallS (rest := []) (R' := [.box 70000 117 [.d (kR f_api_Lattice) y331.l_, .d (kL (kI .i64)) y331.labels_, .v 500400], .row 500400 113 (kF vIf113) y331.pile_]) (out' := .d (tup [])) [(70000, 70000), (70003, 3505002)] [(70003, 500400)] [0, 1] [] [0, 1] rfl (judge_judge_put.ok hy331) b114 (oE1 tm (oE1 tm oE0)) rfl rfl rfl rfl rfl rfl rfl rfl) (s2 rfl rfl) <| .nil) (by kernel_rfl) ?_
                    refine pBlkN ?_
                    refine pSub (Γ' := [(0, .p 70000 0), (13, .d ((kL (kI .i64)).sig a1)), (14, .d ((kI .i64).sig (a1.length : Int))), (15, .d ((kI .i64).sig v228))]) ⟨rfl, rfl, rfl, rfl, trivial⟩ ?_
                    refine pRen 500400 3505002 rfl ?_
                    exact pJ3 _ _ _ (so h) ⟨rfl, rfl, rfl, rfl, trivial⟩ rfl
                  · refine wCF hp329 tm (s1 rfl) ?_
                    refine wSeq ?_
                    refine rg (cp (oEq rfl tm (cI (by decide))) (s1 rfl) <| cp (oAs tm) (s1 rfl) <| .nil) (by kernel_rfl) ?_
                    refine pSeq ?_
                    rcases ic h with ⟨hp332, h⟩ | ⟨hp332, h⟩
                    · refine wCT hp332 tm (s1 rfl) ?_
                      refine wSkip ?_
                      refine pSeq ?_
                      refine wCT hp332 tm (s1 rfl) ?_
                      obtain ⟨y333, hy333, h⟩ := bd h
                      obtain ⟨y334, hy334, h⟩ := bd h
                      refine rg (cp (oMv tm) (s1 rfl) <| cp (oMv tm) (s1 rfl) <| cp (oNilP tm) (s1 rfl) <| cp (oFldP o117_1 tm) (s1 rfl) <| cr (oLdB (n := 0) (k := 1) rfl rfl rfl t22 tm) (s1 rfl) <| cp (oMv tm) (s1 rfl) <| cp (oSub tm (cI (by decide))) (s1 rfl) <| cp (oIdx u22 z3 hy333 tm tm) (s2 rfl rfl) <| cp (oLd t3 tm) (s1 rfl) <| cp (oMkI (view := vIf113) (x0 := If113.c119 y333) rfl cb119 tm) (s1 rfl) <| cm (oCallS (rest := []) (R' := [.box 70000 117 [.d (kR f_api_Lattice) y334.l_, .d (kL (kI .i64)) y334.labels_, .v 500400], .row 500400 113 (kF vIf113) y334.pile_]) (out' := .d (tup [])) [(70000, 70000), (70003, 3505002)] [(70003, 500400)] [0, 1] [] [0, 1] rfl (judge_judge_put.ok hy334) b114 (oE1 tm (oE1 tm oE0)) rfl rfl rfl rfl rfl rfl rfl rfl) (s2 rfl rfl) <| .nil) (by kernel_rfl) ?_
                      refine pBlkN ?_
                      refine pSub (Γ' := [(0, .p 70000 0), (13, .d ((kL (kI .i64)).sig a1)), (14, .d ((kI .i64).sig (a1.length : Int))), (15, .d ((kI .i64).sig v228))]) ⟨rfl, rfl, rfl, rfl, trivial⟩ ?_
                      refine pRen 500400 3505002 rfl ?_
                      exact pJ3 _ _ _ (so h) ⟨rfl, rfl, rfl, rfl, trivial⟩ rfl
                    · refine wCF hp332 tm (s1 rfl) ?_
                      refine wSeq ?_
                      refine rg (cp (oEq rfl tm (cI (by decide))) (s1 rfl) <| cp (oAs tm) (s1 rfl) <| .nil) (by kernel_rfl) ?_
                      refine pSeq ?_
                      rcases ic h with ⟨hp335, h⟩ | ⟨hp335, h⟩
                      · refine wCT hp335 tm (s1 rfl) ?_
                        refine wSkip ?_
                        refine pSeq ?_
                        refine wCT hp335 tm (s1 rfl) ?_
                        obtain ⟨y336, hy336, h⟩ := bd h
                        obtain ⟨y337, hy337, h⟩ := bd h
                        refine rg (cp (oMv tm) (s1 rfl) <| cp (oMv tm) (s1 rfl) <| cp (oNilP tm) (s1 rfl) <| cp (oFldP o117_1 tm) (s1 rfl) <| cr (oLdB (n := 0) (k := 1) rfl rfl rfl t22 tm) (s1 rfl) <| cp (oMv tm) (s1 rfl) <| cp (oSub tm (cI (by decide))) (s1 rfl) <| cp (oIdx u22 z3 hy336 tm tm) (s2 rfl rfl) <| cp (oLd t3 tm) (s1 rfl) <| cp (oMkI (view := vIf113) (x0 := If113.c119 y336) rfl cb119 tm) (s1 rfl) <| cm (oCallS (rest := []) (R' := [.box 70000 117 [.d (kR f_api_Lattice) y337.l_, .d (kL (kI .i64)) y337.labels_, .v 500400], .row 500400 113 (kF vIf113) y337.pile_]) (out' := .d (tup [])) [(70000, 70000), (70003, 3505002)] [(70003, 500400)] [0, 1] [] [0, 1] rfl (judge_judge_put.ok hy337) b114 (oE1 tm (oE1 tm oE0)) rfl rfl rfl rfl rfl rfl rfl rfl) (s2 rfl rfl) <| .nil) (by kernel_rfl) ?_
                        refine pBlkN ?_
                        refine pSub (Γ' := [(0, .p 70000 0), (13, .d ((kL (kI .i64)).sig a1)), (14, .d ((kI .i64).sig (a1.length : Int))), (15, .d ((kI .i64).sig v228))]) ⟨rfl, rfl, rfl, rfl, trivial⟩ ?_
                        refine pRen 500400 3505002 rfl ?_
                        exact pJ3 _ _ _ (so h) ⟨rfl, rfl, rfl, rfl, trivial⟩ rfl
                      · refine wCF hp335 tm (s1 rfl) ?_
                        refine rg (cp (oEq rfl tm (cI (by decide))) (s1 rfl) <| cp (oAs tm) (s1 rfl) <| .nil) (by kernel_rfl) ?_
                        refine pSeq ?_
                        rcases ic h with ⟨hp338, h⟩ | ⟨hp338, h⟩
                        · refine wCT hp338 tm (s1 rfl) ?_
                          obtain ⟨y339, hy339, h⟩ := bd h
                          obtain ⟨y340, hy340, h⟩ := bd h
                          refine rg (cp (oMv tm) (s1 rfl) <| cp (oMv tm) (s1 rfl) <| cp (oNilP tm) (s1 rfl) <| cp (oFldP o117_1 tm) (s1 rfl) <| cr (oLdB (n := 0) (k := 1) rfl rfl rfl t22 tm) (s1 rfl) <| cp (oMv tm) (s1 rfl) <| cp (oSub tm (cI (by decide))) (s1 rfl) <| cp (oIdx u22 z3 hy339 tm tm) (s2 rfl rfl) <| cp (oLd t3 tm) (s1 rfl) <| cp (oMkI (view := vIf113) (x0 := If113.c119 y339) rfl cb119 tm) (s1 rfl) <| cm (oCallS (rest := []) (R' := [.box 70000 117 [.d (kR f_api_Lattice) y340.l_, .d (kL (kI .i64)) y340.labels_, .v 500400], .row 500400 113 (kF vIf113) y340.pile_]) (out' := .d (tup [])) [(70000, 70000), (70003, 3505002)] [(70003, 500400)] [0, 1] [] [0, 1] rfl (judge_judge_put.ok hy340) b114 (oE1 tm (oE1 tm oE0)) rfl rfl rfl rfl rfl rfl rfl rfl) (s2 rfl rfl) <| .nil) (by kernel_rfl) ?_
                          refine pBlkN ?_
                          refine pSub (Γ' := [(0, .p 70000 0), (13, .d ((kL (kI .i64)).sig a1)), (14, .d ((kI .i64).sig (a1.length : Int))), (15, .d ((kI .i64).sig v228))]) ⟨rfl, rfl, rfl, rfl, trivial⟩ ?_
                          refine pRen 500400 3505002 rfl ?_
                          exact pJ3 _ _ _ (so h) ⟨rfl, rfl, rfl, rfl, trivial⟩ rfl
                        · refine wCF hp338 tm (s1 rfl) ?_
                          refine wSeq ?_
                          obtain ⟨y341, hy341, h⟩ := bd h
                          refine rg (cp (oMv tm) (s1 rfl) <| cm (oCallS (rest := []) (R' := [.box 70000 117 [.d (kR f_api_Lattice) y341.1.l_, .d (kL (kI .i64)) y341.1.labels_, .v 350040], .row 350040 113 (kF vIf113) y341.1.pile_]) (out' := .d (tup [(kF vIf113).sig y341.2.1, (kF vIf113).sig y341.2.2])) [(70000, 70000), (70003, 3505002)] [(70003, 350040)] [0, 1] [] [0, 1] rfl (judge_judge_two.ok hy341) b115 (oE1 tm oE0) rfl rfl rfl rfl rfl rfl rfl rfl) (s1 rfl) <| cp (oMv tm) (s1 rfl) <| cp (oExt (k := 0) rfl tm) (s1 rfl) <| cp (oExt (k := 1) rfl tm) (s1 rfl) <| cp (oAs tm) (s1 rfl) <| cp (oAs tm) (s1 rfl) <| .nil) (by kernel_rfl) ?_
                          refine pSeq ?_
                          obtain ⟨y342, hy342, h⟩ := bd h
                          obtain ⟨y343, hy343, h⟩ := bd h
                          refine rg (cp (oMv tm) (s1 rfl) <| cp (oMv tm) (s1 rfl) <| cp (oMv tm) (s1 rfl) <| cp (oMv tm) (s1 rfl) <| cp (oMv tm) (s1 rfl) <| cm (oCallS (rest := []) (R' := [.box 70000 117 [.d (kR f_api_Lattice) y342.1.l_, .d (kL (kI .i64)) y342.1.labels_, .v 360200], .row 360200 113 (kF vIf113) y342.1.pile_]) (out' := .d ((kF vIf113).sig y342.2)) [(70000, 70000), (70003, 350040)] [(70003, 360200)] [0, 1] [] [0, 1] rfl (judge_judge_both.ok hy342) b116 (oE1 tm (oE1 tm (oE1 tm (oE1 tm oE0)))) rfl rfl rfl rfl rfl rfl rfl rfl) ⟨rfl, rfl, rfl, rfl, trivial⟩ <| cm (oCallS (rest := []) (R' := [.box 70000 117 [.d (kR f_api_Lattice) y343.l_, .d (kL (kI .i64)) y343.labels_, .v 360240], .row 360240 113 (kF vIf113) y343.pile_]) (out' := .d (tup [])) [(70000, 70000), (70003, 360200)] [(70003, 360240)] [0, 1] [] [0, 1] rfl (judge_judge_put.ok hy343) b114 (oE1 tm (oE1 tm oE0)) rfl rfl rfl rfl rfl rfl rfl rfl) (s2 rfl rfl) <| .nil) (by kernel_rfl) ?_
                          refine pBlkN ?_
                          refine pSub (Γ' := [(0, .p 70000 0), (13, .d ((kL (kI .i64)).sig a1)), (14, .d ((kI .i64).sig (a1.length : Int))), (15, .d ((kI .i64).sig v228))]) ⟨rfl, rfl, rfl, rfl, trivial⟩ ?_
                          refine pRen 360240 3505002 rfl ?_
                          exact pJ3 _ _ _ (so h) ⟨rfl, rfl, rfl, rfl, trivial⟩ rfl
        · rintro x316 x317 x318 rfl
          replace h := hk3
          refine pBlkN ?_
          exact pJ3 _ _ _ (so h) ⟨rfl, rfl, rfl, rfl, trivial⟩ rfl
      · rintro x287 x288 x289 rfl
        replace h := hk2
        refine rg (cp (oAdd tm (cI (by decide))) (s1 rfl) <| cp (oMv tm) (s1 rfl) <| .nil) (by kernel_rfl) ?_
        exact pLoop (lW (ih _ _ _ _ h) ⟨rfl, rfl, rfl, rfl, trivial⟩ rfl)
    · refine wCF hp232 tm (s1 rfl) ?_
      refine wExit ?_
      refine pThenX ?_
      refine pThenX ?_
      refine pBlkX ?_
      exact pJ3 _ _ _ (so h) ⟨rfl, trivial⟩ rfl
  · rintro x229 x230 x231 rfl
    replace h := hk1
    refine pSeq ?_
    refine wSeq ?_
    obtain ⟨y344, hy344, h⟩ := bd h
    refine rg (cp (oMv tm) (s1 rfl) <| cp (oNilP tm) (s1 rfl) <| cp (oFldP o117_2 tm) (s1 rfl) <| cr (oLdN (n := 0) (k := 2) rfl rfl rfl t115 tm) (s1 rfl) <| cr (oIdxR (n := 1) u115 z113 rfl hy344 tm (cI (by decide))) (s1 rfl) <| cr (oLdE (n := 1) rfl hy344 rfl t113 tm) (s1 rfl) <| cp (oAs tm) (s1 rfl) <| .nil) (by kernel_rfl) ?_
    refine pSeq ?_
    refine wRet ?_
    obtain rfl := so h
    refine pSub (Γ' := [(4, .d ((kF vIf113).sig y344))]) ⟨rfl, trivial⟩ ?_
    refine pRen 3505002 70003 rfl ?_
    exact pS1 [0, 1] rfl rfl (.inl rfl) rfl (.tmp rfl <| .nil)

theorem judge_Cond.ok {a0 : api_Lattice} {a1 : List Int} {a2 : List Int} {r : Bool × Int} (h : judge_Cond.f a0 a1 a2 = some r) : FnA Try.prog 52 [(kR f_api_Lattice).sig a0, (kL (kI .i64)).sig a1, (kL (kI .i64)).sig a2] (tup [kB.sig r.1, (kI .i64).sig r.2]) := by
  refine fnIntro Try.func52 rfl (by kernel_rfl) fun H0 w0 => ?_
  unfold judge_Cond.f at h
  refine wSeq ?_
  refine rg (cp (oBox tm) (s1 rfl) <| cp (oAs cB) trivial <| cp (oAs (cI (by decide))) trivial <| .nil) (by kernel_rfl) ?_
  refine pSeq ?_
  refine wSeq ?_
  refine wSeq ?_
  obtain ⟨y1, hy1, h⟩ := bd h
  refine rg (cp (oLd t42 tm) (s1 rfl) <| cp (oMv tm) (s1 rfl) <| cp (oMv tm) (s1 rfl) <| cp (oCall rfl (judge_may.ok hy1) b87 (opds_cons tm (opds_cons tm (opds_cons tm (opds_cons cB opds_nil))))) (s3 rfl rfl rfl) <| cp (oAs tm) (s1 rfl) <| .nil) (by kernel_rfl) ?_
  refine pSeq ?_
  refine wSeq ?_
  refine rg (cp (oMv tm) (s1 rfl) <| cp (oNe rfl tm (cI (by decide))) (s1 rfl) <| .nil) (by kernel_rfl) ?_
  refine pSeq ?_
  rcases ic h with ⟨hp2, h⟩ | ⟨hp2, h⟩
  · refine wNT hp2 tm (s1 rfl) ?_
    refine wSkip ?_
    refine pSeq ?_
    refine wSeq ?_
    obtain ⟨y3, hy3, h⟩ := bd h
    refine rg (cp (oLd t42 tm) (s1 rfl) <| cp (oMv tm) (s1 rfl) <| cp (oBuild (fs := f_judge_judge_n2) (u := ⟨a0, a2, []⟩) rfl ze117 pl117 po117_2 (.op (zc := [(.slice none 0 0), (.slice none 0 0)]) tm rfl (.op (zc := [(.slice none 0 0)]) tm rfl (.ze (zc := [(.slice none 0 0)]) zN .nil)))) (s2 rfl rfl) <| cm (okNil (n := 0) (k := 2) (id := 6102) (kF vIf113) 113 ((Ok.toL (oBoxS (id := 22) (fs := f_judge_judge_n2) tm) (fun c e => by cases e))) rfl rfl rfl) (s1 rfl) <| cp (oMv tm) (s1 rfl) <| cm (oCallS (rest := []) (R' := [.row 340200 113 (kF vIf113) y3.1.pile_, .box 22 117 [.d (kR f_api_Lattice) y3.1.l_, .d (kL (kI .i64)) y3.1.labels_, .v 340200]]) (out' := .d ((kF vIf113).sig y3.2)) [(70000, 22), (70003, 6102)] [(70003, 340200)] [1, 0] [] [1, 0] rfl (judge_judge_comes.ok hy3) b88 (oE1 tm (oE1 tm oE0)) rfl rfl rfl rfl rfl rfl rfl rfl) (s2 rfl rfl) <| cp (oTA asOk113_110 cb110 zv110 zvB tm) (s1 rfl) <| cp (oMv tm) (s1 rfl) <| cp (oExt (k := 0) rfl tm) (s1 rfl) <| cp (oExt (k := 1) rfl tm) (s1 rfl) <| cp (oAs tm) (s1 rfl) <| cp (oAs tm) (s1 rfl) <| .nil) (by kernel_rfl) ?_
    refine pSeq ?_
    refine wSeq ?_
    refine rg (cp (oMv tm) (s1 rfl) <| cp (oAs tm) (s1 rfl) <| cp (oAs (cI (by decide))) trivial <| .nil) (by kernel_rfl) ?_
    refine pSeq ?_
    refine wRet ?_
    obtain rfl := so h
    exact pRn (.inl rfl) rfl rfl (.tmp rfl <| .tmp rfl <| .nil)
  · refine wNF hp2 tm (s1 rfl) ?_
    refine wSeq ?_
    refine rg (cp (oMv tm) (s1 rfl) <| cp (oAs cB) trivial <| cp (oAs tm) (s1 rfl) <| .nil) (by kernel_rfl) ?_
    refine pSeq ?_
    refine wRet ?_
    refine pThenR ?_
    obtain rfl := so h
    exact pRn (.inl rfl) rfl rfl (.tmp rfl <| .tmp rfl <| .nil)

theorem judge_Label.ok {a0 : api_Lattice} {a1 : List Int} {a2 : List Int} {r : Int × Int} (h : judge_Label.f a0 a1 a2 = some r) : FnA Try.prog 53 [(kR f_api_Lattice).sig a0, (kL (kI .i64)).sig a1, (kL (kI .i64)).sig a2] (tup [(kI .i64).sig r.1, (kI .i64).sig r.2]) := by
  refine fnIntro Try.func53 rfl (by kernel_rfl) fun H0 w0 => ?_
  unfold judge_Label.f at h
  refine wSeq ?_
  refine rg (cp (oBox tm) (s1 rfl) <| cp (oAs (cI (by decide))) trivial <| cp (oAs (cI (by decide))) trivial <| .nil) (by kernel_rfl) ?_
  refine pSeq ?_
  refine wSeq ?_
  refine wSeq ?_
  obtain ⟨y1, hy1, h⟩ := bd h
  refine rg (cp (oLd t42 tm) (s1 rfl) <| cp (oMv tm) (s1 rfl) <| cp (oMv tm) (s1 rfl) <| cp (oCall rfl (judge_may.ok hy1) b87 (opds_cons tm (opds_cons tm (opds_cons tm (opds_cons cB opds_nil))))) (s3 rfl rfl rfl) <| cp (oAs tm) (s1 rfl) <| .nil) (by kernel_rfl) ?_
  refine pSeq ?_
  refine wSeq ?_
  refine rg (cp (oMv tm) (s1 rfl) <| cp (oNe rfl tm (cI (by decide))) (s1 rfl) <| .nil) (by kernel_rfl) ?_
  refine pSeq ?_
  rcases ic h with ⟨hp2, h⟩ | ⟨hp2, h⟩
  · refine wNT hp2 tm (s1 rfl) ?_
    refine wSkip ?_
    refine pSeq ?_
    refine wSeq ?_
    obtain ⟨y3, hy3, h⟩ := bd h
    refine rg (cp (oLd t42 tm) (s1 rfl) <| cp (oMv tm) (s1 rfl) <| cp (oBuild (fs := f_judge_judge_n2) (u := ⟨a0, a2, []⟩) rfl ze117 pl117 po117_2 (.op (zc := [(.slice none 0 0), (.slice none 0 0)]) tm rfl (.op (zc := [(.slice none 0 0)]) tm rfl (.ze (zc := [(.slice none 0 0)]) zN .nil)))) (s2 rfl rfl) <| cm (okNil (n := 0) (k := 2) (id := 6102) (kF vIf113) 113 ((Ok.toL (oBoxS (id := 22) (fs := f_judge_judge_n2) tm) (fun c e => by cases e))) rfl rfl rfl) (s1 rfl) <| cp (oMv tm) (s1 rfl) <| cm (oCallS (rest := []) (R' := [.row 340200 113 (kF vIf113) y3.1.pile_, .box 22 117 [.d (kR f_api_Lattice) y3.1.l_, .d (kL (kI .i64)) y3.1.labels_, .v 340200]]) (out' := .d ((kF vIf113).sig y3.2)) [(70000, 22), (70003, 6102)] [(70003, 340200)] [1, 0] [] [1, 0] rfl (judge_judge_comes.ok hy3) b88 (oE1 tm (oE1 tm oE0)) rfl rfl rfl rfl rfl rfl rfl rfl) (s2 rfl rfl) <| cp (oTA asOk113_119 cb119 zv119 (zvI (by decide)) tm) (s1 rfl) <| cp (oMv tm) (s1 rfl) <| cp (oExt (k := 0) rfl tm) (s1 rfl) <| cp (oExt (k := 1) rfl tm) (s1 rfl) <| cp (oAs tm) (s1 rfl) <| cp (oAs tm) (s1 rfl) <| .nil) (by kernel_rfl) ?_
    refine pSeq ?_
    refine wSeq ?_
    refine rg (cp (oMv tm) (s1 rfl) <| cp (oAs tm) (s1 rfl) <| cp (oAs (cI (by decide))) trivial <| .nil) (by kernel_rfl) ?_
    refine pSeq ?_
    refine wRet ?_
    obtain rfl := so h
    exact pRn (.inl rfl) rfl rfl (.tmp rfl <| .tmp rfl <| .nil)
  · refine wNF hp2 tm (s1 rfl) ?_
    refine wSeq ?_
    refine rg (cp (oMv tm) (s1 rfl) <| cp (oAs (cI (by decide))) trivial <| cp (oAs tm) (s1 rfl) <| .nil) (by kernel_rfl) ?_
    refine pSeq ?_
    refine wRet ?_
    refine pThenR ?_
    obtain rfl := so h
    exact pRn (.inl rfl) rfl rfl (.tmp rfl <| .tmp rfl <| .nil)

theorem reticentref01_Name.ok {a0 : Str} {r : Bool} (h : reticentref01_Name.f a0 = some r) : FnA Try.prog 104 [kS.sig a0] (kB.sig r) := by
  refine fnIntro Try.func104 rfl (by kernel_rfl) fun H0 w0 => ?_
  unfold reticentref01_Name.f at h
  refine wSeq ?_
  refine rg (cp (oAs cB) trivial <| .nil) (by kernel_rfl) ?_
  refine pSeq ?_
  refine wSeq ?_
  refine wSeq ?_
  refine rg (cp (oAs (cI (by decide))) trivial <| .nil) (by kernel_rfl) ?_
  refine pSeq ?_
  obtain ⟨o1, h, hk1⟩ := bd h
  refine wK0 (.inr () = o1) ([(0, .d (kS.sig a0))]) ([]) ?_ ?_
  · refine wBlock (wLoop ?_)
    refine lW (pc1 o1 (fun v19 => [(0, .d (kS.sig a0)), (3, .d ((kI .i64).sig v19))]) (fun v19 => []) (reticentref01_Name.l0.partial_correctness a0) ?_ _ h) ⟨rfl, rfl, trivial⟩ rfl
    clear h
    intro f' ih v19 h
    refine wSeq ?_
    refine wSeq ?_
    refine rg (cp (oMv tm) (s1 rfl) <| cp (oMv tm) (s1 rfl) <| cp (oLenS u9 tm) (s1 rfl) <| cp (oLt rfl tm tm) (s2 rfl rfl) <| .nil) (by kernel_rfl) ?_
    refine pSeq ?_
    rcases ic h with ⟨hp20, h⟩ | ⟨hp20, h⟩
    · refine wCT hp20 tm (s1 rfl) ?_
      refine wSkip ?_
      refine pSeq ?_
      refine wSeq ?_
      refine wBlock ?_
      obtain ⟨o2, h, hk2⟩ := bd h
      refine wJ1 (fun x24 => x24 = o2) (fun x24 => [(0, .d (kS.sig a0)), (3, .d ((kI .i64).sig v19)), (19, .d (kB.sig x24))]) (fun x24 => []) ?_ ?_
      · obtain ⟨hc25, h⟩ := ib h
        rcases ic h with ⟨hp26, h⟩ | ⟨hp26, h⟩
        · refine rg (cp (oMv tm) (s1 rfl) <| cp (oMv tm) (s1 rfl) <| cp (oIdxS u9 hc25.1 hc25.2 tm tm) (s2 rfl rfl) <| cp (oLt rfl tm (cI (by decide))) (s1 rfl) <| cp (oMv tm) (s1 rfl) <| csB (decide_eq_true hp26) rfl rfl <| csB (decide_eq_true hp26) rfl rfl <| csB (decide_eq_true hp26) rfl rfl <| csB (decide_eq_true hp26) rfl rfl <| cp (oPkT (decide_eq_true hp26) tm cB) (s1 rfl) <| .nil) (by kernel_rfl) ?_
          exact pJ1 _ (so h) ⟨rfl, rfl, rfl, trivial⟩ rfl
        · obtain ⟨hc27, h⟩ := ib h
          refine rg (cp (oMv tm) (s1 rfl) <| cp (oMv tm) (s1 rfl) <| cp (oIdxS u9 hc25.1 hc25.2 tm tm) (s2 rfl rfl) <| cp (oLt rfl tm (cI (by decide))) (s1 rfl) <| cp (oMv tm) (s1 rfl) <| cgB (decide_eq_false hp26) rfl rfl (oMv tm) (s1 rfl) <| cgB (decide_eq_false hp26) rfl rfl (oMv tm) (s1 rfl) <| cgB (decide_eq_false hp26) rfl rfl (oIdxS u9 hc27.1 hc27.2 tm tm) (s2 rfl rfl) <| cgB (decide_eq_false hp26) rfl rfl (oGt rfl tm (cI (by decide))) (s1 rfl) <| cp (oPkF (decide_eq_false hp26) tm tm) (s2 rfl rfl) <| .nil) (by kernel_rfl) ?_
          exact pJ1 _ (so h) ⟨rfl, rfl, rfl, trivial⟩ rfl
      · rintro x24 rfl
        replace h := hk2
        rcases ic h with ⟨hp28, h⟩ | ⟨hp28, h⟩
        · refine wBT hp28 tm (s1 rfl) ?_
          refine wSeq ?_
          refine rg (cp (oAs cB) trivial <| .nil) (by kernel_rfl) ?_
          refine pSeq ?_
          refine wRet ?_
          refine pBlkR ?_
          refine pThenR ?_
          refine pThenR ?_
          refine pBlkR ?_
          refine pThenR ?_
          obtain rfl := so h
          replace h := hk1
          refine pThenR ?_
          obtain rfl := so h
          exact pR1 (.inl rfl) rfl (.tmp rfl <| .nil)
        · refine wBF hp28 tm (s1 rfl) ?_
          refine wSkip ?_
          refine pBlkN ?_
          refine pSeq ?_
          refine rg (cp (oMv tm) (s1 rfl) <| cp (oAdd tm (cI (by decide))) (s1 rfl) <| cp (oAs tm) (s1 rfl) <| .nil) (by kernel_rfl) ?_
          exact pLoop (lW (ih _ h) ⟨rfl, rfl, trivial⟩ rfl)
    · refine wCF hp20 tm (s1 rfl) ?_
      refine wExit ?_
      refine pThenX ?_
      refine pThenX ?_
      refine pBlkX ?_
      exact pJ0 (so h) ⟨rfl, trivial⟩ rfl
  · rintro rfl
    replace h := hk1
    refine pSeq ?_
    obtain ⟨o1, h, hk1⟩ := bd h
    refine wJ1 (fun x30 => x30 = o1) (fun x30 => [(2, .d (kB.sig x30))]) (fun x30 => []) ?_ ?_
    · rcases ic h with ⟨hp31, h⟩ | ⟨hp31, h⟩
      · refine rg (cp (oMv tm) (s1 rfl) <| cp (oLenS u9 tm) (s1 rfl) <| cp (oGt rfl tm (cI (by decide))) (s1 rfl) <| cp (oMv tm) (s1 rfl) <| cgB (decide_eq_true hp31) rfl rfl (oMv tm) (s1 rfl) <| cgB (decide_eq_true hp31) rfl rfl (oLenS u9 tm) (s1 rfl) <| cgB (decide_eq_true hp31) rfl rfl (oLe rfl tm (cI (by decide))) (s1 rfl) <| cp (oPkT (decide_eq_true hp31) tm tm) (s2 rfl rfl) <| cp (oAs tm) (s1 rfl) <| .nil) (by kernel_rfl) ?_
        exact pJ1 _ (so h) ⟨rfl, trivial⟩ rfl
      · refine rg (cp (oMv tm) (s1 rfl) <| cp (oLenS u9 tm) (s1 rfl) <| cp (oGt rfl tm (cI (by decide))) (s1 rfl) <| cp (oMv tm) (s1 rfl) <| csB (decide_eq_false hp31) rfl rfl <| csB (decide_eq_false hp31) rfl rfl <| csB (decide_eq_false hp31) rfl rfl <| cp (oPkF (decide_eq_false hp31) tm cB) (s1 rfl) <| cp (oAs tm) (s1 rfl) <| .nil) (by kernel_rfl) ?_
        exact pJ1 _ (so h) ⟨rfl, trivial⟩ rfl
    · rintro x30 rfl
      replace h := hk1
      refine wRet ?_
      obtain rfl := so h
      exact pR1 (.inl rfl) rfl (.tmp rfl <| .nil)

theorem reticentref01_high.ok {a0 : Int} {a1 : Int} {r : Bool} (h : reticentref01_high.f a0 a1 = some r) : FnA Try.prog 105 [(kI .u32).sig a0, (kI .i64).sig a1] (kB.sig r) := by
  refine fnIntro Try.func105 rfl (by kernel_rfl) fun H0 w0 => ?_
  unfold reticentref01_high.f at h
  refine wSeq ?_
  refine rg (cp (oAs cB) trivial <| .nil) (by kernel_rfl) ?_
  refine pSeq ?_
  refine wSeq ?_
  refine wSeq ?_
  refine rg (cp (oAs (cI (by decide))) trivial <| .nil) (by kernel_rfl) ?_
  refine pSeq ?_
  obtain ⟨o1, h, hk1⟩ := bd h
  refine wK1 (fun x5 => x5 = o1) (fun x5 => [(0, .d ((kI .u32).sig x5))]) (fun x5 => []) ?_ ?_
  · refine wBlock (wLoop ?_)
    refine lW (pc2 o1 (fun v3 v4 => [(0, .d ((kI .u32).sig v3)), (1, .d ((kI .i64).sig a1)), (5, .d ((kI .i64).sig v4))]) (fun v3 v4 => []) (reticentref01_high.l0.partial_correctness a1) ?_ _ _ h) ⟨rfl, rfl, rfl, trivial⟩ rfl
    clear h
    intro f' ih v3 v4 h
    refine wSeq ?_
    refine wSeq ?_
    refine rg (cp (oMv tm) (s1 rfl) <| cp (oMv tm) (s1 rfl) <| cp (oLt rfl tm tm) (s2 rfl rfl) <| .nil) (by kernel_rfl) ?_
    refine pSeq ?_
    rcases ic h with ⟨hp6, h⟩ | ⟨hp6, h⟩
    · refine wCT hp6 tm (s1 rfl) ?_
      refine wSkip ?_
      refine pSeq ?_
      refine wSeq ?_
      refine wBlock ?_
      refine rg (cp (oMv tm) (s1 rfl) <| cp (oQuo (by decide) tm (cI (by decide))) (s1 rfl) <| cp (oAs tm) (s1 rfl) <| .nil) (by kernel_rfl) ?_
      refine pBlkN ?_
      refine pSeq ?_
      refine rg (cp (oMv tm) (s1 rfl) <| cp (oAdd tm (cI (by decide))) (s1 rfl) <| cp (oAs tm) (s1 rfl) <| .nil) (by kernel_rfl) ?_
      exact pLoop (lW (ih _ _ h) ⟨rfl, rfl, rfl, trivial⟩ rfl)
    · refine wCF hp6 tm (s1 rfl) ?_
      refine wExit ?_
      refine pThenX ?_
      refine pThenX ?_
      refine pBlkX ?_
      exact pJ1 _ (so h) ⟨rfl, trivial⟩ rfl
  · rintro x5 rfl
    replace h := hk1
    refine pSeq ?_
    refine wSeq ?_
    refine rg (cp (oMv tm) (s1 rfl) <| cp (oGt rfl tm (cI (by decide))) (s1 rfl) <| cp (oAs tm) (s1 rfl) <| .nil) (by kernel_rfl) ?_
    refine pSeq ?_
    refine wRet ?_
    obtain rfl := so h
    exact pR1 (.inl rfl) rfl (.tmp rfl <| .nil)

theorem reticentref01_may.ok {a0 : api_Lattice} {r : Bool} (h : reticentref01_may.f a0 = some r) : FnA Try.prog 74 [(kR f_api_Lattice).sig a0] (kB.sig r) := by
  refine fnIntro Try.func74 rfl (by kernel_rfl) fun H0 w0 => ?_
  unfold reticentref01_may.f at h
  refine wSeq ?_
  refine rg (cp (oBox tm) (s1 rfl) <| cp (oAs cB) trivial <| .nil) (by kernel_rfl) ?_
  refine pSeq ?_
  refine wSeq ?_
  obtain ⟨o1, h, hk1⟩ := bd h
  refine wJ1 (fun x3 => x3 = o1) (fun x3 => [(1, .d (sP (kR f_api_Lattice) a0)), (25, .d (kB.sig x3))]) (fun x3 => []) ?_ ?_
  · rcases ic h with ⟨hp4, h⟩ | ⟨hp4, h⟩
    · refine rg (cp (oFld (fs := f_api_Lattice) (k := 1) rfl o42_1 tm) (s1 rfl) <| cp (oLd t40 tm) (s1 rfl) <| cp (oLenL u40 tm) (s1 rfl) <| cp (oLt rfl tm (cI (by decide))) (s1 rfl) <| cp (oMv tm) (s1 rfl) <| csB (decide_eq_true hp4) rfl rfl <| csB (decide_eq_true hp4) rfl rfl <| csB (decide_eq_true hp4) rfl rfl <| csB (decide_eq_true hp4) rfl rfl <| cp (oPkT (decide_eq_true hp4) tm cB) (s1 rfl) <| cp (oMv tm) (s1 rfl) <| csB rfl rfl rfl <| csB rfl rfl rfl <| csB rfl rfl rfl <| csB rfl rfl rfl <| csB rfl rfl rfl <| csB rfl rfl rfl <| csB rfl rfl rfl <| cp (oPkT rfl tm cB) (s1 rfl) <| .nil) (by kernel_rfl) ?_
      exact pJ1 _ (so h) ⟨rfl, rfl, trivial⟩ rfl
    · rcases ic h with ⟨hp5, h⟩ | ⟨hp5, h⟩
      · refine rg (cp (oFld (fs := f_api_Lattice) (k := 1) rfl o42_1 tm) (s1 rfl) <| cp (oLd t40 tm) (s1 rfl) <| cp (oLenL u40 tm) (s1 rfl) <| cp (oLt rfl tm (cI (by decide))) (s1 rfl) <| cp (oMv tm) (s1 rfl) <| cgB (decide_eq_false hp4) rfl rfl (oFld (fs := f_api_Lattice) (k := 1) rfl o42_1 tm) (s1 rfl) <| cgB (decide_eq_false hp4) rfl rfl (oLd t40 tm) (s1 rfl) <| cgB (decide_eq_false hp4) rfl rfl (oLenL u40 tm) (s1 rfl) <| cgB (decide_eq_false hp4) rfl rfl (oGt rfl tm (cI (by decide))) (s1 rfl) <| cp (oPkF (decide_eq_false hp4) tm tm) (s2 rfl rfl) <| cp (oMv tm) (s1 rfl) <| csB (decide_eq_true hp5) rfl rfl <| csB (decide_eq_true hp5) rfl rfl <| csB (decide_eq_true hp5) rfl rfl <| csB (decide_eq_true hp5) rfl rfl <| csB (decide_eq_true hp5) rfl rfl <| csB (decide_eq_true hp5) rfl rfl <| csB (decide_eq_true hp5) rfl rfl <| cp (oPkT (decide_eq_true hp5) tm cB) (s1 rfl) <| .nil) (by kernel_rfl) ?_
        exact pJ1 _ (so h) ⟨rfl, rfl, trivial⟩ rfl
      · refine rg (cp (oFld (fs := f_api_Lattice) (k := 1) rfl o42_1 tm) (s1 rfl) <| cp (oLd t40 tm) (s1 rfl) <| cp (oLenL u40 tm) (s1 rfl) <| cp (oLt rfl tm (cI (by decide))) (s1 rfl) <| cp (oMv tm) (s1 rfl) <| cgB (decide_eq_false hp4) rfl rfl (oFld (fs := f_api_Lattice) (k := 1) rfl o42_1 tm) (s1 rfl) <| cgB (decide_eq_false hp4) rfl rfl (oLd t40 tm) (s1 rfl) <| cgB (decide_eq_false hp4) rfl rfl (oLenL u40 tm) (s1 rfl) <| cgB (decide_eq_false hp4) rfl rfl (oGt rfl tm (cI (by decide))) (s1 rfl) <| cp (oPkF (decide_eq_false hp4) tm tm) (s2 rfl rfl) <| cp (oMv tm) (s1 rfl) <| cgB (decide_eq_false hp5) rfl rfl (oFld (fs := f_api_Lattice) (k := 0) rfl o42_0 tm) (s1 rfl) <| cgB (decide_eq_false hp5) rfl rfl (oLd t39 tm) (s1 rfl) <| cgB (decide_eq_false hp5) rfl rfl (oLenL u39 tm) (s1 rfl) <| cgB (decide_eq_false hp5) rfl rfl (oFld (fs := f_api_Lattice) (k := 1) rfl o42_1 tm) (s1 rfl) <| cgB (decide_eq_false hp5) rfl rfl (oLd t40 tm) (s1 rfl) <| cgB (decide_eq_false hp5) rfl rfl (oLenL u40 tm) (s1 rfl) <| cgB (decide_eq_false hp5) rfl rfl (oNe rfl tm tm) (s2 rfl rfl) <| cp (oPkF (decide_eq_false hp5) tm tm) (s2 rfl rfl) <| .nil) (by kernel_rfl) ?_
        exact pJ1 _ (so h) ⟨rfl, rfl, trivial⟩ rfl
  · rintro x3 rfl
    replace h := hk1
    rcases ic h with ⟨hp6, h⟩ | ⟨hp6, h⟩
    · refine wBT hp6 tm (s1 rfl) ?_
      refine wSeq ?_
      refine rg (cp (oAs cB) trivial <| .nil) (by kernel_rfl) ?_
      refine pSeq ?_
      refine wRet ?_
      refine pThenR ?_
      obtain rfl := so h
      exact pR1 (.inl rfl) rfl (.tmp rfl <| .nil)
    · refine wBF hp6 tm (s1 rfl) ?_
      refine wSkip ?_
      refine pSeq ?_
      refine wSeq ?_
      refine wSeq ?_
      refine rg (cp (oFld (fs := f_api_Lattice) (k := 0) rfl o42_0 tm) (s1 rfl) <| cp (oLd t39 tm) (s1 rfl) <| cp (oLenL u39 tm) (s1 rfl) <| cp (oMv (cI (by decide))) trivial <| .nil) (by kernel_rfl) ?_
      refine pSeq ?_
      obtain ⟨o1, h, hk1⟩ := bd h
      refine wK0 (.inr () = o1) ([]) ([]) ?_ ?_
      · refine wBlock (wLoop ?_)
        refine lW (pc1 o1 (fun v53 => [(1, .d (sP (kR f_api_Lattice) a0)), (27, .d ((kL kS).sig a0.Names)), (28, .d ((kI .i64).sig (a0.Names.length : Int))), (29, .d ((kI .i64).sig v53))]) (fun v53 => []) (reticentref01_may.l2.partial_correctness a0) ?_ _ h) ⟨rfl, rfl, rfl, rfl, trivial⟩ rfl
        clear h
        intro f' ih v53 h
        refine wSeq ?_
        refine rg (cp (oLt rfl tm tm) (s2 rfl rfl) <| .nil) (by kernel_rfl) ?_
        refine pSeq ?_
        refine wSeq ?_
        rcases ic h with ⟨hp54, h⟩ | ⟨hp54, h⟩
        · refine wCT hp54 tm (s1 rfl) ?_
          refine wSkip ?_
          refine pSeq ?_
          refine wSeq ?_
          refine wBlock ?_
          refine wSeq ?_
          obtain ⟨y55, hy55, h⟩ := bd h
          refine rg (cp (oMv tm) (s1 rfl) <| cp (oIdx u39 z9 hy55 tm tm) (s2 rfl rfl) <| cp (oLd t9 tm) (s1 rfl) <| cp (oAs tm) (s1 rfl) <| cp (oAs tm) (s1 rfl) <| .nil) (by kernel_rfl) ?_
          refine pSeq ?_
          refine wSeq ?_
          obtain ⟨o2, h, hk2⟩ := bd h
          refine wJ1 (fun x60 => x60 = o2) (fun x60 => [(1, .d (sP (kR f_api_Lattice) a0)), (3, .d ((kI .i64).sig v53)), (4, .d (kS.sig y55)), (27, .d ((kL kS).sig a0.Names)), (28, .d ((kI .i64).sig (a0.Names.length : Int))), (29, .d ((kI .i64).sig v53)), (47, .d (kB.sig x60))]) (fun x60 => []) ?_ ?_
          · obtain ⟨y61, hy61, h⟩ := bd h
            rcases ic h with ⟨hp62, h⟩ | ⟨hp62, h⟩
            · refine rgD hm (cp (oMv tm) (s1 rfl) <| cp (oCall rfl (reticentref01_Name.ok hy61) b104 (opds_cons tm opds_nil)) (s1 rfl) <| cp (oNot tm) (s1 rfl) <| cp (oMv tm) (s1 rfl) <| csB hp62 rfl rfl <| csB hp62 rfl rfl <| csB hp62 rfl rfl <| csB hp62 rfl rfl <| csB hp62 rfl rfl <| csB hp62 rfl rfl <| csB hp62 rfl rfl <| csB hp62 rfl rfl <| csB hp62 rfl rfl <| cp (oPkT hp62 tm cB) (s1 rfl) <| .nil) (by kernel_rfl) (by kernel_rfl) ?_
              exact pJ1 _ (so h) ⟨rfl, rfl, rfl, rfl, rfl, rfl, rfl, trivial⟩ rfl
            · obtain ⟨y63, hy63, h⟩ := bd h
              obtain ⟨y64, hy64, h⟩ := bd h
              refine rgD hm (cp (oMv tm) (s1 rfl) <| cp (oCall rfl (reticentref01_Name.ok hy61) b104 (opds_cons tm opds_nil)) (s1 rfl) <| cp (oNot tm) (s1 rfl) <| cp (oMv tm) (s1 rfl) <| cgB (nb hp62) rfl rfl (oFld (fs := f_api_Lattice) (k := 1) rfl o42_1 tm) (s1 rfl) <| cgB (nb hp62) rfl rfl (oLd t40 tm) (s1 rfl) <| cgB (nb hp62) rfl rfl (oMv tm) (s1 rfl) <| cgB (nb hp62) rfl rfl (oIdx u40 z64 hy63 tm tm) (s2 rfl rfl) <| cgB (nb hp62) rfl rfl (oLd t64 tm) (s1 rfl) <| cgB (nb hp62) rfl rfl (oFld (fs := f_api_Lattice) (k := 1) rfl o42_1 tm) (s1 rfl) <| cgB (nb hp62) rfl rfl (oLd t40 tm) (s1 rfl) <| cgB (nb hp62) rfl rfl (oLenL u40 tm) (s1 rfl) <| cgB (nb hp62) rfl rfl (oCall rfl (reticentref01_high.ok hy64) b105 (opds_cons tm (opds_cons tm opds_nil))) (s2 rfl rfl) <| cp (oPkF (nb hp62) tm tm) (s2 rfl rfl) <| .nil) (by kernel_rfl) (by kernel_rfl) ?_
              exact pJ1 _ (so h) ⟨rfl, rfl, rfl, rfl, rfl, rfl, rfl, trivial⟩ rfl
          · rintro x60 rfl
            replace h := hk2
            rcases ic h with ⟨hp65, h⟩ | ⟨hp65, h⟩
            · refine wBT hp65 tm (s1 rfl) ?_
              refine wSeq ?_
              refine rg (cp (oAs cB) trivial <| .nil) (by kernel_rfl) ?_
              refine pSeq ?_
              refine wRet ?_
              refine pThenR ?_
              refine pBlkR ?_
              refine pThenR ?_
              refine pThenR ?_
              refine pBlkR ?_
              refine pThenR ?_
              obtain rfl := so h
              replace h := hk1
              refine pThenR ?_
              obtain rfl := so h
              exact pR1 (.inl rfl) rfl (.tmp rfl <| .nil)
            · refine wBF hp65 tm (s1 rfl) ?_
              refine wSkip ?_
              refine pSeq ?_
              refine wSeq ?_
              obtain ⟨hc66, h⟩ := ib h
              refine rg (cp (oFld (fs := f_api_Lattice) (k := 0) rfl o42_0 tm) (s1 rfl) <| cp (oLd t39 tm) (s1 rfl) <| cp (oMv tm) (s1 rfl) <| cp (oCutHi u39 z9 hc66.1 hc66.2 tm tm) (s2 rfl rfl) <| cp (oLenL u39 tm) (s1 rfl) <| cp (oMv (cI (by decide))) trivial <| .nil) (by kernel_rfl) ?_
              refine pSeq ?_
              obtain ⟨o2, h, hk2⟩ := bd h
              refine wK0 (.inr () = o2) ([(1, .d (sP (kR f_api_Lattice) a0)), (27, .d ((kL kS).sig a0.Names)), (28, .d ((kI .i64).sig (a0.Names.length : Int))), (29, .d ((kI .i64).sig v53))]) ([]) ?_ ?_
              · refine wBlock (wLoop ?_)
                refine lW (pc1 o2 (fun v73 => [(1, .d (sP (kR f_api_Lattice) a0)), (4, .d (kS.sig y55)), (27, .d ((kL kS).sig a0.Names)), (28, .d ((kI .i64).sig (a0.Names.length : Int))), (29, .d ((kI .i64).sig v53)), (51, .d ((kL kS).sig (lCut a0.Names 0 v53))), (52, .d ((kI .i64).sig ((lCut a0.Names 0 v53).length : Int))), (53, .d ((kI .i64).sig v73))]) (fun v73 => []) (reticentref01_may.l3.partial_correctness a0 v53 y55) ?_ _ h) ⟨rfl, rfl, rfl, rfl, rfl, rfl, rfl, rfl, trivial⟩ rfl
                clear h
                intro f' ih v73 h
                refine wSeq ?_
                refine rg (cp (oLt rfl tm tm) (s2 rfl rfl) <| .nil) (by kernel_rfl) ?_
                refine pSeq ?_
                refine wSeq ?_
                rcases ic h with ⟨hp74, h⟩ | ⟨hp74, h⟩
                · refine wCT hp74 tm (s1 rfl) ?_
                  refine wSkip ?_
                  refine pSeq ?_
                  refine wSeq ?_
                  refine wBlock ?_
                  refine wSeq ?_
                  obtain ⟨y75, hy75, h⟩ := bd h
                  refine rg (cp (oIdx u39 z9 hy75 tm tm) (s2 rfl rfl) <| cp (oLd t9 tm) (s1 rfl) <| cp (oAs tm) (s1 rfl) <| .nil) (by kernel_rfl) ?_
                  refine pSeq ?_
                  refine wSeq ?_
                  refine rg (cp (oMv tm) (s1 rfl) <| cp (oMv tm) (s1 rfl) <| cp (oSEq rfl tm tm) (s2 rfl rfl) <| .nil) (by kernel_rfl) ?_
                  refine pSeq ?_
                  rcases ic h with ⟨hp76, h⟩ | ⟨hp76, h⟩
                  · refine wCT hp76 tm (s1 rfl) ?_
                    refine wSeq ?_
                    refine rg (cp (oAs cB) trivial <| .nil) (by kernel_rfl) ?_
                    refine pSeq ?_
                    refine wRet ?_
                    refine pBlkR ?_
                    refine pThenR ?_
                    refine pThenR ?_
                    refine pBlkR ?_
                    refine pThenR ?_
                    obtain rfl := so h
                    replace h := hk2
                    refine pBlkR ?_
                    refine pThenR ?_
                    refine pThenR ?_
                    refine pBlkR ?_
                    refine pThenR ?_
                    obtain rfl := so h
                    replace h := hk1
                    refine pThenR ?_
                    obtain rfl := so h
                    exact pR1 (.inl rfl) rfl (.tmp rfl <| .nil)
                  · refine wCF hp76 tm (s1 rfl) ?_
                    refine wSkip ?_
                    refine pBlkN ?_
                    refine pSeq ?_
                    refine rg (cp (oAdd tm (cI (by decide))) (s1 rfl) <| cp (oMv tm) (s1 rfl) <| .nil) (by kernel_rfl) ?_
                    exact pLoop (lW (ih _ h) ⟨rfl, rfl, rfl, rfl, rfl, rfl, rfl, rfl, trivial⟩ rfl)
                · refine wCF hp74 tm (s1 rfl) ?_
                  refine wExit ?_
                  refine pThenX ?_
                  refine pThenX ?_
                  refine pBlkX ?_
                  exact pJ0 (so h) ⟨rfl, rfl, rfl, rfl, trivial⟩ rfl
              · rintro rfl
                replace h := hk2
                refine pBlkN ?_
                refine pSeq ?_
                refine rg (cp (oAdd tm (cI (by decide))) (s1 rfl) <| cp (oMv tm) (s1 rfl) <| .nil) (by kernel_rfl) ?_
                exact pLoop (lW (ih _ h) ⟨rfl, rfl, rfl, rfl, trivial⟩ rfl)
        · refine wCF hp54 tm (s1 rfl) ?_
          refine wExit ?_
          refine pThenX ?_
          refine pThenX ?_
          refine pBlkX ?_
          exact pJ0 (so h) trivial rfl
      · rintro rfl
        replace h := hk1
        refine pSeq ?_
        refine wSeq ?_
        refine rg (cp (oAs cB) trivial <| .nil) (by kernel_rfl) ?_
        refine pSeq ?_
        refine wRet ?_
        obtain rfl := so h
        exact pR1 (.inl rfl) rfl (.tmp rfl <| .nil)

theorem reticentref01_Flows.ok {a0 : api_Lattice} {a1 : Int} {a2 : Int} {r : Bool} (h : reticentref01_Flows.f a0 a1 a2 = some r) : FnA Try.prog 34 [(kR f_api_Lattice).sig a0, (kI .i64).sig a1, (kI .i64).sig a2] (kB.sig r) := by
  refine fnIntro Try.func34 rfl (by kernel_rfl) fun H0 w0 => ?_
  unfold reticentref01_Flows.f at h
  refine wSeq ?_
  refine rg (cp (oBox tm) (s1 rfl) <| cp (oAs cB) trivial <| .nil) (by kernel_rfl) ?_
  refine pSeq ?_
  refine wSeq ?_
  obtain ⟨y1, hy1, h⟩ := bd h
  refine rg (cp (oFld (fs := f_api_Lattice) (k := 1) rfl o42_1 tm) (s1 rfl) <| cp (oLd t40 tm) (s1 rfl) <| cp (oMv tm) (s1 rfl) <| cp (oIdx u40 z64 hy1 tm tm) (s2 rfl rfl) <| cp (oLd t64 tm) (s1 rfl) <| cp (oAs tm) (s1 rfl) <| .nil) (by kernel_rfl) ?_
  refine pSeq ?_
  refine wSeq ?_
  refine wSeq ?_
  refine rg (cp (oAs (cI (by decide))) trivial <| .nil) (by kernel_rfl) ?_
  refine pSeq ?_
  obtain ⟨o1, h, hk1⟩ := bd h
  refine wK1 (fun x6 => x6 = o1) (fun x6 => [(7, .d ((kI .u32).sig x6))]) (fun x6 => []) ?_ ?_
  · refine wBlock (wLoop ?_)
    refine lW (pc2 o1 (fun v4 v5 => [(2, .d ((kI .i64).sig a2)), (7, .d ((kI .u32).sig v4)), (8, .d ((kI .i64).sig v5))]) (fun v4 v5 => []) (reticentref01_Flows.l0.partial_correctness a2) ?_ _ _ h) ⟨rfl, rfl, rfl, trivial⟩ rfl
    clear h
    intro f' ih v4 v5 h
    refine wSeq ?_
    refine wSeq ?_
    refine rg (cp (oMv tm) (s1 rfl) <| cp (oMv tm) (s1 rfl) <| cp (oLt rfl tm tm) (s2 rfl rfl) <| .nil) (by kernel_rfl) ?_
    refine pSeq ?_
    rcases ic h with ⟨hp7, h⟩ | ⟨hp7, h⟩
    · refine wCT hp7 tm (s1 rfl) ?_
      refine wSkip ?_
      refine pSeq ?_
      refine wSeq ?_
      refine wBlock ?_
      refine rg (cp (oMv tm) (s1 rfl) <| cp (oQuo (by decide) tm (cI (by decide))) (s1 rfl) <| cp (oAs tm) (s1 rfl) <| .nil) (by kernel_rfl) ?_
      refine pBlkN ?_
      refine pSeq ?_
      refine rg (cp (oMv tm) (s1 rfl) <| cp (oAdd tm (cI (by decide))) (s1 rfl) <| cp (oAs tm) (s1 rfl) <| .nil) (by kernel_rfl) ?_
      exact pLoop (lW (ih _ _ h) ⟨rfl, rfl, rfl, trivial⟩ rfl)
    · refine wCF hp7 tm (s1 rfl) ?_
      refine wExit ?_
      refine pThenX ?_
      refine pThenX ?_
      refine pBlkX ?_
      exact pJ1 _ (so h) ⟨rfl, trivial⟩ rfl
  · rintro x6 rfl
    replace h := hk1
    refine pSeq ?_
    refine wSeq ?_
    refine rg (cp (oMv tm) (s1 rfl) <| cp (oRem (by decide) tm (cI (by decide))) (s1 rfl) <| cp (oEq rfl tm (cI (by decide))) (s1 rfl) <| cp (oAs tm) (s1 rfl) <| .nil) (by kernel_rfl) ?_
    refine pSeq ?_
    refine wRet ?_
    obtain rfl := so h
    exact pR1 (.inl rfl) rfl (.tmp rfl <| .nil)

end Go.Proofs.Ythpmbokenhpakaa.LE
