import Derived.Test.YthpmbokenhpakaaDLA
import Derived.Test.YthpmbokenhpakaaProg
set_option linter.unusedVariables false
set_option maxRecDepth 10000
namespace Go.Proofs.Ythpmbokenhpakaa.LA
open Go Go.Proofs.Ythpmbokenhpakaa.Ab

theorem hm : Try.prog.follows .mixedOrders = true := by kernel_rfl
theorem zL : ∀ {α : Type} {d : Kd α} (H : FH), (kL d).reps H [.slice none 0 0] [] := fun _ => ⟨none, 0, rfl, Nat.le_refl _, by omega, by simp [big], .inl rfl⟩
theorem ze42 : zeroIs Try.prog 42 [(.slice none 0 0), (.slice none 0 0)] := by unfold zeroIs; kernel_rfl
theorem o42_1 : fofs Try.prog 42 1 = some 1 := by kernel_rfl
theorem t40 : tinf Try.prog 40 = some (false, 1) := by kernel_rfl
theorem u40 : Try.prog.underlying 40 = some (.slice 64) := by kernel_rfl
theorem z64 : sizeIs Try.prog 64 1 := by unfold sizeIs; kernel_rfl
theorem pl42 : places Try.prog 42 = some [(0, 1), (1, 1)] := by kernel_rfl
theorem po42_0 : ∀ q f, f_api_Lattice_n0[q]? = some f → ([(0, 1), (1, 1)] : List (Nat × Nat))[q]? = some (offF f_api_Lattice_n0 q, f.d.sz) := fun q f h => by
  unfold f_api_Lattice_n0 at h
  match q, h with
  | 0, h => cases h; rfl
  | 1, h => cases h; rfl
  | n + 2, h => simp at h
theorem z42 : sizeIs Try.prog 42 2 := by unfold sizeIs; kernel_rfl
theorem o42_0 : fofs Try.prog 42 0 = some 0 := by kernel_rfl
theorem t39 : tinf Try.prog 39 = some (false, 1) := by kernel_rfl
theorem u39 : Try.prog.underlying 39 = some (.slice 9) := by kernel_rfl
theorem z9 : sizeIs Try.prog 9 1 := by unfold sizeIs; kernel_rfl
theorem t9 : tinf Try.prog 9 = some (false, 1) := by kernel_rfl
theorem u9 : Try.prog.underlying 9 = some (.string) := by kernel_rfl
theorem el39 : ElTy Try.prog 39 9 1 16 := ⟨by kernel_rfl, by kernel_rfl⟩
theorem z39 : sizeIs Try.prog 39 1 := by unfold sizeIs; kernel_rfl
theorem t42 : tinf Try.prog 42 = some (true, 2) := by kernel_rfl
theorem b128 : bodied Try.prog 128 := by unfold bodied; kernel_rfl
theorem b106 : bodied Try.prog 106 := by unfold bodied; kernel_rfl
theorem b107 : bodied Try.prog 107 := by unfold bodied; kernel_rfl
theorem t64 : tinf Try.prog 64 = some (false, 1) := by kernel_rfl
theorem t3 : tinf Try.prog 3 = some (false, 1) := by kernel_rfl
theorem zB : ∀ H, kB.reps H [.bool false] false := fun _ => rfl
theorem ze4 : zeroIs Try.prog 4 [(.bool false)] := by unfold zeroIs; kernel_rfl
theorem b82 : bodied Try.prog 82 := by unfold bodied; kernel_rfl
theorem b70 : bodied Try.prog 70 := by unfold bodied; kernel_rfl
theorem z4 : sizeIs Try.prog 4 1 := by unfold sizeIs; kernel_rfl
theorem t4 : tinf Try.prog 4 = some (false, 1) := by kernel_rfl
theorem b108 : bodied Try.prog 108 := by unfold bodied; kernel_rfl
theorem zI_u32 : ∀ H, (kI .u32).reps H [.int .u32 0] 0 := fun _ => ⟨rfl, by decide⟩
theorem ze64 : zeroIs Try.prog 64 [(.int .u32 0)] := by unfold zeroIs; kernel_rfl
theorem b102 : bodied Try.prog 102 := by unfold bodied; kernel_rfl
theorem b77 : bodied Try.prog 77 := by unfold bodied; kernel_rfl
theorem b103 : bodied Try.prog 103 := by unfold bodied; kernel_rfl
theorem zI_i64 : ∀ H, (kI .i64).reps H [.int .i64 0] 0 := fun _ => ⟨rfl, by decide⟩
theorem ze23 : zeroIs Try.prog 23 [(.int .i64 0)] := by unfold zeroIs; kernel_rfl
theorem b80 : bodied Try.prog 80 := by unfold bodied; kernel_rfl
theorem z23 : sizeIs Try.prog 23 1 := by unfold sizeIs; kernel_rfl
theorem t23 : tinf Try.prog 23 = some (false, 1) := by kernel_rfl
theorem b81 : bodied Try.prog 81 := by unfold bodied; kernel_rfl
theorem b71 : bodied Try.prog 71 := by unfold bodied; kernel_rfl
theorem b72 : bodied Try.prog 72 := by unfold bodied; kernel_rfl
theorem u22 : Try.prog.underlying 22 = some (.slice 3) := by kernel_rfl
theorem z3 : sizeIs Try.prog 3 1 := by unfold sizeIs; kernel_rfl
theorem b127 : bodied Try.prog 127 := by unfold bodied; kernel_rfl
theorem b39 : bodied Try.prog 39 := by unfold bodied; kernel_rfl
theorem b101 : bodied Try.prog 101 := by unfold bodied; kernel_rfl
theorem b100 : bodied Try.prog 100 := by unfold bodied; kernel_rfl
theorem el22 : ElTy Try.prog 22 3 1 8 := ⟨by kernel_rfl, by kernel_rfl⟩
theorem b69 : bodied Try.prog 69 := by unfold bodied; kernel_rfl
theorem b73 : bodied Try.prog 73 := by unfold bodied; kernel_rfl
theorem b104 : bodied Try.prog 104 := by unfold bodied; kernel_rfl
theorem b105 : bodied Try.prog 105 := by unfold bodied; kernel_rfl
theorem b34 : bodied Try.prog 34 := by unfold bodied; kernel_rfl
theorem b74 : bodied Try.prog 74 := by unfold bodied; kernel_rfl
theorem b75 : bodied Try.prog 75 := by unfold bodied; kernel_rfl
theorem b35 : bodied Try.prog 35 := by unfold bodied; kernel_rfl
theorem b36 : bodied Try.prog 36 := by unfold bodied; kernel_rfl
theorem el40 : ElTy Try.prog 40 64 1 4 := ⟨by kernel_rfl, by kernel_rfl⟩
theorem po42 : ∀ q f, f_api_Lattice[q]? = some f → ([(0, 1), (1, 1)] : List (Nat × Nat))[q]? = some (offF f_api_Lattice q, f.d.sz) := fun q f h => by
  unfold f_api_Lattice at h
  match q, h with
  | 0, h => cases h; rfl
  | 1, h => cases h; rfl
  | n + 2, h => simp at h
theorem b27 : bodied Try.prog 27 := by unfold bodied; kernel_rfl
theorem b29 : bodied Try.prog 29 := by unfold bodied; kernel_rfl
theorem b33 : bodied Try.prog 33 := by unfold bodied; kernel_rfl
theorem b25 : bodied Try.prog 25 := by unfold bodied; kernel_rfl
theorem b26 : bodied Try.prog 26 := by unfold bodied; kernel_rfl
theorem b28 : bodied Try.prog 28 := by unfold bodied; kernel_rfl
theorem b30 : bodied Try.prog 30 := by unfold bodied; kernel_rfl
theorem b31 : bodied Try.prog 31 := by unfold bodied; kernel_rfl
theorem b32 : bodied Try.prog 32 := by unfold bodied; kernel_rfl
theorem u4 : Try.prog.underlying 4 = some (.bool) := by kernel_rfl
theorem b76 : bodied Try.prog 76 := by unfold bodied; kernel_rfl
theorem u5 : Try.prog.underlying 5 = some (.int .u8) := by kernel_rfl
theorem u3 : Try.prog.underlying 3 = some (.int .i64) := by kernel_rfl
theorem b79 : bodied Try.prog 79 := by unfold bodied; kernel_rfl
theorem b78 : bodied Try.prog 78 := by unfold bodied; kernel_rfl
theorem b37 : bodied Try.prog 37 := by unfold bodied; kernel_rfl
theorem b38 : bodied Try.prog 38 := by unfold bodied; kernel_rfl
theorem b40 : bodied Try.prog 40 := by unfold bodied; kernel_rfl
theorem b41 : bodied Try.prog 41 := by unfold bodied; kernel_rfl
theorem b42 : bodied Try.prog 42 := by unfold bodied; kernel_rfl
theorem b43 : bodied Try.prog 43 := by unfold bodied; kernel_rfl

theorem reticentlaw01_few.ok {a0 : api_Lattice} {r : api_Lattice} (h : reticentlaw01_few.f a0 = some r) : FnA Try.prog 25 [(kR f_api_Lattice).sig a0] ((kR f_api_Lattice).sig r) := by
  refine fnIntro Try.func25 rfl (by kernel_rfl) fun H0 w0 => ?_
  unfold reticentlaw01_few.f at h
  refine wSeq ?_
  refine rg (cp (oBox tm) (s1 rfl) <| cw (oAlloc (id := 2) (ls := [.d (kN Str) [], .d (kL (kI .u32)) []]) ze42 (fun g => ⟨[(.slice none 0 0)], _, rfl, zN g.H, ⟨[(.slice none 0 0)], _, rfl, zL g.H, rfl⟩⟩)) trivial <| .nil) (by kernel_rfl) ?_
  refine pSeq ?_
  refine wSeq ?_
  obtain ⟨hc1, h⟩ := ib h
  refine rg (cp (oFld (fs := f_api_Lattice) (k := 1) rfl o42_1 tm) (s1 rfl) <| cp (oLd t40 tm) (s1 rfl) <| cp (oFld (fs := f_api_Lattice) (k := 1) rfl o42_1 tm) (s1 rfl) <| cp (oLd t40 tm) (s1 rfl) <| cp (oLenL u40 tm) (s1 rfl) <| cp (oMin tm (cI (by decide))) (s1 rfl) <| cp (oCutHi u40 z64 hc1.1 hc1.2 tm tm) (s2 rfl rfl) <| cp (oBuild (fs := f_api_Lattice_n0) (u := ⟨[], lCut a0.Up 0 (if 10 < (a0.Up.length : Int) then 10 else (a0.Up.length : Int))⟩) rfl ze42 pl42 po42_0 (.ze (zc := [(.slice none 0 0)]) zN (.op (zc := [(.slice none 0 0)]) tm rfl .nil))) (s1 rfl) <| cw (oAlloc (id := 3) (ls := [.d (kN Str) [], .d (kL (kI .u32)) []]) ze42 (fun g => ⟨[(.slice none 0 0)], _, rfl, zN g.H, ⟨[(.slice none 0 0)], _, rfl, zL g.H, rfl⟩⟩)) trivial <| cwn (oStA (n := 0) (fs := f_api_Lattice_n0) rfl rfl z42 tm tm) (s2 rfl rfl) <| .nil) (by kernel_rfl) ?_
  refine pSeq ?_
  refine wSeq ?_
  refine wSeq ?_
  obtain ⟨hc2, h⟩ := ib h
  refine rg (cp (oFld (fs := f_api_Lattice) (k := 0) rfl o42_0 tm) (s1 rfl) <| cp (oLd t39 tm) (s1 rfl) <| cp (oFld (fs := f_api_Lattice) (k := 0) rfl o42_0 tm) (s1 rfl) <| cp (oLd t39 tm) (s1 rfl) <| cp (oLenL u39 tm) (s1 rfl) <| cp (oMin tm (cI (by decide))) (s1 rfl) <| cp (oCutHi u39 z9 hc2.1 hc2.2 tm tm) (s2 rfl rfl) <| cp (oLenL u39 tm) (s1 rfl) <| cp (oMv (cI (by decide))) trivial <| .nil) (by kernel_rfl) ?_
  refine pSeq ?_
  refine wNilL kS 9 5150 (n := 0) (k := 0) rfl rfl rfl ?_
  obtain ⟨o1, h, hk1⟩ := bd h
  refine wK1 (fun x13 => x13 = o1) (fun x13 => [(2, .p 2 0), (3, .p 3 0)]) (fun x13 => [.row 5150 9 kS x13, .box 3 42 [.v 5150, .d (kL (kI .u32)) ((⟨[], lCut a0.Up 0 (if 10 < (a0.Up.length : Int) then 10 else (a0.Up.length : Int))⟩ : api_Lattice).Up)], .box 2 42 [.d (kN Str) [], .d (kL (kI .u32)) []]]) ?_ ?_
  · refine wBlock (wLoop ?_)
    refine lW (pc2 o1 (fun v11 v12 => [(2, .p 2 0), (3, .p 3 0), (20, .d ((kL kS).sig (lCut a0.Names 0 (if 10 < (a0.Names.length : Int) then 10 else (a0.Names.length : Int))))), (21, .d ((kI .i64).sig ((lCut a0.Names 0 (if 10 < (a0.Names.length : Int) then 10 else (a0.Names.length : Int))).length : Int))), (22, .d ((kI .i64).sig v12))]) (fun v11 v12 => [.row 5150 9 kS v11, .box 3 42 [.v 5150, .d (kL (kI .u32)) ((⟨[], lCut a0.Up 0 (if 10 < (a0.Up.length : Int) then 10 else (a0.Up.length : Int))⟩ : api_Lattice).Up)], .box 2 42 [.d (kN Str) [], .d (kL (kI .u32)) []]]) (reticentlaw01_few.l0.partial_correctness a0) ?_ _ _ h) ⟨rfl, rfl, rfl, rfl, rfl, trivial⟩ rfl
    clear h
    intro f' ih v11 v12 h
    refine wSeq ?_
    refine rg (cp (oLt rfl tm tm) (s2 rfl rfl) <| .nil) (by kernel_rfl) ?_
    refine pSeq ?_
    refine wSeq ?_
    rcases ic h with ⟨hp14, h⟩ | ⟨hp14, h⟩
    · refine wCT hp14 tm (s1 rfl) ?_
      refine wSkip ?_
      refine pSeq ?_
      refine wSeq ?_
      refine wBlock ?_
      refine wSeq ?_
      obtain ⟨y15, hy15, h⟩ := bd h
      refine rg (cp (oIdx u39 z9 hy15 tm tm) (s2 rfl rfl) <| cp (oLd t9 tm) (s1 rfl) <| cp (oAs tm) (s1 rfl) <| .nil) (by kernel_rfl) ?_
      refine pSeq ?_
      obtain ⟨hc16, h⟩ := ib h
      obtain ⟨hc17, h⟩ := ib h
      refine rgD hm (cp (oFldP o42_0 tm) (s1 rfl) <| cr (oLdN (n := 1) (k := 0) rfl rfl rfl t39 tm) (s1 rfl) <| cp (oMv tm) (s1 rfl) <| cp (oMv tm) (s1 rfl) <| cp (oLenS u9 tm) (s1 rfl) <| cp (oMin tm (cI (by decide))) (s1 rfl) <| cp (oCutSH u9 hc16.1 hc16.2 tm tm) (s2 rfl rfl) <| cp (oLit (d := kS) el39 (by decide) rfl rfl rfl (e1 tm e0)) (s1 rfl) <| cw (oApp (n := 0) (id' := 34) el39 (by decide) rfl (by decide) hc17 tm tm) (s2 rfl rfl) <| cp (oFldP o42_0 tm) (s1 rfl) <| cwn (oStN (n := 1) (m := 0) (k := 0) rfl rfl rfl rfl z39 rfl tm tm) (s2 rfl rfl) <| .nil) (by kernel_rfl) (by kernel_rfl) ?_
      refine pBlkN ?_
      refine pSeq ?_
      refine rg (cp (oAdd tm (cI (by decide))) (s1 rfl) <| cp (oMv tm) (s1 rfl) <| .nil) (by kernel_rfl) ?_
      refine pSub (Γ' := [(2, .p 2 0), (3, .p 3 0), (20, .d ((kL kS).sig (lCut a0.Names 0 (if 10 < (a0.Names.length : Int) then 10 else (a0.Names.length : Int))))), (21, .d ((kI .i64).sig ((lCut a0.Names 0 (if 10 < (a0.Names.length : Int) then 10 else (a0.Names.length : Int))).length : Int))), (22, .d ((kI .i64).sig (IntKind.i64.wrap (v12 + 1))))]) ⟨rfl, rfl, rfl, rfl, rfl, trivial⟩ ?_
      refine pRen 34 5150 rfl ?_
      exact pLoop (lW (ih _ _ h) ⟨rfl, rfl, rfl, rfl, rfl, trivial⟩ rfl)
    · refine wCF hp14 tm (s1 rfl) ?_
      refine wExit ?_
      refine pThenX ?_
      refine pThenX ?_
      refine pBlkX ?_
      exact pJ1 _ (so h) ⟨rfl, rfl, trivial⟩ rfl
  · rintro x13 rfl
    replace h := hk1
    refine pSeq ?_
    refine wSeq ?_
    refine wFrzR (n := 0) (id := 5150) [] rfl rfl trivial ?_
    refine rg (cr (oLdA (n := 0) (fs := f_api_Lattice) (u := ⟨x13, (⟨[], lCut a0.Up 0 (if 10 < (a0.Up.length : Int) then 10 else (a0.Up.length : Int))⟩ : api_Lattice).Up⟩) rfl ⟨rfl, rfl, trivial⟩ t42 tm) (s1 rfl) <| cwn (oStA (n := 1) (fs := f_api_Lattice) rfl rfl z42 tm tm) (s2 rfl rfl) <| .nil) (by kernel_rfl) ?_
    refine pSeq ?_
    refine wRet ?_
    obtain rfl := so h
    exact pR1 (.inl rfl) rfl (.box (n := 1) (fs := f_api_Lattice) (u := ⟨(⟨x13, (⟨[], lCut a0.Up 0 (if 10 < (a0.Up.length : Int) then 10 else (a0.Up.length : Int))⟩ : api_Lattice).Up⟩ : api_Lattice).Names, (⟨x13, (⟨[], lCut a0.Up 0 (if 10 < (a0.Up.length : Int) then 10 else (a0.Up.length : Int))⟩ : api_Lattice).Up⟩ : api_Lattice).Up⟩) rfl rfl ⟨rfl, rfl, trivial⟩ t42 <| .nil)

theorem lattice_name.ok {a0 : Str} {r : Bool} (h : lattice_name.f a0 = some r) : FnA Try.prog 106 [kS.sig a0] (kB.sig r) := by
  refine fnIntro Try.func106 rfl (by kernel_rfl) fun H0 w0 => ?_
  unfold lattice_name.f at h
  refine wSeq ?_
  refine rg (cp (oAs cB) trivial <| .nil) (by kernel_rfl) ?_
  refine pSeq ?_
  refine wSeq ?_
  refine wSeq ?_
  refine rg (cp (oMv tm) (s1 rfl) <| cp (oLenS u9 tm) (s1 rfl) <| cp (oMv (cI (by decide))) trivial <| .nil) (by kernel_rfl) ?_
  refine pSeq ?_
  obtain ⟨o1, h, hk1⟩ := bd h
  refine wK0 (.inr () = o1) ([(0, .d (kS.sig a0))]) ([]) ?_ ?_
  · refine wBlock (wLoop ?_)
    refine lW (pc1 o1 (fun v19 => [(0, .d (kS.sig a0)), (5, .d ((kI .i64).sig (a0.length : Int))), (6, .d ((kI .i64).sig v19))]) (fun v19 => []) (lattice_name.l0.partial_correctness a0) ?_ _ h) ⟨rfl, rfl, rfl, trivial⟩ rfl
    clear h
    intro f' ih v19 h
    refine wSeq ?_
    refine rg (cp (oLt rfl tm tm) (s2 rfl rfl) <| .nil) (by kernel_rfl) ?_
    refine pSeq ?_
    refine wSeq ?_
    rcases ic h with ⟨hp20, h⟩ | ⟨hp20, h⟩
    · refine wCT hp20 tm (s1 rfl) ?_
      refine wSkip ?_
      refine pSeq ?_
      refine wSeq ?_
      refine wBlock ?_
      refine wSeq ?_
      refine rg (cp (oMv tm) (s1 rfl) <| cp (oAs tm) (s1 rfl) <| .nil) (by kernel_rfl) ?_
      refine pSeq ?_
      obtain ⟨o2, h, hk2⟩ := bd h
      refine wJ1 (fun x24 => x24 = o2) (fun x24 => [(0, .d (kS.sig a0)), (5, .d ((kI .i64).sig (a0.length : Int))), (6, .d ((kI .i64).sig v19)), (18, .d (kB.sig x24))]) (fun x24 => []) ?_ ?_
      · obtain ⟨hc25, h⟩ := ib h
        rcases ic h with ⟨hp26, h⟩ | ⟨hp26, h⟩
        · refine rg (cp (oMv tm) (s1 rfl) <| cp (oMv tm) (s1 rfl) <| cp (oIdxS u9 hc25.1 hc25.2 tm tm) (s2 rfl rfl) <| cp (oLt rfl tm (cI (by decide))) (s1 rfl) <| cp (oMv tm) (s1 rfl) <| csB (decide_eq_true hp26) rfl rfl <| csB (decide_eq_true hp26) rfl rfl <| csB (decide_eq_true hp26) rfl rfl <| csB (decide_eq_true hp26) rfl rfl <| cp (oPkT (decide_eq_true hp26) tm cB) (s1 rfl) <| .nil) (by kernel_rfl) ?_
          exact pJ1 _ (so h) ⟨rfl, rfl, rfl, rfl, trivial⟩ rfl
        · obtain ⟨hc27, h⟩ := ib h
          refine rg (cp (oMv tm) (s1 rfl) <| cp (oMv tm) (s1 rfl) <| cp (oIdxS u9 hc25.1 hc25.2 tm tm) (s2 rfl rfl) <| cp (oLt rfl tm (cI (by decide))) (s1 rfl) <| cp (oMv tm) (s1 rfl) <| cgB (decide_eq_false hp26) rfl rfl (oMv tm) (s1 rfl) <| cgB (decide_eq_false hp26) rfl rfl (oMv tm) (s1 rfl) <| cgB (decide_eq_false hp26) rfl rfl (oIdxS u9 hc27.1 hc27.2 tm tm) (s2 rfl rfl) <| cgB (decide_eq_false hp26) rfl rfl (oGt rfl tm (cI (by decide))) (s1 rfl) <| cp (oPkF (decide_eq_false hp26) tm tm) (s2 rfl rfl) <| .nil) (by kernel_rfl) ?_
          exact pJ1 _ (so h) ⟨rfl, rfl, rfl, rfl, trivial⟩ rfl
      · rintro x24 rfl
        replace h := hk2
        rcases ic h with ⟨hp28, h⟩ | ⟨hp28, h⟩
        · refine wBT hp28 tm (s1 rfl) ?_
          refine wSeq ?_
          refine rg (cp (oAs cB) trivial <| .nil) (by kernel_rfl) ?_
          refine pSeq ?_
          refine wRet ?_
          refine pBlkR ?_
          refine pThenR ?_
          refine pThenR ?_
          refine pBlkR ?_
          refine pThenR ?_
          obtain rfl := so h
          replace h := hk1
          refine pThenR ?_
          obtain rfl := so h
          exact pR1 (.inl rfl) rfl (.tmp rfl <| .nil)
        · refine wBF hp28 tm (s1 rfl) ?_
          refine wSkip ?_
          refine pBlkN ?_
          refine pSeq ?_
          refine rg (cp (oAdd tm (cI (by decide))) (s1 rfl) <| cp (oMv tm) (s1 rfl) <| .nil) (by kernel_rfl) ?_
          exact pLoop (lW (ih _ h) ⟨rfl, rfl, rfl, trivial⟩ rfl)
    · refine wCF hp20 tm (s1 rfl) ?_
      refine wExit ?_
      refine pThenX ?_
      refine pThenX ?_
      refine pBlkX ?_
      exact pJ0 (so h) ⟨rfl, trivial⟩ rfl
  · rintro rfl
    replace h := hk1
    refine pSeq ?_
    obtain ⟨o1, h, hk1⟩ := bd h
    refine wJ1 (fun x30 => x30 = o1) (fun x30 => [(2, .d (kB.sig x30))]) (fun x30 => []) ?_ ?_
    · rcases ic h with ⟨hp31, h⟩ | ⟨hp31, h⟩
      · refine rg (cp (oMv tm) (s1 rfl) <| cp (oSNe rfl tm (cS (by decide))) (s1 rfl) <| cp (oMv tm) (s1 rfl) <| csB (nf hp31) rfl rfl <| csB (nf hp31) rfl rfl <| csB (nf hp31) rfl rfl <| cp (oPkF (nf hp31) tm cB) (s1 rfl) <| cp (oAs tm) (s1 rfl) <| .nil) (by kernel_rfl) ?_
        exact pJ1 _ (so h) ⟨rfl, trivial⟩ rfl
      · refine rg (cp (oMv tm) (s1 rfl) <| cp (oSNe rfl tm (cS (by decide))) (s1 rfl) <| cp (oMv tm) (s1 rfl) <| cgB (nt hp31) rfl rfl (oMv tm) (s1 rfl) <| cgB (nt hp31) rfl rfl (oLenS u9 tm) (s1 rfl) <| cgB (nt hp31) rfl rfl (oLe rfl tm (cI (by decide))) (s1 rfl) <| cp (oPkT (nt hp31) tm tm) (s2 rfl rfl) <| cp (oAs tm) (s1 rfl) <| .nil) (by kernel_rfl) ?_
        exact pJ1 _ (so h) ⟨rfl, trivial⟩ rfl
    · rintro x30 rfl
      replace h := hk1
      refine wRet ?_
      obtain rfl := so h
      exact pR1 (.inl rfl) rfl (.tmp rfl <| .nil)

theorem slices_Index_string_string.ok {a0 : List Str} {a1 : Str} {r : Int} (h : slices_Index_string_string.f a0 a1 = some r) : FnA Try.prog 128 [(kL kS).sig a0, kS.sig a1] ((kI .i64).sig r) := by
  refine fnIntro Try.func128 rfl (by kernel_rfl) fun H0 w0 => ?_
  unfold slices_Index_string_string.f at h
  refine wSeq ?_
  refine rg (cp (oAs (cI (by decide))) trivial <| .nil) (by kernel_rfl) ?_
  refine pSeq ?_
  refine wSeq ?_
  refine wSeq ?_
  refine rg (cp (oMv tm) (s1 rfl) <| cp (oLenL u39 tm) (s1 rfl) <| cp (oMv (cI (by decide))) trivial <| .nil) (by kernel_rfl) ?_
  refine pSeq ?_
  obtain ⟨o1, h, hk1⟩ := bd h
  refine wK0 (.inr () = o1) ([]) ([]) ?_ ?_
  · refine wBlock (wLoop ?_)
    refine lW (pc1 o1 (fun v7 => [(0, .d ((kL kS).sig a0)), (1, .d (kS.sig a1)), (7, .d ((kI .i64).sig (a0.length : Int))), (8, .d ((kI .i64).sig v7))]) (fun v7 => []) (slices_Index_string_string.l0.partial_correctness a0 a1) ?_ _ h) ⟨rfl, rfl, rfl, rfl, trivial⟩ rfl
    clear h
    intro f' ih v7 h
    refine wSeq ?_
    refine rg (cp (oLt rfl tm tm) (s2 rfl rfl) <| .nil) (by kernel_rfl) ?_
    refine pSeq ?_
    refine wSeq ?_
    rcases ic h with ⟨hp8, h⟩ | ⟨hp8, h⟩
    · refine wCT hp8 tm (s1 rfl) ?_
      refine wSkip ?_
      refine pSeq ?_
      refine wSeq ?_
      refine wBlock ?_
      refine wSeq ?_
      refine rg (cp (oMv tm) (s1 rfl) <| cp (oAs tm) (s1 rfl) <| .nil) (by kernel_rfl) ?_
      refine pSeq ?_
      refine wSeq ?_
      obtain ⟨y9, hy9, h⟩ := bd h
      refine rg (cp (oMv tm) (s1 rfl) <| cp (oMv tm) (s1 rfl) <| cp (oMv tm) (s1 rfl) <| cp (oIdx u39 z9 hy9 tm tm) (s2 rfl rfl) <| cp (oLd t9 tm) (s1 rfl) <| cp (oSEq rfl tm tm) (s2 rfl rfl) <| .nil) (by kernel_rfl) ?_
      refine pSeq ?_
      rcases ic h with ⟨hp10, h⟩ | ⟨hp10, h⟩
      · refine wCT hp10 tm (s1 rfl) ?_
        refine wSeq ?_
        refine rg (cp (oMv tm) (s1 rfl) <| cp (oAs tm) (s1 rfl) <| .nil) (by kernel_rfl) ?_
        refine pSeq ?_
        refine wRet ?_
        refine pBlkR ?_
        refine pThenR ?_
        refine pThenR ?_
        refine pBlkR ?_
        refine pThenR ?_
        obtain rfl := so h
        replace h := hk1
        refine pThenR ?_
        obtain rfl := so h
        exact pR1 (.inl rfl) rfl (.tmp rfl <| .nil)
      · refine wCF hp10 tm (s1 rfl) ?_
        refine wSkip ?_
        refine pBlkN ?_
        refine pSeq ?_
        refine rg (cp (oAdd tm (cI (by decide))) (s1 rfl) <| cp (oMv tm) (s1 rfl) <| .nil) (by kernel_rfl) ?_
        exact pLoop (lW (ih _ h) ⟨rfl, rfl, rfl, rfl, trivial⟩ rfl)
    · refine wCF hp8 tm (s1 rfl) ?_
      refine wExit ?_
      refine pThenX ?_
      refine pThenX ?_
      refine pBlkX ?_
      exact pJ0 (so h) trivial rfl
  · rintro rfl
    replace h := hk1
    refine pSeq ?_
    refine wSeq ?_
    refine rg (cp (oAs (cI (by decide))) trivial <| .nil) (by kernel_rfl) ?_
    refine pSeq ?_
    refine wRet ?_
    obtain rfl := so h
    exact pR1 (.inl rfl) rfl (.tmp rfl <| .nil)

theorem slices_Contains_string_string.ok {a0 : List Str} {a1 : Str} {r : Bool} (h : slices_Contains_string_string.f a0 a1 = some r) : FnA Try.prog 107 [(kL kS).sig a0, kS.sig a1] (kB.sig r) := by
  refine fnIntro Try.func107 rfl (by kernel_rfl) fun H0 w0 => ?_
  unfold slices_Contains_string_string.f at h
  refine wSeq ?_
  refine rg (cp (oAs cB) trivial <| .nil) (by kernel_rfl) ?_
  refine pSeq ?_
  refine wSeq ?_
  obtain ⟨y1, hy1, h⟩ := bd h
  refine rg (cp (oMv tm) (s1 rfl) <| cp (oMv tm) (s1 rfl) <| cp (oCall rfl (slices_Index_string_string.ok hy1) b128 (opds_cons tm (opds_cons tm opds_nil))) (s2 rfl rfl) <| cp (oGe rfl tm (cI (by decide))) (s1 rfl) <| cp (oAs tm) (s1 rfl) <| .nil) (by kernel_rfl) ?_
  refine pSeq ?_
  refine wRet ?_
  obtain rfl := so h
  exact pR1 (.inl rfl) rfl (.tmp rfl <| .nil)

theorem lattice_may.ok {a0 : api_Lattice} {r : Bool} (h : lattice_may.f a0 = some r) : FnA Try.prog 80 [(kR f_api_Lattice).sig a0] (kB.sig r) := by
  refine fnIntro Try.func80 rfl (by kernel_rfl) fun H0 w0 => ?_
  unfold lattice_may.f at h
  refine wSeq ?_
  refine rg (cp (oBox tm) (s1 rfl) <| cp (oAs cB) trivial <| .nil) (by kernel_rfl) ?_
  refine pSeq ?_
  refine wSeq ?_
  refine rg (cp (oFld (fs := f_api_Lattice) (k := 1) rfl o42_1 tm) (s1 rfl) <| cp (oLd t40 tm) (s1 rfl) <| cp (oLenL u40 tm) (s1 rfl) <| cp (oAs tm) (s1 rfl) <| .nil) (by kernel_rfl) ?_
  refine pSeq ?_
  refine wSeq ?_
  obtain ⟨o1, h, hk1⟩ := bd h
  refine wJ1 (fun x3 => x3 = o1) (fun x3 => [(1, .d (sP (kR f_api_Lattice) a0)), (3, .d ((kI .i64).sig (a0.Up.length : Int))), (21, .d (kB.sig x3))]) (fun x3 => []) ?_ ?_
  · rcases ic h with ⟨hp4, h⟩ | ⟨hp4, h⟩
    · refine rg (cp (oMv tm) (s1 rfl) <| cp (oLt rfl tm (cI (by decide))) (s1 rfl) <| cp (oMv tm) (s1 rfl) <| csB (decide_eq_true hp4) rfl rfl <| csB (decide_eq_true hp4) rfl rfl <| cp (oPkT (decide_eq_true hp4) tm cB) (s1 rfl) <| cp (oMv tm) (s1 rfl) <| csB rfl rfl rfl <| csB rfl rfl rfl <| csB rfl rfl rfl <| csB rfl rfl rfl <| csB rfl rfl rfl <| cp (oPkT rfl tm cB) (s1 rfl) <| .nil) (by kernel_rfl) ?_
      exact pJ1 _ (so h) ⟨rfl, rfl, rfl, trivial⟩ rfl
    · rcases ic h with ⟨hp5, h⟩ | ⟨hp5, h⟩
      · refine rg (cp (oMv tm) (s1 rfl) <| cp (oLt rfl tm (cI (by decide))) (s1 rfl) <| cp (oMv tm) (s1 rfl) <| cgB (decide_eq_false hp4) rfl rfl (oMv tm) (s1 rfl) <| cgB (decide_eq_false hp4) rfl rfl (oGt rfl tm (cI (by decide))) (s1 rfl) <| cp (oPkF (decide_eq_false hp4) tm tm) (s2 rfl rfl) <| cp (oMv tm) (s1 rfl) <| csB (decide_eq_true hp5) rfl rfl <| csB (decide_eq_true hp5) rfl rfl <| csB (decide_eq_true hp5) rfl rfl <| csB (decide_eq_true hp5) rfl rfl <| csB (decide_eq_true hp5) rfl rfl <| cp (oPkT (decide_eq_true hp5) tm cB) (s1 rfl) <| .nil) (by kernel_rfl) ?_
        exact pJ1 _ (so h) ⟨rfl, rfl, rfl, trivial⟩ rfl
      · refine rg (cp (oMv tm) (s1 rfl) <| cp (oLt rfl tm (cI (by decide))) (s1 rfl) <| cp (oMv tm) (s1 rfl) <| cgB (decide_eq_false hp4) rfl rfl (oMv tm) (s1 rfl) <| cgB (decide_eq_false hp4) rfl rfl (oGt rfl tm (cI (by decide))) (s1 rfl) <| cp (oPkF (decide_eq_false hp4) tm tm) (s2 rfl rfl) <| cp (oMv tm) (s1 rfl) <| cgB (decide_eq_false hp5) rfl rfl (oFld (fs := f_api_Lattice) (k := 0) rfl o42_0 tm) (s1 rfl) <| cgB (decide_eq_false hp5) rfl rfl (oLd t39 tm) (s1 rfl) <| cgB (decide_eq_false hp5) rfl rfl (oLenL u39 tm) (s1 rfl) <| cgB (decide_eq_false hp5) rfl rfl (oMv tm) (s1 rfl) <| cgB (decide_eq_false hp5) rfl rfl (oNe rfl tm tm) (s2 rfl rfl) <| cp (oPkF (decide_eq_false hp5) tm tm) (s2 rfl rfl) <| .nil) (by kernel_rfl) ?_
        exact pJ1 _ (so h) ⟨rfl, rfl, rfl, trivial⟩ rfl
  · rintro x3 rfl
    replace h := hk1
    rcases ic h with ⟨hp6, h⟩ | ⟨hp6, h⟩
    · refine wBT hp6 tm (s1 rfl) ?_
      refine wSeq ?_
      refine rg (cp (oAs cB) trivial <| .nil) (by kernel_rfl) ?_
      refine pSeq ?_
      refine wRet ?_
      refine pThenR ?_
      obtain rfl := so h
      exact pR1 (.inl rfl) rfl (.tmp rfl <| .nil)
    · refine wBF hp6 tm (s1 rfl) ?_
      refine wSkip ?_
      refine pSeq ?_
      refine wSeq ?_
      refine wSeq ?_
      refine rg (cp (oFld (fs := f_api_Lattice) (k := 0) rfl o42_0 tm) (s1 rfl) <| cp (oLd t39 tm) (s1 rfl) <| cp (oLenL u39 tm) (s1 rfl) <| cp (oMv (cI (by decide))) trivial <| .nil) (by kernel_rfl) ?_
      refine pSeq ?_
      obtain ⟨o1, h, hk1⟩ := bd h
      refine wK0 (.inr () = o1) ([]) ([]) ?_ ?_
      · refine wBlock (wLoop ?_)
        refine lW (pc1 o1 (fun v43 => [(1, .d (sP (kR f_api_Lattice) a0)), (3, .d ((kI .i64).sig (a0.Up.length : Int))), (23, .d ((kL kS).sig a0.Names)), (24, .d ((kI .i64).sig (a0.Names.length : Int))), (25, .d ((kI .i64).sig v43))]) (fun v43 => []) (lattice_may.l0.partial_correctness a0) ?_ _ h) ⟨rfl, rfl, rfl, rfl, rfl, trivial⟩ rfl
        clear h
        intro f' ih v43 h
        refine wSeq ?_
        refine rg (cp (oLt rfl tm tm) (s2 rfl rfl) <| .nil) (by kernel_rfl) ?_
        refine pSeq ?_
        refine wSeq ?_
        rcases ic h with ⟨hp44, h⟩ | ⟨hp44, h⟩
        · refine wCT hp44 tm (s1 rfl) ?_
          refine wSkip ?_
          refine pSeq ?_
          refine wSeq ?_
          refine wBlock ?_
          refine wSeq ?_
          obtain ⟨y45, hy45, h⟩ := bd h
          refine rg (cp (oMv tm) (s1 rfl) <| cp (oIdx u39 z9 hy45 tm tm) (s2 rfl rfl) <| cp (oLd t9 tm) (s1 rfl) <| cp (oAs tm) (s1 rfl) <| cp (oAs tm) (s1 rfl) <| .nil) (by kernel_rfl) ?_
          refine pSeq ?_
          obtain ⟨o2, h, hk2⟩ := bd h
          refine wJ1 (fun x53 => x53 = o2) (fun x53 => [(1, .d (sP (kR f_api_Lattice) a0)), (3, .d ((kI .i64).sig (a0.Up.length : Int))), (23, .d ((kL kS).sig a0.Names)), (24, .d ((kI .i64).sig (a0.Names.length : Int))), (25, .d ((kI .i64).sig v43)), (50, .d (kB.sig x53))]) (fun x53 => []) ?_ ?_
          · obtain ⟨y54, hy54, h⟩ := bd h
            rcases ic h with ⟨hp55, h⟩ | ⟨hp55, h⟩
            · refine rg (cp (oMv tm) (s1 rfl) <| cp (oCall rfl (lattice_name.ok hy54) b106 (opds_cons tm opds_nil)) (s1 rfl) <| cp (oNot tm) (s1 rfl) <| cp (oMv tm) (s1 rfl) <| csB hp55 rfl rfl <| csB hp55 rfl rfl <| csB hp55 rfl rfl <| csB hp55 rfl rfl <| csB hp55 rfl rfl <| csB hp55 rfl rfl <| cp (oPkT hp55 tm cB) (s1 rfl) <| cp (oMv tm) (s1 rfl) <| csB rfl rfl rfl <| csB rfl rfl rfl <| csB rfl rfl rfl <| csB rfl rfl rfl <| csB rfl rfl rfl <| csB rfl rfl rfl <| csB rfl rfl rfl <| csB rfl rfl rfl <| cp (oPkT rfl tm cB) (s1 rfl) <| .nil) (by kernel_rfl) ?_
              exact pJ1 _ (so h) ⟨rfl, rfl, rfl, rfl, rfl, rfl, trivial⟩ rfl
            · obtain ⟨hc56, h⟩ := ib h
              obtain ⟨y57, hy57, h⟩ := bd h
              rcases ic h with ⟨hp58, h⟩ | ⟨hp58, h⟩
              · refine rg (cp (oMv tm) (s1 rfl) <| cp (oCall rfl (lattice_name.ok hy54) b106 (opds_cons tm opds_nil)) (s1 rfl) <| cp (oNot tm) (s1 rfl) <| cp (oMv tm) (s1 rfl) <| cgB (nb hp55) rfl rfl (oFld (fs := f_api_Lattice) (k := 0) rfl o42_0 tm) (s1 rfl) <| cgB (nb hp55) rfl rfl (oLd t39 tm) (s1 rfl) <| cgB (nb hp55) rfl rfl (oMv tm) (s1 rfl) <| cgB (nb hp55) rfl rfl (oCutHi u39 z9 hc56.1 hc56.2 tm tm) (s2 rfl rfl) <| cgB (nb hp55) rfl rfl (oMv tm) (s1 rfl) <| cgB (nb hp55) rfl rfl (oCall rfl (slices_Contains_string_string.ok hy57) b107 (opds_cons tm (opds_cons tm opds_nil))) (s2 rfl rfl) <| cp (oPkF (nb hp55) tm tm) (s2 rfl rfl) <| cp (oMv tm) (s1 rfl) <| csB hp58 rfl rfl <| csB hp58 rfl rfl <| csB hp58 rfl rfl <| csB hp58 rfl rfl <| csB hp58 rfl rfl <| csB hp58 rfl rfl <| csB hp58 rfl rfl <| csB hp58 rfl rfl <| cp (oPkT hp58 tm cB) (s1 rfl) <| .nil) (by kernel_rfl) ?_
                exact pJ1 _ (so h) ⟨rfl, rfl, rfl, rfl, rfl, rfl, trivial⟩ rfl
              · obtain ⟨y59, hy59, h⟩ := bd h
                obtain ⟨hc60, h⟩ := ib h
                refine rg (cp (oMv tm) (s1 rfl) <| cp (oCall rfl (lattice_name.ok hy54) b106 (opds_cons tm opds_nil)) (s1 rfl) <| cp (oNot tm) (s1 rfl) <| cp (oMv tm) (s1 rfl) <| cgB (nb hp55) rfl rfl (oFld (fs := f_api_Lattice) (k := 0) rfl o42_0 tm) (s1 rfl) <| cgB (nb hp55) rfl rfl (oLd t39 tm) (s1 rfl) <| cgB (nb hp55) rfl rfl (oMv tm) (s1 rfl) <| cgB (nb hp55) rfl rfl (oCutHi u39 z9 hc56.1 hc56.2 tm tm) (s2 rfl rfl) <| cgB (nb hp55) rfl rfl (oMv tm) (s1 rfl) <| cgB (nb hp55) rfl rfl (oCall rfl (slices_Contains_string_string.ok hy57) b107 (opds_cons tm (opds_cons tm opds_nil))) (s2 rfl rfl) <| cp (oPkF (nb hp55) tm tm) (s2 rfl rfl) <| cp (oMv tm) (s1 rfl) <| cgB (nb hp58) rfl rfl (oFld (fs := f_api_Lattice) (k := 1) rfl o42_1 tm) (s1 rfl) <| cgB (nb hp58) rfl rfl (oLd t40 tm) (s1 rfl) <| cgB (nb hp58) rfl rfl (oMv tm) (s1 rfl) <| cgB (nb hp58) rfl rfl (oIdx u40 z64 hy59 tm tm) (s2 rfl rfl) <| cgB (nb hp58) rfl rfl (oLd t64 tm) (s1 rfl) <| cgB (nb hp58) rfl rfl (oMv tm) (s1 rfl) <| cgB (nb hp58) rfl rfl (oShr hc60 tm tm) (s2 rfl rfl) <| cgB (nb hp58) rfl rfl (oNe rfl tm (cI (by decide))) (s1 rfl) <| cp (oPkF (nb hp58) tm tm) (s2 rfl rfl) <| .nil) (by kernel_rfl) ?_
                exact pJ1 _ (so h) ⟨rfl, rfl, rfl, rfl, rfl, rfl, trivial⟩ rfl
          · rintro x53 rfl
            replace h := hk2
            rcases ic h with ⟨hp61, h⟩ | ⟨hp61, h⟩
            · refine wBT hp61 tm (s1 rfl) ?_
              refine wSeq ?_
              refine rg (cp (oAs cB) trivial <| .nil) (by kernel_rfl) ?_
              refine pSeq ?_
              refine wRet ?_
              refine pBlkR ?_
              refine pThenR ?_
              refine pThenR ?_
              refine pBlkR ?_
              refine pThenR ?_
              obtain rfl := so h
              replace h := hk1
              refine pThenR ?_
              obtain rfl := so h
              exact pR1 (.inl rfl) rfl (.tmp rfl <| .nil)
            · refine wBF hp61 tm (s1 rfl) ?_
              refine wSkip ?_
              refine pBlkN ?_
              refine pSeq ?_
              refine rg (cp (oAdd tm (cI (by decide))) (s1 rfl) <| cp (oMv tm) (s1 rfl) <| .nil) (by kernel_rfl) ?_
              exact pLoop (lW (ih _ h) ⟨rfl, rfl, rfl, rfl, rfl, trivial⟩ rfl)
        · refine wCF hp44 tm (s1 rfl) ?_
          refine wExit ?_
          refine pThenX ?_
          refine pThenX ?_
          refine pBlkX ?_
          exact pJ0 (so h) trivial rfl
      · rintro rfl
        replace h := hk1
        refine pSeq ?_
        refine wSeq ?_
        refine rg (cp (oAs cB) trivial <| .nil) (by kernel_rfl) ?_
        refine pSeq ?_
        refine wRet ?_
        obtain rfl := so h
        exact pR1 (.inl rfl) rfl (.tmp rfl <| .nil)

theorem lattice_pairs_1.ok {a1 : Int} : FnY Try.prog 108 (fun z => (kI .i64).sig z) (fun z => (kI .i64).sig z) [sP (kI .i64) a1] (fun {σ} a_y a_s => lattice_pairs_1.f a_y a_s a1) := by
  refine fnIntroY 7777 Try.func108 rfl (by kernel_rfl) (fun σ A a_y a_s a_r h bs H0 w0 => ?_)
  replace h : lattice_pairs_1.f a_y a_s a1 = some a_r := h
  unfold lattice_pairs_1.f at h
  refine wSeq ?_
  refine rg (cp (oLd t3 tm) (s1 rfl) <| cp (oMv (cI (by decide))) trivial <| .nil) (by kernel_rfl) ?_
  refine pSeq ?_
  obtain ⟨o1, h, hk1⟩ := bd h
  refine wK1 (fun x29 => .inr x29 = o1) (fun x29 => []) (fun x29 => [.abs 7777 A x29]) ?_ ?_
  · refine wBlock (wLoop ?_)
    refine lW (pc2 o1 (fun v27 v28 => [(0, .d (sYield Try.prog A a_y (fun z => (kI .i64).sig z) (fun z => (kI .i64).sig z))), (1, .d (sP (kI .i64) a1)), (5, .d ((kI .i64).sig a1)), (6, .d ((kI .i64).sig v28))]) (fun v27 v28 => [.abs 7777 A v27]) (lattice_pairs_1.l2.partial_correctness a_y a1) ?_ _ _ h) ⟨rfl, rfl, rfl, rfl, trivial⟩ rfl
    clear h
    intro f' ih v27 v28 h
    refine wSeq ?_
    refine rg (cp (oLt rfl tm tm) (s2 rfl rfl) <| .nil) (by kernel_rfl) ?_
    refine pSeq ?_
    refine wSeq ?_
    rcases ic h with ⟨hp30, h⟩ | ⟨hp30, h⟩
    · refine wCT hp30 tm (s1 rfl) ?_
      refine wSkip ?_
      refine pSeq ?_
      refine wSeq ?_
      refine wBlock ?_
      refine wSeq ?_
      refine rg (cp (oMv tm) (s1 rfl) <| cp (oAs tm) (s1 rfl) <| .nil) (by kernel_rfl) ?_
      refine pSeq ?_
      refine wSeq ?_
      refine rg (cp (oLd t3 tm) (s1 rfl) <| cp (oMv (cI (by decide))) trivial <| .nil) (by kernel_rfl) ?_
      refine pSeq ?_
      obtain ⟨o2, h, hk2⟩ := bd h
      refine wK1 (fun x39 => .inr x39 = o2) (fun x39 => [(0, .d (sYield Try.prog A a_y (fun z => (kI .i64).sig z) (fun z => (kI .i64).sig z))), (1, .d (sP (kI .i64) a1)), (5, .d ((kI .i64).sig a1)), (6, .d ((kI .i64).sig v28))]) (fun x39 => [.abs 7777 A x39]) ?_ ?_
      · refine wBlock (wLoop ?_)
        refine lW (pc2 o2 (fun v37 v38 => [(0, .d (sYield Try.prog A a_y (fun z => (kI .i64).sig z) (fun z => (kI .i64).sig z))), (1, .d (sP (kI .i64) a1)), (3, .d ((kI .i64).sig v28)), (5, .d ((kI .i64).sig a1)), (6, .d ((kI .i64).sig v28)), (9, .d ((kI .i64).sig a1)), (10, .d ((kI .i64).sig v38))]) (fun v37 v38 => [.abs 7777 A v37]) (lattice_pairs_1.l3.partial_correctness a_y a1 v28) ?_ _ _ h) ⟨rfl, rfl, rfl, rfl, rfl, rfl, rfl, trivial⟩ rfl
        clear h
        intro f' ih v37 v38 h
        refine wSeq ?_
        refine rg (cp (oLt rfl tm tm) (s2 rfl rfl) <| .nil) (by kernel_rfl) ?_
        refine pSeq ?_
        refine wSeq ?_
        rcases ic h with ⟨hp40, h⟩ | ⟨hp40, h⟩
        · refine wCT hp40 tm (s1 rfl) ?_
          refine wSkip ?_
          refine pSeq ?_
          refine wSeq ?_
          refine wBlock ?_
          refine wSeq ?_
          refine rg (cp (oMv tm) (s1 rfl) <| cp (oAs tm) (s1 rfl) <| .nil) (by kernel_rfl) ?_
          refine pSeq ?_
          refine wSeq ?_
          obtain ⟨y41, hy41, h⟩ := bd h
          refine rg (cp (oMv tm) (s1 rfl) <| cp (oMv tm) (s1 rfl) <| cp (oMv tm) (s1 rfl) <| cm (oYield (n := 0) (id' := 16) rfl hy41 tm tm tm) (s3 rfl rfl rfl) <| cp (oNot tm) (s1 rfl) <| .nil) (by kernel_rfl) ?_
          refine pSeq ?_
          rcases ic h with ⟨hp42, h⟩ | ⟨hp42, h⟩
          · refine wBT hp42 tm (s1 rfl) ?_
            refine wRet ?_
            refine pBlkR ?_
            refine pThenR ?_
            refine pThenR ?_
            refine pBlkR ?_
            refine pThenR ?_
            obtain rfl := so h
            replace h := hk2
            refine pBlkR ?_
            refine pThenR ?_
            refine pThenR ?_
            refine pBlkR ?_
            refine pThenR ?_
            obtain rfl := so h
            replace h := hk1
            obtain rfl := so h
            exact pRY (n := 0) (.inl rfl) rfl rfl rfl
          · refine wBF hp42 tm (s1 rfl) ?_
            refine wSkip ?_
            refine pBlkN ?_
            refine pSeq ?_
            refine rg (cp (oAdd tm (cI (by decide))) (s1 rfl) <| cp (oMv tm) (s1 rfl) <| .nil) (by kernel_rfl) ?_
            refine pSub (Γ' := [(0, .d (sYield Try.prog A a_y (fun z => (kI .i64).sig z) (fun z => (kI .i64).sig z))), (1, .d (sP (kI .i64) a1)), (3, .d ((kI .i64).sig v28)), (5, .d ((kI .i64).sig a1)), (6, .d ((kI .i64).sig v28)), (9, .d ((kI .i64).sig a1)), (10, .d ((kI .i64).sig (IntKind.i64.wrap (v38 + 1))))]) ⟨rfl, rfl, rfl, rfl, rfl, rfl, rfl, trivial⟩ ?_
            refine pRen 16 7777 rfl ?_
            exact pLoop (lW (ih _ _ h) ⟨rfl, rfl, rfl, rfl, rfl, rfl, rfl, trivial⟩ rfl)
        · refine wCF hp40 tm (s1 rfl) ?_
          refine wExit ?_
          refine pThenX ?_
          refine pThenX ?_
          refine pBlkX ?_
          exact pJ1 _ (so h) ⟨rfl, rfl, rfl, rfl, trivial⟩ rfl
      · rintro x39 rfl
        replace h := hk2
        refine pBlkN ?_
        refine pSeq ?_
        refine rg (cp (oAdd tm (cI (by decide))) (s1 rfl) <| cp (oMv tm) (s1 rfl) <| .nil) (by kernel_rfl) ?_
        exact pLoop (lW (ih _ _ h) ⟨rfl, rfl, rfl, rfl, trivial⟩ rfl)
    · refine wCF hp30 tm (s1 rfl) ?_
      refine wExit ?_
      refine pThenX ?_
      refine pThenX ?_
      refine pBlkX ?_
      exact pJ1 _ (so h) trivial rfl
  · rintro x29 rfl
    replace h := hk1
    obtain rfl := so h
    exact pRY (n := 0) (.inr rfl) rfl rfl rfl

theorem lattice_pairs.ok {a0 : Int} {r : Int} (h : lattice_pairs.f a0 = some r) : FnA Try.prog 82 [(kI .i64).sig a0] ((sClo 108 [sP (kI .i64) r])) := by
  refine fnIntro Try.func82 rfl (by kernel_rfl) fun H0 w0 => ?_
  unfold lattice_pairs.f at h
  refine wSeq ?_
  refine rg (cp (oBox tm) (s1 rfl) <| cp (oAs cV) trivial <| .nil) (by kernel_rfl) ?_
  refine pSeq ?_
  refine wSeq ?_
  refine rg (cp (oMkC (caps := [sP (kI .i64) a0]) rfl (opds_cons tm opds_nil)) (s1 rfl) <| cp (oAs tm) (s1 rfl) <| .nil) (by kernel_rfl) ?_
  refine pSeq ?_
  refine wRet ?_
  obtain rfl := so h
  exact pR1 (.inl rfl) rfl (.tmp rfl <| .nil)

theorem lattice_flows.ok {a0 : api_Lattice} {a1 : Int} {a2 : Int} {r : Bool} (h : lattice_flows.f a0 a1 a2 = some r) : FnA Try.prog 70 [(kR f_api_Lattice).sig a0, (kI .i64).sig a1, (kI .i64).sig a2] (kB.sig r) := by
  refine fnIntro Try.func70 rfl (by kernel_rfl) fun H0 w0 => ?_
  unfold lattice_flows.f at h
  refine wSeq ?_
  refine rg (cp (oBox tm) (s1 rfl) <| cp (oAs cB) trivial <| .nil) (by kernel_rfl) ?_
  refine pSeq ?_
  refine wSeq ?_
  obtain ⟨y1, hy1, h⟩ := bd h
  obtain ⟨hc2, h⟩ := ib h
  refine rg (cp (oFld (fs := f_api_Lattice) (k := 1) rfl o42_1 tm) (s1 rfl) <| cp (oLd t40 tm) (s1 rfl) <| cp (oMv tm) (s1 rfl) <| cp (oIdx u40 z64 hy1 tm tm) (s2 rfl rfl) <| cp (oLd t64 tm) (s1 rfl) <| cp (oMv tm) (s1 rfl) <| cp (oShr hc2 tm tm) (s2 rfl rfl) <| cp (oAnd tm (cI (by decide))) (s1 rfl) <| cp (oEq rfl tm (cI (by decide))) (s1 rfl) <| cp (oAs tm) (s1 rfl) <| .nil) (by kernel_rfl) ?_
  refine pSeq ?_
  refine wRet ?_
  obtain rfl := so h
  exact pR1 (.inl rfl) rfl (.tmp rfl <| .nil)

theorem lattice_order.ok {a0 : api_Lattice} {r : Bool} (h : lattice_order.f a0 = some r) : FnA Try.prog 81 [(kR f_api_Lattice).sig a0] (kB.sig r) := by
  refine fnIntro Try.func81 rfl (by kernel_rfl) fun H0 w0 => ?_
  unfold lattice_order.f at h
  refine wSeq ?_
  refine rg (cp (oBox tm) (s1 rfl) <| cw (oAlloc (id := 2) (ls := [.d kB false]) ze4 (fun g => ⟨[(.bool false)], _, rfl, zB g.H, rfl⟩)) trivial <| .nil) (by kernel_rfl) ?_
  refine pSeq ?_
  refine wSeq ?_
  refine wSeq ?_
  obtain ⟨y1, hy1, h⟩ := bd h
  refine rg (cp (oFld (fs := f_api_Lattice) (k := 1) rfl o42_1 tm) (s1 rfl) <| cp (oLd t40 tm) (s1 rfl) <| cp (oLenL u40 tm) (s1 rfl) <| cp (oCall rfl (lattice_pairs.ok hy1) b82 (opds_cons tm opds_nil)) (s1 rfl) <| .nil) (by kernel_rfl) ?_
  refine pSeq ?_
  refine wBlock ?_
  obtain ⟨y53, hy53, h⟩ := bd h
  refine wRange (Γ' := [(1, .d (sP (kR f_api_Lattice) a0)), (2, .p 2 0)]) (Γ2 := fun v27 v28 => [(1, .d (sP (kR f_api_Lattice) a0)), (2, .p 2 0), (3, .d ((kI .i64).sig v27)), (4, .d ((kI .i64).sig v28))]) (fun v26 => [.box 2 4 [.d kB false]]) [Code.ret] [2] (lattice_order.y0 a0) () rfl (lattice_pairs_1.ok (a1 := y1)) b108 hy53 rfl ⟨rfl, rfl, trivial⟩ rfl rfl rfl ?_ ?_ ?_
  · intro X H0 w0 l pv v26 v27 v28
    refine wSeq ?_
    refine rg (cp (oAs tm) (s1 rfl) <| .nil) (by kernel_rfl) ?_
    refine pSeq ?_
    refine rg (cp (oAs tm) (s1 rfl) <| .nil) (by kernel_rfl) ?_
    exact qA ⟨rfl, rfl, rfl, rfl, trivial⟩
  · intro X H0 w0 l pv v26 v27 v28 o h
    unfold lattice_order.y0 at h
    refine wBlock ?_
    refine wSeq ?_
    obtain ⟨o2, h, hk2⟩ := bd h
    refine wJ1 (fun x35 => x35 = o2) (fun x35 => [(1, .d (sP (kR f_api_Lattice) a0)), (2, .p 2 0), (3, .d ((kI .i64).sig v27)), (4, .d ((kI .i64).sig v28)), (37, .d (kB.sig x35))]) (fun x35 => [.box 2 4 [.d kB false]]) ?_ ?_
    · rcases ic h with ⟨hp36, h⟩ | ⟨hp36, h⟩
      · obtain ⟨y37, hy37, h⟩ := bd h
        rcases ic h with ⟨hp38, h⟩ | ⟨hp38, h⟩
        · refine rg (cp (oMv tm) (s1 rfl) <| cp (oMv tm) (s1 rfl) <| cp (oEq rfl tm tm) (s2 rfl rfl) <| cp (oMv tm) (s1 rfl) <| cgB (decide_eq_true hp36) rfl rfl (oLd t42 tm) (s1 rfl) <| cgB (decide_eq_true hp36) rfl rfl (oMv tm) (s1 rfl) <| cgB (decide_eq_true hp36) rfl rfl (oMv tm) (s1 rfl) <| cgB (decide_eq_true hp36) rfl rfl (oCall rfl (lattice_flows.ok hy37) b70 (opds_cons tm (opds_cons tm (opds_cons tm opds_nil)))) (s3 rfl rfl rfl) <| cgB (decide_eq_true hp36) rfl rfl (oNot tm) (s1 rfl) <| cp (oPkT (decide_eq_true hp36) tm tm) (s2 rfl rfl) <| cp (oMv tm) (s1 rfl) <| csB hp38 rfl rfl <| csB hp38 rfl rfl <| csB hp38 rfl rfl <| csB hp38 rfl rfl <| csU rfl rfl <| csU rfl rfl <| csU rfl rfl <| csU rfl rfl <| csB hp38 rfl rfl <| csB hp38 rfl rfl <| csU rfl rfl <| csU rfl rfl <| csU rfl rfl <| csU rfl rfl <| csB hp38 rfl rfl <| cp (oPkT hp38 tm cB) (s1 rfl) <| .nil) (by kernel_rfl) ?_
          exact pJ1 _ (so h) ⟨rfl, rfl, rfl, rfl, rfl, trivial⟩ rfl
        · refine rg (cp (oMv tm) (s1 rfl) <| cp (oMv tm) (s1 rfl) <| cp (oEq rfl tm tm) (s2 rfl rfl) <| cp (oMv tm) (s1 rfl) <| cgB (decide_eq_true hp36) rfl rfl (oLd t42 tm) (s1 rfl) <| cgB (decide_eq_true hp36) rfl rfl (oMv tm) (s1 rfl) <| cgB (decide_eq_true hp36) rfl rfl (oMv tm) (s1 rfl) <| cgB (decide_eq_true hp36) rfl rfl (oCall rfl (lattice_flows.ok hy37) b70 (opds_cons tm (opds_cons tm (opds_cons tm opds_nil)))) (s3 rfl rfl rfl) <| cgB (decide_eq_true hp36) rfl rfl (oNot tm) (s1 rfl) <| cp (oPkT (decide_eq_true hp36) tm tm) (s2 rfl rfl) <| cp (oMv tm) (s1 rfl) <| cgB (nb hp38) rfl rfl (oMv tm) (s1 rfl) <| cgB (nb hp38) rfl rfl (oMv tm) (s1 rfl) <| cgB (nb hp38) rfl rfl (oNe rfl tm tm) (s2 rfl rfl) <| cgB (nb hp38) rfl rfl (oMv tm) (s1 rfl) <| csB (nf hp36) rfl rfl <| csB (nf hp36) rfl rfl <| csB (nf hp36) rfl rfl <| csB (nf hp36) rfl rfl <| cgB (nb hp38) rfl rfl (oPkF (nf hp36) tm cB) (s1 rfl) <| cgB (nb hp38) rfl rfl (oMv tm) (s1 rfl) <| csB rfl rfl rfl <| csB rfl rfl rfl <| csB rfl rfl rfl <| csB rfl rfl rfl <| cgB (nb hp38) rfl rfl (oPkF rfl tm cB) (s1 rfl) <| cp (oPkF (nb hp38) tm tm) (s2 rfl rfl) <| .nil) (by kernel_rfl) ?_
          exact pJ1 _ (so h) ⟨rfl, rfl, rfl, rfl, rfl, trivial⟩ rfl
      · obtain ⟨y39, hy39, h⟩ := bd h
        rcases ic h with ⟨hp40, h⟩ | ⟨hp40, h⟩
        · obtain ⟨y41, hy41, h⟩ := bd h
          refine rg (cp (oMv tm) (s1 rfl) <| cp (oMv tm) (s1 rfl) <| cp (oEq rfl tm tm) (s2 rfl rfl) <| cp (oMv tm) (s1 rfl) <| csB (decide_eq_false hp36) rfl rfl <| csB (decide_eq_false hp36) rfl rfl <| csB (decide_eq_false hp36) rfl rfl <| csB (decide_eq_false hp36) rfl rfl <| csB (decide_eq_false hp36) rfl rfl <| cp (oPkF (decide_eq_false hp36) tm cB) (s1 rfl) <| cp (oMv tm) (s1 rfl) <| cgB rfl rfl rfl (oMv tm) (s1 rfl) <| cgB rfl rfl rfl (oMv tm) (s1 rfl) <| cgB rfl rfl rfl (oNe rfl tm tm) (s2 rfl rfl) <| cgB rfl rfl rfl (oMv tm) (s1 rfl) <| cgB (nt hp36) rfl rfl (oLd t42 tm) (s1 rfl) <| cgB (nt hp36) rfl rfl (oMv tm) (s1 rfl) <| cgB (nt hp36) rfl rfl (oMv tm) (s1 rfl) <| cgB (nt hp36) rfl rfl (oCall rfl (lattice_flows.ok hy39) b70 (opds_cons tm (opds_cons tm (opds_cons tm opds_nil)))) (s3 rfl rfl rfl) <| cgB rfl rfl rfl (oPkT (nt hp36) tm tm) (s2 rfl rfl) <| cgB rfl rfl rfl (oMv tm) (s1 rfl) <| cgB hp40 rfl rfl (oLd t42 tm) (s1 rfl) <| cgB hp40 rfl rfl (oMv tm) (s1 rfl) <| cgB hp40 rfl rfl (oMv tm) (s1 rfl) <| cgB hp40 rfl rfl (oCall rfl (lattice_flows.ok hy41) b70 (opds_cons tm (opds_cons tm (opds_cons tm opds_nil)))) (s3 rfl rfl rfl) <| cgB rfl rfl rfl (oPkT hp40 tm tm) (s2 rfl rfl) <| cp (oPkF rfl tm tm) (s2 rfl rfl) <| .nil) (by kernel_rfl) ?_
          exact pJ1 _ (so h) ⟨rfl, rfl, rfl, rfl, rfl, trivial⟩ rfl
        · refine rg (cp (oMv tm) (s1 rfl) <| cp (oMv tm) (s1 rfl) <| cp (oEq rfl tm tm) (s2 rfl rfl) <| cp (oMv tm) (s1 rfl) <| csB (decide_eq_false hp36) rfl rfl <| csB (decide_eq_false hp36) rfl rfl <| csB (decide_eq_false hp36) rfl rfl <| csB (decide_eq_false hp36) rfl rfl <| csB (decide_eq_false hp36) rfl rfl <| cp (oPkF (decide_eq_false hp36) tm cB) (s1 rfl) <| cp (oMv tm) (s1 rfl) <| cgB rfl rfl rfl (oMv tm) (s1 rfl) <| cgB rfl rfl rfl (oMv tm) (s1 rfl) <| cgB rfl rfl rfl (oNe rfl tm tm) (s2 rfl rfl) <| cgB rfl rfl rfl (oMv tm) (s1 rfl) <| cgB (nt hp36) rfl rfl (oLd t42 tm) (s1 rfl) <| cgB (nt hp36) rfl rfl (oMv tm) (s1 rfl) <| cgB (nt hp36) rfl rfl (oMv tm) (s1 rfl) <| cgB (nt hp36) rfl rfl (oCall rfl (lattice_flows.ok hy39) b70 (opds_cons tm (opds_cons tm (opds_cons tm opds_nil)))) (s3 rfl rfl rfl) <| cgB rfl rfl rfl (oPkT (nt hp36) tm tm) (s2 rfl rfl) <| cgB rfl rfl rfl (oMv tm) (s1 rfl) <| csB (nb hp40) rfl rfl <| csB (nb hp40) rfl rfl <| csB (nb hp40) rfl rfl <| csB (nb hp40) rfl rfl <| cgB rfl rfl rfl (oPkF (nb hp40) tm cB) (s1 rfl) <| cp (oPkF rfl tm tm) (s2 rfl rfl) <| .nil) (by kernel_rfl) ?_
          exact pJ1 _ (so h) ⟨rfl, rfl, rfl, rfl, rfl, trivial⟩ rfl
    · rintro x35 rfl
      replace h := hk2
      rcases ic h with ⟨hp42, h⟩ | ⟨hp42, h⟩
      · refine wBT hp42 tm (s1 rfl) ?_
        refine wSeq ?_
        refine rg (cwn (oSt (n := 0) (k := 0) rfl rfl rfl rfl z4 tm cB) (s1 rfl) <| .nil) (by kernel_rfl) ?_
        refine pSeq ?_
        refine wRet ?_
        refine pThenR ?_
        refine pBlkR ?_
        obtain rfl := so h
        exact qR rfl
      · refine wBF hp42 tm (s1 rfl) ?_
        refine wSkip ?_
        refine pSeq ?_
        obtain ⟨o2, h, hk2⟩ := bd h
        refine wJ1 (fun x47 => x47 = o2) (fun x47 => [(2, .p 2 0), (55, .d (kB.sig x47))]) (fun x47 => [.box 2 4 [.d kB false]]) ?_ ?_
        · obtain ⟨y48, hy48, h⟩ := bd h
          rcases ic h with ⟨hp49, h⟩ | ⟨hp49, h⟩
          · obtain ⟨y50, hy50, h⟩ := bd h
            obtain ⟨y51, hy51, h⟩ := bd h
            refine rgD hm (cp (oLd t42 tm) (s1 rfl) <| cp (oMv tm) (s1 rfl) <| cp (oMv tm) (s1 rfl) <| cp (oCall rfl (lattice_flows.ok hy48) b70 (opds_cons tm (opds_cons tm (opds_cons tm opds_nil)))) (s3 rfl rfl rfl) <| cp (oMv tm) (s1 rfl) <| cgB hp49 rfl rfl (oFld (fs := f_api_Lattice) (k := 1) rfl o42_1 tm) (s1 rfl) <| cgB hp49 rfl rfl (oLd t40 tm) (s1 rfl) <| cgB hp49 rfl rfl (oMv tm) (s1 rfl) <| cgB hp49 rfl rfl (oIdx u40 z64 hy50 tm tm) (s2 rfl rfl) <| cgB hp49 rfl rfl (oLd t64 tm) (s1 rfl) <| cgB hp49 rfl rfl (oFld (fs := f_api_Lattice) (k := 1) rfl o42_1 tm) (s1 rfl) <| cgB hp49 rfl rfl (oLd t40 tm) (s1 rfl) <| cgB hp49 rfl rfl (oMv tm) (s1 rfl) <| cgB hp49 rfl rfl (oIdx u40 z64 hy51 tm tm) (s2 rfl rfl) <| cgB hp49 rfl rfl (oLd t64 tm) (s1 rfl) <| cgB hp49 rfl rfl (oAndNot tm tm) (s2 rfl rfl) <| cgB hp49 rfl rfl (oNe rfl tm (cI (by decide))) (s1 rfl) <| cp (oPkT hp49 tm tm) (s2 rfl rfl) <| .nil) (by kernel_rfl) (by kernel_rfl) ?_
            exact pJ1 _ (so h) ⟨rfl, rfl, trivial⟩ rfl
          · refine rgD hm (cp (oLd t42 tm) (s1 rfl) <| cp (oMv tm) (s1 rfl) <| cp (oMv tm) (s1 rfl) <| cp (oCall rfl (lattice_flows.ok hy48) b70 (opds_cons tm (opds_cons tm (opds_cons tm opds_nil)))) (s3 rfl rfl rfl) <| cp (oMv tm) (s1 rfl) <| csB (nb hp49) rfl rfl <| csB (nb hp49) rfl rfl <| csB (nb hp49) rfl rfl <| csB (nb hp49) rfl rfl <| csB (nb hp49) rfl rfl <| csB (nb hp49) rfl rfl <| csB (nb hp49) rfl rfl <| csB (nb hp49) rfl rfl <| csB (nb hp49) rfl rfl <| csB (nb hp49) rfl rfl <| csB (nb hp49) rfl rfl <| csB (nb hp49) rfl rfl <| cp (oPkF (nb hp49) tm cB) (s1 rfl) <| .nil) (by kernel_rfl) (by kernel_rfl) ?_
            exact pJ1 _ (so h) ⟨rfl, rfl, trivial⟩ rfl
        · rintro x47 rfl
          replace h := hk2
          rcases ic h with ⟨hp52, h⟩ | ⟨hp52, h⟩
          · refine wBT hp52 tm (s1 rfl) ?_
            refine wSeq ?_
            refine rg (cwn (oSt (n := 0) (k := 0) rfl rfl rfl rfl z4 tm cB) (s1 rfl) <| .nil) (by kernel_rfl) ?_
            refine pSeq ?_
            refine wRet ?_
            refine pBlkR ?_
            obtain rfl := so h
            exact qR rfl
          · refine wBF hp52 tm (s1 rfl) ?_
            refine wSkip ?_
            refine pBlkN ?_
            obtain rfl := so h
            exact qN
  · rcases ic h with ⟨hj53, h⟩ | ⟨hj53, h⟩
    · refine jp0 hj53 ?_
      refine pBlkN ?_
      refine pSeq ?_
      refine wSeq ?_
      refine rg (cwn (oSt (n := 0) (k := 0) rfl rfl rfl rfl z4 tm cB) (s1 rfl) <| .nil) (by kernel_rfl) ?_
      refine pSeq ?_
      refine wRet ?_
      obtain rfl := so h
      exact pR1 (.inl rfl) rfl (.boxV (n := 0) rfl rfl t4 <| .nil)
    · rcases ic h with ⟨hj53, h⟩ | ⟨hj53, h⟩
      · refine jpR hj53 rfl ?_
        refine pBlkR ?_
        refine pThenR ?_
        obtain rfl := so h
        exact pR1 (.inl rfl) rfl (.boxV (n := 0) rfl rfl t4 <| .nil)
      · cases h

theorem slices_IndexFunc_uint32_uint32.ok {a0 : List Int} {a1 : Int → Option Bool} {r : Int} (h : slices_IndexFunc_uint32_uint32.f a0 a1 = some r) : FnA Try.prog 77 [(kL (kI .u32)).sig a0, (sFun Try.prog (rl1 (kI .u32) kB a1))] ((kI .i64).sig r) := by
  refine fnIntro Try.func77 rfl (by kernel_rfl) fun H0 w0 => ?_
  unfold slices_IndexFunc_uint32_uint32.f at h
  refine wSeq ?_
  refine rg (cp (oAs (cI (by decide))) trivial <| .nil) (by kernel_rfl) ?_
  refine pSeq ?_
  refine wSeq ?_
  refine wSeq ?_
  refine rg (cp (oMv tm) (s1 rfl) <| cp (oLenL u40 tm) (s1 rfl) <| cp (oMv (cI (by decide))) trivial <| .nil) (by kernel_rfl) ?_
  refine pSeq ?_
  obtain ⟨o1, h, hk1⟩ := bd h
  refine wK0 (.inr () = o1) ([]) ([]) ?_ ?_
  · refine wBlock (wLoop ?_)
    refine lW (pc1 o1 (fun v9 => [(0, .d ((kL (kI .u32)).sig a0)), (1, .d ((sFun Try.prog (rl1 (kI .u32) kB a1)))), (7, .d ((kI .i64).sig (a0.length : Int))), (8, .d ((kI .i64).sig v9))]) (fun v9 => []) (slices_IndexFunc_uint32_uint32.l0.partial_correctness a0 a1) ?_ _ h) ⟨rfl, rfl, rfl, rfl, trivial⟩ rfl
    clear h
    intro f' ih v9 h
    refine wSeq ?_
    refine rg (cp (oLt rfl tm tm) (s2 rfl rfl) <| .nil) (by kernel_rfl) ?_
    refine pSeq ?_
    refine wSeq ?_
    rcases ic h with ⟨hp10, h⟩ | ⟨hp10, h⟩
    · refine wCT hp10 tm (s1 rfl) ?_
      refine wSkip ?_
      refine pSeq ?_
      refine wSeq ?_
      refine wBlock ?_
      refine wSeq ?_
      refine rg (cp (oMv tm) (s1 rfl) <| cp (oAs tm) (s1 rfl) <| .nil) (by kernel_rfl) ?_
      refine pSeq ?_
      refine wSeq ?_
      obtain ⟨y11, hy11, h⟩ := bd h
      obtain ⟨y12, hy12, h⟩ := bd h
      refine rg (cp (oMv tm) (s1 rfl) <| cp (oMv tm) (s1 rfl) <| cp (oMv tm) (s1 rfl) <| cp (oIdx u40 z64 hy11 tm tm) (s2 rfl rfl) <| cp (oLd t64 tm) (s1 rfl) <| cp (oCallV rfl (rl1i hy12) tm (opds_cons tm opds_nil)) (s2 rfl rfl) <| .nil) (by kernel_rfl) ?_
      refine pSeq ?_
      rcases ic h with ⟨hp13, h⟩ | ⟨hp13, h⟩
      · refine wBT hp13 tm (s1 rfl) ?_
        refine wSeq ?_
        refine rg (cp (oMv tm) (s1 rfl) <| cp (oAs tm) (s1 rfl) <| .nil) (by kernel_rfl) ?_
        refine pSeq ?_
        refine wRet ?_
        refine pBlkR ?_
        refine pThenR ?_
        refine pThenR ?_
        refine pBlkR ?_
        refine pThenR ?_
        obtain rfl := so h
        replace h := hk1
        refine pThenR ?_
        obtain rfl := so h
        exact pR1 (.inl rfl) rfl (.tmp rfl <| .nil)
      · refine wBF hp13 tm (s1 rfl) ?_
        refine wSkip ?_
        refine pBlkN ?_
        refine pSeq ?_
        refine rg (cp (oAdd tm (cI (by decide))) (s1 rfl) <| cp (oMv tm) (s1 rfl) <| .nil) (by kernel_rfl) ?_
        exact pLoop (lW (ih _ h) ⟨rfl, rfl, rfl, rfl, trivial⟩ rfl)
    · refine wCF hp10 tm (s1 rfl) ?_
      refine wExit ?_
      refine pThenX ?_
      refine pThenX ?_
      refine pBlkX ?_
      exact pJ0 (so h) trivial rfl
  · rintro rfl
    replace h := hk1
    refine pSeq ?_
    refine wSeq ?_
    refine rg (cp (oAs (cI (by decide))) trivial <| .nil) (by kernel_rfl) ?_
    refine pSeq ?_
    refine wRet ?_
    obtain rfl := so h
    exact pR1 (.inl rfl) rfl (.tmp rfl <| .nil)

theorem lattice_join_1.ok {a0 : Int} {a1 : Int} {r : Bool} (h : lattice_join_1.f a0 a1 = some r) : FnA Try.prog 102 [(kI .u32).sig a0, sP (kI .u32) a1] (kB.sig r) := by
  refine fnIntro Try.func102 rfl (by kernel_rfl) fun H0 w0 => ?_
  unfold lattice_join_1.f at h
  refine wSeq ?_
  refine rg (cp (oAs cB) trivial <| .nil) (by kernel_rfl) ?_
  refine pSeq ?_
  refine wSeq ?_
  refine rg (cp (oMv tm) (s1 rfl) <| cp (oLd t64 tm) (s1 rfl) <| cp (oEq rfl tm tm) (s2 rfl rfl) <| cp (oAs tm) (s1 rfl) <| .nil) (by kernel_rfl) ?_
  refine pSeq ?_
  refine wRet ?_
  obtain rfl := so h
  exact pR1 (.inl rfl) rfl (.tmp rfl <| .nil)

theorem lattice_join.ok {a0 : api_Lattice} {a1 : Int} {a2 : Int} {r : Int} (h : lattice_join.f a0 a1 a2 = some r) : FnA Try.prog 71 [(kR f_api_Lattice).sig a0, (kI .i64).sig a1, (kI .i64).sig a2] ((kI .i64).sig r) := by
  refine fnIntro Try.func71 rfl (by kernel_rfl) fun H0 w0 => ?_
  unfold lattice_join.f at h
  refine wSeq ?_
  refine rg (cp (oBox tm) (s1 rfl) <| cp (oAs (cI (by decide))) trivial <| .nil) (by kernel_rfl) ?_
  refine pSeq ?_
  refine wSeq ?_
  obtain ⟨y1, hy1, h⟩ := bd h
  obtain ⟨y2, hy2, h⟩ := bd h
  refine rgD hm (cp (oFld (fs := f_api_Lattice) (k := 1) rfl o42_1 tm) (s1 rfl) <| cp (oLd t40 tm) (s1 rfl) <| cp (oMv tm) (s1 rfl) <| cp (oIdx u40 z64 hy1 tm tm) (s2 rfl rfl) <| cp (oLd t64 tm) (s1 rfl) <| cp (oFld (fs := f_api_Lattice) (k := 1) rfl o42_1 tm) (s1 rfl) <| cp (oLd t40 tm) (s1 rfl) <| cp (oMv tm) (s1 rfl) <| cp (oIdx u40 z64 hy2 tm tm) (s2 rfl rfl) <| cp (oLd t64 tm) (s1 rfl) <| cp (oAnd tm tm) (s2 rfl rfl) <| cw (oAlloc (id := 7) (ls := [.d (kI .u32) 0]) ze64 (fun g => ⟨[(.int .u32 0)], _, rfl, zI_u32 g.H, rfl⟩)) trivial <| cwn (oSt (n := 0) (k := 0) rfl rfl rfl rfl z64 tm tm) (s2 rfl rfl) <| .nil) (by kernel_rfl) (by kernel_rfl) ?_
  refine pSeq ?_
  refine wSeq ?_
  refine wFrzV 7 (n := 0) (id := 7) rfl rfl rfl ?_
  obtain ⟨y3, hy3, h⟩ := bd h
  refine rg (cp (oFld (fs := f_api_Lattice) (k := 1) rfl o42_1 tm) (s1 rfl) <| cp (oLd t40 tm) (s1 rfl) <| cp (oMkF (Rl := rl1 (kI .u32) kB (fun z0 => lattice_join_1.f z0 (bAnd .u32 y1 y2))) rfl b102 (rl1e lattice_join_1.ok) (opds_cons tm opds_nil)) (s1 rfl) <| cp (oCall rfl (slices_IndexFunc_uint32_uint32.ok hy3) b77 (opds_cons tm (opds_cons tm opds_nil))) (s2 rfl rfl) <| cp (oAs tm) (s1 rfl) <| .nil) (by kernel_rfl) ?_
  refine pSeq ?_
  refine wRet ?_
  obtain rfl := so h
  exact pR1 (.inl rfl) rfl (.tmp rfl <| .nil)

theorem lattice_down.ok {a0 : api_Lattice} {a1 : Int} {r : Int} (h : lattice_down.f a0 a1 = some r) : FnA Try.prog 103 [(kR f_api_Lattice).sig a0, (kI .i64).sig a1] ((kI .u32).sig r) := by
  refine fnIntro Try.func103 rfl (by kernel_rfl) fun H0 w0 => ?_
  unfold lattice_down.f at h
  refine wSeq ?_
  refine rg (cp (oBox tm) (s1 rfl) <| cp (oAs (cI (by decide))) trivial <| .nil) (by kernel_rfl) ?_
  refine pSeq ?_
  refine wSeq ?_
  refine rg (cp (oAs (cI (by decide))) trivial <| .nil) (by kernel_rfl) ?_
  refine pSeq ?_
  refine wSeq ?_
  refine wSeq ?_
  refine rg (cp (oFld (fs := f_api_Lattice) (k := 1) rfl o42_1 tm) (s1 rfl) <| cp (oLd t40 tm) (s1 rfl) <| cp (oLenL u40 tm) (s1 rfl) <| cp (oMv (cI (by decide))) trivial <| .nil) (by kernel_rfl) ?_
  refine pSeq ?_
  obtain ⟨o1, h, hk1⟩ := bd h
  refine wK1 (fun x10 => x10 = o1) (fun x10 => [(5, .d ((kI .u32).sig x10))]) (fun x10 => []) ?_ ?_
  · refine wBlock (wLoop ?_)
    refine lW (pc2 o1 (fun v8 v9 => [(1, .d ((kI .i64).sig a1)), (2, .d (sP (kR f_api_Lattice) a0)), (5, .d ((kI .u32).sig v9)), (9, .d ((kI .i64).sig (a0.Up.length : Int))), (10, .d ((kI .i64).sig v8))]) (fun v8 v9 => []) (lattice_down.l0.partial_correctness a0 a1) ?_ _ _ h) ⟨rfl, rfl, rfl, rfl, rfl, trivial⟩ rfl
    clear h
    intro f' ih v8 v9 h
    refine wSeq ?_
    refine rg (cp (oLt rfl tm tm) (s2 rfl rfl) <| .nil) (by kernel_rfl) ?_
    refine pSeq ?_
    refine wSeq ?_
    rcases ic h with ⟨hp11, h⟩ | ⟨hp11, h⟩
    · refine wCT hp11 tm (s1 rfl) ?_
      refine wSkip ?_
      refine pSeq ?_
      refine wSeq ?_
      refine wBlock ?_
      refine wSeq ?_
      refine rg (cp (oMv tm) (s1 rfl) <| cp (oAs tm) (s1 rfl) <| .nil) (by kernel_rfl) ?_
      refine pSeq ?_
      obtain ⟨y12, hy12, h⟩ := bd h
      obtain ⟨hc13, h⟩ := ib h
      obtain ⟨hc14, h⟩ := ib h
      refine rg (cp (oMv tm) (s1 rfl) <| cp (oFld (fs := f_api_Lattice) (k := 1) rfl o42_1 tm) (s1 rfl) <| cp (oLd t40 tm) (s1 rfl) <| cp (oMv tm) (s1 rfl) <| cp (oIdx u40 z64 hy12 tm tm) (s2 rfl rfl) <| cp (oLd t64 tm) (s1 rfl) <| cp (oMv tm) (s1 rfl) <| cp (oShr hc13 tm tm) (s2 rfl rfl) <| cp (oAnd tm (cI (by decide))) (s1 rfl) <| cp (oMv tm) (s1 rfl) <| cp (oShl hc14 tm tm) (s2 rfl rfl) <| cp (oOr tm tm) (s2 rfl rfl) <| cp (oAs tm) (s1 rfl) <| .nil) (by kernel_rfl) ?_
      refine pBlkN ?_
      refine pSeq ?_
      refine rg (cp (oAdd tm (cI (by decide))) (s1 rfl) <| cp (oMv tm) (s1 rfl) <| .nil) (by kernel_rfl) ?_
      exact pLoop (lW (ih _ _ h) ⟨rfl, rfl, rfl, rfl, rfl, trivial⟩ rfl)
    · refine wCF hp11 tm (s1 rfl) ?_
      refine wExit ?_
      refine pThenX ?_
      refine pThenX ?_
      refine pBlkX ?_
      exact pJ1 _ (so h) ⟨rfl, trivial⟩ rfl
  · rintro x10 rfl
    replace h := hk1
    refine pSeq ?_
    refine wSeq ?_
    refine rg (cp (oMv tm) (s1 rfl) <| cp (oAs tm) (s1 rfl) <| .nil) (by kernel_rfl) ?_
    refine pSeq ?_
    refine wRet ?_
    obtain rfl := so h
    exact pR1 (.inl rfl) rfl (.tmp rfl <| .nil)

theorem lattice_meet.ok {a0 : api_Lattice} {a1 : Int} {a2 : Int} {r : Int} (h : lattice_meet.f a0 a1 a2 = some r) : FnA Try.prog 72 [(kR f_api_Lattice).sig a0, (kI .i64).sig a1, (kI .i64).sig a2] ((kI .i64).sig r) := by
  refine fnIntro Try.func72 rfl (by kernel_rfl) fun H0 w0 => ?_
  unfold lattice_meet.f at h
  refine wSeq ?_
  refine rg (cp (oBox tm) (s1 rfl) <| cp (oAs (cI (by decide))) trivial <| .nil) (by kernel_rfl) ?_
  refine pSeq ?_
  refine wSeq ?_
  obtain ⟨y1, hy1, h⟩ := bd h
  obtain ⟨y2, hy2, h⟩ := bd h
  refine rgD hm (cp (oLd t42 tm) (s1 rfl) <| cp (oMv tm) (s1 rfl) <| cp (oCall rfl (lattice_down.ok hy1) b103 (opds_cons tm (opds_cons tm opds_nil))) (s2 rfl rfl) <| cp (oLd t42 tm) (s1 rfl) <| cp (oMv tm) (s1 rfl) <| cp (oCall rfl (lattice_down.ok hy2) b103 (opds_cons tm (opds_cons tm opds_nil))) (s2 rfl rfl) <| cp (oAnd tm tm) (s2 rfl rfl) <| cp (oAs tm) (s1 rfl) <| .nil) (by kernel_rfl) (by kernel_rfl) ?_
  refine pSeq ?_
  refine wSeq ?_
  refine wSeq ?_
  refine rg (cp (oFld (fs := f_api_Lattice) (k := 1) rfl o42_1 tm) (s1 rfl) <| cp (oLd t40 tm) (s1 rfl) <| cp (oLenL u40 tm) (s1 rfl) <| cp (oMv (cI (by decide))) trivial <| .nil) (by kernel_rfl) ?_
  refine pSeq ?_
  obtain ⟨o1, h, hk1⟩ := bd h
  refine wK0 (.inr () = o1) ([]) ([]) ?_ ?_
  · refine wBlock (wLoop ?_)
    refine lW (pc1 o1 (fun v9 => [(3, .d (sP (kR f_api_Lattice) a0)), (7, .d ((kI .u32).sig (bAnd .u32 y1 y2))), (18, .d ((kI .i64).sig (a0.Up.length : Int))), (19, .d ((kI .i64).sig v9))]) (fun v9 => []) (lattice_meet.l0.partial_correctness a0 y1 y2) ?_ _ h) ⟨rfl, rfl, rfl, rfl, trivial⟩ rfl
    clear h
    intro f' ih v9 h
    refine wSeq ?_
    refine rg (cp (oLt rfl tm tm) (s2 rfl rfl) <| .nil) (by kernel_rfl) ?_
    refine pSeq ?_
    refine wSeq ?_
    rcases ic h with ⟨hp10, h⟩ | ⟨hp10, h⟩
    · refine wCT hp10 tm (s1 rfl) ?_
      refine wSkip ?_
      refine pSeq ?_
      refine wSeq ?_
      refine wBlock ?_
      refine wSeq ?_
      refine rg (cp (oMv tm) (s1 rfl) <| cp (oAs tm) (s1 rfl) <| .nil) (by kernel_rfl) ?_
      refine pSeq ?_
      refine wSeq ?_
      obtain ⟨y11, hy11, h⟩ := bd h
      refine rg (cp (oLd t42 tm) (s1 rfl) <| cp (oMv tm) (s1 rfl) <| cp (oCall rfl (lattice_down.ok hy11) b103 (opds_cons tm (opds_cons tm opds_nil))) (s2 rfl rfl) <| cp (oMv tm) (s1 rfl) <| cp (oEq rfl tm tm) (s2 rfl rfl) <| .nil) (by kernel_rfl) ?_
      refine pSeq ?_
      rcases ic h with ⟨hp12, h⟩ | ⟨hp12, h⟩
      · refine wCT hp12 tm (s1 rfl) ?_
        refine wSeq ?_
        refine rg (cp (oMv tm) (s1 rfl) <| cp (oAs tm) (s1 rfl) <| .nil) (by kernel_rfl) ?_
        refine pSeq ?_
        refine wRet ?_
        refine pBlkR ?_
        refine pThenR ?_
        refine pThenR ?_
        refine pBlkR ?_
        refine pThenR ?_
        obtain rfl := so h
        replace h := hk1
        refine pThenR ?_
        obtain rfl := so h
        exact pR1 (.inl rfl) rfl (.tmp rfl <| .nil)
      · refine wCF hp12 tm (s1 rfl) ?_
        refine wSkip ?_
        refine pBlkN ?_
        refine pSeq ?_
        refine rg (cp (oAdd tm (cI (by decide))) (s1 rfl) <| cp (oMv tm) (s1 rfl) <| .nil) (by kernel_rfl) ?_
        exact pLoop (lW (ih _ h) ⟨rfl, rfl, rfl, rfl, trivial⟩ rfl)
    · refine wCF hp10 tm (s1 rfl) ?_
      refine wExit ?_
      refine pThenX ?_
      refine pThenX ?_
      refine pBlkX ?_
      exact pJ0 (so h) trivial rfl
  · rintro rfl
    replace h := hk1
    refine pSeq ?_
    refine wSeq ?_
    refine rg (cp (oAs (cI (by decide))) trivial <| .nil) (by kernel_rfl) ?_
    refine pSeq ?_
    refine wRet ?_
    obtain rfl := so h
    exact pR1 (.inl rfl) rfl (.tmp rfl <| .nil)

theorem lattice_Check.ok {a0 : api_Lattice} {r : Int} (h : lattice_Check.f a0 = some r) : FnA Try.prog 39 [(kR f_api_Lattice).sig a0] ((kI .i64).sig r) := by
  refine fnIntro Try.func39 rfl (by kernel_rfl) fun H0 w0 => ?_
  unfold lattice_Check.f at h
  refine wSeq ?_
  refine rg (cp (oBox tm) (s1 rfl) <| cw (oAlloc (id := 2) (ls := [.d (kI .i64) 0]) ze23 (fun g => ⟨[(.int .i64 0)], _, rfl, zI_i64 g.H, rfl⟩)) trivial <| .nil) (by kernel_rfl) ?_
  refine pSeq ?_
  refine wSeq ?_
  refine wBlock ?_
  refine wSeq ?_
  obtain ⟨y1, hy1, h⟩ := bd h
  refine rg (cp (oLd t42 tm) (s1 rfl) <| cp (oCall rfl (lattice_may.ok hy1) b80 (opds_cons tm opds_nil)) (s1 rfl) <| cp (oNot tm) (s1 rfl) <| cp (oAs tm) (s1 rfl) <| .nil) (by kernel_rfl) ?_
  refine pSeq ?_
  rcases ic h with ⟨hp2, h⟩ | ⟨hp2, h⟩
  · refine wBT hp2 tm (s1 rfl) ?_
    refine wSeq ?_
    refine rg (cwn (oSt (n := 0) (k := 0) rfl rfl rfl rfl z23 tm (cI (by decide))) (s1 rfl) <| .nil) (by kernel_rfl) ?_
    refine pSeq ?_
    refine wRet ?_
    refine pBlkR ?_
    refine pThenR ?_
    obtain rfl := so h
    exact pR1 (.inl rfl) rfl (.boxV (n := 0) rfl rfl t23 <| .nil)
  · refine wBF hp2 tm (s1 rfl) ?_
    refine wSeq ?_
    obtain ⟨y3, hy3, h⟩ := bd h
    refine rg (cp (oLd t42 tm) (s1 rfl) <| cp (oCall rfl (lattice_order.ok hy3) b81 (opds_cons tm opds_nil)) (s1 rfl) <| cp (oNot tm) (s1 rfl) <| cp (oAs tm) (s1 rfl) <| .nil) (by kernel_rfl) ?_
    refine pSeq ?_
    rcases ic h with ⟨hp4, h⟩ | ⟨hp4, h⟩
    · refine wBT hp4 tm (s1 rfl) ?_
      refine wSeq ?_
      refine rg (cwn (oSt (n := 0) (k := 0) rfl rfl rfl rfl z23 tm (cI (by decide))) (s1 rfl) <| .nil) (by kernel_rfl) ?_
      refine pSeq ?_
      refine wRet ?_
      refine pBlkR ?_
      refine pThenR ?_
      obtain rfl := so h
      exact pR1 (.inl rfl) rfl (.boxV (n := 0) rfl rfl t23 <| .nil)
    · refine wBF hp4 tm (s1 rfl) ?_
      refine wSkip ?_
      refine pBlkN ?_
      refine pSeq ?_
      refine wSeq ?_
      refine wSeq ?_
      obtain ⟨y5, hy5, h⟩ := bd h
      refine rg (cp (oFld (fs := f_api_Lattice) (k := 1) rfl o42_1 tm) (s1 rfl) <| cp (oLd t40 tm) (s1 rfl) <| cp (oLenL u40 tm) (s1 rfl) <| cp (oCall rfl (lattice_pairs.ok hy5) b82 (opds_cons tm opds_nil)) (s1 rfl) <| .nil) (by kernel_rfl) ?_
      refine pSeq ?_
      refine wBlock ?_
      obtain ⟨y33, hy33, h⟩ := bd h
      refine wRange (Γ' := [(1, .d (sP (kR f_api_Lattice) a0)), (2, .p 2 0)]) (Γ2 := fun v23 v24 => [(1, .d (sP (kR f_api_Lattice) a0)), (2, .p 2 0), (3, .d ((kI .i64).sig v23)), (4, .d ((kI .i64).sig v24))]) (fun v22 => [.box 2 23 [.d (kI .i64) v22]]) [Code.ret] [2] (lattice_Check.y0 a0) 0 rfl (lattice_pairs_1.ok (a1 := y5)) b108 hy33 rfl ⟨rfl, rfl, trivial⟩ rfl rfl rfl ?_ ?_ ?_
      · intro X H0 w0 l pv v22 v23 v24
        refine wSeq ?_
        refine rg (cp (oAs tm) (s1 rfl) <| .nil) (by kernel_rfl) ?_
        refine pSeq ?_
        refine rg (cp (oAs tm) (s1 rfl) <| .nil) (by kernel_rfl) ?_
        exact qA ⟨rfl, rfl, rfl, rfl, trivial⟩
      · intro X H0 w0 l pv v22 v23 v24 o h
        unfold lattice_Check.y0 at h
        refine wBlock ?_
        obtain ⟨o2, h, hk2⟩ := bd h
        refine wJ1 (fun x28 => x28 = o2) (fun x28 => [(2, .p 2 0), (30, .d (kB.sig x28))]) (fun x28 => [.box 2 23 [.d (kI .i64) v22]]) ?_ ?_
        · obtain ⟨y29, hy29, h⟩ := bd h
          rcases ic h with ⟨hp30, h⟩ | ⟨hp30, h⟩
          · refine rg (cp (oLd t42 tm) (s1 rfl) <| cp (oMv tm) (s1 rfl) <| cp (oMv tm) (s1 rfl) <| cp (oCall rfl (lattice_join.ok hy29) b71 (opds_cons tm (opds_cons tm (opds_cons tm opds_nil)))) (s3 rfl rfl rfl) <| cp (oLt rfl tm (cI (by decide))) (s1 rfl) <| cp (oMv tm) (s1 rfl) <| csB (decide_eq_true hp30) rfl rfl <| csB (decide_eq_true hp30) rfl rfl <| csB (decide_eq_true hp30) rfl rfl <| csB (decide_eq_true hp30) rfl rfl <| csB (decide_eq_true hp30) rfl rfl <| cp (oPkT (decide_eq_true hp30) tm cB) (s1 rfl) <| .nil) (by kernel_rfl) ?_
            exact pJ1 _ (so h) ⟨rfl, rfl, trivial⟩ rfl
          · obtain ⟨y31, hy31, h⟩ := bd h
            refine rg (cp (oLd t42 tm) (s1 rfl) <| cp (oMv tm) (s1 rfl) <| cp (oMv tm) (s1 rfl) <| cp (oCall rfl (lattice_join.ok hy29) b71 (opds_cons tm (opds_cons tm (opds_cons tm opds_nil)))) (s3 rfl rfl rfl) <| cp (oLt rfl tm (cI (by decide))) (s1 rfl) <| cp (oMv tm) (s1 rfl) <| cgB (decide_eq_false hp30) rfl rfl (oLd t42 tm) (s1 rfl) <| cgB (decide_eq_false hp30) rfl rfl (oMv tm) (s1 rfl) <| cgB (decide_eq_false hp30) rfl rfl (oMv tm) (s1 rfl) <| cgB (decide_eq_false hp30) rfl rfl (oCall rfl (lattice_meet.ok hy31) b72 (opds_cons tm (opds_cons tm (opds_cons tm opds_nil)))) (s3 rfl rfl rfl) <| cgB (decide_eq_false hp30) rfl rfl (oLt rfl tm (cI (by decide))) (s1 rfl) <| cp (oPkF (decide_eq_false hp30) tm tm) (s2 rfl rfl) <| .nil) (by kernel_rfl) ?_
            exact pJ1 _ (so h) ⟨rfl, rfl, trivial⟩ rfl
        · rintro x28 rfl
          replace h := hk2
          rcases ic h with ⟨hp32, h⟩ | ⟨hp32, h⟩
          · refine wBT hp32 tm (s1 rfl) ?_
            refine wSeq ?_
            refine rg (cwn (oSt (n := 0) (k := 0) rfl rfl rfl rfl z23 tm (cI (by decide))) (s1 rfl) <| .nil) (by kernel_rfl) ?_
            refine pSeq ?_
            refine wRet ?_
            refine pBlkR ?_
            obtain rfl := so h
            exact qR rfl
          · refine wBF hp32 tm (s1 rfl) ?_
            refine wSkip ?_
            refine pBlkN ?_
            obtain rfl := so h
            exact qN
      · rcases ic h with ⟨hj33, h⟩ | ⟨hj33, h⟩
        · refine jp0 hj33 ?_
          refine pBlkN ?_
          refine pSeq ?_
          refine wSeq ?_
          refine rg (cwn (oSt (n := 0) (k := 0) rfl rfl rfl rfl z23 tm (cI (by decide))) (s1 rfl) <| .nil) (by kernel_rfl) ?_
          refine pSeq ?_
          refine wRet ?_
          obtain rfl := so h
          exact pR1 (.inl rfl) rfl (.boxV (n := 0) rfl rfl t23 <| .nil)
        · rcases ic h with ⟨hj33, h⟩ | ⟨hj33, h⟩
          · refine jpR hj33 rfl ?_
            refine pBlkR ?_
            refine pThenR ?_
            obtain rfl := so h
            exact pR1 (.inl rfl) rfl (.boxV (n := 0) rfl rfl t23 <| .nil)
          · cases h

theorem slices_IndexFunc_int_int.ok {a0 : List Int} {a1 : Int → Option Bool} {r : Int} (h : slices_IndexFunc_int_int.f a0 a1 = some r) : FnA Try.prog 127 [(kL (kI .i64)).sig a0, (sFun Try.prog (rl1 (kI .i64) kB a1))] ((kI .i64).sig r) := by
  refine fnIntro Try.func127 rfl (by kernel_rfl) fun H0 w0 => ?_
  unfold slices_IndexFunc_int_int.f at h
  refine wSeq ?_
  refine rg (cp (oAs (cI (by decide))) trivial <| .nil) (by kernel_rfl) ?_
  refine pSeq ?_
  refine wSeq ?_
  refine wSeq ?_
  refine rg (cp (oMv tm) (s1 rfl) <| cp (oLenL u22 tm) (s1 rfl) <| cp (oMv (cI (by decide))) trivial <| .nil) (by kernel_rfl) ?_
  refine pSeq ?_
  obtain ⟨o1, h, hk1⟩ := bd h
  refine wK0 (.inr () = o1) ([]) ([]) ?_ ?_
  · refine wBlock (wLoop ?_)
    refine lW (pc1 o1 (fun v9 => [(0, .d ((kL (kI .i64)).sig a0)), (1, .d ((sFun Try.prog (rl1 (kI .i64) kB a1)))), (7, .d ((kI .i64).sig (a0.length : Int))), (8, .d ((kI .i64).sig v9))]) (fun v9 => []) (slices_IndexFunc_int_int.l0.partial_correctness a0 a1) ?_ _ h) ⟨rfl, rfl, rfl, rfl, trivial⟩ rfl
    clear h
    intro f' ih v9 h
    refine wSeq ?_
    refine rg (cp (oLt rfl tm tm) (s2 rfl rfl) <| .nil) (by kernel_rfl) ?_
    refine pSeq ?_
    refine wSeq ?_
    rcases ic h with ⟨hp10, h⟩ | ⟨hp10, h⟩
    · refine wCT hp10 tm (s1 rfl) ?_
      refine wSkip ?_
      refine pSeq ?_
      refine wSeq ?_
      refine wBlock ?_
      refine wSeq ?_
      refine rg (cp (oMv tm) (s1 rfl) <| cp (oAs tm) (s1 rfl) <| .nil) (by kernel_rfl) ?_
      refine pSeq ?_
      refine wSeq ?_
      obtain ⟨y11, hy11, h⟩ := bd h
      obtain ⟨y12, hy12, h⟩ := bd h
      refine rg (cp (oMv tm) (s1 rfl) <| cp (oMv tm) (s1 rfl) <| cp (oMv tm) (s1 rfl) <| cp (oIdx u22 z3 hy11 tm tm) (s2 rfl rfl) <| cp (oLd t3 tm) (s1 rfl) <| cp (oCallV rfl (rl1i hy12) tm (opds_cons tm opds_nil)) (s2 rfl rfl) <| .nil) (by kernel_rfl) ?_
      refine pSeq ?_
      rcases ic h with ⟨hp13, h⟩ | ⟨hp13, h⟩
      · refine wBT hp13 tm (s1 rfl) ?_
        refine wSeq ?_
        refine rg (cp (oMv tm) (s1 rfl) <| cp (oAs tm) (s1 rfl) <| .nil) (by kernel_rfl) ?_
        refine pSeq ?_
        refine wRet ?_
        refine pBlkR ?_
        refine pThenR ?_
        refine pThenR ?_
        refine pBlkR ?_
        refine pThenR ?_
        obtain rfl := so h
        replace h := hk1
        refine pThenR ?_
        obtain rfl := so h
        exact pR1 (.inl rfl) rfl (.tmp rfl <| .nil)
      · refine wBF hp13 tm (s1 rfl) ?_
        refine wSkip ?_
        refine pBlkN ?_
        refine pSeq ?_
        refine rg (cp (oAdd tm (cI (by decide))) (s1 rfl) <| cp (oMv tm) (s1 rfl) <| .nil) (by kernel_rfl) ?_
        exact pLoop (lW (ih _ h) ⟨rfl, rfl, rfl, rfl, trivial⟩ rfl)
    · refine wCF hp10 tm (s1 rfl) ?_
      refine wExit ?_
      refine pThenX ?_
      refine pThenX ?_
      refine pBlkX ?_
      exact pJ0 (so h) trivial rfl
  · rintro rfl
    replace h := hk1
    refine pSeq ?_
    refine wSeq ?_
    refine rg (cp (oAs (cI (by decide))) trivial <| .nil) (by kernel_rfl) ?_
    refine pSeq ?_
    refine wRet ?_
    obtain rfl := so h
    exact pR1 (.inl rfl) rfl (.tmp rfl <| .nil)

theorem slices_ContainsFunc_int_int.ok {a0 : List Int} {a1 : Int → Option Bool} {r : Bool} (h : slices_ContainsFunc_int_int.f a0 a1 = some r) : FnA Try.prog 100 [(kL (kI .i64)).sig a0, (sFun Try.prog (rl1 (kI .i64) kB a1))] (kB.sig r) := by
  refine fnIntro Try.func100 rfl (by kernel_rfl) fun H0 w0 => ?_
  unfold slices_ContainsFunc_int_int.f at h
  refine wSeq ?_
  refine rg (cp (oAs cB) trivial <| .nil) (by kernel_rfl) ?_
  refine pSeq ?_
  refine wSeq ?_
  obtain ⟨y1, hy1, h⟩ := bd h
  refine rg (cp (oMv tm) (s1 rfl) <| cp (oMv tm) (s1 rfl) <| cp (oCall rfl (slices_IndexFunc_int_int.ok hy1) b127 (opds_cons tm (opds_cons tm opds_nil))) (s2 rfl rfl) <| cp (oGe rfl tm (cI (by decide))) (s1 rfl) <| cp (oAs tm) (s1 rfl) <| .nil) (by kernel_rfl) ?_
  refine pSeq ?_
  refine wRet ?_
  obtain rfl := so h
  exact pR1 (.inl rfl) rfl (.tmp rfl <| .nil)

theorem lattice_there_1.ok {a0 : Int} {a1 : api_Lattice} {r : Bool} (h : lattice_there_1.f a0 a1 = some r) : FnA Try.prog 101 [(kI .i64).sig a0, sP (kR f_api_Lattice) a1] (kB.sig r) := by
  refine fnIntro Try.func101 rfl (by kernel_rfl) fun H0 w0 => ?_
  unfold lattice_there_1.f at h
  refine wSeq ?_
  refine rg (cp (oAs cB) trivial <| .nil) (by kernel_rfl) ?_
  refine pSeq ?_
  obtain ⟨o1, h, hk1⟩ := bd h
  refine wJ1 (fun x2 => x2 = o1) (fun x2 => [(3, .d (kB.sig x2))]) (fun x2 => []) ?_ ?_
  · rcases ic h with ⟨hp3, h⟩ | ⟨hp3, h⟩
    · refine rg (cp (oMv tm) (s1 rfl) <| cp (oLt rfl tm (cI (by decide))) (s1 rfl) <| cp (oMv tm) (s1 rfl) <| csB (decide_eq_true hp3) rfl rfl <| csB (decide_eq_true hp3) rfl rfl <| csB (decide_eq_true hp3) rfl rfl <| csB (decide_eq_true hp3) rfl rfl <| csB (decide_eq_true hp3) rfl rfl <| cp (oPkT (decide_eq_true hp3) tm cB) (s1 rfl) <| cp (oAs tm) (s1 rfl) <| .nil) (by kernel_rfl) ?_
      exact pJ1 _ (so h) ⟨rfl, trivial⟩ rfl
    · refine rg (cp (oMv tm) (s1 rfl) <| cp (oLt rfl tm (cI (by decide))) (s1 rfl) <| cp (oMv tm) (s1 rfl) <| cgB (decide_eq_false hp3) rfl rfl (oMv tm) (s1 rfl) <| cgB (decide_eq_false hp3) rfl rfl (oFld (fs := f_api_Lattice) (k := 1) rfl o42_1 tm) (s1 rfl) <| cgB (decide_eq_false hp3) rfl rfl (oLd t40 tm) (s1 rfl) <| cgB (decide_eq_false hp3) rfl rfl (oLenL u40 tm) (s1 rfl) <| cgB (decide_eq_false hp3) rfl rfl (oGe rfl tm tm) (s2 rfl rfl) <| cp (oPkF (decide_eq_false hp3) tm tm) (s2 rfl rfl) <| cp (oAs tm) (s1 rfl) <| .nil) (by kernel_rfl) ?_
      exact pJ1 _ (so h) ⟨rfl, trivial⟩ rfl
  · rintro x2 rfl
    replace h := hk1
    refine wRet ?_
    obtain rfl := so h
    exact pR1 (.inl rfl) rfl (.tmp rfl <| .nil)

theorem lattice_there.ok {a0 : api_Lattice} {a1 : List Int} {r : Int} (h : lattice_there.f a0 a1 = some r) : FnA Try.prog 69 [(kR f_api_Lattice).sig a0, (kL (kI .i64)).sig a1] ((kI .i64).sig r) := by
  refine fnIntro Try.func69 rfl (by kernel_rfl) fun H0 w0 => ?_
  unfold lattice_there.f at h
  refine wSeq ?_
  refine rg (cp (oBox tm) (s1 rfl) <| cp (oAs (cI (by decide))) trivial <| .nil) (by kernel_rfl) ?_
  refine pSeq ?_
  refine wSeq ?_
  refine wSeq ?_
  obtain ⟨y1, hy1, h⟩ := bd h
  refine rg (cp (oLd t42 tm) (s1 rfl) <| cp (oCall rfl (lattice_Check.ok hy1) b39 (opds_cons tm opds_nil)) (s1 rfl) <| cp (oAs tm) (s1 rfl) <| .nil) (by kernel_rfl) ?_
  refine pSeq ?_
  refine wSeq ?_
  refine rg (cp (oMv tm) (s1 rfl) <| cp (oNe rfl tm (cI (by decide))) (s1 rfl) <| .nil) (by kernel_rfl) ?_
  refine pSeq ?_
  rcases ic h with ⟨hp2, h⟩ | ⟨hp2, h⟩
  · refine wNT hp2 tm (s1 rfl) ?_
    refine wSkip ?_
    refine pSeq ?_
    refine wSeq ?_
    refine wSeq ?_
    obtain ⟨y3, hy3, h⟩ := bd h
    refine rg (cp (oMv tm) (s1 rfl) <| cp (oMkF (Rl := rl1 (kI .i64) kB (fun z0 => lattice_there_1.f z0 a0)) rfl b101 (rl1e lattice_there_1.ok) (opds_cons tm opds_nil)) (s1 rfl) <| cp (oCall rfl (slices_ContainsFunc_int_int.ok hy3) b100 (opds_cons tm (opds_cons tm opds_nil))) (s2 rfl rfl) <| .nil) (by kernel_rfl) ?_
    refine pSeq ?_
    rcases ic h with ⟨hp4, h⟩ | ⟨hp4, h⟩
    · refine wBT hp4 tm (s1 rfl) ?_
      refine wSeq ?_
      refine rg (cp (oAs (cI (by decide))) trivial <| .nil) (by kernel_rfl) ?_
      refine pSeq ?_
      refine wRet ?_
      refine pThenR ?_
      obtain rfl := so h
      exact pR1 (.inl rfl) rfl (.tmp rfl <| .nil)
    · refine wBF hp4 tm (s1 rfl) ?_
      refine wSkip ?_
      refine pSeq ?_
      refine wSeq ?_
      refine rg (cp (oAs (cI (by decide))) trivial <| .nil) (by kernel_rfl) ?_
      refine pSeq ?_
      refine wRet ?_
      obtain rfl := so h
      exact pR1 (.inl rfl) rfl (.tmp rfl <| .nil)
  · refine wNF hp2 tm (s1 rfl) ?_
    refine wSeq ?_
    refine rg (cp (oMv tm) (s1 rfl) <| cp (oAs tm) (s1 rfl) <| .nil) (by kernel_rfl) ?_
    refine pSeq ?_
    refine wRet ?_
    refine pThenR ?_
    obtain rfl := so h
    exact pR1 (.inl rfl) rfl (.tmp rfl <| .nil)

theorem lattice_Flows.ok {a0 : api_Lattice} {a1 : Int} {a2 : Int} {r : Bool × Int} (h : lattice_Flows.f a0 a1 a2 = some r) : FnA Try.prog 26 [(kR f_api_Lattice).sig a0, (kI .i64).sig a1, (kI .i64).sig a2] (tup [kB.sig r.1, (kI .i64).sig r.2]) := by
  refine fnIntro Try.func26 rfl (by kernel_rfl) fun H0 w0 => ?_
  unfold lattice_Flows.f at h
  refine wSeq ?_
  refine rg (cp (oBox tm) (s1 rfl) <| cp (oAs cB) trivial <| cp (oAs (cI (by decide))) trivial <| .nil) (by kernel_rfl) ?_
  refine pSeq ?_
  refine wSeq ?_
  refine wSeq ?_
  obtain ⟨y1, hy1, h⟩ := bd h
  refine rg (cp (oLd t42 tm) (s1 rfl) <| cp (oMv tm) (s1 rfl) <| cp (oMv tm) (s1 rfl) <| cp (oLit (d := (kI .i64)) el22 (by decide) rfl rfl rfl (e1 tm (e1 tm e0))) (s2 rfl rfl) <| cp (oCall rfl (lattice_there.ok hy1) b69 (opds_cons tm (opds_cons tm opds_nil))) (s2 rfl rfl) <| cp (oAs tm) (s1 rfl) <| .nil) (by kernel_rfl) ?_
  refine pSeq ?_
  refine wSeq ?_
  refine rg (cp (oMv tm) (s1 rfl) <| cp (oNe rfl tm (cI (by decide))) (s1 rfl) <| .nil) (by kernel_rfl) ?_
  refine pSeq ?_
  rcases ic h with ⟨hp2, h⟩ | ⟨hp2, h⟩
  · refine wNT hp2 tm (s1 rfl) ?_
    refine wSkip ?_
    refine pSeq ?_
    refine wSeq ?_
    obtain ⟨y3, hy3, h⟩ := bd h
    refine rg (cp (oLd t42 tm) (s1 rfl) <| cp (oMv tm) (s1 rfl) <| cp (oMv tm) (s1 rfl) <| cp (oCall rfl (lattice_flows.ok hy3) b70 (opds_cons tm (opds_cons tm (opds_cons tm opds_nil)))) (s3 rfl rfl rfl) <| cp (oAs tm) (s1 rfl) <| cp (oAs (cI (by decide))) trivial <| .nil) (by kernel_rfl) ?_
    refine pSeq ?_
    refine wRet ?_
    obtain rfl := so h
    exact pRn (.inl rfl) rfl rfl (.tmp rfl <| .tmp rfl <| .nil)
  · refine wNF hp2 tm (s1 rfl) ?_
    refine wSeq ?_
    refine rg (cp (oMv tm) (s1 rfl) <| cp (oAs cB) trivial <| cp (oAs tm) (s1 rfl) <| .nil) (by kernel_rfl) ?_
    refine pSeq ?_
    refine wRet ?_
    refine pThenR ?_
    obtain rfl := so h
    exact pRn (.inl rfl) rfl rfl (.tmp rfl <| .tmp rfl <| .nil)

theorem lattice_Join.ok {a0 : api_Lattice} {a1 : Int} {a2 : Int} {r : Int × Int} (h : lattice_Join.f a0 a1 a2 = some r) : FnA Try.prog 27 [(kR f_api_Lattice).sig a0, (kI .i64).sig a1, (kI .i64).sig a2] (tup [(kI .i64).sig r.1, (kI .i64).sig r.2]) := by
  refine fnIntro Try.func27 rfl (by kernel_rfl) fun H0 w0 => ?_
  unfold lattice_Join.f at h
  refine wSeq ?_
  refine rg (cp (oBox tm) (s1 rfl) <| cp (oAs (cI (by decide))) trivial <| cp (oAs (cI (by decide))) trivial <| .nil) (by kernel_rfl) ?_
  refine pSeq ?_
  refine wSeq ?_
  refine wSeq ?_
  obtain ⟨y1, hy1, h⟩ := bd h
  refine rg (cp (oLd t42 tm) (s1 rfl) <| cp (oMv tm) (s1 rfl) <| cp (oMv tm) (s1 rfl) <| cp (oLit (d := (kI .i64)) el22 (by decide) rfl rfl rfl (e1 tm (e1 tm e0))) (s2 rfl rfl) <| cp (oCall rfl (lattice_there.ok hy1) b69 (opds_cons tm (opds_cons tm opds_nil))) (s2 rfl rfl) <| cp (oAs tm) (s1 rfl) <| .nil) (by kernel_rfl) ?_
  refine pSeq ?_
  refine wSeq ?_
  refine rg (cp (oMv tm) (s1 rfl) <| cp (oNe rfl tm (cI (by decide))) (s1 rfl) <| .nil) (by kernel_rfl) ?_
  refine pSeq ?_
  rcases ic h with ⟨hp2, h⟩ | ⟨hp2, h⟩
  · refine wNT hp2 tm (s1 rfl) ?_
    refine wSkip ?_
    refine pSeq ?_
    refine wSeq ?_
    obtain ⟨y3, hy3, h⟩ := bd h
    refine rg (cp (oLd t42 tm) (s1 rfl) <| cp (oMv tm) (s1 rfl) <| cp (oMv tm) (s1 rfl) <| cp (oCall rfl (lattice_join.ok hy3) b71 (opds_cons tm (opds_cons tm (opds_cons tm opds_nil)))) (s3 rfl rfl rfl) <| cp (oAs tm) (s1 rfl) <| cp (oAs (cI (by decide))) trivial <| .nil) (by kernel_rfl) ?_
    refine pSeq ?_
    refine wRet ?_
    obtain rfl := so h
    exact pRn (.inl rfl) rfl rfl (.tmp rfl <| .tmp rfl <| .nil)
  · refine wNF hp2 tm (s1 rfl) ?_
    refine wSeq ?_
    refine rg (cp (oMv tm) (s1 rfl) <| cp (oAs (cI (by decide))) trivial <| cp (oAs tm) (s1 rfl) <| .nil) (by kernel_rfl) ?_
    refine pSeq ?_
    refine wRet ?_
    refine pThenR ?_
    obtain rfl := so h
    exact pRn (.inl rfl) rfl rfl (.tmp rfl <| .tmp rfl <| .nil)

theorem lattice_Meet.ok {a0 : api_Lattice} {a1 : Int} {a2 : Int} {r : Int × Int} (h : lattice_Meet.f a0 a1 a2 = some r) : FnA Try.prog 28 [(kR f_api_Lattice).sig a0, (kI .i64).sig a1, (kI .i64).sig a2] (tup [(kI .i64).sig r.1, (kI .i64).sig r.2]) := by
  refine fnIntro Try.func28 rfl (by kernel_rfl) fun H0 w0 => ?_
  unfold lattice_Meet.f at h
  refine wSeq ?_
  refine rg (cp (oBox tm) (s1 rfl) <| cp (oAs (cI (by decide))) trivial <| cp (oAs (cI (by decide))) trivial <| .nil) (by kernel_rfl) ?_
  refine pSeq ?_
  refine wSeq ?_
  refine wSeq ?_
  obtain ⟨y1, hy1, h⟩ := bd h
  refine rg (cp (oLd t42 tm) (s1 rfl) <| cp (oMv tm) (s1 rfl) <| cp (oMv tm) (s1 rfl) <| cp (oLit (d := (kI .i64)) el22 (by decide) rfl rfl rfl (e1 tm (e1 tm e0))) (s2 rfl rfl) <| cp (oCall rfl (lattice_there.ok hy1) b69 (opds_cons tm (opds_cons tm opds_nil))) (s2 rfl rfl) <| cp (oAs tm) (s1 rfl) <| .nil) (by kernel_rfl) ?_
  refine pSeq ?_
  refine wSeq ?_
  refine rg (cp (oMv tm) (s1 rfl) <| cp (oNe rfl tm (cI (by decide))) (s1 rfl) <| .nil) (by kernel_rfl) ?_
  refine pSeq ?_
  rcases ic h with ⟨hp2, h⟩ | ⟨hp2, h⟩
  · refine wNT hp2 tm (s1 rfl) ?_
    refine wSkip ?_
    refine pSeq ?_
    refine wSeq ?_
    obtain ⟨y3, hy3, h⟩ := bd h
    refine rg (cp (oLd t42 tm) (s1 rfl) <| cp (oMv tm) (s1 rfl) <| cp (oMv tm) (s1 rfl) <| cp (oCall rfl (lattice_meet.ok hy3) b72 (opds_cons tm (opds_cons tm (opds_cons tm opds_nil)))) (s3 rfl rfl rfl) <| cp (oAs tm) (s1 rfl) <| cp (oAs (cI (by decide))) trivial <| .nil) (by kernel_rfl) ?_
    refine pSeq ?_
    refine wRet ?_
    obtain rfl := so h
    exact pRn (.inl rfl) rfl rfl (.tmp rfl <| .tmp rfl <| .nil)
  · refine wNF hp2 tm (s1 rfl) ?_
    refine wSeq ?_
    refine rg (cp (oMv tm) (s1 rfl) <| cp (oAs (cI (by decide))) trivial <| cp (oAs tm) (s1 rfl) <| .nil) (by kernel_rfl) ?_
    refine pSeq ?_
    refine wRet ?_
    refine pThenR ?_
    obtain rfl := so h
    exact pRn (.inl rfl) rfl rfl (.tmp rfl <| .tmp rfl <| .nil)

theorem lattice_height.okB {rc : api_Lattice → Int → Option Int} (hrc : ∀ {a0 : api_Lattice} {a1 : Int} {r : Int}, rc a0 a1 = some r → FnA Try.prog 73 [(kR f_api_Lattice).sig a0, (kI .i64).sig a1] ((kI .i64).sig r)) {a0 : api_Lattice} {a1 : Int} {r : Int} (h : lattice_height.B rc a0 a1 = some r) : FnA Try.prog 73 [(kR f_api_Lattice).sig a0, (kI .i64).sig a1] ((kI .i64).sig r) := by
  refine fnIntro Try.func73 rfl (by kernel_rfl) fun H0 w0 => ?_
  unfold lattice_height.B at h
  refine wSeq ?_
  refine rg (cp (oBox tm) (s1 rfl) <| cp (oAs (cI (by decide))) trivial <| .nil) (by kernel_rfl) ?_
  refine pSeq ?_
  refine wSeq ?_
  refine rg (cp (oAs (cI (by decide))) trivial <| .nil) (by kernel_rfl) ?_
  refine pSeq ?_
  refine wSeq ?_
  refine wSeq ?_
  refine rg (cp (oFld (fs := f_api_Lattice) (k := 1) rfl o42_1 tm) (s1 rfl) <| cp (oLd t40 tm) (s1 rfl) <| cp (oLenL u40 tm) (s1 rfl) <| cp (oMv (cI (by decide))) trivial <| .nil) (by kernel_rfl) ?_
  refine pSeq ?_
  obtain ⟨o1, h, hk1⟩ := bd h
  refine wK1 (fun x35 => x35 = o1) (fun x35 => [(5, .d ((kI .i64).sig x35))]) (fun x35 => []) ?_ ?_
  · refine wBlock (wLoop ?_)
    refine lW (pc2 o1 (fun v33 v34 => [(1, .d ((kI .i64).sig a1)), (2, .d (sP (kR f_api_Lattice) a0)), (5, .d ((kI .i64).sig v34)), (9, .d ((kI .i64).sig (a0.Up.length : Int))), (10, .d ((kI .i64).sig v33))]) (fun v33 v34 => []) (lattice_height.l0.partial_correctness a0 a1 rc) ?_ _ _ h) ⟨rfl, rfl, rfl, rfl, rfl, trivial⟩ rfl
    clear h
    intro f' ih v33 v34 h
    refine wSeq ?_
    refine rg (cp (oLt rfl tm tm) (s2 rfl rfl) <| .nil) (by kernel_rfl) ?_
    refine pSeq ?_
    refine wSeq ?_
    rcases ic h with ⟨hp36, h⟩ | ⟨hp36, h⟩
    · refine wCT hp36 tm (s1 rfl) ?_
      refine wSkip ?_
      refine pSeq ?_
      obtain ⟨o2, h, hk2⟩ := bd h
      refine wJ1 (fun x44 => x44 = o2) (fun x44 => [(1, .d ((kI .i64).sig a1)), (2, .d (sP (kR f_api_Lattice) a0)), (5, .d ((kI .i64).sig x44)), (9, .d ((kI .i64).sig (a0.Up.length : Int))), (10, .d ((kI .i64).sig v33))]) (fun x44 => []) ?_ ?_
      · refine wBlock ?_
        refine wSeq ?_
        refine rg (cp (oMv tm) (s1 rfl) <| cp (oAs tm) (s1 rfl) <| .nil) (by kernel_rfl) ?_
        refine pSeq ?_
        obtain ⟨o3, h, hk3⟩ := bd h
        refine wJ1 (fun x47 => x47 = o3) (fun x47 => [(1, .d ((kI .i64).sig a1)), (2, .d (sP (kR f_api_Lattice) a0)), (5, .d ((kI .i64).sig v34)), (6, .d ((kI .i64).sig v33)), (9, .d ((kI .i64).sig (a0.Up.length : Int))), (10, .d ((kI .i64).sig v33)), (21, .d (kB.sig x47))]) (fun x47 => []) ?_ ?_
        · rcases ic h with ⟨hp48, h⟩ | ⟨hp48, h⟩
          · refine rg (cp (oMv tm) (s1 rfl) <| cp (oMv tm) (s1 rfl) <| cp (oNe rfl tm tm) (s2 rfl rfl) <| cp (oMv tm) (s1 rfl) <| csB (nf hp48) rfl rfl <| csB (nf hp48) rfl rfl <| csB (nf hp48) rfl rfl <| csB (nf hp48) rfl rfl <| cp (oPkF (nf hp48) tm cB) (s1 rfl) <| .nil) (by kernel_rfl) ?_
            exact pJ1 _ (so h) ⟨rfl, rfl, rfl, rfl, rfl, rfl, rfl, trivial⟩ rfl
          · obtain ⟨y49, hy49, h⟩ := bd h
            refine rg (cp (oMv tm) (s1 rfl) <| cp (oMv tm) (s1 rfl) <| cp (oNe rfl tm tm) (s2 rfl rfl) <| cp (oMv tm) (s1 rfl) <| cgB (nt hp48) rfl rfl (oLd t42 tm) (s1 rfl) <| cgB (nt hp48) rfl rfl (oMv tm) (s1 rfl) <| cgB (nt hp48) rfl rfl (oMv tm) (s1 rfl) <| cgB (nt hp48) rfl rfl (oCall rfl (lattice_flows.ok hy49) b70 (opds_cons tm (opds_cons tm (opds_cons tm opds_nil)))) (s3 rfl rfl rfl) <| cp (oPkT (nt hp48) tm tm) (s2 rfl rfl) <| .nil) (by kernel_rfl) ?_
            exact pJ1 _ (so h) ⟨rfl, rfl, rfl, rfl, rfl, rfl, rfl, trivial⟩ rfl
        · rintro x47 rfl
          replace h := hk3
          rcases ic h with ⟨hp50, h⟩ | ⟨hp50, h⟩
          · refine wBT hp50 tm (s1 rfl) ?_
            obtain ⟨y51, hy51, h⟩ := bd h
            refine rg (cp (oMv tm) (s1 rfl) <| cp (oLd t42 tm) (s1 rfl) <| cp (oMv tm) (s1 rfl) <| cp (oCall rfl (hrc hy51) b73 (opds_cons tm (opds_cons tm opds_nil))) (s2 rfl rfl) <| cp (oAdd (cI (by decide)) tm) (s1 rfl) <| cp (oMax tm tm) (s2 rfl rfl) <| cp (oAs tm) (s1 rfl) <| .nil) (by kernel_rfl) ?_
            refine pBlkN ?_
            exact pJ1 _ (so h) ⟨rfl, rfl, rfl, rfl, rfl, trivial⟩ rfl
          · refine wBF hp50 tm (s1 rfl) ?_
            refine wSkip ?_
            refine pBlkN ?_
            exact pJ1 _ (so h) ⟨rfl, rfl, rfl, rfl, rfl, trivial⟩ rfl
      · rintro x44 rfl
        replace h := hk2
        refine rg (cp (oAdd tm (cI (by decide))) (s1 rfl) <| cp (oMv tm) (s1 rfl) <| .nil) (by kernel_rfl) ?_
        exact pLoop (lW (ih _ _ h) ⟨rfl, rfl, rfl, rfl, rfl, trivial⟩ rfl)
    · refine wCF hp36 tm (s1 rfl) ?_
      refine wExit ?_
      refine pThenX ?_
      refine pThenX ?_
      refine pBlkX ?_
      exact pJ1 _ (so h) ⟨rfl, trivial⟩ rfl
  · rintro x35 rfl
    replace h := hk1
    refine pSeq ?_
    refine wSeq ?_
    refine rg (cp (oMv tm) (s1 rfl) <| cp (oAs tm) (s1 rfl) <| .nil) (by kernel_rfl) ?_
    refine pSeq ?_
    refine wRet ?_
    obtain rfl := so h
    exact pR1 (.inl rfl) rfl (.tmp rfl <| .nil)
theorem lattice_height.okF : ∀ (k : Nat) {a0 : api_Lattice} {a1 : Int} {r : Int}, lattice_height.F k a0 a1 = some r → FnA Try.prog 73 [(kR f_api_Lattice).sig a0, (kI .i64).sig a1] ((kI .i64).sig r)
  | 0, _, _, _, h => by cases h
  | k + 1, _, _, _, h => lattice_height.okB (fun h => lattice_height.okF k h) h
theorem lattice_height.ok {a0 : api_Lattice} {a1 : Int} {r : Int} (h : lattice_height.f a0 a1 = some r) : FnA Try.prog 73 [(kR f_api_Lattice).sig a0, (kI .i64).sig a1] ((kI .i64).sig r) := lattice_height.okF 1000 h

theorem lattice_Height.ok {a0 : api_Lattice} {a1 : Int} {r : Int × Int} (h : lattice_Height.f a0 a1 = some r) : FnA Try.prog 29 [(kR f_api_Lattice).sig a0, (kI .i64).sig a1] (tup [(kI .i64).sig r.1, (kI .i64).sig r.2]) := by
  refine fnIntro Try.func29 rfl (by kernel_rfl) fun H0 w0 => ?_
  unfold lattice_Height.f at h
  refine wSeq ?_
  refine rg (cp (oBox tm) (s1 rfl) <| cp (oAs (cI (by decide))) trivial <| cp (oAs (cI (by decide))) trivial <| .nil) (by kernel_rfl) ?_
  refine pSeq ?_
  refine wSeq ?_
  refine wSeq ?_
  obtain ⟨y1, hy1, h⟩ := bd h
  refine rg (cp (oLd t42 tm) (s1 rfl) <| cp (oMv tm) (s1 rfl) <| cp (oLit (d := (kI .i64)) el22 (by decide) rfl rfl rfl (e1 tm e0)) (s1 rfl) <| cp (oCall rfl (lattice_there.ok hy1) b69 (opds_cons tm (opds_cons tm opds_nil))) (s2 rfl rfl) <| cp (oAs tm) (s1 rfl) <| .nil) (by kernel_rfl) ?_
  refine pSeq ?_
  refine wSeq ?_
  refine rg (cp (oMv tm) (s1 rfl) <| cp (oNe rfl tm (cI (by decide))) (s1 rfl) <| .nil) (by kernel_rfl) ?_
  refine pSeq ?_
  rcases ic h with ⟨hp2, h⟩ | ⟨hp2, h⟩
  · refine wNT hp2 tm (s1 rfl) ?_
    refine wSkip ?_
    refine pSeq ?_
    refine wSeq ?_
    obtain ⟨y3, hy3, h⟩ := bd h
    refine rg (cp (oLd t42 tm) (s1 rfl) <| cp (oMv tm) (s1 rfl) <| cp (oCall rfl (lattice_height.ok hy3) b73 (opds_cons tm (opds_cons tm opds_nil))) (s2 rfl rfl) <| cp (oAs tm) (s1 rfl) <| cp (oAs (cI (by decide))) trivial <| .nil) (by kernel_rfl) ?_
    refine pSeq ?_
    refine wRet ?_
    obtain rfl := so h
    exact pRn (.inl rfl) rfl rfl (.tmp rfl <| .tmp rfl <| .nil)
  · refine wNF hp2 tm (s1 rfl) ?_
    refine wSeq ?_
    refine rg (cp (oMv tm) (s1 rfl) <| cp (oAs (cI (by decide))) trivial <| cp (oAs tm) (s1 rfl) <| .nil) (by kernel_rfl) ?_
    refine pSeq ?_
    refine wRet ?_
    refine pThenR ?_
    obtain rfl := so h
    exact pRn (.inl rfl) rfl rfl (.tmp rfl <| .tmp rfl <| .nil)

theorem reticentref01_Name.ok {a0 : Str} {r : Bool} (h : reticentref01_Name.f a0 = some r) : FnA Try.prog 104 [kS.sig a0] (kB.sig r) := by
  refine fnIntro Try.func104 rfl (by kernel_rfl) fun H0 w0 => ?_
  unfold reticentref01_Name.f at h
  refine wSeq ?_
  refine rg (cp (oAs cB) trivial <| .nil) (by kernel_rfl) ?_
  refine pSeq ?_
  refine wSeq ?_
  refine wSeq ?_
  refine rg (cp (oAs (cI (by decide))) trivial <| .nil) (by kernel_rfl) ?_
  refine pSeq ?_
  obtain ⟨o1, h, hk1⟩ := bd h
  refine wK0 (.inr () = o1) ([(0, .d (kS.sig a0))]) ([]) ?_ ?_
  · refine wBlock (wLoop ?_)
    refine lW (pc1 o1 (fun v19 => [(0, .d (kS.sig a0)), (3, .d ((kI .i64).sig v19))]) (fun v19 => []) (reticentref01_Name.l0.partial_correctness a0) ?_ _ h) ⟨rfl, rfl, trivial⟩ rfl
    clear h
    intro f' ih v19 h
    refine wSeq ?_
    refine wSeq ?_
    refine rg (cp (oMv tm) (s1 rfl) <| cp (oMv tm) (s1 rfl) <| cp (oLenS u9 tm) (s1 rfl) <| cp (oLt rfl tm tm) (s2 rfl rfl) <| .nil) (by kernel_rfl) ?_
    refine pSeq ?_
    rcases ic h with ⟨hp20, h⟩ | ⟨hp20, h⟩
    · refine wCT hp20 tm (s1 rfl) ?_
      refine wSkip ?_
      refine pSeq ?_
      refine wSeq ?_
      refine wBlock ?_
      obtain ⟨o2, h, hk2⟩ := bd h
      refine wJ1 (fun x24 => x24 = o2) (fun x24 => [(0, .d (kS.sig a0)), (3, .d ((kI .i64).sig v19)), (19, .d (kB.sig x24))]) (fun x24 => []) ?_ ?_
      · obtain ⟨hc25, h⟩ := ib h
        rcases ic h with ⟨hp26, h⟩ | ⟨hp26, h⟩
        · refine rg (cp (oMv tm) (s1 rfl) <| cp (oMv tm) (s1 rfl) <| cp (oIdxS u9 hc25.1 hc25.2 tm tm) (s2 rfl rfl) <| cp (oLt rfl tm (cI (by decide))) (s1 rfl) <| cp (oMv tm) (s1 rfl) <| csB (decide_eq_true hp26) rfl rfl <| csB (decide_eq_true hp26) rfl rfl <| csB (decide_eq_true hp26) rfl rfl <| csB (decide_eq_true hp26) rfl rfl <| cp (oPkT (decide_eq_true hp26) tm cB) (s1 rfl) <| .nil) (by kernel_rfl) ?_
          exact pJ1 _ (so h) ⟨rfl, rfl, rfl, trivial⟩ rfl
        · obtain ⟨hc27, h⟩ := ib h
          refine rg (cp (oMv tm) (s1 rfl) <| cp (oMv tm) (s1 rfl) <| cp (oIdxS u9 hc25.1 hc25.2 tm tm) (s2 rfl rfl) <| cp (oLt rfl tm (cI (by decide))) (s1 rfl) <| cp (oMv tm) (s1 rfl) <| cgB (decide_eq_false hp26) rfl rfl (oMv tm) (s1 rfl) <| cgB (decide_eq_false hp26) rfl rfl (oMv tm) (s1 rfl) <| cgB (decide_eq_false hp26) rfl rfl (oIdxS u9 hc27.1 hc27.2 tm tm) (s2 rfl rfl) <| cgB (decide_eq_false hp26) rfl rfl (oGt rfl tm (cI (by decide))) (s1 rfl) <| cp (oPkF (decide_eq_false hp26) tm tm) (s2 rfl rfl) <| .nil) (by kernel_rfl) ?_
          exact pJ1 _ (so h) ⟨rfl, rfl, rfl, trivial⟩ rfl
      · rintro x24 rfl
        replace h := hk2
        rcases ic h with ⟨hp28, h⟩ | ⟨hp28, h⟩
        · refine wBT hp28 tm (s1 rfl) ?_
          refine wSeq ?_
          refine rg (cp (oAs cB) trivial <| .nil) (by kernel_rfl) ?_
          refine pSeq ?_
          refine wRet ?_
          refine pBlkR ?_
          refine pThenR ?_
          refine pThenR ?_
          refine pBlkR ?_
          refine pThenR ?_
          obtain rfl := so h
          replace h := hk1
          refine pThenR ?_
          obtain rfl := so h
          exact pR1 (.inl rfl) rfl (.tmp rfl <| .nil)
        · refine wBF hp28 tm (s1 rfl) ?_
          refine wSkip ?_
          refine pBlkN ?_
          refine pSeq ?_
          refine rg (cp (oMv tm) (s1 rfl) <| cp (oAdd tm (cI (by decide))) (s1 rfl) <| cp (oAs tm) (s1 rfl) <| .nil) (by kernel_rfl) ?_
          exact pLoop (lW (ih _ h) ⟨rfl, rfl, trivial⟩ rfl)
    · refine wCF hp20 tm (s1 rfl) ?_
      refine wExit ?_
      refine pThenX ?_
      refine pThenX ?_
      refine pBlkX ?_
      exact pJ0 (so h) ⟨rfl, trivial⟩ rfl
  · rintro rfl
    replace h := hk1
    refine pSeq ?_
    obtain ⟨o1, h, hk1⟩ := bd h
    refine wJ1 (fun x30 => x30 = o1) (fun x30 => [(2, .d (kB.sig x30))]) (fun x30 => []) ?_ ?_
    · rcases ic h with ⟨hp31, h⟩ | ⟨hp31, h⟩
      · refine rg (cp (oMv tm) (s1 rfl) <| cp (oLenS u9 tm) (s1 rfl) <| cp (oGt rfl tm (cI (by decide))) (s1 rfl) <| cp (oMv tm) (s1 rfl) <| cgB (decide_eq_true hp31) rfl rfl (oMv tm) (s1 rfl) <| cgB (decide_eq_true hp31) rfl rfl (oLenS u9 tm) (s1 rfl) <| cgB (decide_eq_true hp31) rfl rfl (oLe rfl tm (cI (by decide))) (s1 rfl) <| cp (oPkT (decide_eq_true hp31) tm tm) (s2 rfl rfl) <| cp (oAs tm) (s1 rfl) <| .nil) (by kernel_rfl) ?_
        exact pJ1 _ (so h) ⟨rfl, trivial⟩ rfl
      · refine rg (cp (oMv tm) (s1 rfl) <| cp (oLenS u9 tm) (s1 rfl) <| cp (oGt rfl tm (cI (by decide))) (s1 rfl) <| cp (oMv tm) (s1 rfl) <| csB (decide_eq_false hp31) rfl rfl <| csB (decide_eq_false hp31) rfl rfl <| csB (decide_eq_false hp31) rfl rfl <| cp (oPkF (decide_eq_false hp31) tm cB) (s1 rfl) <| cp (oAs tm) (s1 rfl) <| .nil) (by kernel_rfl) ?_
        exact pJ1 _ (so h) ⟨rfl, trivial⟩ rfl
    · rintro x30 rfl
      replace h := hk1
      refine wRet ?_
      obtain rfl := so h
      exact pR1 (.inl rfl) rfl (.tmp rfl <| .nil)

theorem reticentref01_high.ok {a0 : Int} {a1 : Int} {r : Bool} (h : reticentref01_high.f a0 a1 = some r) : FnA Try.prog 105 [(kI .u32).sig a0, (kI .i64).sig a1] (kB.sig r) := by
  refine fnIntro Try.func105 rfl (by kernel_rfl) fun H0 w0 => ?_
  unfold reticentref01_high.f at h
  refine wSeq ?_
  refine rg (cp (oAs cB) trivial <| .nil) (by kernel_rfl) ?_
  refine pSeq ?_
  refine wSeq ?_
  refine wSeq ?_
  refine rg (cp (oAs (cI (by decide))) trivial <| .nil) (by kernel_rfl) ?_
  refine pSeq ?_
  obtain ⟨o1, h, hk1⟩ := bd h
  refine wK1 (fun x5 => x5 = o1) (fun x5 => [(0, .d ((kI .u32).sig x5))]) (fun x5 => []) ?_ ?_
  · refine wBlock (wLoop ?_)
    refine lW (pc2 o1 (fun v3 v4 => [(0, .d ((kI .u32).sig v3)), (1, .d ((kI .i64).sig a1)), (5, .d ((kI .i64).sig v4))]) (fun v3 v4 => []) (reticentref01_high.l0.partial_correctness a1) ?_ _ _ h) ⟨rfl, rfl, rfl, trivial⟩ rfl
    clear h
    intro f' ih v3 v4 h
    refine wSeq ?_
    refine wSeq ?_
    refine rg (cp (oMv tm) (s1 rfl) <| cp (oMv tm) (s1 rfl) <| cp (oLt rfl tm tm) (s2 rfl rfl) <| .nil) (by kernel_rfl) ?_
    refine pSeq ?_
    rcases ic h with ⟨hp6, h⟩ | ⟨hp6, h⟩
    · refine wCT hp6 tm (s1 rfl) ?_
      refine wSkip ?_
      refine pSeq ?_
      refine wSeq ?_
      refine wBlock ?_
      refine rg (cp (oMv tm) (s1 rfl) <| cp (oQuo (by decide) tm (cI (by decide))) (s1 rfl) <| cp (oAs tm) (s1 rfl) <| .nil) (by kernel_rfl) ?_
      refine pBlkN ?_
      refine pSeq ?_
      refine rg (cp (oMv tm) (s1 rfl) <| cp (oAdd tm (cI (by decide))) (s1 rfl) <| cp (oAs tm) (s1 rfl) <| .nil) (by kernel_rfl) ?_
      exact pLoop (lW (ih _ _ h) ⟨rfl, rfl, rfl, trivial⟩ rfl)
    · refine wCF hp6 tm (s1 rfl) ?_
      refine wExit ?_
      refine pThenX ?_
      refine pThenX ?_
      refine pBlkX ?_
      exact pJ1 _ (so h) ⟨rfl, trivial⟩ rfl
  · rintro x5 rfl
    replace h := hk1
    refine pSeq ?_
    refine wSeq ?_
    refine rg (cp (oMv tm) (s1 rfl) <| cp (oGt rfl tm (cI (by decide))) (s1 rfl) <| cp (oAs tm) (s1 rfl) <| .nil) (by kernel_rfl) ?_
    refine pSeq ?_
    refine wRet ?_
    obtain rfl := so h
    exact pR1 (.inl rfl) rfl (.tmp rfl <| .nil)

theorem reticentref01_may.ok {a0 : api_Lattice} {r : Bool} (h : reticentref01_may.f a0 = some r) : FnA Try.prog 74 [(kR f_api_Lattice).sig a0] (kB.sig r) := by
  refine fnIntro Try.func74 rfl (by kernel_rfl) fun H0 w0 => ?_
  unfold reticentref01_may.f at h
  refine wSeq ?_
  refine rg (cp (oBox tm) (s1 rfl) <| cp (oAs cB) trivial <| .nil) (by kernel_rfl) ?_
  refine pSeq ?_
  refine wSeq ?_
  obtain ⟨o1, h, hk1⟩ := bd h
  refine wJ1 (fun x3 => x3 = o1) (fun x3 => [(1, .d (sP (kR f_api_Lattice) a0)), (25, .d (kB.sig x3))]) (fun x3 => []) ?_ ?_
  · rcases ic h with ⟨hp4, h⟩ | ⟨hp4, h⟩
    · refine rg (cp (oFld (fs := f_api_Lattice) (k := 1) rfl o42_1 tm) (s1 rfl) <| cp (oLd t40 tm) (s1 rfl) <| cp (oLenL u40 tm) (s1 rfl) <| cp (oLt rfl tm (cI (by decide))) (s1 rfl) <| cp (oMv tm) (s1 rfl) <| csB (decide_eq_true hp4) rfl rfl <| csB (decide_eq_true hp4) rfl rfl <| csB (decide_eq_true hp4) rfl rfl <| csB (decide_eq_true hp4) rfl rfl <| cp (oPkT (decide_eq_true hp4) tm cB) (s1 rfl) <| cp (oMv tm) (s1 rfl) <| csB rfl rfl rfl <| csB rfl rfl rfl <| csB rfl rfl rfl <| csB rfl rfl rfl <| csB rfl rfl rfl <| csB rfl rfl rfl <| csB rfl rfl rfl <| cp (oPkT rfl tm cB) (s1 rfl) <| .nil) (by kernel_rfl) ?_
      exact pJ1 _ (so h) ⟨rfl, rfl, trivial⟩ rfl
    · rcases ic h with ⟨hp5, h⟩ | ⟨hp5, h⟩
      · refine rg (cp (oFld (fs := f_api_Lattice) (k := 1) rfl o42_1 tm) (s1 rfl) <| cp (oLd t40 tm) (s1 rfl) <| cp (oLenL u40 tm) (s1 rfl) <| cp (oLt rfl tm (cI (by decide))) (s1 rfl) <| cp (oMv tm) (s1 rfl) <| cgB (decide_eq_false hp4) rfl rfl (oFld (fs := f_api_Lattice) (k := 1) rfl o42_1 tm) (s1 rfl) <| cgB (decide_eq_false hp4) rfl rfl (oLd t40 tm) (s1 rfl) <| cgB (decide_eq_false hp4) rfl rfl (oLenL u40 tm) (s1 rfl) <| cgB (decide_eq_false hp4) rfl rfl (oGt rfl tm (cI (by decide))) (s1 rfl) <| cp (oPkF (decide_eq_false hp4) tm tm) (s2 rfl rfl) <| cp (oMv tm) (s1 rfl) <| csB (decide_eq_true hp5) rfl rfl <| csB (decide_eq_true hp5) rfl rfl <| csB (decide_eq_true hp5) rfl rfl <| csB (decide_eq_true hp5) rfl rfl <| csB (decide_eq_true hp5) rfl rfl <| csB (decide_eq_true hp5) rfl rfl <| csB (decide_eq_true hp5) rfl rfl <| cp (oPkT (decide_eq_true hp5) tm cB) (s1 rfl) <| .nil) (by kernel_rfl) ?_
        exact pJ1 _ (so h) ⟨rfl, rfl, trivial⟩ rfl
      · refine rg (cp (oFld (fs := f_api_Lattice) (k := 1) rfl o42_1 tm) (s1 rfl) <| cp (oLd t40 tm) (s1 rfl) <| cp (oLenL u40 tm) (s1 rfl) <| cp (oLt rfl tm (cI (by decide))) (s1 rfl) <| cp (oMv tm) (s1 rfl) <| cgB (decide_eq_false hp4) rfl rfl (oFld (fs := f_api_Lattice) (k := 1) rfl o42_1 tm) (s1 rfl) <| cgB (decide_eq_false hp4) rfl rfl (oLd t40 tm) (s1 rfl) <| cgB (decide_eq_false hp4) rfl rfl (oLenL u40 tm) (s1 rfl) <| cgB (decide_eq_false hp4) rfl rfl (oGt rfl tm (cI (by decide))) (s1 rfl) <| cp (oPkF (decide_eq_false hp4) tm tm) (s2 rfl rfl) <| cp (oMv tm) (s1 rfl) <| cgB (decide_eq_false hp5) rfl rfl (oFld (fs := f_api_Lattice) (k := 0) rfl o42_0 tm) (s1 rfl) <| cgB (decide_eq_false hp5) rfl rfl (oLd t39 tm) (s1 rfl) <| cgB (decide_eq_false hp5) rfl rfl (oLenL u39 tm) (s1 rfl) <| cgB (decide_eq_false hp5) rfl rfl (oFld (fs := f_api_Lattice) (k := 1) rfl o42_1 tm) (s1 rfl) <| cgB (decide_eq_false hp5) rfl rfl (oLd t40 tm) (s1 rfl) <| cgB (decide_eq_false hp5) rfl rfl (oLenL u40 tm) (s1 rfl) <| cgB (decide_eq_false hp5) rfl rfl (oNe rfl tm tm) (s2 rfl rfl) <| cp (oPkF (decide_eq_false hp5) tm tm) (s2 rfl rfl) <| .nil) (by kernel_rfl) ?_
        exact pJ1 _ (so h) ⟨rfl, rfl, trivial⟩ rfl
  · rintro x3 rfl
    replace h := hk1
    rcases ic h with ⟨hp6, h⟩ | ⟨hp6, h⟩
    · refine wBT hp6 tm (s1 rfl) ?_
      refine wSeq ?_
      refine rg (cp (oAs cB) trivial <| .nil) (by kernel_rfl) ?_
      refine pSeq ?_
      refine wRet ?_
      refine pThenR ?_
      obtain rfl := so h
      exact pR1 (.inl rfl) rfl (.tmp rfl <| .nil)
    · refine wBF hp6 tm (s1 rfl) ?_
      refine wSkip ?_
      refine pSeq ?_
      refine wSeq ?_
      refine wSeq ?_
      refine rg (cp (oFld (fs := f_api_Lattice) (k := 0) rfl o42_0 tm) (s1 rfl) <| cp (oLd t39 tm) (s1 rfl) <| cp (oLenL u39 tm) (s1 rfl) <| cp (oMv (cI (by decide))) trivial <| .nil) (by kernel_rfl) ?_
      refine pSeq ?_
      obtain ⟨o1, h, hk1⟩ := bd h
      refine wK0 (.inr () = o1) ([]) ([]) ?_ ?_
      · refine wBlock (wLoop ?_)
        refine lW (pc1 o1 (fun v53 => [(1, .d (sP (kR f_api_Lattice) a0)), (27, .d ((kL kS).sig a0.Names)), (28, .d ((kI .i64).sig (a0.Names.length : Int))), (29, .d ((kI .i64).sig v53))]) (fun v53 => []) (reticentref01_may.l2.partial_correctness a0) ?_ _ h) ⟨rfl, rfl, rfl, rfl, trivial⟩ rfl
        clear h
        intro f' ih v53 h
        refine wSeq ?_
        refine rg (cp (oLt rfl tm tm) (s2 rfl rfl) <| .nil) (by kernel_rfl) ?_
        refine pSeq ?_
        refine wSeq ?_
        rcases ic h with ⟨hp54, h⟩ | ⟨hp54, h⟩
        · refine wCT hp54 tm (s1 rfl) ?_
          refine wSkip ?_
          refine pSeq ?_
          refine wSeq ?_
          refine wBlock ?_
          refine wSeq ?_
          obtain ⟨y55, hy55, h⟩ := bd h
          refine rg (cp (oMv tm) (s1 rfl) <| cp (oIdx u39 z9 hy55 tm tm) (s2 rfl rfl) <| cp (oLd t9 tm) (s1 rfl) <| cp (oAs tm) (s1 rfl) <| cp (oAs tm) (s1 rfl) <| .nil) (by kernel_rfl) ?_
          refine pSeq ?_
          refine wSeq ?_
          obtain ⟨o2, h, hk2⟩ := bd h
          refine wJ1 (fun x60 => x60 = o2) (fun x60 => [(1, .d (sP (kR f_api_Lattice) a0)), (3, .d ((kI .i64).sig v53)), (4, .d (kS.sig y55)), (27, .d ((kL kS).sig a0.Names)), (28, .d ((kI .i64).sig (a0.Names.length : Int))), (29, .d ((kI .i64).sig v53)), (47, .d (kB.sig x60))]) (fun x60 => []) ?_ ?_
          · obtain ⟨y61, hy61, h⟩ := bd h
            rcases ic h with ⟨hp62, h⟩ | ⟨hp62, h⟩
            · refine rgD hm (cp (oMv tm) (s1 rfl) <| cp (oCall rfl (reticentref01_Name.ok hy61) b104 (opds_cons tm opds_nil)) (s1 rfl) <| cp (oNot tm) (s1 rfl) <| cp (oMv tm) (s1 rfl) <| csB hp62 rfl rfl <| csB hp62 rfl rfl <| csB hp62 rfl rfl <| csB hp62 rfl rfl <| csB hp62 rfl rfl <| csB hp62 rfl rfl <| csB hp62 rfl rfl <| csB hp62 rfl rfl <| csB hp62 rfl rfl <| cp (oPkT hp62 tm cB) (s1 rfl) <| .nil) (by kernel_rfl) (by kernel_rfl) ?_
              exact pJ1 _ (so h) ⟨rfl, rfl, rfl, rfl, rfl, rfl, rfl, trivial⟩ rfl
            · obtain ⟨y63, hy63, h⟩ := bd h
              obtain ⟨y64, hy64, h⟩ := bd h
              refine rgD hm (cp (oMv tm) (s1 rfl) <| cp (oCall rfl (reticentref01_Name.ok hy61) b104 (opds_cons tm opds_nil)) (s1 rfl) <| cp (oNot tm) (s1 rfl) <| cp (oMv tm) (s1 rfl) <| cgB (nb hp62) rfl rfl (oFld (fs := f_api_Lattice) (k := 1) rfl o42_1 tm) (s1 rfl) <| cgB (nb hp62) rfl rfl (oLd t40 tm) (s1 rfl) <| cgB (nb hp62) rfl rfl (oMv tm) (s1 rfl) <| cgB (nb hp62) rfl rfl (oIdx u40 z64 hy63 tm tm) (s2 rfl rfl) <| cgB (nb hp62) rfl rfl (oLd t64 tm) (s1 rfl) <| cgB (nb hp62) rfl rfl (oFld (fs := f_api_Lattice) (k := 1) rfl o42_1 tm) (s1 rfl) <| cgB (nb hp62) rfl rfl (oLd t40 tm) (s1 rfl) <| cgB (nb hp62) rfl rfl (oLenL u40 tm) (s1 rfl) <| cgB (nb hp62) rfl rfl (oCall rfl (reticentref01_high.ok hy64) b105 (opds_cons tm (opds_cons tm opds_nil))) (s2 rfl rfl) <| cp (oPkF (nb hp62) tm tm) (s2 rfl rfl) <| .nil) (by kernel_rfl) (by kernel_rfl) ?_
              exact pJ1 _ (so h) ⟨rfl, rfl, rfl, rfl, rfl, rfl, rfl, trivial⟩ rfl
          · rintro x60 rfl
            replace h := hk2
            rcases ic h with ⟨hp65, h⟩ | ⟨hp65, h⟩
            · refine wBT hp65 tm (s1 rfl) ?_
              refine wSeq ?_
              refine rg (cp (oAs cB) trivial <| .nil) (by kernel_rfl) ?_
              refine pSeq ?_
              refine wRet ?_
              refine pThenR ?_
              refine pBlkR ?_
              refine pThenR ?_
              refine pThenR ?_
              refine pBlkR ?_
              refine pThenR ?_
              obtain rfl := so h
              replace h := hk1
              refine pThenR ?_
              obtain rfl := so h
              exact pR1 (.inl rfl) rfl (.tmp rfl <| .nil)
            · refine wBF hp65 tm (s1 rfl) ?_
              refine wSkip ?_
              refine pSeq ?_
              refine wSeq ?_
              obtain ⟨hc66, h⟩ := ib h
              refine rg (cp (oFld (fs := f_api_Lattice) (k := 0) rfl o42_0 tm) (s1 rfl) <| cp (oLd t39 tm) (s1 rfl) <| cp (oMv tm) (s1 rfl) <| cp (oCutHi u39 z9 hc66.1 hc66.2 tm tm) (s2 rfl rfl) <| cp (oLenL u39 tm) (s1 rfl) <| cp (oMv (cI (by decide))) trivial <| .nil) (by kernel_rfl) ?_
              refine pSeq ?_
              obtain ⟨o2, h, hk2⟩ := bd h
              refine wK0 (.inr () = o2) ([(1, .d (sP (kR f_api_Lattice) a0)), (27, .d ((kL kS).sig a0.Names)), (28, .d ((kI .i64).sig (a0.Names.length : Int))), (29, .d ((kI .i64).sig v53))]) ([]) ?_ ?_
              · refine wBlock (wLoop ?_)
                refine lW (pc1 o2 (fun v73 => [(1, .d (sP (kR f_api_Lattice) a0)), (4, .d (kS.sig y55)), (27, .d ((kL kS).sig a0.Names)), (28, .d ((kI .i64).sig (a0.Names.length : Int))), (29, .d ((kI .i64).sig v53)), (51, .d ((kL kS).sig (lCut a0.Names 0 v53))), (52, .d ((kI .i64).sig ((lCut a0.Names 0 v53).length : Int))), (53, .d ((kI .i64).sig v73))]) (fun v73 => []) (reticentref01_may.l3.partial_correctness a0 v53 y55) ?_ _ h) ⟨rfl, rfl, rfl, rfl, rfl, rfl, rfl, rfl, trivial⟩ rfl
                clear h
                intro f' ih v73 h
                refine wSeq ?_
                refine rg (cp (oLt rfl tm tm) (s2 rfl rfl) <| .nil) (by kernel_rfl) ?_
                refine pSeq ?_
                refine wSeq ?_
                rcases ic h with ⟨hp74, h⟩ | ⟨hp74, h⟩
                · refine wCT hp74 tm (s1 rfl) ?_
                  refine wSkip ?_
                  refine pSeq ?_
                  refine wSeq ?_
                  refine wBlock ?_
                  refine wSeq ?_
                  obtain ⟨y75, hy75, h⟩ := bd h
                  refine rg (cp (oIdx u39 z9 hy75 tm tm) (s2 rfl rfl) <| cp (oLd t9 tm) (s1 rfl) <| cp (oAs tm) (s1 rfl) <| .nil) (by kernel_rfl) ?_
                  refine pSeq ?_
                  refine wSeq ?_
                  refine rg (cp (oMv tm) (s1 rfl) <| cp (oMv tm) (s1 rfl) <| cp (oSEq rfl tm tm) (s2 rfl rfl) <| .nil) (by kernel_rfl) ?_
                  refine pSeq ?_
                  rcases ic h with ⟨hp76, h⟩ | ⟨hp76, h⟩
                  · refine wCT hp76 tm (s1 rfl) ?_
                    refine wSeq ?_
                    refine rg (cp (oAs cB) trivial <| .nil) (by kernel_rfl) ?_
                    refine pSeq ?_
                    refine wRet ?_
                    refine pBlkR ?_
                    refine pThenR ?_
                    refine pThenR ?_
                    refine pBlkR ?_
                    refine pThenR ?_
                    obtain rfl := so h
                    replace h := hk2
                    refine pBlkR ?_
                    refine pThenR ?_
                    refine pThenR ?_
                    refine pBlkR ?_
                    refine pThenR ?_
                    obtain rfl := so h
                    replace h := hk1
                    refine pThenR ?_
                    obtain rfl := so h
                    exact pR1 (.inl rfl) rfl (.tmp rfl <| .nil)
                  · refine wCF hp76 tm (s1 rfl) ?_
                    refine wSkip ?_
                    refine pBlkN ?_
                    refine pSeq ?_
                    refine rg (cp (oAdd tm (cI (by decide))) (s1 rfl) <| cp (oMv tm) (s1 rfl) <| .nil) (by kernel_rfl) ?_
                    exact pLoop (lW (ih _ h) ⟨rfl, rfl, rfl, rfl, rfl, rfl, rfl, rfl, trivial⟩ rfl)
                · refine wCF hp74 tm (s1 rfl) ?_
                  refine wExit ?_
                  refine pThenX ?_
                  refine pThenX ?_
                  refine pBlkX ?_
                  exact pJ0 (so h) ⟨rfl, rfl, rfl, rfl, trivial⟩ rfl
              · rintro rfl
                replace h := hk2
                refine pBlkN ?_
                refine pSeq ?_
                refine rg (cp (oAdd tm (cI (by decide))) (s1 rfl) <| cp (oMv tm) (s1 rfl) <| .nil) (by kernel_rfl) ?_
                exact pLoop (lW (ih _ h) ⟨rfl, rfl, rfl, rfl, trivial⟩ rfl)
        · refine wCF hp54 tm (s1 rfl) ?_
          refine wExit ?_
          refine pThenX ?_
          refine pThenX ?_
          refine pBlkX ?_
          exact pJ0 (so h) trivial rfl
      · rintro rfl
        replace h := hk1
        refine pSeq ?_
        refine wSeq ?_
        refine rg (cp (oAs cB) trivial <| .nil) (by kernel_rfl) ?_
        refine pSeq ?_
        refine wRet ?_
        obtain rfl := so h
        exact pR1 (.inl rfl) rfl (.tmp rfl <| .nil)

theorem reticentref01_Flows.ok {a0 : api_Lattice} {a1 : Int} {a2 : Int} {r : Bool} (h : reticentref01_Flows.f a0 a1 a2 = some r) : FnA Try.prog 34 [(kR f_api_Lattice).sig a0, (kI .i64).sig a1, (kI .i64).sig a2] (kB.sig r) := by
  refine fnIntro Try.func34 rfl (by kernel_rfl) fun H0 w0 => ?_
  unfold reticentref01_Flows.f at h
  refine wSeq ?_
  refine rg (cp (oBox tm) (s1 rfl) <| cp (oAs cB) trivial <| .nil) (by kernel_rfl) ?_
  refine pSeq ?_
  refine wSeq ?_
  obtain ⟨y1, hy1, h⟩ := bd h
  refine rg (cp (oFld (fs := f_api_Lattice) (k := 1) rfl o42_1 tm) (s1 rfl) <| cp (oLd t40 tm) (s1 rfl) <| cp (oMv tm) (s1 rfl) <| cp (oIdx u40 z64 hy1 tm tm) (s2 rfl rfl) <| cp (oLd t64 tm) (s1 rfl) <| cp (oAs tm) (s1 rfl) <| .nil) (by kernel_rfl) ?_
  refine pSeq ?_
  refine wSeq ?_
  refine wSeq ?_
  refine rg (cp (oAs (cI (by decide))) trivial <| .nil) (by kernel_rfl) ?_
  refine pSeq ?_
  obtain ⟨o1, h, hk1⟩ := bd h
  refine wK1 (fun x6 => x6 = o1) (fun x6 => [(7, .d ((kI .u32).sig x6))]) (fun x6 => []) ?_ ?_
  · refine wBlock (wLoop ?_)
    refine lW (pc2 o1 (fun v4 v5 => [(2, .d ((kI .i64).sig a2)), (7, .d ((kI .u32).sig v4)), (8, .d ((kI .i64).sig v5))]) (fun v4 v5 => []) (reticentref01_Flows.l0.partial_correctness a2) ?_ _ _ h) ⟨rfl, rfl, rfl, trivial⟩ rfl
    clear h
    intro f' ih v4 v5 h
    refine wSeq ?_
    refine wSeq ?_
    refine rg (cp (oMv tm) (s1 rfl) <| cp (oMv tm) (s1 rfl) <| cp (oLt rfl tm tm) (s2 rfl rfl) <| .nil) (by kernel_rfl) ?_
    refine pSeq ?_
    rcases ic h with ⟨hp7, h⟩ | ⟨hp7, h⟩
    · refine wCT hp7 tm (s1 rfl) ?_
      refine wSkip ?_
      refine pSeq ?_
      refine wSeq ?_
      refine wBlock ?_
      refine rg (cp (oMv tm) (s1 rfl) <| cp (oQuo (by decide) tm (cI (by decide))) (s1 rfl) <| cp (oAs tm) (s1 rfl) <| .nil) (by kernel_rfl) ?_
      refine pBlkN ?_
      refine pSeq ?_
      refine rg (cp (oMv tm) (s1 rfl) <| cp (oAdd tm (cI (by decide))) (s1 rfl) <| cp (oAs tm) (s1 rfl) <| .nil) (by kernel_rfl) ?_
      exact pLoop (lW (ih _ _ h) ⟨rfl, rfl, rfl, trivial⟩ rfl)
    · refine wCF hp7 tm (s1 rfl) ?_
      refine wExit ?_
      refine pThenX ?_
      refine pThenX ?_
      refine pBlkX ?_
      exact pJ1 _ (so h) ⟨rfl, trivial⟩ rfl
  · rintro x6 rfl
    replace h := hk1
    refine pSeq ?_
    refine wSeq ?_
    refine rg (cp (oMv tm) (s1 rfl) <| cp (oRem (by decide) tm (cI (by decide))) (s1 rfl) <| cp (oEq rfl tm (cI (by decide))) (s1 rfl) <| cp (oAs tm) (s1 rfl) <| .nil) (by kernel_rfl) ?_
    refine pSeq ?_
    refine wRet ?_
    obtain rfl := so h
    exact pR1 (.inl rfl) rfl (.tmp rfl <| .nil)

theorem reticentref01_order.ok {a0 : api_Lattice} {r : Bool} (h : reticentref01_order.f a0 = some r) : FnA Try.prog 75 [(kR f_api_Lattice).sig a0] (kB.sig r) := by
  refine fnIntro Try.func75 rfl (by kernel_rfl) fun H0 w0 => ?_
  unfold reticentref01_order.f at h
  refine wSeq ?_
  refine rg (cp (oBox tm) (s1 rfl) <| cp (oAs cB) trivial <| .nil) (by kernel_rfl) ?_
  refine pSeq ?_
  refine wSeq ?_
  refine wSeq ?_
  refine rg (cp (oFld (fs := f_api_Lattice) (k := 1) rfl o42_1 tm) (s1 rfl) <| cp (oLd t40 tm) (s1 rfl) <| cp (oLenL u40 tm) (s1 rfl) <| cp (oMv (cI (by decide))) trivial <| .nil) (by kernel_rfl) ?_
  refine pSeq ?_
  obtain ⟨o1, h, hk1⟩ := bd h
  refine wK0 (.inr () = o1) ([]) ([]) ?_ ?_
  · refine wBlock (wLoop ?_)
    refine lW (pc1 o1 (fun v315 => [(1, .d (sP (kR f_api_Lattice) a0)), (8, .d ((kI .i64).sig (a0.Up.length : Int))), (9, .d ((kI .i64).sig v315))]) (fun v315 => []) (reticentref01_order.l8.partial_correctness a0) ?_ _ h) ⟨rfl, rfl, rfl, trivial⟩ rfl
    clear h
    intro f' ih v315 h
    refine wSeq ?_
    refine rg (cp (oLt rfl tm tm) (s2 rfl rfl) <| .nil) (by kernel_rfl) ?_
    refine pSeq ?_
    refine wSeq ?_
    rcases ic h with ⟨hp316, h⟩ | ⟨hp316, h⟩
    · refine wCT hp316 tm (s1 rfl) ?_
      refine wSkip ?_
      refine pSeq ?_
      refine wSeq ?_
      refine wBlock ?_
      refine wSeq ?_
      refine rg (cp (oMv tm) (s1 rfl) <| cp (oAs tm) (s1 rfl) <| .nil) (by kernel_rfl) ?_
      refine pSeq ?_
      refine wSeq ?_
      refine wSeq ?_
      obtain ⟨y317, hy317, h⟩ := bd h
      refine rg (cp (oLd t42 tm) (s1 rfl) <| cp (oMv tm) (s1 rfl) <| cp (oMv tm) (s1 rfl) <| cp (oCall rfl (reticentref01_Flows.ok hy317) b34 (opds_cons tm (opds_cons tm (opds_cons tm opds_nil)))) (s3 rfl rfl rfl) <| cp (oNot tm) (s1 rfl) <| .nil) (by kernel_rfl) ?_
      refine pSeq ?_
      rcases ic h with ⟨hp318, h⟩ | ⟨hp318, h⟩
      · refine wBT hp318 tm (s1 rfl) ?_
        refine wSeq ?_
        refine rg (cp (oAs cB) trivial <| .nil) (by kernel_rfl) ?_
        refine pSeq ?_
        refine wRet ?_
        refine pThenR ?_
        refine pBlkR ?_
        refine pThenR ?_
        refine pThenR ?_
        refine pBlkR ?_
        refine pThenR ?_
        obtain rfl := so h
        replace h := hk1
        refine pThenR ?_
        obtain rfl := so h
        exact pR1 (.inl rfl) rfl (.tmp rfl <| .nil)
      · refine wBF hp318 tm (s1 rfl) ?_
        refine wSkip ?_
        refine pSeq ?_
        refine wSeq ?_
        refine rg (cp (oFld (fs := f_api_Lattice) (k := 1) rfl o42_1 tm) (s1 rfl) <| cp (oLd t40 tm) (s1 rfl) <| cp (oLenL u40 tm) (s1 rfl) <| cp (oMv (cI (by decide))) trivial <| .nil) (by kernel_rfl) ?_
        refine pSeq ?_
        obtain ⟨o2, h, hk2⟩ := bd h
        refine wK0 (.inr () = o2) ([(1, .d (sP (kR f_api_Lattice) a0)), (8, .d ((kI .i64).sig (a0.Up.length : Int))), (9, .d ((kI .i64).sig v315))]) ([]) ?_ ?_
        · refine wBlock (wLoop ?_)
          refine lW (pc1 o2 (fun v421 => [(1, .d (sP (kR f_api_Lattice) a0)), (3, .d ((kI .i64).sig v315)), (8, .d ((kI .i64).sig (a0.Up.length : Int))), (9, .d ((kI .i64).sig v315)), (19, .d ((kI .i64).sig (a0.Up.length : Int))), (20, .d ((kI .i64).sig v421))]) (fun v421 => []) (reticentref01_order.l11.partial_correctness a0 v315) ?_ _ h) ⟨rfl, rfl, rfl, rfl, rfl, rfl, trivial⟩ rfl
          clear h
          intro f' ih v421 h
          refine wSeq ?_
          refine rg (cp (oLt rfl tm tm) (s2 rfl rfl) <| .nil) (by kernel_rfl) ?_
          refine pSeq ?_
          refine wSeq ?_
          rcases ic h with ⟨hp422, h⟩ | ⟨hp422, h⟩
          · refine wCT hp422 tm (s1 rfl) ?_
            refine wSkip ?_
            refine pSeq ?_
            refine wSeq ?_
            refine wBlock ?_
            refine wSeq ?_
            refine rg (cp (oMv tm) (s1 rfl) <| cp (oAs tm) (s1 rfl) <| .nil) (by kernel_rfl) ?_
            refine pSeq ?_
            refine wSeq ?_
            obtain ⟨o3, h, hk3⟩ := bd h
            refine wJ1 (fun x427 => x427 = o3) (fun x427 => [(1, .d (sP (kR f_api_Lattice) a0)), (3, .d ((kI .i64).sig v315)), (4, .d ((kI .i64).sig v421)), (8, .d ((kI .i64).sig (a0.Up.length : Int))), (9, .d ((kI .i64).sig v315)), (19, .d ((kI .i64).sig (a0.Up.length : Int))), (20, .d ((kI .i64).sig v421)), (37, .d (kB.sig x427))]) (fun x427 => []) ?_ ?_
            · rcases ic h with ⟨hp428, h⟩ | ⟨hp428, h⟩
              · refine rg (cp (oMv tm) (s1 rfl) <| cp (oMv tm) (s1 rfl) <| cp (oNe rfl tm tm) (s2 rfl rfl) <| cp (oMv tm) (s1 rfl) <| csB (nf hp428) rfl rfl <| csB (nf hp428) rfl rfl <| csB (nf hp428) rfl rfl <| csB (nf hp428) rfl rfl <| cp (oPkF (nf hp428) tm cB) (s1 rfl) <| cp (oMv tm) (s1 rfl) <| csB rfl rfl rfl <| csB rfl rfl rfl <| csB rfl rfl rfl <| csB rfl rfl rfl <| cp (oPkF rfl tm cB) (s1 rfl) <| .nil) (by kernel_rfl) ?_
                exact pJ1 _ (so h) ⟨rfl, rfl, rfl, rfl, rfl, rfl, rfl, rfl, trivial⟩ rfl
              · obtain ⟨y429, hy429, h⟩ := bd h
                rcases ic h with ⟨hp430, h⟩ | ⟨hp430, h⟩
                · obtain ⟨y431, hy431, h⟩ := bd h
                  refine rg (cp (oMv tm) (s1 rfl) <| cp (oMv tm) (s1 rfl) <| cp (oNe rfl tm tm) (s2 rfl rfl) <| cp (oMv tm) (s1 rfl) <| cgB (nt hp428) rfl rfl (oLd t42 tm) (s1 rfl) <| cgB (nt hp428) rfl rfl (oMv tm) (s1 rfl) <| cgB (nt hp428) rfl rfl (oMv tm) (s1 rfl) <| cgB (nt hp428) rfl rfl (oCall rfl (reticentref01_Flows.ok hy429) b34 (opds_cons tm (opds_cons tm (opds_cons tm opds_nil)))) (s3 rfl rfl rfl) <| cp (oPkT (nt hp428) tm tm) (s2 rfl rfl) <| cp (oMv tm) (s1 rfl) <| cgB hp430 rfl rfl (oLd t42 tm) (s1 rfl) <| cgB hp430 rfl rfl (oMv tm) (s1 rfl) <| cgB hp430 rfl rfl (oMv tm) (s1 rfl) <| cgB hp430 rfl rfl (oCall rfl (reticentref01_Flows.ok hy431) b34 (opds_cons tm (opds_cons tm (opds_cons tm opds_nil)))) (s3 rfl rfl rfl) <| cp (oPkT hp430 tm tm) (s2 rfl rfl) <| .nil) (by kernel_rfl) ?_
                  exact pJ1 _ (so h) ⟨rfl, rfl, rfl, rfl, rfl, rfl, rfl, rfl, trivial⟩ rfl
                · refine rg (cp (oMv tm) (s1 rfl) <| cp (oMv tm) (s1 rfl) <| cp (oNe rfl tm tm) (s2 rfl rfl) <| cp (oMv tm) (s1 rfl) <| cgB (nt hp428) rfl rfl (oLd t42 tm) (s1 rfl) <| cgB (nt hp428) rfl rfl (oMv tm) (s1 rfl) <| cgB (nt hp428) rfl rfl (oMv tm) (s1 rfl) <| cgB (nt hp428) rfl rfl (oCall rfl (reticentref01_Flows.ok hy429) b34 (opds_cons tm (opds_cons tm (opds_cons tm opds_nil)))) (s3 rfl rfl rfl) <| cp (oPkT (nt hp428) tm tm) (s2 rfl rfl) <| cp (oMv tm) (s1 rfl) <| csB (nb hp430) rfl rfl <| csB (nb hp430) rfl rfl <| csB (nb hp430) rfl rfl <| csB (nb hp430) rfl rfl <| cp (oPkF (nb hp430) tm cB) (s1 rfl) <| .nil) (by kernel_rfl) ?_
                  exact pJ1 _ (so h) ⟨rfl, rfl, rfl, rfl, rfl, rfl, rfl, rfl, trivial⟩ rfl
            · rintro x427 rfl
              replace h := hk3
              rcases ic h with ⟨hp432, h⟩ | ⟨hp432, h⟩
              · refine wBT hp432 tm (s1 rfl) ?_
                refine wSeq ?_
                refine rg (cp (oAs cB) trivial <| .nil) (by kernel_rfl) ?_
                refine pSeq ?_
                refine wRet ?_
                refine pThenR ?_
                refine pBlkR ?_
                refine pThenR ?_
                refine pThenR ?_
                refine pBlkR ?_
                refine pThenR ?_
                obtain rfl := so h
                replace h := hk2
                refine pBlkR ?_
                refine pThenR ?_
                refine pThenR ?_
                refine pBlkR ?_
                refine pThenR ?_
                obtain rfl := so h
                replace h := hk1
                refine pThenR ?_
                obtain rfl := so h
                exact pR1 (.inl rfl) rfl (.tmp rfl <| .nil)
              · refine wBF hp432 tm (s1 rfl) ?_
                refine wSkip ?_
                refine pSeq ?_
                refine wSeq ?_
                refine rg (cp (oFld (fs := f_api_Lattice) (k := 1) rfl o42_1 tm) (s1 rfl) <| cp (oLd t40 tm) (s1 rfl) <| cp (oLenL u40 tm) (s1 rfl) <| cp (oMv (cI (by decide))) trivial <| .nil) (by kernel_rfl) ?_
                refine pSeq ?_
                obtain ⟨o3, h, hk3⟩ := bd h
                refine wK0 (.inr () = o3) ([(1, .d (sP (kR f_api_Lattice) a0)), (3, .d ((kI .i64).sig v315)), (8, .d ((kI .i64).sig (a0.Up.length : Int))), (9, .d ((kI .i64).sig v315)), (19, .d ((kI .i64).sig (a0.Up.length : Int))), (20, .d ((kI .i64).sig v421))]) ([]) ?_ ?_
                · refine wBlock (wLoop ?_)
                  refine lW (pc1 o3 (fun v459 => [(1, .d (sP (kR f_api_Lattice) a0)), (3, .d ((kI .i64).sig v315)), (4, .d ((kI .i64).sig v421)), (8, .d ((kI .i64).sig (a0.Up.length : Int))), (9, .d ((kI .i64).sig v315)), (19, .d ((kI .i64).sig (a0.Up.length : Int))), (20, .d ((kI .i64).sig v421)), (40, .d ((kI .i64).sig (a0.Up.length : Int))), (41, .d ((kI .i64).sig v459))]) (fun v459 => []) (reticentref01_order.l12.partial_correctness a0 v315 v421) ?_ _ h) ⟨rfl, rfl, rfl, rfl, rfl, rfl, rfl, rfl, rfl, trivial⟩ rfl
                  clear h
                  intro f' ih v459 h
                  refine wSeq ?_
                  refine rg (cp (oLt rfl tm tm) (s2 rfl rfl) <| .nil) (by kernel_rfl) ?_
                  refine pSeq ?_
                  refine wSeq ?_
                  rcases ic h with ⟨hp460, h⟩ | ⟨hp460, h⟩
                  · refine wCT hp460 tm (s1 rfl) ?_
                    refine wSkip ?_
                    refine pSeq ?_
                    refine wSeq ?_
                    refine wBlock ?_
                    refine wSeq ?_
                    refine rg (cp (oMv tm) (s1 rfl) <| cp (oAs tm) (s1 rfl) <| .nil) (by kernel_rfl) ?_
                    refine pSeq ?_
                    obtain ⟨o4, h, hk4⟩ := bd h
                    refine wJ1 (fun x466 => x466 = o4) (fun x466 => [(1, .d (sP (kR f_api_Lattice) a0)), (3, .d ((kI .i64).sig v315)), (4, .d ((kI .i64).sig v421)), (8, .d ((kI .i64).sig (a0.Up.length : Int))), (9, .d ((kI .i64).sig v315)), (19, .d ((kI .i64).sig (a0.Up.length : Int))), (20, .d ((kI .i64).sig v421)), (40, .d ((kI .i64).sig (a0.Up.length : Int))), (41, .d ((kI .i64).sig v459)), (60, .d (kB.sig x466))]) (fun x466 => []) ?_ ?_
                    · obtain ⟨y467, hy467, h⟩ := bd h
                      rcases ic h with ⟨hp468, h⟩ | ⟨hp468, h⟩
                      · obtain ⟨y469, hy469, h⟩ := bd h
                        rcases ic h with ⟨hp470, h⟩ | ⟨hp470, h⟩
                        · obtain ⟨y471, hy471, h⟩ := bd h
                          refine rg (cp (oLd t42 tm) (s1 rfl) <| cp (oMv tm) (s1 rfl) <| cp (oMv tm) (s1 rfl) <| cp (oCall rfl (reticentref01_Flows.ok hy467) b34 (opds_cons tm (opds_cons tm (opds_cons tm opds_nil)))) (s3 rfl rfl rfl) <| cp (oMv tm) (s1 rfl) <| cgB hp468 rfl rfl (oLd t42 tm) (s1 rfl) <| cgB hp468 rfl rfl (oMv tm) (s1 rfl) <| cgB hp468 rfl rfl (oMv tm) (s1 rfl) <| cgB hp468 rfl rfl (oCall rfl (reticentref01_Flows.ok hy469) b34 (opds_cons tm (opds_cons tm (opds_cons tm opds_nil)))) (s3 rfl rfl rfl) <| cp (oPkT hp468 tm tm) (s2 rfl rfl) <| cp (oMv tm) (s1 rfl) <| cgB hp470 rfl rfl (oLd t42 tm) (s1 rfl) <| cgB hp470 rfl rfl (oMv tm) (s1 rfl) <| cgB hp470 rfl rfl (oMv tm) (s1 rfl) <| cgB hp470 rfl rfl (oCall rfl (reticentref01_Flows.ok hy471) b34 (opds_cons tm (opds_cons tm (opds_cons tm opds_nil)))) (s3 rfl rfl rfl) <| cgB hp470 rfl rfl (oNot tm) (s1 rfl) <| cp (oPkT hp470 tm tm) (s2 rfl rfl) <| .nil) (by kernel_rfl) ?_
                          exact pJ1 _ (so h) ⟨rfl, rfl, rfl, rfl, rfl, rfl, rfl, rfl, rfl, rfl, trivial⟩ rfl
                        · refine rg (cp (oLd t42 tm) (s1 rfl) <| cp (oMv tm) (s1 rfl) <| cp (oMv tm) (s1 rfl) <| cp (oCall rfl (reticentref01_Flows.ok hy467) b34 (opds_cons tm (opds_cons tm (opds_cons tm opds_nil)))) (s3 rfl rfl rfl) <| cp (oMv tm) (s1 rfl) <| cgB hp468 rfl rfl (oLd t42 tm) (s1 rfl) <| cgB hp468 rfl rfl (oMv tm) (s1 rfl) <| cgB hp468 rfl rfl (oMv tm) (s1 rfl) <| cgB hp468 rfl rfl (oCall rfl (reticentref01_Flows.ok hy469) b34 (opds_cons tm (opds_cons tm (opds_cons tm opds_nil)))) (s3 rfl rfl rfl) <| cp (oPkT hp468 tm tm) (s2 rfl rfl) <| cp (oMv tm) (s1 rfl) <| csB (nb hp470) rfl rfl <| csB (nb hp470) rfl rfl <| csB (nb hp470) rfl rfl <| csB (nb hp470) rfl rfl <| csB (nb hp470) rfl rfl <| cp (oPkF (nb hp470) tm cB) (s1 rfl) <| .nil) (by kernel_rfl) ?_
                          exact pJ1 _ (so h) ⟨rfl, rfl, rfl, rfl, rfl, rfl, rfl, rfl, rfl, rfl, trivial⟩ rfl
                      · refine rg (cp (oLd t42 tm) (s1 rfl) <| cp (oMv tm) (s1 rfl) <| cp (oMv tm) (s1 rfl) <| cp (oCall rfl (reticentref01_Flows.ok hy467) b34 (opds_cons tm (opds_cons tm (opds_cons tm opds_nil)))) (s3 rfl rfl rfl) <| cp (oMv tm) (s1 rfl) <| csB (nb hp468) rfl rfl <| csB (nb hp468) rfl rfl <| csB (nb hp468) rfl rfl <| csB (nb hp468) rfl rfl <| cp (oPkF (nb hp468) tm cB) (s1 rfl) <| cp (oMv tm) (s1 rfl) <| csB rfl rfl rfl <| csB rfl rfl rfl <| csB rfl rfl rfl <| csB rfl rfl rfl <| csB rfl rfl rfl <| cp (oPkF rfl tm cB) (s1 rfl) <| .nil) (by kernel_rfl) ?_
                        exact pJ1 _ (so h) ⟨rfl, rfl, rfl, rfl, rfl, rfl, rfl, rfl, rfl, rfl, trivial⟩ rfl
                    · rintro x466 rfl
                      replace h := hk4
                      rcases ic h with ⟨hp472, h⟩ | ⟨hp472, h⟩
                      · refine wBT hp472 tm (s1 rfl) ?_
                        refine wSeq ?_
                        refine rg (cp (oAs cB) trivial <| .nil) (by kernel_rfl) ?_
                        refine pSeq ?_
                        refine wRet ?_
                        refine pBlkR ?_
                        refine pThenR ?_
                        refine pThenR ?_
                        refine pBlkR ?_
                        refine pThenR ?_
                        obtain rfl := so h
                        replace h := hk3
                        refine pBlkR ?_
                        refine pThenR ?_
                        refine pThenR ?_
                        refine pBlkR ?_
                        refine pThenR ?_
                        obtain rfl := so h
                        replace h := hk2
                        refine pBlkR ?_
                        refine pThenR ?_
                        refine pThenR ?_
                        refine pBlkR ?_
                        refine pThenR ?_
                        obtain rfl := so h
                        replace h := hk1
                        refine pThenR ?_
                        obtain rfl := so h
                        exact pR1 (.inl rfl) rfl (.tmp rfl <| .nil)
                      · refine wBF hp472 tm (s1 rfl) ?_
                        refine wSkip ?_
                        refine pBlkN ?_
                        refine pSeq ?_
                        refine rg (cp (oAdd tm (cI (by decide))) (s1 rfl) <| cp (oMv tm) (s1 rfl) <| .nil) (by kernel_rfl) ?_
                        exact pLoop (lW (ih _ h) ⟨rfl, rfl, rfl, rfl, rfl, rfl, rfl, rfl, rfl, trivial⟩ rfl)
                  · refine wCF hp460 tm (s1 rfl) ?_
                    refine wExit ?_
                    refine pThenX ?_
                    refine pThenX ?_
                    refine pBlkX ?_
                    exact pJ0 (so h) ⟨rfl, rfl, rfl, rfl, rfl, rfl, trivial⟩ rfl
                · rintro rfl
                  replace h := hk3
                  refine pBlkN ?_
                  refine pSeq ?_
                  refine rg (cp (oAdd tm (cI (by decide))) (s1 rfl) <| cp (oMv tm) (s1 rfl) <| .nil) (by kernel_rfl) ?_
                  exact pLoop (lW (ih _ h) ⟨rfl, rfl, rfl, rfl, rfl, rfl, trivial⟩ rfl)
          · refine wCF hp422 tm (s1 rfl) ?_
            refine wExit ?_
            refine pThenX ?_
            refine pThenX ?_
            refine pBlkX ?_
            exact pJ0 (so h) ⟨rfl, rfl, rfl, trivial⟩ rfl
        · rintro rfl
          replace h := hk2
          refine pBlkN ?_
          refine pSeq ?_
          refine rg (cp (oAdd tm (cI (by decide))) (s1 rfl) <| cp (oMv tm) (s1 rfl) <| .nil) (by kernel_rfl) ?_
          exact pLoop (lW (ih _ h) ⟨rfl, rfl, rfl, trivial⟩ rfl)
    · refine wCF hp316 tm (s1 rfl) ?_
      refine wExit ?_
      refine pThenX ?_
      refine pThenX ?_
      refine pBlkX ?_
      exact pJ0 (so h) trivial rfl
  · rintro rfl
    replace h := hk1
    refine pSeq ?_
    refine wSeq ?_
    refine rg (cp (oAs cB) trivial <| .nil) (by kernel_rfl) ?_
    refine pSeq ?_
    refine wRet ?_
    obtain rfl := so h
    exact pR1 (.inl rfl) rfl (.tmp rfl <| .nil)

theorem reticentref01_Join.ok {a0 : api_Lattice} {a1 : Int} {a2 : Int} {r : Int} (h : reticentref01_Join.f a0 a1 a2 = some r) : FnA Try.prog 35 [(kR f_api_Lattice).sig a0, (kI .i64).sig a1, (kI .i64).sig a2] ((kI .i64).sig r) := by
  refine fnIntro Try.func35 rfl (by kernel_rfl) fun H0 w0 => ?_
  unfold reticentref01_Join.f at h
  refine wSeq ?_
  refine rg (cp (oBox tm) (s1 rfl) <| cp (oAs (cI (by decide))) trivial <| .nil) (by kernel_rfl) ?_
  refine pSeq ?_
  refine wSeq ?_
  refine wSeq ?_
  refine rg (cp (oFld (fs := f_api_Lattice) (k := 1) rfl o42_1 tm) (s1 rfl) <| cp (oLd t40 tm) (s1 rfl) <| cp (oLenL u40 tm) (s1 rfl) <| cp (oMv (cI (by decide))) trivial <| .nil) (by kernel_rfl) ?_
  refine pSeq ?_
  obtain ⟨o1, h, hk1⟩ := bd h
  refine wK0 (.inr () = o1) ([]) ([]) ?_ ?_
  · refine wBlock (wLoop ?_)
    refine lW (pc1 o1 (fun v181 => [(1, .d ((kI .i64).sig a1)), (2, .d ((kI .i64).sig a2)), (3, .d (sP (kR f_api_Lattice) a0)), (12, .d ((kI .i64).sig (a0.Up.length : Int))), (13, .d ((kI .i64).sig v181))]) (fun v181 => []) (reticentref01_Join.l2.partial_correctness a0 a1 a2) ?_ _ h) ⟨rfl, rfl, rfl, rfl, rfl, trivial⟩ rfl
    clear h
    intro f' ih v181 h
    refine wSeq ?_
    refine rg (cp (oLt rfl tm tm) (s2 rfl rfl) <| .nil) (by kernel_rfl) ?_
    refine pSeq ?_
    refine wSeq ?_
    rcases ic h with ⟨hp182, h⟩ | ⟨hp182, h⟩
    · refine wCT hp182 tm (s1 rfl) ?_
      refine wSkip ?_
      refine pSeq ?_
      refine wSeq ?_
      refine wBlock ?_
      refine wSeq ?_
      refine rg (cp (oMv tm) (s1 rfl) <| cp (oAs tm) (s1 rfl) <| .nil) (by kernel_rfl) ?_
      refine pSeq ?_
      obtain ⟨o2, h, hk2⟩ := bd h
      refine wJ1 (fun x186 => x186 = o2) (fun x186 => [(1, .d ((kI .i64).sig a1)), (2, .d ((kI .i64).sig a2)), (3, .d (sP (kR f_api_Lattice) a0)), (7, .d ((kI .i64).sig v181)), (8, .d (kB.sig x186)), (12, .d ((kI .i64).sig (a0.Up.length : Int))), (13, .d ((kI .i64).sig v181))]) (fun x186 => []) ?_ ?_
      · obtain ⟨y187, hy187, h⟩ := bd h
        rcases ic h with ⟨hp188, h⟩ | ⟨hp188, h⟩
        · obtain ⟨y189, hy189, h⟩ := bd h
          refine rg (cp (oLd t42 tm) (s1 rfl) <| cp (oMv tm) (s1 rfl) <| cp (oMv tm) (s1 rfl) <| cp (oCall rfl (reticentref01_Flows.ok hy187) b34 (opds_cons tm (opds_cons tm (opds_cons tm opds_nil)))) (s3 rfl rfl rfl) <| cp (oMv tm) (s1 rfl) <| cgB hp188 rfl rfl (oLd t42 tm) (s1 rfl) <| cgB hp188 rfl rfl (oMv tm) (s1 rfl) <| cgB hp188 rfl rfl (oMv tm) (s1 rfl) <| cgB hp188 rfl rfl (oCall rfl (reticentref01_Flows.ok hy189) b34 (opds_cons tm (opds_cons tm (opds_cons tm opds_nil)))) (s3 rfl rfl rfl) <| cp (oPkT hp188 tm tm) (s2 rfl rfl) <| cp (oAs tm) (s1 rfl) <| .nil) (by kernel_rfl) ?_
          exact pJ1 _ (so h) ⟨rfl, rfl, rfl, rfl, rfl, rfl, rfl, trivial⟩ rfl
        · refine rg (cp (oLd t42 tm) (s1 rfl) <| cp (oMv tm) (s1 rfl) <| cp (oMv tm) (s1 rfl) <| cp (oCall rfl (reticentref01_Flows.ok hy187) b34 (opds_cons tm (opds_cons tm (opds_cons tm opds_nil)))) (s3 rfl rfl rfl) <| cp (oMv tm) (s1 rfl) <| csB (nb hp188) rfl rfl <| csB (nb hp188) rfl rfl <| csB (nb hp188) rfl rfl <| csB (nb hp188) rfl rfl <| cp (oPkF (nb hp188) tm cB) (s1 rfl) <| cp (oAs tm) (s1 rfl) <| .nil) (by kernel_rfl) ?_
          exact pJ1 _ (so h) ⟨rfl, rfl, rfl, rfl, rfl, rfl, rfl, trivial⟩ rfl
      · rintro x186 rfl
        replace h := hk2
        refine wSeq ?_
        refine wSeq ?_
        refine rg (cp (oFld (fs := f_api_Lattice) (k := 1) rfl o42_1 tm) (s1 rfl) <| cp (oLd t40 tm) (s1 rfl) <| cp (oLenL u40 tm) (s1 rfl) <| cp (oMv (cI (by decide))) trivial <| .nil) (by kernel_rfl) ?_
        refine pSeq ?_
        obtain ⟨o2, h, hk2⟩ := bd h
        refine wK1 (fun x244 => x244 = o2) (fun x244 => [(1, .d ((kI .i64).sig a1)), (2, .d ((kI .i64).sig a2)), (3, .d (sP (kR f_api_Lattice) a0)), (7, .d ((kI .i64).sig v181)), (8, .d (kB.sig x244)), (12, .d ((kI .i64).sig (a0.Up.length : Int))), (13, .d ((kI .i64).sig v181))]) (fun x244 => []) ?_ ?_
        · refine wBlock (wLoop ?_)
          refine lW (pc2 o2 (fun v242 v243 => [(1, .d ((kI .i64).sig a1)), (2, .d ((kI .i64).sig a2)), (3, .d (sP (kR f_api_Lattice) a0)), (7, .d ((kI .i64).sig v181)), (8, .d (kB.sig v243)), (12, .d ((kI .i64).sig (a0.Up.length : Int))), (13, .d ((kI .i64).sig v181)), (28, .d ((kI .i64).sig (a0.Up.length : Int))), (29, .d ((kI .i64).sig v242))]) (fun v242 v243 => []) (reticentref01_Join.l3.partial_correctness a0 a1 a2 v181) ?_ _ _ h) ⟨rfl, rfl, rfl, rfl, rfl, rfl, rfl, rfl, rfl, trivial⟩ rfl
          clear h
          intro f' ih v242 v243 h
          refine wSeq ?_
          refine rg (cp (oLt rfl tm tm) (s2 rfl rfl) <| .nil) (by kernel_rfl) ?_
          refine pSeq ?_
          refine wSeq ?_
          rcases ic h with ⟨hp245, h⟩ | ⟨hp245, h⟩
          · refine wCT hp245 tm (s1 rfl) ?_
            refine wSkip ?_
            refine pSeq ?_
            obtain ⟨o3, h, hk3⟩ := bd h
            refine wJ1 (fun x258 => x258 = o3) (fun x258 => [(1, .d ((kI .i64).sig a1)), (2, .d ((kI .i64).sig a2)), (3, .d (sP (kR f_api_Lattice) a0)), (7, .d ((kI .i64).sig v181)), (8, .d (kB.sig x258)), (12, .d ((kI .i64).sig (a0.Up.length : Int))), (13, .d ((kI .i64).sig v181)), (28, .d ((kI .i64).sig (a0.Up.length : Int))), (29, .d ((kI .i64).sig v242))]) (fun x258 => []) ?_ ?_
            · refine wBlock ?_
              refine wSeq ?_
              refine rg (cp (oMv tm) (s1 rfl) <| cp (oAs tm) (s1 rfl) <| .nil) (by kernel_rfl) ?_
              refine pSeq ?_
              obtain ⟨o4, h, hk4⟩ := bd h
              refine wJ1 (fun x264 => x264 = o4) (fun x264 => [(1, .d ((kI .i64).sig a1)), (2, .d ((kI .i64).sig a2)), (3, .d (sP (kR f_api_Lattice) a0)), (7, .d ((kI .i64).sig v181)), (8, .d (kB.sig v243)), (12, .d ((kI .i64).sig (a0.Up.length : Int))), (13, .d ((kI .i64).sig v181)), (28, .d ((kI .i64).sig (a0.Up.length : Int))), (29, .d ((kI .i64).sig v242)), (48, .d (kB.sig x264))]) (fun x264 => []) ?_ ?_
              · obtain ⟨y265, hy265, h⟩ := bd h
                rcases ic h with ⟨hp266, h⟩ | ⟨hp266, h⟩
                · obtain ⟨y267, hy267, h⟩ := bd h
                  rcases ic h with ⟨hp268, h⟩ | ⟨hp268, h⟩
                  · obtain ⟨y269, hy269, h⟩ := bd h
                    refine rg (cp (oLd t42 tm) (s1 rfl) <| cp (oMv tm) (s1 rfl) <| cp (oMv tm) (s1 rfl) <| cp (oCall rfl (reticentref01_Flows.ok hy265) b34 (opds_cons tm (opds_cons tm (opds_cons tm opds_nil)))) (s3 rfl rfl rfl) <| cp (oMv tm) (s1 rfl) <| cgB hp266 rfl rfl (oLd t42 tm) (s1 rfl) <| cgB hp266 rfl rfl (oMv tm) (s1 rfl) <| cgB hp266 rfl rfl (oMv tm) (s1 rfl) <| cgB hp266 rfl rfl (oCall rfl (reticentref01_Flows.ok hy267) b34 (opds_cons tm (opds_cons tm (opds_cons tm opds_nil)))) (s3 rfl rfl rfl) <| cp (oPkT hp266 tm tm) (s2 rfl rfl) <| cp (oMv tm) (s1 rfl) <| cgB hp268 rfl rfl (oLd t42 tm) (s1 rfl) <| cgB hp268 rfl rfl (oMv tm) (s1 rfl) <| cgB hp268 rfl rfl (oMv tm) (s1 rfl) <| cgB hp268 rfl rfl (oCall rfl (reticentref01_Flows.ok hy269) b34 (opds_cons tm (opds_cons tm (opds_cons tm opds_nil)))) (s3 rfl rfl rfl) <| cgB hp268 rfl rfl (oNot tm) (s1 rfl) <| cp (oPkT hp268 tm tm) (s2 rfl rfl) <| .nil) (by kernel_rfl) ?_
                    exact pJ1 _ (so h) ⟨rfl, rfl, rfl, rfl, rfl, rfl, rfl, rfl, rfl, rfl, trivial⟩ rfl
                  · refine rg (cp (oLd t42 tm) (s1 rfl) <| cp (oMv tm) (s1 rfl) <| cp (oMv tm) (s1 rfl) <| cp (oCall rfl (reticentref01_Flows.ok hy265) b34 (opds_cons tm (opds_cons tm (opds_cons tm opds_nil)))) (s3 rfl rfl rfl) <| cp (oMv tm) (s1 rfl) <| cgB hp266 rfl rfl (oLd t42 tm) (s1 rfl) <| cgB hp266 rfl rfl (oMv tm) (s1 rfl) <| cgB hp266 rfl rfl (oMv tm) (s1 rfl) <| cgB hp266 rfl rfl (oCall rfl (reticentref01_Flows.ok hy267) b34 (opds_cons tm (opds_cons tm (opds_cons tm opds_nil)))) (s3 rfl rfl rfl) <| cp (oPkT hp266 tm tm) (s2 rfl rfl) <| cp (oMv tm) (s1 rfl) <| csB (nb hp268) rfl rfl <| csB (nb hp268) rfl rfl <| csB (nb hp268) rfl rfl <| csB (nb hp268) rfl rfl <| csB (nb hp268) rfl rfl <| cp (oPkF (nb hp268) tm cB) (s1 rfl) <| .nil) (by kernel_rfl) ?_
                    exact pJ1 _ (so h) ⟨rfl, rfl, rfl, rfl, rfl, rfl, rfl, rfl, rfl, rfl, trivial⟩ rfl
                · refine rg (cp (oLd t42 tm) (s1 rfl) <| cp (oMv tm) (s1 rfl) <| cp (oMv tm) (s1 rfl) <| cp (oCall rfl (reticentref01_Flows.ok hy265) b34 (opds_cons tm (opds_cons tm (opds_cons tm opds_nil)))) (s3 rfl rfl rfl) <| cp (oMv tm) (s1 rfl) <| csB (nb hp266) rfl rfl <| csB (nb hp266) rfl rfl <| csB (nb hp266) rfl rfl <| csB (nb hp266) rfl rfl <| cp (oPkF (nb hp266) tm cB) (s1 rfl) <| cp (oMv tm) (s1 rfl) <| csB rfl rfl rfl <| csB rfl rfl rfl <| csB rfl rfl rfl <| csB rfl rfl rfl <| csB rfl rfl rfl <| cp (oPkF rfl tm cB) (s1 rfl) <| .nil) (by kernel_rfl) ?_
                  exact pJ1 _ (so h) ⟨rfl, rfl, rfl, rfl, rfl, rfl, rfl, rfl, rfl, rfl, trivial⟩ rfl
              · rintro x264 rfl
                replace h := hk4
                rcases ic h with ⟨hp270, h⟩ | ⟨hp270, h⟩
                · refine wBT hp270 tm (s1 rfl) ?_
                  refine rg (cp (oAs cB) trivial <| .nil) (by kernel_rfl) ?_
                  refine pBlkN ?_
                  exact pJ1 _ (so h) ⟨rfl, rfl, rfl, rfl, rfl, rfl, rfl, rfl, rfl, trivial⟩ rfl
                · refine wBF hp270 tm (s1 rfl) ?_
                  refine wSkip ?_
                  refine pBlkN ?_
                  exact pJ1 _ (so h) ⟨rfl, rfl, rfl, rfl, rfl, rfl, rfl, rfl, rfl, trivial⟩ rfl
            · rintro x258 rfl
              replace h := hk3
              refine rg (cp (oAdd tm (cI (by decide))) (s1 rfl) <| cp (oMv tm) (s1 rfl) <| .nil) (by kernel_rfl) ?_
              exact pLoop (lW (ih _ _ h) ⟨rfl, rfl, rfl, rfl, rfl, rfl, rfl, rfl, rfl, trivial⟩ rfl)
          · refine wCF hp245 tm (s1 rfl) ?_
            refine wExit ?_
            refine pThenX ?_
            refine pThenX ?_
            refine pBlkX ?_
            exact pJ1 _ (so h) ⟨rfl, rfl, rfl, rfl, rfl, rfl, rfl, trivial⟩ rfl
        · rintro x244 rfl
          replace h := hk2
          refine pSeq ?_
          refine wSeq ?_
          refine rg (cp (oMv tm) (s1 rfl) <| .nil) (by kernel_rfl) ?_
          refine pSeq ?_
          rcases ic h with ⟨hp271, h⟩ | ⟨hp271, h⟩
          · refine wBT hp271 tm (s1 rfl) ?_
            refine wSeq ?_
            refine rg (cp (oMv tm) (s1 rfl) <| cp (oAs tm) (s1 rfl) <| .nil) (by kernel_rfl) ?_
            refine pSeq ?_
            refine wRet ?_
            refine pBlkR ?_
            refine pThenR ?_
            refine pThenR ?_
            refine pBlkR ?_
            refine pThenR ?_
            obtain rfl := so h
            replace h := hk1
            refine pThenR ?_
            obtain rfl := so h
            exact pR1 (.inl rfl) rfl (.tmp rfl <| .nil)
          · refine wBF hp271 tm (s1 rfl) ?_
            refine wSkip ?_
            refine pBlkN ?_
            refine pSeq ?_
            refine rg (cp (oAdd tm (cI (by decide))) (s1 rfl) <| cp (oMv tm) (s1 rfl) <| .nil) (by kernel_rfl) ?_
            exact pLoop (lW (ih _ h) ⟨rfl, rfl, rfl, rfl, rfl, trivial⟩ rfl)
    · refine wCF hp182 tm (s1 rfl) ?_
      refine wExit ?_
      refine pThenX ?_
      refine pThenX ?_
      refine pBlkX ?_
      exact pJ0 (so h) trivial rfl
  · rintro rfl
    replace h := hk1
    refine pSeq ?_
    refine wSeq ?_
    refine rg (cp (oAs (cI (by decide))) trivial <| .nil) (by kernel_rfl) ?_
    refine pSeq ?_
    refine wRet ?_
    obtain rfl := so h
    exact pR1 (.inl rfl) rfl (.tmp rfl <| .nil)

theorem reticentref01_Meet.ok {a0 : api_Lattice} {a1 : Int} {a2 : Int} {r : Int} (h : reticentref01_Meet.f a0 a1 a2 = some r) : FnA Try.prog 36 [(kR f_api_Lattice).sig a0, (kI .i64).sig a1, (kI .i64).sig a2] ((kI .i64).sig r) := by
  refine fnIntro Try.func36 rfl (by kernel_rfl) fun H0 w0 => ?_
  unfold reticentref01_Meet.f at h
  refine wSeq ?_
  refine rg (cp (oBox tm) (s1 rfl) <| cp (oAs (cI (by decide))) trivial <| .nil) (by kernel_rfl) ?_
  refine pSeq ?_
  refine wSeq ?_
  refine wSeq ?_
  refine rg (cp (oFld (fs := f_api_Lattice) (k := 1) rfl o42_1 tm) (s1 rfl) <| cp (oLd t40 tm) (s1 rfl) <| cp (oLenL u40 tm) (s1 rfl) <| cp (oMv (cI (by decide))) trivial <| .nil) (by kernel_rfl) ?_
  refine pSeq ?_
  obtain ⟨o1, h, hk1⟩ := bd h
  refine wK0 (.inr () = o1) ([]) ([]) ?_ ?_
  · refine wBlock (wLoop ?_)
    refine lW (pc1 o1 (fun v181 => [(1, .d ((kI .i64).sig a1)), (2, .d ((kI .i64).sig a2)), (3, .d (sP (kR f_api_Lattice) a0)), (12, .d ((kI .i64).sig (a0.Up.length : Int))), (13, .d ((kI .i64).sig v181))]) (fun v181 => []) (reticentref01_Meet.l2.partial_correctness a0 a1 a2) ?_ _ h) ⟨rfl, rfl, rfl, rfl, rfl, trivial⟩ rfl
    clear h
    intro f' ih v181 h
    refine wSeq ?_
    refine rg (cp (oLt rfl tm tm) (s2 rfl rfl) <| .nil) (by kernel_rfl) ?_
    refine pSeq ?_
    refine wSeq ?_
    rcases ic h with ⟨hp182, h⟩ | ⟨hp182, h⟩
    · refine wCT hp182 tm (s1 rfl) ?_
      refine wSkip ?_
      refine pSeq ?_
      refine wSeq ?_
      refine wBlock ?_
      refine wSeq ?_
      refine rg (cp (oMv tm) (s1 rfl) <| cp (oAs tm) (s1 rfl) <| .nil) (by kernel_rfl) ?_
      refine pSeq ?_
      obtain ⟨o2, h, hk2⟩ := bd h
      refine wJ1 (fun x186 => x186 = o2) (fun x186 => [(1, .d ((kI .i64).sig a1)), (2, .d ((kI .i64).sig a2)), (3, .d (sP (kR f_api_Lattice) a0)), (7, .d ((kI .i64).sig v181)), (8, .d (kB.sig x186)), (12, .d ((kI .i64).sig (a0.Up.length : Int))), (13, .d ((kI .i64).sig v181))]) (fun x186 => []) ?_ ?_
      · obtain ⟨y187, hy187, h⟩ := bd h
        rcases ic h with ⟨hp188, h⟩ | ⟨hp188, h⟩
        · obtain ⟨y189, hy189, h⟩ := bd h
          refine rg (cp (oLd t42 tm) (s1 rfl) <| cp (oMv tm) (s1 rfl) <| cp (oMv tm) (s1 rfl) <| cp (oCall rfl (reticentref01_Flows.ok hy187) b34 (opds_cons tm (opds_cons tm (opds_cons tm opds_nil)))) (s3 rfl rfl rfl) <| cp (oMv tm) (s1 rfl) <| cgB hp188 rfl rfl (oLd t42 tm) (s1 rfl) <| cgB hp188 rfl rfl (oMv tm) (s1 rfl) <| cgB hp188 rfl rfl (oMv tm) (s1 rfl) <| cgB hp188 rfl rfl (oCall rfl (reticentref01_Flows.ok hy189) b34 (opds_cons tm (opds_cons tm (opds_cons tm opds_nil)))) (s3 rfl rfl rfl) <| cp (oPkT hp188 tm tm) (s2 rfl rfl) <| cp (oAs tm) (s1 rfl) <| .nil) (by kernel_rfl) ?_
          exact pJ1 _ (so h) ⟨rfl, rfl, rfl, rfl, rfl, rfl, rfl, trivial⟩ rfl
        · refine rg (cp (oLd t42 tm) (s1 rfl) <| cp (oMv tm) (s1 rfl) <| cp (oMv tm) (s1 rfl) <| cp (oCall rfl (reticentref01_Flows.ok hy187) b34 (opds_cons tm (opds_cons tm (opds_cons tm opds_nil)))) (s3 rfl rfl rfl) <| cp (oMv tm) (s1 rfl) <| csB (nb hp188) rfl rfl <| csB (nb hp188) rfl rfl <| csB (nb hp188) rfl rfl <| csB (nb hp188) rfl rfl <| cp (oPkF (nb hp188) tm cB) (s1 rfl) <| cp (oAs tm) (s1 rfl) <| .nil) (by kernel_rfl) ?_
          exact pJ1 _ (so h) ⟨rfl, rfl, rfl, rfl, rfl, rfl, rfl, trivial⟩ rfl
      · rintro x186 rfl
        replace h := hk2
        refine wSeq ?_
        refine wSeq ?_
        refine rg (cp (oFld (fs := f_api_Lattice) (k := 1) rfl o42_1 tm) (s1 rfl) <| cp (oLd t40 tm) (s1 rfl) <| cp (oLenL u40 tm) (s1 rfl) <| cp (oMv (cI (by decide))) trivial <| .nil) (by kernel_rfl) ?_
        refine pSeq ?_
        obtain ⟨o2, h, hk2⟩ := bd h
        refine wK1 (fun x244 => x244 = o2) (fun x244 => [(1, .d ((kI .i64).sig a1)), (2, .d ((kI .i64).sig a2)), (3, .d (sP (kR f_api_Lattice) a0)), (7, .d ((kI .i64).sig v181)), (8, .d (kB.sig x244)), (12, .d ((kI .i64).sig (a0.Up.length : Int))), (13, .d ((kI .i64).sig v181))]) (fun x244 => []) ?_ ?_
        · refine wBlock (wLoop ?_)
          refine lW (pc2 o2 (fun v242 v243 => [(1, .d ((kI .i64).sig a1)), (2, .d ((kI .i64).sig a2)), (3, .d (sP (kR f_api_Lattice) a0)), (7, .d ((kI .i64).sig v181)), (8, .d (kB.sig v243)), (12, .d ((kI .i64).sig (a0.Up.length : Int))), (13, .d ((kI .i64).sig v181)), (28, .d ((kI .i64).sig (a0.Up.length : Int))), (29, .d ((kI .i64).sig v242))]) (fun v242 v243 => []) (reticentref01_Meet.l3.partial_correctness a0 a1 a2 v181) ?_ _ _ h) ⟨rfl, rfl, rfl, rfl, rfl, rfl, rfl, rfl, rfl, trivial⟩ rfl
          clear h
          intro f' ih v242 v243 h
          refine wSeq ?_
          refine rg (cp (oLt rfl tm tm) (s2 rfl rfl) <| .nil) (by kernel_rfl) ?_
          refine pSeq ?_
          refine wSeq ?_
          rcases ic h with ⟨hp245, h⟩ | ⟨hp245, h⟩
          · refine wCT hp245 tm (s1 rfl) ?_
            refine wSkip ?_
            refine pSeq ?_
            obtain ⟨o3, h, hk3⟩ := bd h
            refine wJ1 (fun x258 => x258 = o3) (fun x258 => [(1, .d ((kI .i64).sig a1)), (2, .d ((kI .i64).sig a2)), (3, .d (sP (kR f_api_Lattice) a0)), (7, .d ((kI .i64).sig v181)), (8, .d (kB.sig x258)), (12, .d ((kI .i64).sig (a0.Up.length : Int))), (13, .d ((kI .i64).sig v181)), (28, .d ((kI .i64).sig (a0.Up.length : Int))), (29, .d ((kI .i64).sig v242))]) (fun x258 => []) ?_ ?_
            · refine wBlock ?_
              refine wSeq ?_
              refine rg (cp (oMv tm) (s1 rfl) <| cp (oAs tm) (s1 rfl) <| .nil) (by kernel_rfl) ?_
              refine pSeq ?_
              obtain ⟨o4, h, hk4⟩ := bd h
              refine wJ1 (fun x264 => x264 = o4) (fun x264 => [(1, .d ((kI .i64).sig a1)), (2, .d ((kI .i64).sig a2)), (3, .d (sP (kR f_api_Lattice) a0)), (7, .d ((kI .i64).sig v181)), (8, .d (kB.sig v243)), (12, .d ((kI .i64).sig (a0.Up.length : Int))), (13, .d ((kI .i64).sig v181)), (28, .d ((kI .i64).sig (a0.Up.length : Int))), (29, .d ((kI .i64).sig v242)), (48, .d (kB.sig x264))]) (fun x264 => []) ?_ ?_
              · obtain ⟨y265, hy265, h⟩ := bd h
                rcases ic h with ⟨hp266, h⟩ | ⟨hp266, h⟩
                · obtain ⟨y267, hy267, h⟩ := bd h
                  rcases ic h with ⟨hp268, h⟩ | ⟨hp268, h⟩
                  · obtain ⟨y269, hy269, h⟩ := bd h
                    refine rg (cp (oLd t42 tm) (s1 rfl) <| cp (oMv tm) (s1 rfl) <| cp (oMv tm) (s1 rfl) <| cp (oCall rfl (reticentref01_Flows.ok hy265) b34 (opds_cons tm (opds_cons tm (opds_cons tm opds_nil)))) (s3 rfl rfl rfl) <| cp (oMv tm) (s1 rfl) <| cgB hp266 rfl rfl (oLd t42 tm) (s1 rfl) <| cgB hp266 rfl rfl (oMv tm) (s1 rfl) <| cgB hp266 rfl rfl (oMv tm) (s1 rfl) <| cgB hp266 rfl rfl (oCall rfl (reticentref01_Flows.ok hy267) b34 (opds_cons tm (opds_cons tm (opds_cons tm opds_nil)))) (s3 rfl rfl rfl) <| cp (oPkT hp266 tm tm) (s2 rfl rfl) <| cp (oMv tm) (s1 rfl) <| cgB hp268 rfl rfl (oLd t42 tm) (s1 rfl) <| cgB hp268 rfl rfl (oMv tm) (s1 rfl) <| cgB hp268 rfl rfl (oMv tm) (s1 rfl) <| cgB hp268 rfl rfl (oCall rfl (reticentref01_Flows.ok hy269) b34 (opds_cons tm (opds_cons tm (opds_cons tm opds_nil)))) (s3 rfl rfl rfl) <| cgB hp268 rfl rfl (oNot tm) (s1 rfl) <| cp (oPkT hp268 tm tm) (s2 rfl rfl) <| .nil) (by kernel_rfl) ?_
                    exact pJ1 _ (so h) ⟨rfl, rfl, rfl, rfl, rfl, rfl, rfl, rfl, rfl, rfl, trivial⟩ rfl
                  · refine rg (cp (oLd t42 tm) (s1 rfl) <| cp (oMv tm) (s1 rfl) <| cp (oMv tm) (s1 rfl) <| cp (oCall rfl (reticentref01_Flows.ok hy265) b34 (opds_cons tm (opds_cons tm (opds_cons tm opds_nil)))) (s3 rfl rfl rfl) <| cp (oMv tm) (s1 rfl) <| cgB hp266 rfl rfl (oLd t42 tm) (s1 rfl) <| cgB hp266 rfl rfl (oMv tm) (s1 rfl) <| cgB hp266 rfl rfl (oMv tm) (s1 rfl) <| cgB hp266 rfl rfl (oCall rfl (reticentref01_Flows.ok hy267) b34 (opds_cons tm (opds_cons tm (opds_cons tm opds_nil)))) (s3 rfl rfl rfl) <| cp (oPkT hp266 tm tm) (s2 rfl rfl) <| cp (oMv tm) (s1 rfl) <| csB (nb hp268) rfl rfl <| csB (nb hp268) rfl rfl <| csB (nb hp268) rfl rfl <| csB (nb hp268) rfl rfl <| csB (nb hp268) rfl rfl <| cp (oPkF (nb hp268) tm cB) (s1 rfl) <| .nil) (by kernel_rfl) ?_
                    exact pJ1 _ (so h) ⟨rfl, rfl, rfl, rfl, rfl, rfl, rfl, rfl, rfl, rfl, trivial⟩ rfl
                · refine rg (cp (oLd t42 tm) (s1 rfl) <| cp (oMv tm) (s1 rfl) <| cp (oMv tm) (s1 rfl) <| cp (oCall rfl (reticentref01_Flows.ok hy265) b34 (opds_cons tm (opds_cons tm (opds_cons tm opds_nil)))) (s3 rfl rfl rfl) <| cp (oMv tm) (s1 rfl) <| csB (nb hp266) rfl rfl <| csB (nb hp266) rfl rfl <| csB (nb hp266) rfl rfl <| csB (nb hp266) rfl rfl <| cp (oPkF (nb hp266) tm cB) (s1 rfl) <| cp (oMv tm) (s1 rfl) <| csB rfl rfl rfl <| csB rfl rfl rfl <| csB rfl rfl rfl <| csB rfl rfl rfl <| csB rfl rfl rfl <| cp (oPkF rfl tm cB) (s1 rfl) <| .nil) (by kernel_rfl) ?_
                  exact pJ1 _ (so h) ⟨rfl, rfl, rfl, rfl, rfl, rfl, rfl, rfl, rfl, rfl, trivial⟩ rfl
              · rintro x264 rfl
                replace h := hk4
                rcases ic h with ⟨hp270, h⟩ | ⟨hp270, h⟩
                · refine wBT hp270 tm (s1 rfl) ?_
                  refine rg (cp (oAs cB) trivial <| .nil) (by kernel_rfl) ?_
                  refine pBlkN ?_
                  exact pJ1 _ (so h) ⟨rfl, rfl, rfl, rfl, rfl, rfl, rfl, rfl, rfl, trivial⟩ rfl
                · refine wBF hp270 tm (s1 rfl) ?_
                  refine wSkip ?_
                  refine pBlkN ?_
                  exact pJ1 _ (so h) ⟨rfl, rfl, rfl, rfl, rfl, rfl, rfl, rfl, rfl, trivial⟩ rfl
            · rintro x258 rfl
              replace h := hk3
              refine rg (cp (oAdd tm (cI (by decide))) (s1 rfl) <| cp (oMv tm) (s1 rfl) <| .nil) (by kernel_rfl) ?_
              exact pLoop (lW (ih _ _ h) ⟨rfl, rfl, rfl, rfl, rfl, rfl, rfl, rfl, rfl, trivial⟩ rfl)
          · refine wCF hp245 tm (s1 rfl) ?_
            refine wExit ?_
            refine pThenX ?_
            refine pThenX ?_
            refine pBlkX ?_
            exact pJ1 _ (so h) ⟨rfl, rfl, rfl, rfl, rfl, rfl, rfl, trivial⟩ rfl
        · rintro x244 rfl
          replace h := hk2
          refine pSeq ?_
          refine wSeq ?_
          refine rg (cp (oMv tm) (s1 rfl) <| .nil) (by kernel_rfl) ?_
          refine pSeq ?_
          rcases ic h with ⟨hp271, h⟩ | ⟨hp271, h⟩
          · refine wBT hp271 tm (s1 rfl) ?_
            refine wSeq ?_
            refine rg (cp (oMv tm) (s1 rfl) <| cp (oAs tm) (s1 rfl) <| .nil) (by kernel_rfl) ?_
            refine pSeq ?_
            refine wRet ?_
            refine pBlkR ?_
            refine pThenR ?_
            refine pThenR ?_
            refine pBlkR ?_
            refine pThenR ?_
            obtain rfl := so h
            replace h := hk1
            refine pThenR ?_
            obtain rfl := so h
            exact pR1 (.inl rfl) rfl (.tmp rfl <| .nil)
          · refine wBF hp271 tm (s1 rfl) ?_
            refine wSkip ?_
            refine pBlkN ?_
            refine pSeq ?_
            refine rg (cp (oAdd tm (cI (by decide))) (s1 rfl) <| cp (oMv tm) (s1 rfl) <| .nil) (by kernel_rfl) ?_
            exact pLoop (lW (ih _ h) ⟨rfl, rfl, rfl, rfl, rfl, trivial⟩ rfl)
    · refine wCF hp182 tm (s1 rfl) ?_
      refine wExit ?_
      refine pThenX ?_
      refine pThenX ?_
      refine pBlkX ?_
      exact pJ0 (so h) trivial rfl
  · rintro rfl
    replace h := hk1
    refine pSeq ?_
    refine wSeq ?_
    refine rg (cp (oAs (cI (by decide))) trivial <| .nil) (by kernel_rfl) ?_
    refine pSeq ?_
    refine wRet ?_
    obtain rfl := so h
    exact pR1 (.inl rfl) rfl (.tmp rfl <| .nil)

theorem reticentref01_Check.ok {a0 : api_Lattice} {r : Int} (h : reticentref01_Check.f a0 = some r) : FnA Try.prog 30 [(kR f_api_Lattice).sig a0] ((kI .i64).sig r) := by
  refine fnIntro Try.func30 rfl (by kernel_rfl) fun H0 w0 => ?_
  unfold reticentref01_Check.f at h
  refine wSeq ?_
  refine rg (cp (oBox tm) (s1 rfl) <| cp (oAs (cI (by decide))) trivial <| .nil) (by kernel_rfl) ?_
  refine pSeq ?_
  refine wSeq ?_
  refine wSeq ?_
  obtain ⟨y1, hy1, h⟩ := bd h
  refine rg (cp (oLd t42 tm) (s1 rfl) <| cp (oCall rfl (reticentref01_may.ok hy1) b74 (opds_cons tm opds_nil)) (s1 rfl) <| cp (oNot tm) (s1 rfl) <| .nil) (by kernel_rfl) ?_
  refine pSeq ?_
  rcases ic h with ⟨hp2, h⟩ | ⟨hp2, h⟩
  · refine wBT hp2 tm (s1 rfl) ?_
    refine wSeq ?_
    refine rg (cp (oAs (cI (by decide))) trivial <| .nil) (by kernel_rfl) ?_
    refine pSeq ?_
    refine wRet ?_
    refine pThenR ?_
    obtain rfl := so h
    exact pR1 (.inl rfl) rfl (.tmp rfl <| .nil)
  · refine wBF hp2 tm (s1 rfl) ?_
    refine wSkip ?_
    refine pSeq ?_
    refine wSeq ?_
    refine wSeq ?_
    obtain ⟨y3, hy3, h⟩ := bd h
    refine rg (cp (oLd t42 tm) (s1 rfl) <| cp (oCall rfl (reticentref01_order.ok hy3) b75 (opds_cons tm opds_nil)) (s1 rfl) <| cp (oNot tm) (s1 rfl) <| .nil) (by kernel_rfl) ?_
    refine pSeq ?_
    rcases ic h with ⟨hp4, h⟩ | ⟨hp4, h⟩
    · refine wBT hp4 tm (s1 rfl) ?_
      refine wSeq ?_
      refine rg (cp (oAs (cI (by decide))) trivial <| .nil) (by kernel_rfl) ?_
      refine pSeq ?_
      refine wRet ?_
      refine pThenR ?_
      obtain rfl := so h
      exact pR1 (.inl rfl) rfl (.tmp rfl <| .nil)
    · refine wBF hp4 tm (s1 rfl) ?_
      refine wSkip ?_
      refine pSeq ?_
      refine wSeq ?_
      refine wSeq ?_
      refine rg (cp (oFld (fs := f_api_Lattice) (k := 1) rfl o42_1 tm) (s1 rfl) <| cp (oLd t40 tm) (s1 rfl) <| cp (oLenL u40 tm) (s1 rfl) <| cp (oMv (cI (by decide))) trivial <| .nil) (by kernel_rfl) ?_
      refine pSeq ?_
      obtain ⟨o1, h, hk1⟩ := bd h
      refine wK0 (.inr () = o1) ([]) ([]) ?_ ?_
      · refine wBlock (wLoop ?_)
        refine lW (pc1 o1 (fun v63 => [(1, .d (sP (kR f_api_Lattice) a0)), (13, .d ((kI .i64).sig (a0.Up.length : Int))), (14, .d ((kI .i64).sig v63))]) (fun v63 => []) (reticentref01_Check.l2.partial_correctness a0) ?_ _ h) ⟨rfl, rfl, rfl, trivial⟩ rfl
        clear h
        intro f' ih v63 h
        refine wSeq ?_
        refine rg (cp (oLt rfl tm tm) (s2 rfl rfl) <| .nil) (by kernel_rfl) ?_
        refine pSeq ?_
        refine wSeq ?_
        rcases ic h with ⟨hp64, h⟩ | ⟨hp64, h⟩
        · refine wCT hp64 tm (s1 rfl) ?_
          refine wSkip ?_
          refine pSeq ?_
          refine wSeq ?_
          refine wBlock ?_
          refine wSeq ?_
          refine rg (cp (oMv tm) (s1 rfl) <| cp (oAs tm) (s1 rfl) <| .nil) (by kernel_rfl) ?_
          refine pSeq ?_
          refine wSeq ?_
          refine rg (cp (oFld (fs := f_api_Lattice) (k := 1) rfl o42_1 tm) (s1 rfl) <| cp (oLd t40 tm) (s1 rfl) <| cp (oLenL u40 tm) (s1 rfl) <| cp (oMv (cI (by decide))) trivial <| .nil) (by kernel_rfl) ?_
          refine pSeq ?_
          obtain ⟨o2, h, hk2⟩ := bd h
          refine wK0 (.inr () = o2) ([(1, .d (sP (kR f_api_Lattice) a0)), (13, .d ((kI .i64).sig (a0.Up.length : Int))), (14, .d ((kI .i64).sig v63))]) ([]) ?_ ?_
          · refine wBlock (wLoop ?_)
            refine lW (pc1 o2 (fun v83 => [(1, .d (sP (kR f_api_Lattice) a0)), (3, .d ((kI .i64).sig v63)), (13, .d ((kI .i64).sig (a0.Up.length : Int))), (14, .d ((kI .i64).sig v63)), (19, .d ((kI .i64).sig (a0.Up.length : Int))), (20, .d ((kI .i64).sig v83))]) (fun v83 => []) (reticentref01_Check.l3.partial_correctness a0 v63) ?_ _ h) ⟨rfl, rfl, rfl, rfl, rfl, rfl, trivial⟩ rfl
            clear h
            intro f' ih v83 h
            refine wSeq ?_
            refine rg (cp (oLt rfl tm tm) (s2 rfl rfl) <| .nil) (by kernel_rfl) ?_
            refine pSeq ?_
            refine wSeq ?_
            rcases ic h with ⟨hp84, h⟩ | ⟨hp84, h⟩
            · refine wCT hp84 tm (s1 rfl) ?_
              refine wSkip ?_
              refine pSeq ?_
              refine wSeq ?_
              refine wBlock ?_
              refine wSeq ?_
              refine rg (cp (oMv tm) (s1 rfl) <| cp (oAs tm) (s1 rfl) <| .nil) (by kernel_rfl) ?_
              refine pSeq ?_
              obtain ⟨o3, h, hk3⟩ := bd h
              refine wJ1 (fun x88 => x88 = o3) (fun x88 => [(1, .d (sP (kR f_api_Lattice) a0)), (3, .d ((kI .i64).sig v63)), (13, .d ((kI .i64).sig (a0.Up.length : Int))), (14, .d ((kI .i64).sig v63)), (19, .d ((kI .i64).sig (a0.Up.length : Int))), (20, .d ((kI .i64).sig v83)), (34, .d (kB.sig x88))]) (fun x88 => []) ?_ ?_
              · obtain ⟨y89, hy89, h⟩ := bd h
                rcases ic h with ⟨hp90, h⟩ | ⟨hp90, h⟩
                · refine rg (cp (oLd t42 tm) (s1 rfl) <| cp (oMv tm) (s1 rfl) <| cp (oMv tm) (s1 rfl) <| cp (oCall rfl (reticentref01_Join.ok hy89) b35 (opds_cons tm (opds_cons tm (opds_cons tm opds_nil)))) (s3 rfl rfl rfl) <| cp (oLt rfl tm (cI (by decide))) (s1 rfl) <| cp (oMv tm) (s1 rfl) <| csB (decide_eq_true hp90) rfl rfl <| csB (decide_eq_true hp90) rfl rfl <| csB (decide_eq_true hp90) rfl rfl <| csB (decide_eq_true hp90) rfl rfl <| csB (decide_eq_true hp90) rfl rfl <| cp (oPkT (decide_eq_true hp90) tm cB) (s1 rfl) <| .nil) (by kernel_rfl) ?_
                  exact pJ1 _ (so h) ⟨rfl, rfl, rfl, rfl, rfl, rfl, rfl, trivial⟩ rfl
                · obtain ⟨y91, hy91, h⟩ := bd h
                  refine rg (cp (oLd t42 tm) (s1 rfl) <| cp (oMv tm) (s1 rfl) <| cp (oMv tm) (s1 rfl) <| cp (oCall rfl (reticentref01_Join.ok hy89) b35 (opds_cons tm (opds_cons tm (opds_cons tm opds_nil)))) (s3 rfl rfl rfl) <| cp (oLt rfl tm (cI (by decide))) (s1 rfl) <| cp (oMv tm) (s1 rfl) <| cgB (decide_eq_false hp90) rfl rfl (oLd t42 tm) (s1 rfl) <| cgB (decide_eq_false hp90) rfl rfl (oMv tm) (s1 rfl) <| cgB (decide_eq_false hp90) rfl rfl (oMv tm) (s1 rfl) <| cgB (decide_eq_false hp90) rfl rfl (oCall rfl (reticentref01_Meet.ok hy91) b36 (opds_cons tm (opds_cons tm (opds_cons tm opds_nil)))) (s3 rfl rfl rfl) <| cgB (decide_eq_false hp90) rfl rfl (oLt rfl tm (cI (by decide))) (s1 rfl) <| cp (oPkF (decide_eq_false hp90) tm tm) (s2 rfl rfl) <| .nil) (by kernel_rfl) ?_
                  exact pJ1 _ (so h) ⟨rfl, rfl, rfl, rfl, rfl, rfl, rfl, trivial⟩ rfl
              · rintro x88 rfl
                replace h := hk3
                rcases ic h with ⟨hp92, h⟩ | ⟨hp92, h⟩
                · refine wBT hp92 tm (s1 rfl) ?_
                  refine wSeq ?_
                  refine rg (cp (oAs (cI (by decide))) trivial <| .nil) (by kernel_rfl) ?_
                  refine pSeq ?_
                  refine wRet ?_
                  refine pBlkR ?_
                  refine pThenR ?_
                  refine pThenR ?_
                  refine pBlkR ?_
                  refine pThenR ?_
                  obtain rfl := so h
                  replace h := hk2
                  refine pBlkR ?_
                  refine pThenR ?_
                  refine pThenR ?_
                  refine pBlkR ?_
                  refine pThenR ?_
                  obtain rfl := so h
                  replace h := hk1
                  refine pThenR ?_
                  obtain rfl := so h
                  exact pR1 (.inl rfl) rfl (.tmp rfl <| .nil)
                · refine wBF hp92 tm (s1 rfl) ?_
                  refine wSkip ?_
                  refine pBlkN ?_
                  refine pSeq ?_
                  refine rg (cp (oAdd tm (cI (by decide))) (s1 rfl) <| cp (oMv tm) (s1 rfl) <| .nil) (by kernel_rfl) ?_
                  exact pLoop (lW (ih _ h) ⟨rfl, rfl, rfl, rfl, rfl, rfl, trivial⟩ rfl)
            · refine wCF hp84 tm (s1 rfl) ?_
              refine wExit ?_
              refine pThenX ?_
              refine pThenX ?_
              refine pBlkX ?_
              exact pJ0 (so h) ⟨rfl, rfl, rfl, trivial⟩ rfl
          · rintro rfl
            replace h := hk2
            refine pBlkN ?_
            refine pSeq ?_
            refine rg (cp (oAdd tm (cI (by decide))) (s1 rfl) <| cp (oMv tm) (s1 rfl) <| .nil) (by kernel_rfl) ?_
            exact pLoop (lW (ih _ h) ⟨rfl, rfl, rfl, trivial⟩ rfl)
        · refine wCF hp64 tm (s1 rfl) ?_
          refine wExit ?_
          refine pThenX ?_
          refine pThenX ?_
          refine pBlkX ?_
          exact pJ0 (so h) trivial rfl
      · rintro rfl
        replace h := hk1
        refine pSeq ?_
        refine wSeq ?_
        refine rg (cp (oAs (cI (by decide))) trivial <| .nil) (by kernel_rfl) ?_
        refine pSeq ?_
        refine wRet ?_
        obtain rfl := so h
        exact pR1 (.inl rfl) rfl (.tmp rfl <| .nil)

theorem reticentlaw01_there.ok {a0 : api_Lattice} {a1 : Int} {r : Bool} (h : reticentlaw01_there.f a0 a1 = some r) : FnA Try.prog 31 [(kR f_api_Lattice).sig a0, (kI .i64).sig a1] (kB.sig r) := by
  refine fnIntro Try.func31 rfl (by kernel_rfl) fun H0 w0 => ?_
  unfold reticentlaw01_there.f at h
  refine wSeq ?_
  refine rg (cp (oBox tm) (s1 rfl) <| cp (oAs cB) trivial <| .nil) (by kernel_rfl) ?_
  refine pSeq ?_
  obtain ⟨o1, h, hk1⟩ := bd h
  refine wJ1 (fun x2 => x2 = o1) (fun x2 => [(4, .d (kB.sig x2))]) (fun x2 => []) ?_ ?_
  · rcases ic h with ⟨hp3, h⟩ | ⟨hp3, h⟩
    · refine rg (cp (oMv tm) (s1 rfl) <| cp (oGe rfl tm (cI (by decide))) (s1 rfl) <| cp (oMv tm) (s1 rfl) <| cgB (decide_eq_true hp3) rfl rfl (oMv tm) (s1 rfl) <| cgB (decide_eq_true hp3) rfl rfl (oFld (fs := f_api_Lattice) (k := 1) rfl o42_1 tm) (s1 rfl) <| cgB (decide_eq_true hp3) rfl rfl (oLd t40 tm) (s1 rfl) <| cgB (decide_eq_true hp3) rfl rfl (oLenL u40 tm) (s1 rfl) <| cgB (decide_eq_true hp3) rfl rfl (oLt rfl tm tm) (s2 rfl rfl) <| cp (oPkT (decide_eq_true hp3) tm tm) (s2 rfl rfl) <| cp (oAs tm) (s1 rfl) <| .nil) (by kernel_rfl) ?_
      exact pJ1 _ (so h) ⟨rfl, trivial⟩ rfl
    · refine rg (cp (oMv tm) (s1 rfl) <| cp (oGe rfl tm (cI (by decide))) (s1 rfl) <| cp (oMv tm) (s1 rfl) <| csB (decide_eq_false hp3) rfl rfl <| csB (decide_eq_false hp3) rfl rfl <| csB (decide_eq_false hp3) rfl rfl <| csB (decide_eq_false hp3) rfl rfl <| csB (decide_eq_false hp3) rfl rfl <| cp (oPkF (decide_eq_false hp3) tm cB) (s1 rfl) <| cp (oAs tm) (s1 rfl) <| .nil) (by kernel_rfl) ?_
      exact pJ1 _ (so h) ⟨rfl, trivial⟩ rfl
  · rintro x2 rfl
    replace h := hk1
    refine wRet ?_
    obtain rfl := so h
    exact pR1 (.inl rfl) rfl (.tmp rfl <| .nil)

theorem reticentlaw01_alive.ok {r : Bool} (h : reticentlaw01_alive.f = some r) : FnA Try.prog 32 [] (kB.sig r) := by
  refine fnIntro Try.func32 rfl (by kernel_rfl) fun H0 w0 => ?_
  unfold reticentlaw01_alive.f at h
  refine wSeq ?_
  refine rg (cp (oAs cB) trivial <| .nil) (by kernel_rfl) ?_
  refine pSeq ?_
  refine wSeq ?_
  refine rg (cp (oLit (d := kS) el39 (by decide) rfl rfl rfl (e1 (cS (by decide)) (e1 (cS (by decide)) (e1 (cS (by decide)) (e1 (cS (by decide)) e0))))) trivial <| cp (oLit (d := (kI .u32)) el40 (by decide) rfl rfl rfl (e1 (cI (by decide)) (e1 (cI (by decide)) (e1 (cI (by decide)) (e1 (cI (by decide)) e0))))) trivial <| cp (oBuild (fs := f_api_Lattice) (u := ⟨([([97] : Str), ([98] : Str), ([99] : Str), ([100] : Str)] : List Str), ([15, 10, 12, 8] : List Int)⟩) rfl ze42 pl42 po42 (.op (zc := [(.slice none 0 0)]) tm rfl (.op (zc := [(.slice none 0 0)]) tm rfl .nil))) (s2 rfl rfl) <| cw (oAlloc (id := 1) (ls := [.d (kL kS) [], .d (kL (kI .u32)) []]) ze42 (fun g => ⟨[(.slice none 0 0)], _, rfl, zL g.H, ⟨[(.slice none 0 0)], _, rfl, zL g.H, rfl⟩⟩)) trivial <| cwn (oStA (n := 0) (fs := f_api_Lattice) rfl rfl z42 tm tm) (s2 rfl rfl) <| .nil) (by kernel_rfl) ?_
  refine pSeq ?_
  refine wSeq ?_
  obtain ⟨y1, hy1, h⟩ := bd h
  refine rg (cr (oLdA (n := 0) (fs := f_api_Lattice) (u := ⟨(⟨([([97] : Str), ([98] : Str), ([99] : Str), ([100] : Str)] : List Str), ([15, 10, 12, 8] : List Int)⟩ : api_Lattice).Names, (⟨([([97] : Str), ([98] : Str), ([99] : Str), ([100] : Str)] : List Str), ([15, 10, 12, 8] : List Int)⟩ : api_Lattice).Up⟩) rfl ⟨rfl, rfl, trivial⟩ t42 tm) (s1 rfl) <| cp (oCall rfl (lattice_Join.ok hy1) b27 (opds_cons tm (opds_cons (cI (by decide)) (opds_cons (cI (by decide)) opds_nil)))) (s1 rfl) <| cp (oMv tm) (s1 rfl) <| cp (oExt (k := 0) rfl tm) (s1 rfl) <| cp (oExt (k := 1) rfl tm) (s1 rfl) <| cp (oAs tm) (s1 rfl) <| cp (oAs tm) (s1 rfl) <| .nil) (by kernel_rfl) ?_
  refine pSeq ?_
  refine wSeq ?_
  obtain ⟨y2, hy2, h⟩ := bd h
  refine rg (cr (oLdA (n := 0) (fs := f_api_Lattice) (u := ⟨(⟨([([97] : Str), ([98] : Str), ([99] : Str), ([100] : Str)] : List Str), ([15, 10, 12, 8] : List Int)⟩ : api_Lattice).Names, (⟨([([97] : Str), ([98] : Str), ([99] : Str), ([100] : Str)] : List Str), ([15, 10, 12, 8] : List Int)⟩ : api_Lattice).Up⟩) rfl ⟨rfl, rfl, trivial⟩ t42 tm) (s1 rfl) <| cp (oCall rfl (lattice_Height.ok hy2) b29 (opds_cons tm (opds_cons (cI (by decide)) opds_nil))) (s1 rfl) <| cp (oMv tm) (s1 rfl) <| cp (oExt (k := 0) rfl tm) (s1 rfl) <| cp (oExt (k := 1) rfl tm) (s1 rfl) <| cp (oAs tm) (s1 rfl) <| cp (oAs tm) (s1 rfl) <| .nil) (by kernel_rfl) ?_
  refine pSeq ?_
  obtain ⟨o1, h, hk1⟩ := bd h
  refine wJ1 (fun x6 => x6 = o1) (fun x6 => [(0, .d (kB.sig x6))]) (fun x6 => [.box 1 42 [.d (kL kS) ((⟨([([97] : Str), ([98] : Str), ([99] : Str), ([100] : Str)] : List Str), ([15, 10, 12, 8] : List Int)⟩ : api_Lattice).Names), .d (kL (kI .u32)) ((⟨([([97] : Str), ([98] : Str), ([99] : Str), ([100] : Str)] : List Str), ([15, 10, 12, 8] : List Int)⟩ : api_Lattice).Up)]]) ?_ ?_
  · rcases ic h with ⟨hp7, h⟩ | ⟨hp7, h⟩
    · rcases ic h with ⟨hp8, h⟩ | ⟨hp8, h⟩
      · rcases ic h with ⟨hp9, h⟩ | ⟨hp9, h⟩
        · refine rg (cp (oMv tm) (s1 rfl) <| cp (oEq rfl tm (cI (by decide))) (s1 rfl) <| cp (oMv tm) (s1 rfl) <| cgB (decide_eq_true hp7) rfl rfl (oMv tm) (s1 rfl) <| cgB (decide_eq_true hp7) rfl rfl (oEq rfl tm (cI (by decide))) (s1 rfl) <| cp (oPkT (decide_eq_true hp7) tm tm) (s2 rfl rfl) <| cp (oMv tm) (s1 rfl) <| cgB (decide_eq_true hp8) rfl rfl (oMv tm) (s1 rfl) <| cgB (decide_eq_true hp8) rfl rfl (oEq rfl tm (cI (by decide))) (s1 rfl) <| cp (oPkT (decide_eq_true hp8) tm tm) (s2 rfl rfl) <| cp (oMv tm) (s1 rfl) <| cgB (decide_eq_true hp9) rfl rfl (oMv tm) (s1 rfl) <| cgB (decide_eq_true hp9) rfl rfl (oEq rfl tm (cI (by decide))) (s1 rfl) <| cp (oPkT (decide_eq_true hp9) tm tm) (s2 rfl rfl) <| cp (oAs tm) (s1 rfl) <| .nil) (by kernel_rfl) ?_
          exact pJ1 _ (so h) ⟨rfl, trivial⟩ rfl
        · refine rg (cp (oMv tm) (s1 rfl) <| cp (oEq rfl tm (cI (by decide))) (s1 rfl) <| cp (oMv tm) (s1 rfl) <| cgB (decide_eq_true hp7) rfl rfl (oMv tm) (s1 rfl) <| cgB (decide_eq_true hp7) rfl rfl (oEq rfl tm (cI (by decide))) (s1 rfl) <| cp (oPkT (decide_eq_true hp7) tm tm) (s2 rfl rfl) <| cp (oMv tm) (s1 rfl) <| cgB (decide_eq_true hp8) rfl rfl (oMv tm) (s1 rfl) <| cgB (decide_eq_true hp8) rfl rfl (oEq rfl tm (cI (by decide))) (s1 rfl) <| cp (oPkT (decide_eq_true hp8) tm tm) (s2 rfl rfl) <| cp (oMv tm) (s1 rfl) <| csB (decide_eq_false hp9) rfl rfl <| csB (decide_eq_false hp9) rfl rfl <| cp (oPkF (decide_eq_false hp9) tm cB) (s1 rfl) <| cp (oAs tm) (s1 rfl) <| .nil) (by kernel_rfl) ?_
          exact pJ1 _ (so h) ⟨rfl, trivial⟩ rfl
      · refine rg (cp (oMv tm) (s1 rfl) <| cp (oEq rfl tm (cI (by decide))) (s1 rfl) <| cp (oMv tm) (s1 rfl) <| cgB (decide_eq_true hp7) rfl rfl (oMv tm) (s1 rfl) <| cgB (decide_eq_true hp7) rfl rfl (oEq rfl tm (cI (by decide))) (s1 rfl) <| cp (oPkT (decide_eq_true hp7) tm tm) (s2 rfl rfl) <| cp (oMv tm) (s1 rfl) <| csB (decide_eq_false hp8) rfl rfl <| csB (decide_eq_false hp8) rfl rfl <| cp (oPkF (decide_eq_false hp8) tm cB) (s1 rfl) <| cp (oMv tm) (s1 rfl) <| csB rfl rfl rfl <| csB rfl rfl rfl <| cp (oPkF rfl tm cB) (s1 rfl) <| cp (oAs tm) (s1 rfl) <| .nil) (by kernel_rfl) ?_
        exact pJ1 _ (so h) ⟨rfl, trivial⟩ rfl
    · refine rg (cp (oMv tm) (s1 rfl) <| cp (oEq rfl tm (cI (by decide))) (s1 rfl) <| cp (oMv tm) (s1 rfl) <| csB (decide_eq_false hp7) rfl rfl <| csB (decide_eq_false hp7) rfl rfl <| cp (oPkF (decide_eq_false hp7) tm cB) (s1 rfl) <| cp (oMv tm) (s1 rfl) <| csB rfl rfl rfl <| csB rfl rfl rfl <| cp (oPkF rfl tm cB) (s1 rfl) <| cp (oMv tm) (s1 rfl) <| csB rfl rfl rfl <| csB rfl rfl rfl <| cp (oPkF rfl tm cB) (s1 rfl) <| cp (oAs tm) (s1 rfl) <| .nil) (by kernel_rfl) ?_
      exact pJ1 _ (so h) ⟨rfl, trivial⟩ rfl
  · rintro x6 rfl
    replace h := hk1
    refine wRet ?_
    obtain rfl := so h
    exact pR1 (.inl rfl) rfl (.tmp rfl <| .nil)

theorem reticentref01_Height.okB {rc : api_Lattice → Int → Option Int} (hrc : ∀ {a0 : api_Lattice} {a1 : Int} {r : Int}, rc a0 a1 = some r → FnA Try.prog 33 [(kR f_api_Lattice).sig a0, (kI .i64).sig a1] ((kI .i64).sig r)) {a0 : api_Lattice} {a1 : Int} {r : Int} (h : reticentref01_Height.B rc a0 a1 = some r) : FnA Try.prog 33 [(kR f_api_Lattice).sig a0, (kI .i64).sig a1] ((kI .i64).sig r) := by
  refine fnIntro Try.func33 rfl (by kernel_rfl) fun H0 w0 => ?_
  unfold reticentref01_Height.B at h
  refine wSeq ?_
  refine rg (cp (oBox tm) (s1 rfl) <| cp (oAs (cI (by decide))) trivial <| .nil) (by kernel_rfl) ?_
  refine pSeq ?_
  refine wSeq ?_
  refine rg (cp (oAs (cI (by decide))) trivial <| .nil) (by kernel_rfl) ?_
  refine pSeq ?_
  refine wSeq ?_
  refine wSeq ?_
  refine rg (cp (oFld (fs := f_api_Lattice) (k := 1) rfl o42_1 tm) (s1 rfl) <| cp (oLd t40 tm) (s1 rfl) <| cp (oLenL u40 tm) (s1 rfl) <| cp (oMv (cI (by decide))) trivial <| .nil) (by kernel_rfl) ?_
  refine pSeq ?_
  obtain ⟨o1, h, hk1⟩ := bd h
  refine wK1 (fun x39 => x39 = o1) (fun x39 => [(5, .d ((kI .i64).sig x39))]) (fun x39 => []) ?_ ?_
  · refine wBlock (wLoop ?_)
    refine lW (pc2 o1 (fun v37 v38 => [(1, .d ((kI .i64).sig a1)), (2, .d (sP (kR f_api_Lattice) a0)), (5, .d ((kI .i64).sig v38)), (10, .d ((kI .i64).sig (a0.Up.length : Int))), (11, .d ((kI .i64).sig v37))]) (fun v37 v38 => []) (reticentref01_Height.l0.partial_correctness a0 a1 rc) ?_ _ _ h) ⟨rfl, rfl, rfl, rfl, rfl, trivial⟩ rfl
    clear h
    intro f' ih v37 v38 h
    refine wSeq ?_
    refine rg (cp (oLt rfl tm tm) (s2 rfl rfl) <| .nil) (by kernel_rfl) ?_
    refine pSeq ?_
    refine wSeq ?_
    rcases ic h with ⟨hp40, h⟩ | ⟨hp40, h⟩
    · refine wCT hp40 tm (s1 rfl) ?_
      refine wSkip ?_
      refine pSeq ?_
      obtain ⟨o2, h, hk2⟩ := bd h
      refine wJ1 (fun x49 => x49 = o2) (fun x49 => [(1, .d ((kI .i64).sig a1)), (2, .d (sP (kR f_api_Lattice) a0)), (5, .d ((kI .i64).sig x49)), (10, .d ((kI .i64).sig (a0.Up.length : Int))), (11, .d ((kI .i64).sig v37))]) (fun x49 => []) ?_ ?_
      · refine wBlock ?_
        refine wSeq ?_
        refine rg (cp (oMv tm) (s1 rfl) <| cp (oAs tm) (s1 rfl) <| .nil) (by kernel_rfl) ?_
        refine pSeq ?_
        obtain ⟨o3, h, hk3⟩ := bd h
        refine wJ1 (fun x52 => x52 = o3) (fun x52 => [(1, .d ((kI .i64).sig a1)), (2, .d (sP (kR f_api_Lattice) a0)), (5, .d ((kI .i64).sig v38)), (6, .d ((kI .i64).sig v37)), (10, .d ((kI .i64).sig (a0.Up.length : Int))), (11, .d ((kI .i64).sig v37)), (22, .d (kB.sig x52))]) (fun x52 => []) ?_ ?_
        · rcases ic h with ⟨hp53, h⟩ | ⟨hp53, h⟩
          · refine rg (cp (oMv tm) (s1 rfl) <| cp (oMv tm) (s1 rfl) <| cp (oNe rfl tm tm) (s2 rfl rfl) <| cp (oMv tm) (s1 rfl) <| csB (nf hp53) rfl rfl <| csB (nf hp53) rfl rfl <| csB (nf hp53) rfl rfl <| csB (nf hp53) rfl rfl <| cp (oPkF (nf hp53) tm cB) (s1 rfl) <| .nil) (by kernel_rfl) ?_
            exact pJ1 _ (so h) ⟨rfl, rfl, rfl, rfl, rfl, rfl, rfl, trivial⟩ rfl
          · obtain ⟨y54, hy54, h⟩ := bd h
            refine rg (cp (oMv tm) (s1 rfl) <| cp (oMv tm) (s1 rfl) <| cp (oNe rfl tm tm) (s2 rfl rfl) <| cp (oMv tm) (s1 rfl) <| cgB (nt hp53) rfl rfl (oLd t42 tm) (s1 rfl) <| cgB (nt hp53) rfl rfl (oMv tm) (s1 rfl) <| cgB (nt hp53) rfl rfl (oMv tm) (s1 rfl) <| cgB (nt hp53) rfl rfl (oCall rfl (reticentref01_Flows.ok hy54) b34 (opds_cons tm (opds_cons tm (opds_cons tm opds_nil)))) (s3 rfl rfl rfl) <| cp (oPkT (nt hp53) tm tm) (s2 rfl rfl) <| .nil) (by kernel_rfl) ?_
            exact pJ1 _ (so h) ⟨rfl, rfl, rfl, rfl, rfl, rfl, rfl, trivial⟩ rfl
        · rintro x52 rfl
          replace h := hk3
          rcases ic h with ⟨hp55, h⟩ | ⟨hp55, h⟩
          · refine wBT hp55 tm (s1 rfl) ?_
            refine wSeq ?_
            obtain ⟨y56, hy56, h⟩ := bd h
            refine rg (cp (oLd t42 tm) (s1 rfl) <| cp (oMv tm) (s1 rfl) <| cp (oCall rfl (hrc hy56) b33 (opds_cons tm (opds_cons tm opds_nil))) (s2 rfl rfl) <| cp (oAdd (cI (by decide)) tm) (s1 rfl) <| cp (oAs tm) (s1 rfl) <| .nil) (by kernel_rfl) ?_
            refine pSeq ?_
            refine wSeq ?_
            refine rg (cp (oMv tm) (s1 rfl) <| cp (oMv tm) (s1 rfl) <| cp (oGt rfl tm tm) (s2 rfl rfl) <| .nil) (by kernel_rfl) ?_
            refine pSeq ?_
            rcases ic h with ⟨hp57, h⟩ | ⟨hp57, h⟩
            · refine wCT hp57 tm (s1 rfl) ?_
              refine rg (cp (oMv tm) (s1 rfl) <| cp (oAs tm) (s1 rfl) <| .nil) (by kernel_rfl) ?_
              refine pBlkN ?_
              exact pJ1 _ (so h) ⟨rfl, rfl, rfl, rfl, rfl, trivial⟩ rfl
            · refine wCF hp57 tm (s1 rfl) ?_
              refine wSkip ?_
              refine pBlkN ?_
              exact pJ1 _ (so h) ⟨rfl, rfl, rfl, rfl, rfl, trivial⟩ rfl
          · refine wBF hp55 tm (s1 rfl) ?_
            refine wSkip ?_
            refine pBlkN ?_
            exact pJ1 _ (so h) ⟨rfl, rfl, rfl, rfl, rfl, trivial⟩ rfl
      · rintro x49 rfl
        replace h := hk2
        refine rg (cp (oAdd tm (cI (by decide))) (s1 rfl) <| cp (oMv tm) (s1 rfl) <| .nil) (by kernel_rfl) ?_
        exact pLoop (lW (ih _ _ h) ⟨rfl, rfl, rfl, rfl, rfl, trivial⟩ rfl)
    · refine wCF hp40 tm (s1 rfl) ?_
      refine wExit ?_
      refine pThenX ?_
      refine pThenX ?_
      refine pBlkX ?_
      exact pJ1 _ (so h) ⟨rfl, trivial⟩ rfl
  · rintro x39 rfl
    replace h := hk1
    refine pSeq ?_
    refine wSeq ?_
    refine rg (cp (oMv tm) (s1 rfl) <| cp (oAs tm) (s1 rfl) <| .nil) (by kernel_rfl) ?_
    refine pSeq ?_
    refine wRet ?_
    obtain rfl := so h
    exact pR1 (.inl rfl) rfl (.tmp rfl <| .nil)
theorem reticentref01_Height.okF : ∀ (k : Nat) {a0 : api_Lattice} {a1 : Int} {r : Int}, reticentref01_Height.F k a0 a1 = some r → FnA Try.prog 33 [(kR f_api_Lattice).sig a0, (kI .i64).sig a1] ((kI .i64).sig r)
  | 0, _, _, _, h => by cases h
  | k + 1, _, _, _, h => reticentref01_Height.okB (fun h => reticentref01_Height.okF k h) h
theorem reticentref01_Height.ok {a0 : api_Lattice} {a1 : Int} {r : Int} (h : reticentref01_Height.f a0 a1 = some r) : FnA Try.prog 33 [(kR f_api_Lattice).sig a0, (kI .i64).sig a1] ((kI .i64).sig r) := reticentref01_Height.okF 1000 h

end Go.Proofs.Ythpmbokenhpakaa.LA
