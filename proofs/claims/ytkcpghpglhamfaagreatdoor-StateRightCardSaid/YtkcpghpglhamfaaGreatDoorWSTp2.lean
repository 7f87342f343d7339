import Derived.Test.YtkcpghpglhamfaaGreatDoorShelf
import Derived.Test.YtkcpghpglhamfaaGreatDoorWSTp1
import Derived.Test.YtkcpghpglhamfaaGreatDoorProg
set_option linter.unusedVariables false
set_option maxRecDepth 10000
set_option maxHeartbeats 2000000
namespace Go.Proofs.YtkcpghpglhamfaaGreatDoor.ST
open Go Go.Proofs.YtkcpghpglhamfaaGreatDoor.Ab

theorem reticentref01_Name.ok {a0 : Str} {r : Bool} (h : reticentref01_Name.f a0 = some r) : FnA Tryz.prog 69 [kS.sig a0] (kB.sig r) := by
  refine fnIntro Tryz.func69 rfl (by kernel_rfl) fun H0 w0 => ?_
  unfold reticentref01_Name.f at h
  refine wSeq ?_
  refine rg (cp (oAs cB) trivial <| .nil) (by kernel_rfl) ?_
  refine pSeq ?_
  refine wSeq ?_
  refine wSeq ?_
  refine rg (cp (oAs (cI (by decide))) trivial <| .nil) (by kernel_rfl) ?_
  refine pSeq ?_
  obtain ⟨o1, h, hk1⟩ := bd h
  refine wK0 (.inr () = o1) ([(0, .d (kS.sig a0))]) ([]) ?_ ?_
  · refine wBlock (wLoop ?_)
    refine lW (pc1 o1 (fun v19 => [(0, .d (kS.sig a0)), (3, .d ((kI .i64).sig v19))]) (fun v19 => []) (reticentref01_Name.l0.partial_correctness a0) ?_ _ h) ⟨rfl, rfl, trivial⟩ rfl
    clear h
    intro f' ih v19 h
    refine wSeq ?_
    refine wSeq ?_
    refine rg (cp (oMv tm) (s1 rfl) <| cp (oMv tm) (s1 rfl) <| cp (oLenS u9 tm) (s1 rfl) <| cp (oLt rfl tm tm) (s2 rfl rfl) <| .nil) (by kernel_rfl) ?_
    refine pSeq ?_
    rcases ic h with ⟨hp20, h⟩ | ⟨hp20, h⟩
    · refine wCT hp20 tm (s1 rfl) ?_
      refine wSkip ?_
      refine pSeq ?_
      refine wSeq ?_
      refine wBlock ?_
      obtain ⟨o2, h, hk2⟩ := bd h
      refine wJ1 (fun x24 => x24 = o2) (fun x24 => [(0, .d (kS.sig a0)), (3, .d ((kI .i64).sig v19)), (19, .d (kB.sig x24))]) (fun x24 => []) ?_ ?_
      · obtain ⟨hc25, h⟩ := ib h
        rcases ic h with ⟨hp26, h⟩ | ⟨hp26, h⟩
        · refine rg (cp (oMv tm) (s1 rfl) <| cp (oMv tm) (s1 rfl) <| cp (oIdxS u9 hc25.1 hc25.2 tm tm) (s2 rfl rfl) <| cp (oLt rfl tm (cI (by decide))) (s1 rfl) <| cp (oMv tm) (s1 rfl) <| csB (decide_eq_true hp26) rfl rfl <| csB (decide_eq_true hp26) rfl rfl <| csB (decide_eq_true hp26) rfl rfl <| csB (decide_eq_true hp26) rfl rfl <| cp (oPkT (decide_eq_true hp26) tm cB) (s1 rfl) <| .nil) (by kernel_rfl) ?_
          exact pJ1 _ (so h) ⟨rfl, rfl, rfl, trivial⟩ rfl
        · obtain ⟨hc27, h⟩ := ib h
          refine rg (cp (oMv tm) (s1 rfl) <| cp (oMv tm) (s1 rfl) <| cp (oIdxS u9 hc25.1 hc25.2 tm tm) (s2 rfl rfl) <| cp (oLt rfl tm (cI (by decide))) (s1 rfl) <| cp (oMv tm) (s1 rfl) <| cgB (decide_eq_false hp26) rfl rfl (oMv tm) (s1 rfl) <| cgB (decide_eq_false hp26) rfl rfl (oMv tm) (s1 rfl) <| cgB (decide_eq_false hp26) rfl rfl (oIdxS u9 hc27.1 hc27.2 tm tm) (s2 rfl rfl) <| cgB (decide_eq_false hp26) rfl rfl (oGt rfl tm (cI (by decide))) (s1 rfl) <| cp (oPkF (decide_eq_false hp26) tm tm) (s2 rfl rfl) <| .nil) (by kernel_rfl) ?_
          exact pJ1 _ (so h) ⟨rfl, rfl, rfl, trivial⟩ rfl
      · rintro x24 rfl
        replace h := hk2
        rcases ic h with ⟨hp28, h⟩ | ⟨hp28, h⟩
        · refine wBT hp28 tm (s1 rfl) ?_
          refine wSeq ?_
          refine rg (cp (oAs cB) trivial <| .nil) (by kernel_rfl) ?_
          refine pSeq ?_
          refine wRet ?_
          refine pBlkR ?_
          refine pThenR ?_
          refine pThenR ?_
          refine pBlkR ?_
          refine pThenR ?_
          obtain rfl := so h
          replace h := hk1
          refine pThenR ?_
          obtain rfl := so h
          exact pR1 (.inl rfl) rfl (.tmp rfl <| .nil)
        · refine wBF hp28 tm (s1 rfl) ?_
          refine wSkip ?_
          refine pBlkN ?_
          refine pSeq ?_
          refine rg (cp (oMv tm) (s1 rfl) <| cp (oAdd tm (cI (by decide))) (s1 rfl) <| cp (oAs tm) (s1 rfl) <| .nil) (by kernel_rfl) ?_
          exact pLoop (lW (ih _ h) ⟨rfl, rfl, trivial⟩ rfl)
    · refine wCF hp20 tm (s1 rfl) ?_
      refine wExit ?_
      refine pThenX ?_
      refine pThenX ?_
      refine pBlkX ?_
      exact pJ0 (so h) ⟨rfl, trivial⟩ rfl
  · rintro rfl
    replace h := hk1
    refine pSeq ?_
    obtain ⟨o1, h, hk1⟩ := bd h
    refine wJ1 (fun x30 => x30 = o1) (fun x30 => [(2, .d (kB.sig x30))]) (fun x30 => []) ?_ ?_
    · rcases ic h with ⟨hp31, h⟩ | ⟨hp31, h⟩
      · refine rg (cp (oMv tm) (s1 rfl) <| cp (oLenS u9 tm) (s1 rfl) <| cp (oGt rfl tm (cI (by decide))) (s1 rfl) <| cp (oMv tm) (s1 rfl) <| cgB (decide_eq_true hp31) rfl rfl (oMv tm) (s1 rfl) <| cgB (decide_eq_true hp31) rfl rfl (oLenS u9 tm) (s1 rfl) <| cgB (decide_eq_true hp31) rfl rfl (oLe rfl tm (cI (by decide))) (s1 rfl) <| cp (oPkT (decide_eq_true hp31) tm tm) (s2 rfl rfl) <| cp (oAs tm) (s1 rfl) <| .nil) (by kernel_rfl) ?_
        exact pJ1 _ (so h) ⟨rfl, trivial⟩ rfl
      · refine rg (cp (oMv tm) (s1 rfl) <| cp (oLenS u9 tm) (s1 rfl) <| cp (oGt rfl tm (cI (by decide))) (s1 rfl) <| cp (oMv tm) (s1 rfl) <| csB (decide_eq_false hp31) rfl rfl <| csB (decide_eq_false hp31) rfl rfl <| csB (decide_eq_false hp31) rfl rfl <| cp (oPkF (decide_eq_false hp31) tm cB) (s1 rfl) <| cp (oAs tm) (s1 rfl) <| .nil) (by kernel_rfl) ?_
        exact pJ1 _ (so h) ⟨rfl, trivial⟩ rfl
    · rintro x30 rfl
      replace h := hk1
      refine wRet ?_
      obtain rfl := so h
      exact pR1 (.inl rfl) rfl (.tmp rfl <| .nil)

theorem reticentref01_high.ok {a0 : Int} {a1 : Int} {r : Bool} (h : reticentref01_high.f a0 a1 = some r) : FnA Tryz.prog 70 [(kI .u32).sig a0, (kI .i64).sig a1] (kB.sig r) := by
  refine fnIntro Tryz.func70 rfl (by kernel_rfl) fun H0 w0 => ?_
  unfold reticentref01_high.f at h
  refine wSeq ?_
  refine rg (cp (oAs cB) trivial <| .nil) (by kernel_rfl) ?_
  refine pSeq ?_
  refine wSeq ?_
  refine wSeq ?_
  refine rg (cp (oAs (cI (by decide))) trivial <| .nil) (by kernel_rfl) ?_
  refine pSeq ?_
  obtain ⟨o1, h, hk1⟩ := bd h
  refine wK1 (fun x5 => x5 = o1) (fun x5 => [(0, .d ((kI .u32).sig x5))]) (fun x5 => []) ?_ ?_
  · refine wBlock (wLoop ?_)
    refine lW (pc2 o1 (fun v3 v4 => [(0, .d ((kI .u32).sig v3)), (1, .d ((kI .i64).sig a1)), (5, .d ((kI .i64).sig v4))]) (fun v3 v4 => []) (reticentref01_high.l0.partial_correctness a1) ?_ _ _ h) ⟨rfl, rfl, rfl, trivial⟩ rfl
    clear h
    intro f' ih v3 v4 h
    refine wSeq ?_
    refine wSeq ?_
    refine rg (cp (oMv tm) (s1 rfl) <| cp (oMv tm) (s1 rfl) <| cp (oLt rfl tm tm) (s2 rfl rfl) <| .nil) (by kernel_rfl) ?_
    refine pSeq ?_
    rcases ic h with ⟨hp6, h⟩ | ⟨hp6, h⟩
    · refine wCT hp6 tm (s1 rfl) ?_
      refine wSkip ?_
      refine pSeq ?_
      refine wSeq ?_
      refine wBlock ?_
      refine rg (cp (oMv tm) (s1 rfl) <| cp (oQuo (by decide) tm (cI (by decide))) (s1 rfl) <| cp (oAs tm) (s1 rfl) <| .nil) (by kernel_rfl) ?_
      refine pBlkN ?_
      refine pSeq ?_
      refine rg (cp (oMv tm) (s1 rfl) <| cp (oAdd tm (cI (by decide))) (s1 rfl) <| cp (oAs tm) (s1 rfl) <| .nil) (by kernel_rfl) ?_
      exact pLoop (lW (ih _ _ h) ⟨rfl, rfl, rfl, trivial⟩ rfl)
    · refine wCF hp6 tm (s1 rfl) ?_
      refine wExit ?_
      refine pThenX ?_
      refine pThenX ?_
      refine pBlkX ?_
      exact pJ1 _ (so h) ⟨rfl, trivial⟩ rfl
  · rintro x5 rfl
    replace h := hk1
    refine pSeq ?_
    refine wSeq ?_
    refine rg (cp (oMv tm) (s1 rfl) <| cp (oGt rfl tm (cI (by decide))) (s1 rfl) <| cp (oAs tm) (s1 rfl) <| .nil) (by kernel_rfl) ?_
    refine pSeq ?_
    refine wRet ?_
    obtain rfl := so h
    exact pR1 (.inl rfl) rfl (.tmp rfl <| .nil)

theorem reticentref01_may.ok {a0 : api_Lattice} {r : Bool} (h : reticentref01_may.f a0 = some r) : FnA Tryz.prog 33 [(kR f_api_Lattice).sig a0] (kB.sig r) := by
  refine fnIntro Tryz.func33 rfl (by kernel_rfl) fun H0 w0 => ?_
  unfold reticentref01_may.f at h
  refine wSeq ?_
  refine rg (cp (oBox tm) (s1 rfl) <| cp (oAs cB) trivial <| .nil) (by kernel_rfl) ?_
  refine pSeq ?_
  refine wSeq ?_
  obtain ⟨o1, h, hk1⟩ := bd h
  refine wJ1 (fun x3 => x3 = o1) (fun x3 => [(1, .d (sP (kR f_api_Lattice) a0)), (25, .d (kB.sig x3))]) (fun x3 => []) ?_ ?_
  · rcases ic h with ⟨hp4, h⟩ | ⟨hp4, h⟩
    · refine rg (cp (oFld (fs := f_api_Lattice) (k := 1) rfl o25_1 tm) (s1 rfl) <| cp (oLd t23 tm) (s1 rfl) <| cp (oLenL u23 tm) (s1 rfl) <| cp (oLt rfl tm (cI (by decide))) (s1 rfl) <| cp (oMv tm) (s1 rfl) <| csB (decide_eq_true hp4) rfl rfl <| csB (decide_eq_true hp4) rfl rfl <| csB (decide_eq_true hp4) rfl rfl <| csB (decide_eq_true hp4) rfl rfl <| cp (oPkT (decide_eq_true hp4) tm cB) (s1 rfl) <| cp (oMv tm) (s1 rfl) <| csB rfl rfl rfl <| csB rfl rfl rfl <| csB rfl rfl rfl <| csB rfl rfl rfl <| csB rfl rfl rfl <| csB rfl rfl rfl <| csB rfl rfl rfl <| cp (oPkT rfl tm cB) (s1 rfl) <| .nil) (by kernel_rfl) ?_
      exact pJ1 _ (so h) ⟨rfl, rfl, trivial⟩ rfl
    · rcases ic h with ⟨hp5, h⟩ | ⟨hp5, h⟩
      · refine rg (cp (oFld (fs := f_api_Lattice) (k := 1) rfl o25_1 tm) (s1 rfl) <| cp (oLd t23 tm) (s1 rfl) <| cp (oLenL u23 tm) (s1 rfl) <| cp (oLt rfl tm (cI (by decide))) (s1 rfl) <| cp (oMv tm) (s1 rfl) <| cgB (decide_eq_false hp4) rfl rfl (oFld (fs := f_api_Lattice) (k := 1) rfl o25_1 tm) (s1 rfl) <| cgB (decide_eq_false hp4) rfl rfl (oLd t23 tm) (s1 rfl) <| cgB (decide_eq_false hp4) rfl rfl (oLenL u23 tm) (s1 rfl) <| cgB (decide_eq_false hp4) rfl rfl (oGt rfl tm (cI (by decide))) (s1 rfl) <| cp (oPkF (decide_eq_false hp4) tm tm) (s2 rfl rfl) <| cp (oMv tm) (s1 rfl) <| csB (decide_eq_true hp5) rfl rfl <| csB (decide_eq_true hp5) rfl rfl <| csB (decide_eq_true hp5) rfl rfl <| csB (decide_eq_true hp5) rfl rfl <| csB (decide_eq_true hp5) rfl rfl <| csB (decide_eq_true hp5) rfl rfl <| csB (decide_eq_true hp5) rfl rfl <| cp (oPkT (decide_eq_true hp5) tm cB) (s1 rfl) <| .nil) (by kernel_rfl) ?_
        exact pJ1 _ (so h) ⟨rfl, rfl, trivial⟩ rfl
      · refine rg (cp (oFld (fs := f_api_Lattice) (k := 1) rfl o25_1 tm) (s1 rfl) <| cp (oLd t23 tm) (s1 rfl) <| cp (oLenL u23 tm) (s1 rfl) <| cp (oLt rfl tm (cI (by decide))) (s1 rfl) <| cp (oMv tm) (s1 rfl) <| cgB (decide_eq_false hp4) rfl rfl (oFld (fs := f_api_Lattice) (k := 1) rfl o25_1 tm) (s1 rfl) <| cgB (decide_eq_false hp4) rfl rfl (oLd t23 tm) (s1 rfl) <| cgB (decide_eq_false hp4) rfl rfl (oLenL u23 tm) (s1 rfl) <| cgB (decide_eq_false hp4) rfl rfl (oGt rfl tm (cI (by decide))) (s1 rfl) <| cp (oPkF (decide_eq_false hp4) tm tm) (s2 rfl rfl) <| cp (oMv tm) (s1 rfl) <| cgB (decide_eq_false hp5) rfl rfl (oFld (fs := f_api_Lattice) (k := 0) rfl o25_0 tm) (s1 rfl) <| cgB (decide_eq_false hp5) rfl rfl (oLd t22 tm) (s1 rfl) <| cgB (decide_eq_false hp5) rfl rfl (oLenL u22 tm) (s1 rfl) <| cgB (decide_eq_false hp5) rfl rfl (oFld (fs := f_api_Lattice) (k := 1) rfl o25_1 tm) (s1 rfl) <| cgB (decide_eq_false hp5) rfl rfl (oLd t23 tm) (s1 rfl) <| cgB (decide_eq_false hp5) rfl rfl (oLenL u23 tm) (s1 rfl) <| cgB (decide_eq_false hp5) rfl rfl (oNe rfl tm tm) (s2 rfl rfl) <| cp (oPkF (decide_eq_false hp5) tm tm) (s2 rfl rfl) <| .nil) (by kernel_rfl) ?_
        exact pJ1 _ (so h) ⟨rfl, rfl, trivial⟩ rfl
  · rintro x3 rfl
    replace h := hk1
    rcases ic h with ⟨hp6, h⟩ | ⟨hp6, h⟩
    · refine wBT hp6 tm (s1 rfl) ?_
      refine wSeq ?_
      refine rg (cp (oAs cB) trivial <| .nil) (by kernel_rfl) ?_
      refine pSeq ?_
      refine wRet ?_
      refine pThenR ?_
      obtain rfl := so h
      exact pR1 (.inl rfl) rfl (.tmp rfl <| .nil)
    · refine wBF hp6 tm (s1 rfl) ?_
      refine wSkip ?_
      refine pSeq ?_
      refine wSeq ?_
      refine wSeq ?_
      refine rg (cp (oFld (fs := f_api_Lattice) (k := 0) rfl o25_0 tm) (s1 rfl) <| cp (oLd t22 tm) (s1 rfl) <| cp (oLenL u22 tm) (s1 rfl) <| cp (oMv (cI (by decide))) trivial <| .nil) (by kernel_rfl) ?_
      refine pSeq ?_
      obtain ⟨o1, h, hk1⟩ := bd h
      refine wK0 (.inr () = o1) ([]) ([]) ?_ ?_
      · refine wBlock (wLoop ?_)
        refine lW (pc1 o1 (fun v53 => [(1, .d (sP (kR f_api_Lattice) a0)), (27, .d ((kL kS).sig a0.Names)), (28, .d ((kI .i64).sig (a0.Names.length : Int))), (29, .d ((kI .i64).sig v53))]) (fun v53 => []) (reticentref01_may.l2.partial_correctness a0) ?_ _ h) ⟨rfl, rfl, rfl, rfl, trivial⟩ rfl
        clear h
        intro f' ih v53 h
        refine wSeq ?_
        refine rg (cp (oLt rfl tm tm) (s2 rfl rfl) <| .nil) (by kernel_rfl) ?_
        refine pSeq ?_
        refine wSeq ?_
        rcases ic h with ⟨hp54, h⟩ | ⟨hp54, h⟩
        · refine wCT hp54 tm (s1 rfl) ?_
          refine wSkip ?_
          refine pSeq ?_
          refine wSeq ?_
          refine wBlock ?_
          refine wSeq ?_
          obtain ⟨y55, hy55, h⟩ := bd h
          refine rg (cp (oMv tm) (s1 rfl) <| cp (oIdx u22 z9 hy55 tm tm) (s2 rfl rfl) <| cp (oLd t9 tm) (s1 rfl) <| cp (oAs tm) (s1 rfl) <| cp (oAs tm) (s1 rfl) <| .nil) (by kernel_rfl) ?_
          refine pSeq ?_
          refine wSeq ?_
          obtain ⟨o2, h, hk2⟩ := bd h
          refine wJ1 (fun x60 => x60 = o2) (fun x60 => [(1, .d (sP (kR f_api_Lattice) a0)), (3, .d ((kI .i64).sig v53)), (4, .d (kS.sig y55)), (27, .d ((kL kS).sig a0.Names)), (28, .d ((kI .i64).sig (a0.Names.length : Int))), (29, .d ((kI .i64).sig v53)), (47, .d (kB.sig x60))]) (fun x60 => []) ?_ ?_
          · obtain ⟨y61, hy61, h⟩ := bd h
            rcases ic h with ⟨hp62, h⟩ | ⟨hp62, h⟩
            · refine rgD hm (cp (oMv tm) (s1 rfl) <| cp (oCall rfl (reticentref01_Name.ok hy61) b69 (opds_cons tm opds_nil)) (s1 rfl) <| cp (oNot tm) (s1 rfl) <| cp (oMv tm) (s1 rfl) <| csB hp62 rfl rfl <| csB hp62 rfl rfl <| csB hp62 rfl rfl <| csB hp62 rfl rfl <| csB hp62 rfl rfl <| csB hp62 rfl rfl <| csB hp62 rfl rfl <| csB hp62 rfl rfl <| csB hp62 rfl rfl <| cp (oPkT hp62 tm cB) (s1 rfl) <| .nil) (by kernel_rfl) (by kernel_rfl) ?_
              exact pJ1 _ (so h) ⟨rfl, rfl, rfl, rfl, rfl, rfl, rfl, trivial⟩ rfl
            · obtain ⟨y63, hy63, h⟩ := bd h
              obtain ⟨y64, hy64, h⟩ := bd h
              refine rgD hm (cp (oMv tm) (s1 rfl) <| cp (oCall rfl (reticentref01_Name.ok hy61) b69 (opds_cons tm opds_nil)) (s1 rfl) <| cp (oNot tm) (s1 rfl) <| cp (oMv tm) (s1 rfl) <| cgB (nb hp62) rfl rfl (oFld (fs := f_api_Lattice) (k := 1) rfl o25_1 tm) (s1 rfl) <| cgB (nb hp62) rfl rfl (oLd t23 tm) (s1 rfl) <| cgB (nb hp62) rfl rfl (oMv tm) (s1 rfl) <| cgB (nb hp62) rfl rfl (oIdx u23 z61 hy63 tm tm) (s2 rfl rfl) <| cgB (nb hp62) rfl rfl (oLd t61 tm) (s1 rfl) <| cgB (nb hp62) rfl rfl (oFld (fs := f_api_Lattice) (k := 1) rfl o25_1 tm) (s1 rfl) <| cgB (nb hp62) rfl rfl (oLd t23 tm) (s1 rfl) <| cgB (nb hp62) rfl rfl (oLenL u23 tm) (s1 rfl) <| cgB (nb hp62) rfl rfl (oCall rfl (reticentref01_high.ok hy64) b70 (opds_cons tm (opds_cons tm opds_nil))) (s2 rfl rfl) <| cp (oPkF (nb hp62) tm tm) (s2 rfl rfl) <| .nil) (by kernel_rfl) (by kernel_rfl) ?_
              exact pJ1 _ (so h) ⟨rfl, rfl, rfl, rfl, rfl, rfl, rfl, trivial⟩ rfl
          · rintro x60 rfl
            replace h := hk2
            rcases ic h with ⟨hp65, h⟩ | ⟨hp65, h⟩
            · refine wBT hp65 tm (s1 rfl) ?_
              refine wSeq ?_
              refine rg (cp (oAs cB) trivial <| .nil) (by kernel_rfl) ?_
              refine pSeq ?_
              refine wRet ?_
              refine pThenR ?_
              refine pBlkR ?_
              refine pThenR ?_
              refine pThenR ?_
              refine pBlkR ?_
              refine pThenR ?_
              obtain rfl := so h
              replace h := hk1
              refine pThenR ?_
              obtain rfl := so h
              exact pR1 (.inl rfl) rfl (.tmp rfl <| .nil)
            · refine wBF hp65 tm (s1 rfl) ?_
              refine wSkip ?_
              refine pSeq ?_
              refine wSeq ?_
              obtain ⟨hc66, h⟩ := ib h
              refine rg (cp (oFld (fs := f_api_Lattice) (k := 0) rfl o25_0 tm) (s1 rfl) <| cp (oLd t22 tm) (s1 rfl) <| cp (oMv tm) (s1 rfl) <| cp (oCutHi u22 z9 hc66.1 hc66.2 tm tm) (s2 rfl rfl) <| cp (oLenL u22 tm) (s1 rfl) <| cp (oMv (cI (by decide))) trivial <| .nil) (by kernel_rfl) ?_
              refine pSeq ?_
              obtain ⟨o2, h, hk2⟩ := bd h
              refine wK0 (.inr () = o2) ([(1, .d (sP (kR f_api_Lattice) a0)), (27, .d ((kL kS).sig a0.Names)), (28, .d ((kI .i64).sig (a0.Names.length : Int))), (29, .d ((kI .i64).sig v53))]) ([]) ?_ ?_
              · refine wBlock (wLoop ?_)
                refine lW (pc1 o2 (fun v73 => [(1, .d (sP (kR f_api_Lattice) a0)), (4, .d (kS.sig y55)), (27, .d ((kL kS).sig a0.Names)), (28, .d ((kI .i64).sig (a0.Names.length : Int))), (29, .d ((kI .i64).sig v53)), (51, .d ((kL kS).sig (lCut a0.Names 0 v53))), (52, .d ((kI .i64).sig ((lCut a0.Names 0 v53).length : Int))), (53, .d ((kI .i64).sig v73))]) (fun v73 => []) (reticentref01_may.l3.partial_correctness a0 v53 y55) ?_ _ h) ⟨rfl, rfl, rfl, rfl, rfl, rfl, rfl, rfl, trivial⟩ rfl
                clear h
                intro f' ih v73 h
                refine wSeq ?_
                refine rg (cp (oLt rfl tm tm) (s2 rfl rfl) <| .nil) (by kernel_rfl) ?_
                refine pSeq ?_
                refine wSeq ?_
                rcases ic h with ⟨hp74, h⟩ | ⟨hp74, h⟩
                · refine wCT hp74 tm (s1 rfl) ?_
                  refine wSkip ?_
                  refine pSeq ?_
                  refine wSeq ?_
                  refine wBlock ?_
                  refine wSeq ?_
                  obtain ⟨y75, hy75, h⟩ := bd h
                  refine rg (cp (oIdx u22 z9 hy75 tm tm) (s2 rfl rfl) <| cp (oLd t9 tm) (s1 rfl) <| cp (oAs tm) (s1 rfl) <| .nil) (by kernel_rfl) ?_
                  refine pSeq ?_
                  refine wSeq ?_
                  refine rg (cp (oMv tm) (s1 rfl) <| cp (oMv tm) (s1 rfl) <| cp (oSEq rfl tm tm) (s2 rfl rfl) <| .nil) (by kernel_rfl) ?_
                  refine pSeq ?_
                  rcases ic h with ⟨hp76, h⟩ | ⟨hp76, h⟩
                  · refine wCT hp76 tm (s1 rfl) ?_
                    refine wSeq ?_
                    refine rg (cp (oAs cB) trivial <| .nil) (by kernel_rfl) ?_
                    refine pSeq ?_
                    refine wRet ?_
                    refine pBlkR ?_
                    refine pThenR ?_
                    refine pThenR ?_
                    refine pBlkR ?_
                    refine pThenR ?_
                    obtain rfl := so h
                    replace h := hk2
                    refine pBlkR ?_
                    refine pThenR ?_
                    refine pThenR ?_
                    refine pBlkR ?_
                    refine pThenR ?_
                    obtain rfl := so h
                    replace h := hk1
                    refine pThenR ?_
                    obtain rfl := so h
                    exact pR1 (.inl rfl) rfl (.tmp rfl <| .nil)
                  · refine wCF hp76 tm (s1 rfl) ?_
                    refine wSkip ?_
                    refine pBlkN ?_
                    refine pSeq ?_
                    refine rg (cp (oAdd tm (cI (by decide))) (s1 rfl) <| cp (oMv tm) (s1 rfl) <| .nil) (by kernel_rfl) ?_
                    exact pLoop (lW (ih _ h) ⟨rfl, rfl, rfl, rfl, rfl, rfl, rfl, rfl, trivial⟩ rfl)
                · refine wCF hp74 tm (s1 rfl) ?_
                  refine wExit ?_
                  refine pThenX ?_
                  refine pThenX ?_
                  refine pBlkX ?_
                  exact pJ0 (so h) ⟨rfl, rfl, rfl, rfl, trivial⟩ rfl
              · rintro rfl
                replace h := hk2
                refine pBlkN ?_
                refine pSeq ?_
                refine rg (cp (oAdd tm (cI (by decide))) (s1 rfl) <| cp (oMv tm) (s1 rfl) <| .nil) (by kernel_rfl) ?_
                exact pLoop (lW (ih _ h) ⟨rfl, rfl, rfl, rfl, trivial⟩ rfl)
        · refine wCF hp54 tm (s1 rfl) ?_
          refine wExit ?_
          refine pThenX ?_
          refine pThenX ?_
          refine pBlkX ?_
          exact pJ0 (so h) trivial rfl
      · rintro rfl
        replace h := hk1
        refine pSeq ?_
        refine wSeq ?_
        refine rg (cp (oAs cB) trivial <| .nil) (by kernel_rfl) ?_
        refine pSeq ?_
        refine wRet ?_
        obtain rfl := so h
        exact pR1 (.inl rfl) rfl (.tmp rfl <| .nil)

theorem reticentref01_Flows.ok {a0 : api_Lattice} {a1 : Int} {a2 : Int} {r : Bool} (h : reticentref01_Flows.f a0 a1 a2 = some r) : FnA Tryz.prog 71 [(kR f_api_Lattice).sig a0, (kI .i64).sig a1, (kI .i64).sig a2] (kB.sig r) := by
  refine fnIntro Tryz.func71 rfl (by kernel_rfl) fun H0 w0 => ?_
  unfold reticentref01_Flows.f at h
  refine wSeq ?_
  refine rg (cp (oBox tm) (s1 rfl) <| cp (oAs cB) trivial <| .nil) (by kernel_rfl) ?_
  refine pSeq ?_
  refine wSeq ?_
  obtain ⟨y1, hy1, h⟩ := bd h
  refine rg (cp (oFld (fs := f_api_Lattice) (k := 1) rfl o25_1 tm) (s1 rfl) <| cp (oLd t23 tm) (s1 rfl) <| cp (oMv tm) (s1 rfl) <| cp (oIdx u23 z61 hy1 tm tm) (s2 rfl rfl) <| cp (oLd t61 tm) (s1 rfl) <| cp (oAs tm) (s1 rfl) <| .nil) (by kernel_rfl) ?_
  refine pSeq ?_
  refine wSeq ?_
  refine wSeq ?_
  refine rg (cp (oAs (cI (by decide))) trivial <| .nil) (by kernel_rfl) ?_
  refine pSeq ?_
  obtain ⟨o1, h, hk1⟩ := bd h
  refine wK1 (fun x6 => x6 = o1) (fun x6 => [(7, .d ((kI .u32).sig x6))]) (fun x6 => []) ?_ ?_
  · refine wBlock (wLoop ?_)
    refine lW (pc2 o1 (fun v4 v5 => [(2, .d ((kI .i64).sig a2)), (7, .d ((kI .u32).sig v4)), (8, .d ((kI .i64).sig v5))]) (fun v4 v5 => []) (reticentref01_Flows.l0.partial_correctness a2) ?_ _ _ h) ⟨rfl, rfl, rfl, trivial⟩ rfl
    clear h
    intro f' ih v4 v5 h
    refine wSeq ?_
    refine wSeq ?_
    refine rg (cp (oMv tm) (s1 rfl) <| cp (oMv tm) (s1 rfl) <| cp (oLt rfl tm tm) (s2 rfl rfl) <| .nil) (by kernel_rfl) ?_
    refine pSeq ?_
    rcases ic h with ⟨hp7, h⟩ | ⟨hp7, h⟩
    · refine wCT hp7 tm (s1 rfl) ?_
      refine wSkip ?_
      refine pSeq ?_
      refine wSeq ?_
      refine wBlock ?_
      refine rg (cp (oMv tm) (s1 rfl) <| cp (oQuo (by decide) tm (cI (by decide))) (s1 rfl) <| cp (oAs tm) (s1 rfl) <| .nil) (by kernel_rfl) ?_
      refine pBlkN ?_
      refine pSeq ?_
      refine rg (cp (oMv tm) (s1 rfl) <| cp (oAdd tm (cI (by decide))) (s1 rfl) <| cp (oAs tm) (s1 rfl) <| .nil) (by kernel_rfl) ?_
      exact pLoop (lW (ih _ _ h) ⟨rfl, rfl, rfl, trivial⟩ rfl)
    · refine wCF hp7 tm (s1 rfl) ?_
      refine wExit ?_
      refine pThenX ?_
      refine pThenX ?_
      refine pBlkX ?_
      exact pJ1 _ (so h) ⟨rfl, trivial⟩ rfl
  · rintro x6 rfl
    replace h := hk1
    refine pSeq ?_
    refine wSeq ?_
    refine rg (cp (oMv tm) (s1 rfl) <| cp (oRem (by decide) tm (cI (by decide))) (s1 rfl) <| cp (oEq rfl tm (cI (by decide))) (s1 rfl) <| cp (oAs tm) (s1 rfl) <| .nil) (by kernel_rfl) ?_
    refine pSeq ?_
    refine wRet ?_
    obtain rfl := so h
    exact pR1 (.inl rfl) rfl (.tmp rfl <| .nil)

theorem reticentref01_order.ok {a0 : api_Lattice} {r : Bool} (h : reticentref01_order.f a0 = some r) : FnA Tryz.prog 34 [(kR f_api_Lattice).sig a0] (kB.sig r) := by
  refine fnIntro Tryz.func34 rfl (by kernel_rfl) fun H0 w0 => ?_
  unfold reticentref01_order.f at h
  refine wSeq ?_
  refine rg (cp (oBox tm) (s1 rfl) <| cp (oAs cB) trivial <| .nil) (by kernel_rfl) ?_
  refine pSeq ?_
  refine wSeq ?_
  refine wSeq ?_
  refine rg (cp (oFld (fs := f_api_Lattice) (k := 1) rfl o25_1 tm) (s1 rfl) <| cp (oLd t23 tm) (s1 rfl) <| cp (oLenL u23 tm) (s1 rfl) <| cp (oMv (cI (by decide))) trivial <| .nil) (by kernel_rfl) ?_
  refine pSeq ?_
  obtain ⟨o1, h, hk1⟩ := bd h
  refine wK0 (.inr () = o1) ([]) ([]) ?_ ?_
  · refine wBlock (wLoop ?_)
    refine lW (pc1 o1 (fun v315 => [(1, .d (sP (kR f_api_Lattice) a0)), (8, .d ((kI .i64).sig (a0.Up.length : Int))), (9, .d ((kI .i64).sig v315))]) (fun v315 => []) (reticentref01_order.l8.partial_correctness a0) ?_ _ h) ⟨rfl, rfl, rfl, trivial⟩ rfl
    clear h
    intro f' ih v315 h
    refine wSeq ?_
    refine rg (cp (oLt rfl tm tm) (s2 rfl rfl) <| .nil) (by kernel_rfl) ?_
    refine pSeq ?_
    refine wSeq ?_
    rcases ic h with ⟨hp316, h⟩ | ⟨hp316, h⟩
    · refine wCT hp316 tm (s1 rfl) ?_
      refine wSkip ?_
      refine pSeq ?_
      refine wSeq ?_
      refine wBlock ?_
      refine wSeq ?_
      refine rg (cp (oMv tm) (s1 rfl) <| cp (oAs tm) (s1 rfl) <| .nil) (by kernel_rfl) ?_
      refine pSeq ?_
      refine wSeq ?_
      refine wSeq ?_
      obtain ⟨y317, hy317, h⟩ := bd h
      refine rg (cp (oLd t25 tm) (s1 rfl) <| cp (oMv tm) (s1 rfl) <| cp (oMv tm) (s1 rfl) <| cp (oCall rfl (reticentref01_Flows.ok hy317) b71 (opds_cons tm (opds_cons tm (opds_cons tm opds_nil)))) (s3 rfl rfl rfl) <| cp (oNot tm) (s1 rfl) <| .nil) (by kernel_rfl) ?_
      refine pSeq ?_
      rcases ic h with ⟨hp318, h⟩ | ⟨hp318, h⟩
      · refine wBT hp318 tm (s1 rfl) ?_
        refine wSeq ?_
        refine rg (cp (oAs cB) trivial <| .nil) (by kernel_rfl) ?_
        refine pSeq ?_
        refine wRet ?_
        refine pThenR ?_
        refine pBlkR ?_
        refine pThenR ?_
        refine pThenR ?_
        refine pBlkR ?_
        refine pThenR ?_
        obtain rfl := so h
        replace h := hk1
        refine pThenR ?_
        obtain rfl := so h
        exact pR1 (.inl rfl) rfl (.tmp rfl <| .nil)
      · refine wBF hp318 tm (s1 rfl) ?_
        refine wSkip ?_
        refine pSeq ?_
        refine wSeq ?_
        refine rg (cp (oFld (fs := f_api_Lattice) (k := 1) rfl o25_1 tm) (s1 rfl) <| cp (oLd t23 tm) (s1 rfl) <| cp (oLenL u23 tm) (s1 rfl) <| cp (oMv (cI (by decide))) trivial <| .nil) (by kernel_rfl) ?_
        refine pSeq ?_
        obtain ⟨o2, h, hk2⟩ := bd h
        refine wK0 (.inr () = o2) ([(1, .d (sP (kR f_api_Lattice) a0)), (8, .d ((kI .i64).sig (a0.Up.length : Int))), (9, .d ((kI .i64).sig v315))]) ([]) ?_ ?_
        · refine wBlock (wLoop ?_)
          refine lW (pc1 o2 (fun v421 => [(1, .d (sP (kR f_api_Lattice) a0)), (3, .d ((kI .i64).sig v315)), (8, .d ((kI .i64).sig (a0.Up.length : Int))), (9, .d ((kI .i64).sig v315)), (19, .d ((kI .i64).sig (a0.Up.length : Int))), (20, .d ((kI .i64).sig v421))]) (fun v421 => []) (reticentref01_order.l11.partial_correctness a0 v315) ?_ _ h) ⟨rfl, rfl, rfl, rfl, rfl, rfl, trivial⟩ rfl
          clear h
          intro f' ih v421 h
          refine wSeq ?_
          refine rg (cp (oLt rfl tm tm) (s2 rfl rfl) <| .nil) (by kernel_rfl) ?_
          refine pSeq ?_
          refine wSeq ?_
          rcases ic h with ⟨hp422, h⟩ | ⟨hp422, h⟩
          · refine wCT hp422 tm (s1 rfl) ?_
            refine wSkip ?_
            refine pSeq ?_
            refine wSeq ?_
            refine wBlock ?_
            refine wSeq ?_
            refine rg (cp (oMv tm) (s1 rfl) <| cp (oAs tm) (s1 rfl) <| .nil) (by kernel_rfl) ?_
            refine pSeq ?_
            refine wSeq ?_
            obtain ⟨o3, h, hk3⟩ := bd h
            refine wJ1 (fun x427 => x427 = o3) (fun x427 => [(1, .d (sP (kR f_api_Lattice) a0)), (3, .d ((kI .i64).sig v315)), (4, .d ((kI .i64).sig v421)), (8, .d ((kI .i64).sig (a0.Up.length : Int))), (9, .d ((kI .i64).sig v315)), (19, .d ((kI .i64).sig (a0.Up.length : Int))), (20, .d ((kI .i64).sig v421)), (37, .d (kB.sig x427))]) (fun x427 => []) ?_ ?_
            · rcases ic h with ⟨hp428, h⟩ | ⟨hp428, h⟩
              · refine rg (cp (oMv tm) (s1 rfl) <| cp (oMv tm) (s1 rfl) <| cp (oNe rfl tm tm) (s2 rfl rfl) <| cp (oMv tm) (s1 rfl) <| csB (nf hp428) rfl rfl <| csB (nf hp428) rfl rfl <| csB (nf hp428) rfl rfl <| csB (nf hp428) rfl rfl <| cp (oPkF (nf hp428) tm cB) (s1 rfl) <| cp (oMv tm) (s1 rfl) <| csB rfl rfl rfl <| csB rfl rfl rfl <| csB rfl rfl rfl <| csB rfl rfl rfl <| cp (oPkF rfl tm cB) (s1 rfl) <| .nil) (by kernel_rfl) ?_
                exact pJ1 _ (so h) ⟨rfl, rfl, rfl, rfl, rfl, rfl, rfl, rfl, trivial⟩ rfl
              · obtain ⟨y429, hy429, h⟩ := bd h
                rcases ic h with ⟨hp430, h⟩ | ⟨hp430, h⟩
                · obtain ⟨y431, hy431, h⟩ := bd h
                  refine rg (cp (oMv tm) (s1 rfl) <| cp (oMv tm) (s1 rfl) <| cp (oNe rfl tm tm) (s2 rfl rfl) <| cp (oMv tm) (s1 rfl) <| cgB (nt hp428) rfl rfl (oLd t25 tm) (s1 rfl) <| cgB (nt hp428) rfl rfl (oMv tm) (s1 rfl) <| cgB (nt hp428) rfl rfl (oMv tm) (s1 rfl) <| cgB (nt hp428) rfl rfl (oCall rfl (reticentref01_Flows.ok hy429) b71 (opds_cons tm (opds_cons tm (opds_cons tm opds_nil)))) (s3 rfl rfl rfl) <| cp (oPkT (nt hp428) tm tm) (s2 rfl rfl) <| cp (oMv tm) (s1 rfl) <| cgB hp430 rfl rfl (oLd t25 tm) (s1 rfl) <| cgB hp430 rfl rfl (oMv tm) (s1 rfl) <| cgB hp430 rfl rfl (oMv tm) (s1 rfl) <| cgB hp430 rfl rfl (oCall rfl (reticentref01_Flows.ok hy431) b71 (opds_cons tm (opds_cons tm (opds_cons tm opds_nil)))) (s3 rfl rfl rfl) <| cp (oPkT hp430 tm tm) (s2 rfl rfl) <| .nil) (by kernel_rfl) ?_
                  exact pJ1 _ (so h) ⟨rfl, rfl, rfl, rfl, rfl, rfl, rfl, rfl, trivial⟩ rfl
                · refine rg (cp (oMv tm) (s1 rfl) <| cp (oMv tm) (s1 rfl) <| cp (oNe rfl tm tm) (s2 rfl rfl) <| cp (oMv tm) (s1 rfl) <| cgB (nt hp428) rfl rfl (oLd t25 tm) (s1 rfl) <| cgB (nt hp428) rfl rfl (oMv tm) (s1 rfl) <| cgB (nt hp428) rfl rfl (oMv tm) (s1 rfl) <| cgB (nt hp428) rfl rfl (oCall rfl (reticentref01_Flows.ok hy429) b71 (opds_cons tm (opds_cons tm (opds_cons tm opds_nil)))) (s3 rfl rfl rfl) <| cp (oPkT (nt hp428) tm tm) (s2 rfl rfl) <| cp (oMv tm) (s1 rfl) <| csB (nb hp430) rfl rfl <| csB (nb hp430) rfl rfl <| csB (nb hp430) rfl rfl <| csB (nb hp430) rfl rfl <| cp (oPkF (nb hp430) tm cB) (s1 rfl) <| .nil) (by kernel_rfl) ?_
                  exact pJ1 _ (so h) ⟨rfl, rfl, rfl, rfl, rfl, rfl, rfl, rfl, trivial⟩ rfl
            · rintro x427 rfl
              replace h := hk3
              rcases ic h with ⟨hp432, h⟩ | ⟨hp432, h⟩
              · refine wBT hp432 tm (s1 rfl) ?_
                refine wSeq ?_
                refine rg (cp (oAs cB) trivial <| .nil) (by kernel_rfl) ?_
                refine pSeq ?_
                refine wRet ?_
                refine pThenR ?_
                refine pBlkR ?_
                refine pThenR ?_
                refine pThenR ?_
                refine pBlkR ?_
                refine pThenR ?_
                obtain rfl := so h
                replace h := hk2
                refine pBlkR ?_
                refine pThenR ?_
                refine pThenR ?_
                refine pBlkR ?_
                refine pThenR ?_
                obtain rfl := so h
                replace h := hk1
                refine pThenR ?_
                obtain rfl := so h
                exact pR1 (.inl rfl) rfl (.tmp rfl <| .nil)
              · refine wBF hp432 tm (s1 rfl) ?_
                refine wSkip ?_
                refine pSeq ?_
                refine wSeq ?_
                refine rg (cp (oFld (fs := f_api_Lattice) (k := 1) rfl o25_1 tm) (s1 rfl) <| cp (oLd t23 tm) (s1 rfl) <| cp (oLenL u23 tm) (s1 rfl) <| cp (oMv (cI (by decide))) trivial <| .nil) (by kernel_rfl) ?_
                refine pSeq ?_
                obtain ⟨o3, h, hk3⟩ := bd h
                refine wK0 (.inr () = o3) ([(1, .d (sP (kR f_api_Lattice) a0)), (3, .d ((kI .i64).sig v315)), (8, .d ((kI .i64).sig (a0.Up.length : Int))), (9, .d ((kI .i64).sig v315)), (19, .d ((kI .i64).sig (a0.Up.length : Int))), (20, .d ((kI .i64).sig v421))]) ([]) ?_ ?_
                · refine wBlock (wLoop ?_)
                  refine lW (pc1 o3 (fun v459 => [(1, .d (sP (kR f_api_Lattice) a0)), (3, .d ((kI .i64).sig v315)), (4, .d ((kI .i64).sig v421)), (8, .d ((kI .i64).sig (a0.Up.length : Int))), (9, .d ((kI .i64).sig v315)), (19, .d ((kI .i64).sig (a0.Up.length : Int))), (20, .d ((kI .i64).sig v421)), (40, .d ((kI .i64).sig (a0.Up.length : Int))), (41, .d ((kI .i64).sig v459))]) (fun v459 => []) (reticentref01_order.l12.partial_correctness a0 v315 v421) ?_ _ h) ⟨rfl, rfl, rfl, rfl, rfl, rfl, rfl, rfl, rfl, trivial⟩ rfl
                  clear h
                  intro f' ih v459 h
                  refine wSeq ?_
                  refine rg (cp (oLt rfl tm tm) (s2 rfl rfl) <| .nil) (by kernel_rfl) ?_
                  refine pSeq ?_
                  refine wSeq ?_
                  rcases ic h with ⟨hp460, h⟩ | ⟨hp460, h⟩
                  · refine wCT hp460 tm (s1 rfl) ?_
                    refine wSkip ?_
                    refine pSeq ?_
                    refine wSeq ?_
                    refine wBlock ?_
                    refine wSeq ?_
                    refine rg (cp (oMv tm) (s1 rfl) <| cp (oAs tm) (s1 rfl) <| .nil) (by kernel_rfl) ?_
                    refine pSeq ?_
                    obtain ⟨o4, h, hk4⟩ := bd h
                    refine wJ1 (fun x466 => x466 = o4) (fun x466 => [(1, .d (sP (kR f_api_Lattice) a0)), (3, .d ((kI .i64).sig v315)), (4, .d ((kI .i64).sig v421)), (8, .d ((kI .i64).sig (a0.Up.length : Int))), (9, .d ((kI .i64).sig v315)), (19, .d ((kI .i64).sig (a0.Up.length : Int))), (20, .d ((kI .i64).sig v421)), (40, .d ((kI .i64).sig (a0.Up.length : Int))), (41, .d ((kI .i64).sig v459)), (60, .d (kB.sig x466))]) (fun x466 => []) ?_ ?_
                    · obtain ⟨y467, hy467, h⟩ := bd h
                      rcases ic h with ⟨hp468, h⟩ | ⟨hp468, h⟩
                      · obtain ⟨y469, hy469, h⟩ := bd h
                        rcases ic h with ⟨hp470, h⟩ | ⟨hp470, h⟩
                        · obtain ⟨y471, hy471, h⟩ := bd h
                          refine rg (cp (oLd t25 tm) (s1 rfl) <| cp (oMv tm) (s1 rfl) <| cp (oMv tm) (s1 rfl) <| cp (oCall rfl (reticentref01_Flows.ok hy467) b71 (opds_cons tm (opds_cons tm (opds_cons tm opds_nil)))) (s3 rfl rfl rfl) <| cp (oMv tm) (s1 rfl) <| cgB hp468 rfl rfl (oLd t25 tm) (s1 rfl) <| cgB hp468 rfl rfl (oMv tm) (s1 rfl) <| cgB hp468 rfl rfl (oMv tm) (s1 rfl) <| cgB hp468 rfl rfl (oCall rfl (reticentref01_Flows.ok hy469) b71 (opds_cons tm (opds_cons tm (opds_cons tm opds_nil)))) (s3 rfl rfl rfl) <| cp (oPkT hp468 tm tm) (s2 rfl rfl) <| cp (oMv tm) (s1 rfl) <| cgB hp470 rfl rfl (oLd t25 tm) (s1 rfl) <| cgB hp470 rfl rfl (oMv tm) (s1 rfl) <| cgB hp470 rfl rfl (oMv tm) (s1 rfl) <| cgB hp470 rfl rfl (oCall rfl (reticentref01_Flows.ok hy471) b71 (opds_cons tm (opds_cons tm (opds_cons tm opds_nil)))) (s3 rfl rfl rfl) <| cgB hp470 rfl rfl (oNot tm) (s1 rfl) <| cp (oPkT hp470 tm tm) (s2 rfl rfl) <| .nil) (by kernel_rfl) ?_
                          exact pJ1 _ (so h) ⟨rfl, rfl, rfl, rfl, rfl, rfl, rfl, rfl, rfl, rfl, trivial⟩ rfl
                        · refine rg (cp (oLd t25 tm) (s1 rfl) <| cp (oMv tm) (s1 rfl) <| cp (oMv tm) (s1 rfl) <| cp (oCall rfl (reticentref01_Flows.ok hy467) b71 (opds_cons tm (opds_cons tm (opds_cons tm opds_nil)))) (s3 rfl rfl rfl) <| cp (oMv tm) (s1 rfl) <| cgB hp468 rfl rfl (oLd t25 tm) (s1 rfl) <| cgB hp468 rfl rfl (oMv tm) (s1 rfl) <| cgB hp468 rfl rfl (oMv tm) (s1 rfl) <| cgB hp468 rfl rfl (oCall rfl (reticentref01_Flows.ok hy469) b71 (opds_cons tm (opds_cons tm (opds_cons tm opds_nil)))) (s3 rfl rfl rfl) <| cp (oPkT hp468 tm tm) (s2 rfl rfl) <| cp (oMv tm) (s1 rfl) <| csB (nb hp470) rfl rfl <| csB (nb hp470) rfl rfl <| csB (nb hp470) rfl rfl <| csB (nb hp470) rfl rfl <| csB (nb hp470) rfl rfl <| cp (oPkF (nb hp470) tm cB) (s1 rfl) <| .nil) (by kernel_rfl) ?_
                          exact pJ1 _ (so h) ⟨rfl, rfl, rfl, rfl, rfl, rfl, rfl, rfl, rfl, rfl, trivial⟩ rfl
                      · refine rg (cp (oLd t25 tm) (s1 rfl) <| cp (oMv tm) (s1 rfl) <| cp (oMv tm) (s1 rfl) <| cp (oCall rfl (reticentref01_Flows.ok hy467) b71 (opds_cons tm (opds_cons tm (opds_cons tm opds_nil)))) (s3 rfl rfl rfl) <| cp (oMv tm) (s1 rfl) <| csB (nb hp468) rfl rfl <| csB (nb hp468) rfl rfl <| csB (nb hp468) rfl rfl <| csB (nb hp468) rfl rfl <| cp (oPkF (nb hp468) tm cB) (s1 rfl) <| cp (oMv tm) (s1 rfl) <| csB rfl rfl rfl <| csB rfl rfl rfl <| csB rfl rfl rfl <| csB rfl rfl rfl <| csB rfl rfl rfl <| cp (oPkF rfl tm cB) (s1 rfl) <| .nil) (by kernel_rfl) ?_
                        exact pJ1 _ (so h) ⟨rfl, rfl, rfl, rfl, rfl, rfl, rfl, rfl, rfl, rfl, trivial⟩ rfl
                    · rintro x466 rfl
                      replace h := hk4
                      rcases ic h with ⟨hp472, h⟩ | ⟨hp472, h⟩
                      · refine wBT hp472 tm (s1 rfl) ?_
                        refine wSeq ?_
                        refine rg (cp (oAs cB) trivial <| .nil) (by kernel_rfl) ?_
                        refine pSeq ?_
                        refine wRet ?_
                        refine pBlkR ?_
                        refine pThenR ?_
                        refine pThenR ?_
                        refine pBlkR ?_
                        refine pThenR ?_
                        obtain rfl := so h
                        replace h := hk3
                        refine pBlkR ?_
                        refine pThenR ?_
                        refine pThenR ?_
                        refine pBlkR ?_
                        refine pThenR ?_
                        obtain rfl := so h
                        replace h := hk2
                        refine pBlkR ?_
                        refine pThenR ?_
                        refine pThenR ?_
                        refine pBlkR ?_
                        refine pThenR ?_
                        obtain rfl := so h
                        replace h := hk1
                        refine pThenR ?_
                        obtain rfl := so h
                        exact pR1 (.inl rfl) rfl (.tmp rfl <| .nil)
                      · refine wBF hp472 tm (s1 rfl) ?_
                        refine wSkip ?_
                        refine pBlkN ?_
                        refine pSeq ?_
                        refine rg (cp (oAdd tm (cI (by decide))) (s1 rfl) <| cp (oMv tm) (s1 rfl) <| .nil) (by kernel_rfl) ?_
                        exact pLoop (lW (ih _ h) ⟨rfl, rfl, rfl, rfl, rfl, rfl, rfl, rfl, rfl, trivial⟩ rfl)
                  · refine wCF hp460 tm (s1 rfl) ?_
                    refine wExit ?_
                    refine pThenX ?_
                    refine pThenX ?_
                    refine pBlkX ?_
                    exact pJ0 (so h) ⟨rfl, rfl, rfl, rfl, rfl, rfl, trivial⟩ rfl
                · rintro rfl
                  replace h := hk3
                  refine pBlkN ?_
                  refine pSeq ?_
                  refine rg (cp (oAdd tm (cI (by decide))) (s1 rfl) <| cp (oMv tm) (s1 rfl) <| .nil) (by kernel_rfl) ?_
                  exact pLoop (lW (ih _ h) ⟨rfl, rfl, rfl, rfl, rfl, rfl, trivial⟩ rfl)
          · refine wCF hp422 tm (s1 rfl) ?_
            refine wExit ?_
            refine pThenX ?_
            refine pThenX ?_
            refine pBlkX ?_
            exact pJ0 (so h) ⟨rfl, rfl, rfl, trivial⟩ rfl
        · rintro rfl
          replace h := hk2
          refine pBlkN ?_
          refine pSeq ?_
          refine rg (cp (oAdd tm (cI (by decide))) (s1 rfl) <| cp (oMv tm) (s1 rfl) <| .nil) (by kernel_rfl) ?_
          exact pLoop (lW (ih _ h) ⟨rfl, rfl, rfl, trivial⟩ rfl)
    · refine wCF hp316 tm (s1 rfl) ?_
      refine wExit ?_
      refine pThenX ?_
      refine pThenX ?_
      refine pBlkX ?_
      exact pJ0 (so h) trivial rfl
  · rintro rfl
    replace h := hk1
    refine pSeq ?_
    refine wSeq ?_
    refine rg (cp (oAs cB) trivial <| .nil) (by kernel_rfl) ?_
    refine pSeq ?_
    refine wRet ?_
    obtain rfl := so h
    exact pR1 (.inl rfl) rfl (.tmp rfl <| .nil)

theorem reticentref01_Join.ok {a0 : api_Lattice} {a1 : Int} {a2 : Int} {r : Int} (h : reticentref01_Join.f a0 a1 a2 = some r) : FnA Tryz.prog 35 [(kR f_api_Lattice).sig a0, (kI .i64).sig a1, (kI .i64).sig a2] ((kI .i64).sig r) := by
  refine fnIntro Tryz.func35 rfl (by kernel_rfl) fun H0 w0 => ?_
  unfold reticentref01_Join.f at h
  refine wSeq ?_
  refine rg (cp (oBox tm) (s1 rfl) <| cp (oAs (cI (by decide))) trivial <| .nil) (by kernel_rfl) ?_
  refine pSeq ?_
  refine wSeq ?_
  refine wSeq ?_
  refine rg (cp (oFld (fs := f_api_Lattice) (k := 1) rfl o25_1 tm) (s1 rfl) <| cp (oLd t23 tm) (s1 rfl) <| cp (oLenL u23 tm) (s1 rfl) <| cp (oMv (cI (by decide))) trivial <| .nil) (by kernel_rfl) ?_
  refine pSeq ?_
  obtain ⟨o1, h, hk1⟩ := bd h
  refine wK0 (.inr () = o1) ([]) ([]) ?_ ?_
  · refine wBlock (wLoop ?_)
    refine lW (pc1 o1 (fun v181 => [(1, .d ((kI .i64).sig a1)), (2, .d ((kI .i64).sig a2)), (3, .d (sP (kR f_api_Lattice) a0)), (12, .d ((kI .i64).sig (a0.Up.length : Int))), (13, .d ((kI .i64).sig v181))]) (fun v181 => []) (reticentref01_Join.l2.partial_correctness a0 a1 a2) ?_ _ h) ⟨rfl, rfl, rfl, rfl, rfl, trivial⟩ rfl
    clear h
    intro f' ih v181 h
    refine wSeq ?_
    refine rg (cp (oLt rfl tm tm) (s2 rfl rfl) <| .nil) (by kernel_rfl) ?_
    refine pSeq ?_
    refine wSeq ?_
    rcases ic h with ⟨hp182, h⟩ | ⟨hp182, h⟩
    · refine wCT hp182 tm (s1 rfl) ?_
      refine wSkip ?_
      refine pSeq ?_
      refine wSeq ?_
      refine wBlock ?_
      refine wSeq ?_
      refine rg (cp (oMv tm) (s1 rfl) <| cp (oAs tm) (s1 rfl) <| .nil) (by kernel_rfl) ?_
      refine pSeq ?_
      obtain ⟨o2, h, hk2⟩ := bd h
      refine wJ1 (fun x186 => x186 = o2) (fun x186 => [(1, .d ((kI .i64).sig a1)), (2, .d ((kI .i64).sig a2)), (3, .d (sP (kR f_api_Lattice) a0)), (7, .d ((kI .i64).sig v181)), (8, .d (kB.sig x186)), (12, .d ((kI .i64).sig (a0.Up.length : Int))), (13, .d ((kI .i64).sig v181))]) (fun x186 => []) ?_ ?_
      · obtain ⟨y187, hy187, h⟩ := bd h
        rcases ic h with ⟨hp188, h⟩ | ⟨hp188, h⟩
        · obtain ⟨y189, hy189, h⟩ := bd h
          refine rg (cp (oLd t25 tm) (s1 rfl) <| cp (oMv tm) (s1 rfl) <| cp (oMv tm) (s1 rfl) <| cp (oCall rfl (reticentref01_Flows.ok hy187) b71 (opds_cons tm (opds_cons tm (opds_cons tm opds_nil)))) (s3 rfl rfl rfl) <| cp (oMv tm) (s1 rfl) <| cgB hp188 rfl rfl (oLd t25 tm) (s1 rfl) <| cgB hp188 rfl rfl (oMv tm) (s1 rfl) <| cgB hp188 rfl rfl (oMv tm) (s1 rfl) <| cgB hp188 rfl rfl (oCall rfl (reticentref01_Flows.ok hy189) b71 (opds_cons tm (opds_cons tm (opds_cons tm opds_nil)))) (s3 rfl rfl rfl) <| cp (oPkT hp188 tm tm) (s2 rfl rfl) <| cp (oAs tm) (s1 rfl) <| .nil) (by kernel_rfl) ?_
          exact pJ1 _ (so h) ⟨rfl, rfl, rfl, rfl, rfl, rfl, rfl, trivial⟩ rfl
        · refine rg (cp (oLd t25 tm) (s1 rfl) <| cp (oMv tm) (s1 rfl) <| cp (oMv tm) (s1 rfl) <| cp (oCall rfl (reticentref01_Flows.ok hy187) b71 (opds_cons tm (opds_cons tm (opds_cons tm opds_nil)))) (s3 rfl rfl rfl) <| cp (oMv tm) (s1 rfl) <| csB (nb hp188) rfl rfl <| csB (nb hp188) rfl rfl <| csB (nb hp188) rfl rfl <| csB (nb hp188) rfl rfl <| cp (oPkF (nb hp188) tm cB) (s1 rfl) <| cp (oAs tm) (s1 rfl) <| .nil) (by kernel_rfl) ?_
          exact pJ1 _ (so h) ⟨rfl, rfl, rfl, rfl, rfl, rfl, rfl, trivial⟩ rfl
      · rintro x186 rfl
        replace h := hk2
        refine wSeq ?_
        refine wSeq ?_
        refine rg (cp (oFld (fs := f_api_Lattice) (k := 1) rfl o25_1 tm) (s1 rfl) <| cp (oLd t23 tm) (s1 rfl) <| cp (oLenL u23 tm) (s1 rfl) <| cp (oMv (cI (by decide))) trivial <| .nil) (by kernel_rfl) ?_
        refine pSeq ?_
        obtain ⟨o2, h, hk2⟩ := bd h
        refine wK1 (fun x244 => x244 = o2) (fun x244 => [(1, .d ((kI .i64).sig a1)), (2, .d ((kI .i64).sig a2)), (3, .d (sP (kR f_api_Lattice) a0)), (7, .d ((kI .i64).sig v181)), (8, .d (kB.sig x244)), (12, .d ((kI .i64).sig (a0.Up.length : Int))), (13, .d ((kI .i64).sig v181))]) (fun x244 => []) ?_ ?_
        · refine wBlock (wLoop ?_)
          refine lW (pc2 o2 (fun v242 v243 => [(1, .d ((kI .i64).sig a1)), (2, .d ((kI .i64).sig a2)), (3, .d (sP (kR f_api_Lattice) a0)), (7, .d ((kI .i64).sig v181)), (8, .d (kB.sig v243)), (12, .d ((kI .i64).sig (a0.Up.length : Int))), (13, .d ((kI .i64).sig v181)), (28, .d ((kI .i64).sig (a0.Up.length : Int))), (29, .d ((kI .i64).sig v242))]) (fun v242 v243 => []) (reticentref01_Join.l3.partial_correctness a0 a1 a2 v181) ?_ _ _ h) ⟨rfl, rfl, rfl, rfl, rfl, rfl, rfl, rfl, rfl, trivial⟩ rfl
          clear h
          intro f' ih v242 v243 h
          refine wSeq ?_
          refine rg (cp (oLt rfl tm tm) (s2 rfl rfl) <| .nil) (by kernel_rfl) ?_
          refine pSeq ?_
          refine wSeq ?_
          rcases ic h with ⟨hp245, h⟩ | ⟨hp245, h⟩
          · refine wCT hp245 tm (s1 rfl) ?_
            refine wSkip ?_
            refine pSeq ?_
            obtain ⟨o3, h, hk3⟩ := bd h
            refine wJ1 (fun x258 => x258 = o3) (fun x258 => [(1, .d ((kI .i64).sig a1)), (2, .d ((kI .i64).sig a2)), (3, .d (sP (kR f_api_Lattice) a0)), (7, .d ((kI .i64).sig v181)), (8, .d (kB.sig x258)), (12, .d ((kI .i64).sig (a0.Up.length : Int))), (13, .d ((kI .i64).sig v181)), (28, .d ((kI .i64).sig (a0.Up.length : Int))), (29, .d ((kI .i64).sig v242))]) (fun x258 => []) ?_ ?_
            · refine wBlock ?_
              refine wSeq ?_
              refine rg (cp (oMv tm) (s1 rfl) <| cp (oAs tm) (s1 rfl) <| .nil) (by kernel_rfl) ?_
              refine pSeq ?_
              obtain ⟨o4, h, hk4⟩ := bd h
              refine wJ1 (fun x264 => x264 = o4) (fun x264 => [(1, .d ((kI .i64).sig a1)), (2, .d ((kI .i64).sig a2)), (3, .d (sP (kR f_api_Lattice) a0)), (7, .d ((kI .i64).sig v181)), (8, .d (kB.sig v243)), (12, .d ((kI .i64).sig (a0.Up.length : Int))), (13, .d ((kI .i64).sig v181)), (28, .d ((kI .i64).sig (a0.Up.length : Int))), (29, .d ((kI .i64).sig v242)), (48, .d (kB.sig x264))]) (fun x264 => []) ?_ ?_
              · obtain ⟨y265, hy265, h⟩ := bd h
                rcases ic h with ⟨hp266, h⟩ | ⟨hp266, h⟩
                · obtain ⟨y267, hy267, h⟩ := bd h
                  rcases ic h with ⟨hp268, h⟩ | ⟨hp268, h⟩
                  · obtain ⟨y269, hy269, h⟩ := bd h
                    refine rg (cp (oLd t25 tm) (s1 rfl) <| cp (oMv tm) (s1 rfl) <| cp (oMv tm) (s1 rfl) <| cp (oCall rfl (reticentref01_Flows.ok hy265) b71 (opds_cons tm (opds_cons tm (opds_cons tm opds_nil)))) (s3 rfl rfl rfl) <| cp (oMv tm) (s1 rfl) <| cgB hp266 rfl rfl (oLd t25 tm) (s1 rfl) <| cgB hp266 rfl rfl (oMv tm) (s1 rfl) <| cgB hp266 rfl rfl (oMv tm) (s1 rfl) <| cgB hp266 rfl rfl (oCall rfl (reticentref01_Flows.ok hy267) b71 (opds_cons tm (opds_cons tm (opds_cons tm opds_nil)))) (s3 rfl rfl rfl) <| cp (oPkT hp266 tm tm) (s2 rfl rfl) <| cp (oMv tm) (s1 rfl) <| cgB hp268 rfl rfl (oLd t25 tm) (s1 rfl) <| cgB hp268 rfl rfl (oMv tm) (s1 rfl) <| cgB hp268 rfl rfl (oMv tm) (s1 rfl) <| cgB hp268 rfl rfl (oCall rfl (reticentref01_Flows.ok hy269) b71 (opds_cons tm (opds_cons tm (opds_cons tm opds_nil)))) (s3 rfl rfl rfl) <| cgB hp268 rfl rfl (oNot tm) (s1 rfl) <| cp (oPkT hp268 tm tm) (s2 rfl rfl) <| .nil) (by kernel_rfl) ?_
                    exact pJ1 _ (so h) ⟨rfl, rfl, rfl, rfl, rfl, rfl, rfl, rfl, rfl, rfl, trivial⟩ rfl
                  · refine rg (cp (oLd t25 tm) (s1 rfl) <| cp (oMv tm) (s1 rfl) <| cp (oMv tm) (s1 rfl) <| cp (oCall rfl (reticentref01_Flows.ok hy265) b71 (opds_cons tm (opds_cons tm (opds_cons tm opds_nil)))) (s3 rfl rfl rfl) <| cp (oMv tm) (s1 rfl) <| cgB hp266 rfl rfl (oLd t25 tm) (s1 rfl) <| cgB hp266 rfl rfl (oMv tm) (s1 rfl) <| cgB hp266 rfl rfl (oMv tm) (s1 rfl) <| cgB hp266 rfl rfl (oCall rfl (reticentref01_Flows.ok hy267) b71 (opds_cons tm (opds_cons tm (opds_cons tm opds_nil)))) (s3 rfl rfl rfl) <| cp (oPkT hp266 tm tm) (s2 rfl rfl) <| cp (oMv tm) (s1 rfl) <| csB (nb hp268) rfl rfl <| csB (nb hp268) rfl rfl <| csB (nb hp268) rfl rfl <| csB (nb hp268) rfl rfl <| csB (nb hp268) rfl rfl <| cp (oPkF (nb hp268) tm cB) (s1 rfl) <| .nil) (by kernel_rfl) ?_
                    exact pJ1 _ (so h) ⟨rfl, rfl, rfl, rfl, rfl, rfl, rfl, rfl, rfl, rfl, trivial⟩ rfl
                · refine rg (cp (oLd t25 tm) (s1 rfl) <| cp (oMv tm) (s1 rfl) <| cp (oMv tm) (s1 rfl) <| cp (oCall rfl (reticentref01_Flows.ok hy265) b71 (opds_cons tm (opds_cons tm (opds_cons tm opds_nil)))) (s3 rfl rfl rfl) <| cp (oMv tm) (s1 rfl) <| csB (nb hp266) rfl rfl <| csB (nb hp266) rfl rfl <| csB (nb hp266) rfl rfl <| csB (nb hp266) rfl rfl <| cp (oPkF (nb hp266) tm cB) (s1 rfl) <| cp (oMv tm) (s1 rfl) <| csB rfl rfl rfl <| csB rfl rfl rfl <| csB rfl rfl rfl <| csB rfl rfl rfl <| csB rfl rfl rfl <| cp (oPkF rfl tm cB) (s1 rfl) <| .nil) (by kernel_rfl) ?_
                  exact pJ1 _ (so h) ⟨rfl, rfl, rfl, rfl, rfl, rfl, rfl, rfl, rfl, rfl, trivial⟩ rfl
              · rintro x264 rfl
                replace h := hk4
                rcases ic h with ⟨hp270, h⟩ | ⟨hp270, h⟩
                · refine wBT hp270 tm (s1 rfl) ?_
                  refine rg (cp (oAs cB) trivial <| .nil) (by kernel_rfl) ?_
                  refine pBlkN ?_
                  exact pJ1 _ (so h) ⟨rfl, rfl, rfl, rfl, rfl, rfl, rfl, rfl, rfl, trivial⟩ rfl
                · refine wBF hp270 tm (s1 rfl) ?_
                  refine wSkip ?_
                  refine pBlkN ?_
                  exact pJ1 _ (so h) ⟨rfl, rfl, rfl, rfl, rfl, rfl, rfl, rfl, rfl, trivial⟩ rfl
            · rintro x258 rfl
              replace h := hk3
              refine rg (cp (oAdd tm (cI (by decide))) (s1 rfl) <| cp (oMv tm) (s1 rfl) <| .nil) (by kernel_rfl) ?_
              exact pLoop (lW (ih _ _ h) ⟨rfl, rfl, rfl, rfl, rfl, rfl, rfl, rfl, rfl, trivial⟩ rfl)
          · refine wCF hp245 tm (s1 rfl) ?_
            refine wExit ?_
            refine pThenX ?_
            refine pThenX ?_
            refine pBlkX ?_
            exact pJ1 _ (so h) ⟨rfl, rfl, rfl, rfl, rfl, rfl, rfl, trivial⟩ rfl
        · rintro x244 rfl
          replace h := hk2
          refine pSeq ?_
          refine wSeq ?_
          refine rg (cp (oMv tm) (s1 rfl) <| .nil) (by kernel_rfl) ?_
          refine pSeq ?_
          rcases ic h with ⟨hp271, h⟩ | ⟨hp271, h⟩
          · refine wBT hp271 tm (s1 rfl) ?_
            refine wSeq ?_
            refine rg (cp (oMv tm) (s1 rfl) <| cp (oAs tm) (s1 rfl) <| .nil) (by kernel_rfl) ?_
            refine pSeq ?_
            refine wRet ?_
            refine pBlkR ?_
            refine pThenR ?_
            refine pThenR ?_
            refine pBlkR ?_
            refine pThenR ?_
            obtain rfl := so h
            replace h := hk1
            refine pThenR ?_
            obtain rfl := so h
            exact pR1 (.inl rfl) rfl (.tmp rfl <| .nil)
          · refine wBF hp271 tm (s1 rfl) ?_
            refine wSkip ?_
            refine pBlkN ?_
            refine pSeq ?_
            refine rg (cp (oAdd tm (cI (by decide))) (s1 rfl) <| cp (oMv tm) (s1 rfl) <| .nil) (by kernel_rfl) ?_
            exact pLoop (lW (ih _ h) ⟨rfl, rfl, rfl, rfl, rfl, trivial⟩ rfl)
    · refine wCF hp182 tm (s1 rfl) ?_
      refine wExit ?_
      refine pThenX ?_
      refine pThenX ?_
      refine pBlkX ?_
      exact pJ0 (so h) trivial rfl
  · rintro rfl
    replace h := hk1
    refine pSeq ?_
    refine wSeq ?_
    refine rg (cp (oAs (cI (by decide))) trivial <| .nil) (by kernel_rfl) ?_
    refine pSeq ?_
    refine wRet ?_
    obtain rfl := so h
    exact pR1 (.inl rfl) rfl (.tmp rfl <| .nil)

theorem reticentref01_Meet.ok {a0 : api_Lattice} {a1 : Int} {a2 : Int} {r : Int} (h : reticentref01_Meet.f a0 a1 a2 = some r) : FnA Tryz.prog 36 [(kR f_api_Lattice).sig a0, (kI .i64).sig a1, (kI .i64).sig a2] ((kI .i64).sig r) := by
  refine fnIntro Tryz.func36 rfl (by kernel_rfl) fun H0 w0 => ?_
  unfold reticentref01_Meet.f at h
  refine wSeq ?_
  refine rg (cp (oBox tm) (s1 rfl) <| cp (oAs (cI (by decide))) trivial <| .nil) (by kernel_rfl) ?_
  refine pSeq ?_
  refine wSeq ?_
  refine wSeq ?_
  refine rg (cp (oFld (fs := f_api_Lattice) (k := 1) rfl o25_1 tm) (s1 rfl) <| cp (oLd t23 tm) (s1 rfl) <| cp (oLenL u23 tm) (s1 rfl) <| cp (oMv (cI (by decide))) trivial <| .nil) (by kernel_rfl) ?_
  refine pSeq ?_
  obtain ⟨o1, h, hk1⟩ := bd h
  refine wK0 (.inr () = o1) ([]) ([]) ?_ ?_
  · refine wBlock (wLoop ?_)
    refine lW (pc1 o1 (fun v181 => [(1, .d ((kI .i64).sig a1)), (2, .d ((kI .i64).sig a2)), (3, .d (sP (kR f_api_Lattice) a0)), (12, .d ((kI .i64).sig (a0.Up.length : Int))), (13, .d ((kI .i64).sig v181))]) (fun v181 => []) (reticentref01_Meet.l2.partial_correctness a0 a1 a2) ?_ _ h) ⟨rfl, rfl, rfl, rfl, rfl, trivial⟩ rfl
    clear h
    intro f' ih v181 h
    refine wSeq ?_
    refine rg (cp (oLt rfl tm tm) (s2 rfl rfl) <| .nil) (by kernel_rfl) ?_
    refine pSeq ?_
    refine wSeq ?_
    rcases ic h with ⟨hp182, h⟩ | ⟨hp182, h⟩
    · refine wCT hp182 tm (s1 rfl) ?_
      refine wSkip ?_
      refine pSeq ?_
      refine wSeq ?_
      refine wBlock ?_
      refine wSeq ?_
      refine rg (cp (oMv tm) (s1 rfl) <| cp (oAs tm) (s1 rfl) <| .nil) (by kernel_rfl) ?_
      refine pSeq ?_
      obtain ⟨o2, h, hk2⟩ := bd h
      refine wJ1 (fun x186 => x186 = o2) (fun x186 => [(1, .d ((kI .i64).sig a1)), (2, .d ((kI .i64).sig a2)), (3, .d (sP (kR f_api_Lattice) a0)), (7, .d ((kI .i64).sig v181)), (8, .d (kB.sig x186)), (12, .d ((kI .i64).sig (a0.Up.length : Int))), (13, .d ((kI .i64).sig v181))]) (fun x186 => []) ?_ ?_
      · obtain ⟨y187, hy187, h⟩ := bd h
        rcases ic h with ⟨hp188, h⟩ | ⟨hp188, h⟩
        · obtain ⟨y189, hy189, h⟩ := bd h
          refine rg (cp (oLd t25 tm) (s1 rfl) <| cp (oMv tm) (s1 rfl) <| cp (oMv tm) (s1 rfl) <| cp (oCall rfl (reticentref01_Flows.ok hy187) b71 (opds_cons tm (opds_cons tm (opds_cons tm opds_nil)))) (s3 rfl rfl rfl) <| cp (oMv tm) (s1 rfl) <| cgB hp188 rfl rfl (oLd t25 tm) (s1 rfl) <| cgB hp188 rfl rfl (oMv tm) (s1 rfl) <| cgB hp188 rfl rfl (oMv tm) (s1 rfl) <| cgB hp188 rfl rfl (oCall rfl (reticentref01_Flows.ok hy189) b71 (opds_cons tm (opds_cons tm (opds_cons tm opds_nil)))) (s3 rfl rfl rfl) <| cp (oPkT hp188 tm tm) (s2 rfl rfl) <| cp (oAs tm) (s1 rfl) <| .nil) (by kernel_rfl) ?_
          exact pJ1 _ (so h) ⟨rfl, rfl, rfl, rfl, rfl, rfl, rfl, trivial⟩ rfl
        · refine rg (cp (oLd t25 tm) (s1 rfl) <| cp (oMv tm) (s1 rfl) <| cp (oMv tm) (s1 rfl) <| cp (oCall rfl (reticentref01_Flows.ok hy187) b71 (opds_cons tm (opds_cons tm (opds_cons tm opds_nil)))) (s3 rfl rfl rfl) <| cp (oMv tm) (s1 rfl) <| csB (nb hp188) rfl rfl <| csB (nb hp188) rfl rfl <| csB (nb hp188) rfl rfl <| csB (nb hp188) rfl rfl <| cp (oPkF (nb hp188) tm cB) (s1 rfl) <| cp (oAs tm) (s1 rfl) <| .nil) (by kernel_rfl) ?_
          exact pJ1 _ (so h) ⟨rfl, rfl, rfl, rfl, rfl, rfl, rfl, trivial⟩ rfl
      · rintro x186 rfl
        replace h := hk2
        refine wSeq ?_
        refine wSeq ?_
        refine rg (cp (oFld (fs := f_api_Lattice) (k := 1) rfl o25_1 tm) (s1 rfl) <| cp (oLd t23 tm) (s1 rfl) <| cp (oLenL u23 tm) (s1 rfl) <| cp (oMv (cI (by decide))) trivial <| .nil) (by kernel_rfl) ?_
        refine pSeq ?_
        obtain ⟨o2, h, hk2⟩ := bd h
        refine wK1 (fun x244 => x244 = o2) (fun x244 => [(1, .d ((kI .i64).sig a1)), (2, .d ((kI .i64).sig a2)), (3, .d (sP (kR f_api_Lattice) a0)), (7, .d ((kI .i64).sig v181)), (8, .d (kB.sig x244)), (12, .d ((kI .i64).sig (a0.Up.length : Int))), (13, .d ((kI .i64).sig v181))]) (fun x244 => []) ?_ ?_
        · refine wBlock (wLoop ?_)
          refine lW (pc2 o2 (fun v242 v243 => [(1, .d ((kI .i64).sig a1)), (2, .d ((kI .i64).sig a2)), (3, .d (sP (kR f_api_Lattice) a0)), (7, .d ((kI .i64).sig v181)), (8, .d (kB.sig v243)), (12, .d ((kI .i64).sig (a0.Up.length : Int))), (13, .d ((kI .i64).sig v181)), (28, .d ((kI .i64).sig (a0.Up.length : Int))), (29, .d ((kI .i64).sig v242))]) (fun v242 v243 => []) (reticentref01_Meet.l3.partial_correctness a0 a1 a2 v181) ?_ _ _ h) ⟨rfl, rfl, rfl, rfl, rfl, rfl, rfl, rfl, rfl, trivial⟩ rfl
          clear h
          intro f' ih v242 v243 h
          refine wSeq ?_
          refine rg (cp (oLt rfl tm tm) (s2 rfl rfl) <| .nil) (by kernel_rfl) ?_
          refine pSeq ?_
          refine wSeq ?_
          rcases ic h with ⟨hp245, h⟩ | ⟨hp245, h⟩
          · refine wCT hp245 tm (s1 rfl) ?_
            refine wSkip ?_
            refine pSeq ?_
            obtain ⟨o3, h, hk3⟩ := bd h
            refine wJ1 (fun x258 => x258 = o3) (fun x258 => [(1, .d ((kI .i64).sig a1)), (2, .d ((kI .i64).sig a2)), (3, .d (sP (kR f_api_Lattice) a0)), (7, .d ((kI .i64).sig v181)), (8, .d (kB.sig x258)), (12, .d ((kI .i64).sig (a0.Up.length : Int))), (13, .d ((kI .i64).sig v181)), (28, .d ((kI .i64).sig (a0.Up.length : Int))), (29, .d ((kI .i64).sig v242))]) (fun x258 => []) ?_ ?_
            · refine wBlock ?_
              refine wSeq ?_
              refine rg (cp (oMv tm) (s1 rfl) <| cp (oAs tm) (s1 rfl) <| .nil) (by kernel_rfl) ?_
              refine pSeq ?_
              obtain ⟨o4, h, hk4⟩ := bd h
              refine wJ1 (fun x264 => x264 = o4) (fun x264 => [(1, .d ((kI .i64).sig a1)), (2, .d ((kI .i64).sig a2)), (3, .d (sP (kR f_api_Lattice) a0)), (7, .d ((kI .i64).sig v181)), (8, .d (kB.sig v243)), (12, .d ((kI .i64).sig (a0.Up.length : Int))), (13, .d ((kI .i64).sig v181)), (28, .d ((kI .i64).sig (a0.Up.length : Int))), (29, .d ((kI .i64).sig v242)), (48, .d (kB.sig x264))]) (fun x264 => []) ?_ ?_
              · obtain ⟨y265, hy265, h⟩ := bd h
                rcases ic h with ⟨hp266, h⟩ | ⟨hp266, h⟩
                · obtain ⟨y267, hy267, h⟩ := bd h
                  rcases ic h with ⟨hp268, h⟩ | ⟨hp268, h⟩
                  · obtain ⟨y269, hy269, h⟩ := bd h
                    refine rg (cp (oLd t25 tm) (s1 rfl) <| cp (oMv tm) (s1 rfl) <| cp (oMv tm) (s1 rfl) <| cp (oCall rfl (reticentref01_Flows.ok hy265) b71 (opds_cons tm (opds_cons tm (opds_cons tm opds_nil)))) (s3 rfl rfl rfl) <| cp (oMv tm) (s1 rfl) <| cgB hp266 rfl rfl (oLd t25 tm) (s1 rfl) <| cgB hp266 rfl rfl (oMv tm) (s1 rfl) <| cgB hp266 rfl rfl (oMv tm) (s1 rfl) <| cgB hp266 rfl rfl (oCall rfl (reticentref01_Flows.ok hy267) b71 (opds_cons tm (opds_cons tm (opds_cons tm opds_nil)))) (s3 rfl rfl rfl) <| cp (oPkT hp266 tm tm) (s2 rfl rfl) <| cp (oMv tm) (s1 rfl) <| cgB hp268 rfl rfl (oLd t25 tm) (s1 rfl) <| cgB hp268 rfl rfl (oMv tm) (s1 rfl) <| cgB hp268 rfl rfl (oMv tm) (s1 rfl) <| cgB hp268 rfl rfl (oCall rfl (reticentref01_Flows.ok hy269) b71 (opds_cons tm (opds_cons tm (opds_cons tm opds_nil)))) (s3 rfl rfl rfl) <| cgB hp268 rfl rfl (oNot tm) (s1 rfl) <| cp (oPkT hp268 tm tm) (s2 rfl rfl) <| .nil) (by kernel_rfl) ?_
                    exact pJ1 _ (so h) ⟨rfl, rfl, rfl, rfl, rfl, rfl, rfl, rfl, rfl, rfl, trivial⟩ rfl
                  · refine rg (cp (oLd t25 tm) (s1 rfl) <| cp (oMv tm) (s1 rfl) <| cp (oMv tm) (s1 rfl) <| cp (oCall rfl (reticentref01_Flows.ok hy265) b71 (opds_cons tm (opds_cons tm (opds_cons tm opds_nil)))) (s3 rfl rfl rfl) <| cp (oMv tm) (s1 rfl) <| cgB hp266 rfl rfl (oLd t25 tm) (s1 rfl) <| cgB hp266 rfl rfl (oMv tm) (s1 rfl) <| cgB hp266 rfl rfl (oMv tm) (s1 rfl) <| cgB hp266 rfl rfl (oCall rfl (reticentref01_Flows.ok hy267) b71 (opds_cons tm (opds_cons tm (opds_cons tm opds_nil)))) (s3 rfl rfl rfl) <| cp (oPkT hp266 tm tm) (s2 rfl rfl) <| cp (oMv tm) (s1 rfl) <| csB (nb hp268) rfl rfl <| csB (nb hp268) rfl rfl <| csB (nb hp268) rfl rfl <| csB (nb hp268) rfl rfl <| csB (nb hp268) rfl rfl <| cp (oPkF (nb hp268) tm cB) (s1 rfl) <| .nil) (by kernel_rfl) ?_
                    exact pJ1 _ (so h) ⟨rfl, rfl, rfl, rfl, rfl, rfl, rfl, rfl, rfl, rfl, trivial⟩ rfl
                · refine rg (cp (oLd t25 tm) (s1 rfl) <| cp (oMv tm) (s1 rfl) <| cp (oMv tm) (s1 rfl) <| cp (oCall rfl (reticentref01_Flows.ok hy265) b71 (opds_cons tm (opds_cons tm (opds_cons tm opds_nil)))) (s3 rfl rfl rfl) <| cp (oMv tm) (s1 rfl) <| csB (nb hp266) rfl rfl <| csB (nb hp266) rfl rfl <| csB (nb hp266) rfl rfl <| csB (nb hp266) rfl rfl <| cp (oPkF (nb hp266) tm cB) (s1 rfl) <| cp (oMv tm) (s1 rfl) <| csB rfl rfl rfl <| csB rfl rfl rfl <| csB rfl rfl rfl <| csB rfl rfl rfl <| csB rfl rfl rfl <| cp (oPkF rfl tm cB) (s1 rfl) <| .nil) (by kernel_rfl) ?_
                  exact pJ1 _ (so h) ⟨rfl, rfl, rfl, rfl, rfl, rfl, rfl, rfl, rfl, rfl, trivial⟩ rfl
              · rintro x264 rfl
                replace h := hk4
                rcases ic h with ⟨hp270, h⟩ | ⟨hp270, h⟩
                · refine wBT hp270 tm (s1 rfl) ?_
                  refine rg (cp (oAs cB) trivial <| .nil) (by kernel_rfl) ?_
                  refine pBlkN ?_
                  exact pJ1 _ (so h) ⟨rfl, rfl, rfl, rfl, rfl, rfl, rfl, rfl, rfl, trivial⟩ rfl
                · refine wBF hp270 tm (s1 rfl) ?_
                  refine wSkip ?_
                  refine pBlkN ?_
                  exact pJ1 _ (so h) ⟨rfl, rfl, rfl, rfl, rfl, rfl, rfl, rfl, rfl, trivial⟩ rfl
            · rintro x258 rfl
              replace h := hk3
              refine rg (cp (oAdd tm (cI (by decide))) (s1 rfl) <| cp (oMv tm) (s1 rfl) <| .nil) (by kernel_rfl) ?_
              exact pLoop (lW (ih _ _ h) ⟨rfl, rfl, rfl, rfl, rfl, rfl, rfl, rfl, rfl, trivial⟩ rfl)
          · refine wCF hp245 tm (s1 rfl) ?_
            refine wExit ?_
            refine pThenX ?_
            refine pThenX ?_
            refine pBlkX ?_
            exact pJ1 _ (so h) ⟨rfl, rfl, rfl, rfl, rfl, rfl, rfl, trivial⟩ rfl
        · rintro x244 rfl
          replace h := hk2
          refine pSeq ?_
          refine wSeq ?_
          refine rg (cp (oMv tm) (s1 rfl) <| .nil) (by kernel_rfl) ?_
          refine pSeq ?_
          rcases ic h with ⟨hp271, h⟩ | ⟨hp271, h⟩
          · refine wBT hp271 tm (s1 rfl) ?_
            refine wSeq ?_
            refine rg (cp (oMv tm) (s1 rfl) <| cp (oAs tm) (s1 rfl) <| .nil) (by kernel_rfl) ?_
            refine pSeq ?_
            refine wRet ?_
            refine pBlkR ?_
            refine pThenR ?_
            refine pThenR ?_
            refine pBlkR ?_
            refine pThenR ?_
            obtain rfl := so h
            replace h := hk1
            refine pThenR ?_
            obtain rfl := so h
            exact pR1 (.inl rfl) rfl (.tmp rfl <| .nil)
          · refine wBF hp271 tm (s1 rfl) ?_
            refine wSkip ?_
            refine pBlkN ?_
            refine pSeq ?_
            refine rg (cp (oAdd tm (cI (by decide))) (s1 rfl) <| cp (oMv tm) (s1 rfl) <| .nil) (by kernel_rfl) ?_
            exact pLoop (lW (ih _ h) ⟨rfl, rfl, rfl, rfl, rfl, trivial⟩ rfl)
    · refine wCF hp182 tm (s1 rfl) ?_
      refine wExit ?_
      refine pThenX ?_
      refine pThenX ?_
      refine pBlkX ?_
      exact pJ0 (so h) trivial rfl
  · rintro rfl
    replace h := hk1
    refine pSeq ?_
    refine wSeq ?_
    refine rg (cp (oAs (cI (by decide))) trivial <| .nil) (by kernel_rfl) ?_
    refine pSeq ?_
    refine wRet ?_
    obtain rfl := so h
    exact pR1 (.inl rfl) rfl (.tmp rfl <| .nil)

theorem reticentref01_Check.ok {a0 : api_Lattice} {r : Int} (h : reticentref01_Check.f a0 = some r) : FnA Tryz.prog 12 [(kR f_api_Lattice).sig a0] ((kI .i64).sig r) := by
  refine fnIntro Tryz.func12 rfl (by kernel_rfl) fun H0 w0 => ?_
  unfold reticentref01_Check.f at h
  refine wSeq ?_
  refine rg (cp (oBox tm) (s1 rfl) <| cp (oAs (cI (by decide))) trivial <| .nil) (by kernel_rfl) ?_
  refine pSeq ?_
  refine wSeq ?_
  refine wSeq ?_
  obtain ⟨y1, hy1, h⟩ := bd h
  refine rg (cp (oLd t25 tm) (s1 rfl) <| cp (oCall rfl (reticentref01_may.ok hy1) b33 (opds_cons tm opds_nil)) (s1 rfl) <| cp (oNot tm) (s1 rfl) <| .nil) (by kernel_rfl) ?_
  refine pSeq ?_
  rcases ic h with ⟨hp2, h⟩ | ⟨hp2, h⟩
  · refine wBT hp2 tm (s1 rfl) ?_
    refine wSeq ?_
    refine rg (cp (oAs (cI (by decide))) trivial <| .nil) (by kernel_rfl) ?_
    refine pSeq ?_
    refine wRet ?_
    refine pThenR ?_
    obtain rfl := so h
    exact pR1 (.inl rfl) rfl (.tmp rfl <| .nil)
  · refine wBF hp2 tm (s1 rfl) ?_
    refine wSkip ?_
    refine pSeq ?_
    refine wSeq ?_
    refine wSeq ?_
    obtain ⟨y3, hy3, h⟩ := bd h
    refine rg (cp (oLd t25 tm) (s1 rfl) <| cp (oCall rfl (reticentref01_order.ok hy3) b34 (opds_cons tm opds_nil)) (s1 rfl) <| cp (oNot tm) (s1 rfl) <| .nil) (by kernel_rfl) ?_
    refine pSeq ?_
    rcases ic h with ⟨hp4, h⟩ | ⟨hp4, h⟩
    · refine wBT hp4 tm (s1 rfl) ?_
      refine wSeq ?_
      refine rg (cp (oAs (cI (by decide))) trivial <| .nil) (by kernel_rfl) ?_
      refine pSeq ?_
      refine wRet ?_
      refine pThenR ?_
      obtain rfl := so h
      exact pR1 (.inl rfl) rfl (.tmp rfl <| .nil)
    · refine wBF hp4 tm (s1 rfl) ?_
      refine wSkip ?_
      refine pSeq ?_
      refine wSeq ?_
      refine wSeq ?_
      refine rg (cp (oFld (fs := f_api_Lattice) (k := 1) rfl o25_1 tm) (s1 rfl) <| cp (oLd t23 tm) (s1 rfl) <| cp (oLenL u23 tm) (s1 rfl) <| cp (oMv (cI (by decide))) trivial <| .nil) (by kernel_rfl) ?_
      refine pSeq ?_
      obtain ⟨o1, h, hk1⟩ := bd h
      refine wK0 (.inr () = o1) ([]) ([]) ?_ ?_
      · refine wBlock (wLoop ?_)
        refine lW (pc1 o1 (fun v63 => [(1, .d (sP (kR f_api_Lattice) a0)), (13, .d ((kI .i64).sig (a0.Up.length : Int))), (14, .d ((kI .i64).sig v63))]) (fun v63 => []) (reticentref01_Check.l2.partial_correctness a0) ?_ _ h) ⟨rfl, rfl, rfl, trivial⟩ rfl
        clear h
        intro f' ih v63 h
        refine wSeq ?_
        refine rg (cp (oLt rfl tm tm) (s2 rfl rfl) <| .nil) (by kernel_rfl) ?_
        refine pSeq ?_
        refine wSeq ?_
        rcases ic h with ⟨hp64, h⟩ | ⟨hp64, h⟩
        · refine wCT hp64 tm (s1 rfl) ?_
          refine wSkip ?_
          refine pSeq ?_
          refine wSeq ?_
          refine wBlock ?_
          refine wSeq ?_
          refine rg (cp (oMv tm) (s1 rfl) <| cp (oAs tm) (s1 rfl) <| .nil) (by kernel_rfl) ?_
          refine pSeq ?_
          refine wSeq ?_
          refine rg (cp (oFld (fs := f_api_Lattice) (k := 1) rfl o25_1 tm) (s1 rfl) <| cp (oLd t23 tm) (s1 rfl) <| cp (oLenL u23 tm) (s1 rfl) <| cp (oMv (cI (by decide))) trivial <| .nil) (by kernel_rfl) ?_
          refine pSeq ?_
          obtain ⟨o2, h, hk2⟩ := bd h
          refine wK0 (.inr () = o2) ([(1, .d (sP (kR f_api_Lattice) a0)), (13, .d ((kI .i64).sig (a0.Up.length : Int))), (14, .d ((kI .i64).sig v63))]) ([]) ?_ ?_
          · refine wBlock (wLoop ?_)
            refine lW (pc1 o2 (fun v83 => [(1, .d (sP (kR f_api_Lattice) a0)), (3, .d ((kI .i64).sig v63)), (13, .d ((kI .i64).sig (a0.Up.length : Int))), (14, .d ((kI .i64).sig v63)), (19, .d ((kI .i64).sig (a0.Up.length : Int))), (20, .d ((kI .i64).sig v83))]) (fun v83 => []) (reticentref01_Check.l3.partial_correctness a0 v63) ?_ _ h) ⟨rfl, rfl, rfl, rfl, rfl, rfl, trivial⟩ rfl
            clear h
            intro f' ih v83 h
            refine wSeq ?_
            refine rg (cp (oLt rfl tm tm) (s2 rfl rfl) <| .nil) (by kernel_rfl) ?_
            refine pSeq ?_
            refine wSeq ?_
            rcases ic h with ⟨hp84, h⟩ | ⟨hp84, h⟩
            · refine wCT hp84 tm (s1 rfl) ?_
              refine wSkip ?_
              refine pSeq ?_
              refine wSeq ?_
              refine wBlock ?_
              refine wSeq ?_
              refine rg (cp (oMv tm) (s1 rfl) <| cp (oAs tm) (s1 rfl) <| .nil) (by kernel_rfl) ?_
              refine pSeq ?_
              obtain ⟨o3, h, hk3⟩ := bd h
              refine wJ1 (fun x88 => x88 = o3) (fun x88 => [(1, .d (sP (kR f_api_Lattice) a0)), (3, .d ((kI .i64).sig v63)), (13, .d ((kI .i64).sig (a0.Up.length : Int))), (14, .d ((kI .i64).sig v63)), (19, .d ((kI .i64).sig (a0.Up.length : Int))), (20, .d ((kI .i64).sig v83)), (34, .d (kB.sig x88))]) (fun x88 => []) ?_ ?_
              · obtain ⟨y89, hy89, h⟩ := bd h
                rcases ic h with ⟨hp90, h⟩ | ⟨hp90, h⟩
                · refine rg (cp (oLd t25 tm) (s1 rfl) <| cp (oMv tm) (s1 rfl) <| cp (oMv tm) (s1 rfl) <| cp (oCall rfl (reticentref01_Join.ok hy89) b35 (opds_cons tm (opds_cons tm (opds_cons tm opds_nil)))) (s3 rfl rfl rfl) <| cp (oLt rfl tm (cI (by decide))) (s1 rfl) <| cp (oMv tm) (s1 rfl) <| csB (decide_eq_true hp90) rfl rfl <| csB (decide_eq_true hp90) rfl rfl <| csB (decide_eq_true hp90) rfl rfl <| csB (decide_eq_true hp90) rfl rfl <| csB (decide_eq_true hp90) rfl rfl <| cp (oPkT (decide_eq_true hp90) tm cB) (s1 rfl) <| .nil) (by kernel_rfl) ?_
                  exact pJ1 _ (so h) ⟨rfl, rfl, rfl, rfl, rfl, rfl, rfl, trivial⟩ rfl
                · obtain ⟨y91, hy91, h⟩ := bd h
                  refine rg (cp (oLd t25 tm) (s1 rfl) <| cp (oMv tm) (s1 rfl) <| cp (oMv tm) (s1 rfl) <| cp (oCall rfl (reticentref01_Join.ok hy89) b35 (opds_cons tm (opds_cons tm (opds_cons tm opds_nil)))) (s3 rfl rfl rfl) <| cp (oLt rfl tm (cI (by decide))) (s1 rfl) <| cp (oMv tm) (s1 rfl) <| cgB (decide_eq_false hp90) rfl rfl (oLd t25 tm) (s1 rfl) <| cgB (decide_eq_false hp90) rfl rfl (oMv tm) (s1 rfl) <| cgB (decide_eq_false hp90) rfl rfl (oMv tm) (s1 rfl) <| cgB (decide_eq_false hp90) rfl rfl (oCall rfl (reticentref01_Meet.ok hy91) b36 (opds_cons tm (opds_cons tm (opds_cons tm opds_nil)))) (s3 rfl rfl rfl) <| cgB (decide_eq_false hp90) rfl rfl (oLt rfl tm (cI (by decide))) (s1 rfl) <| cp (oPkF (decide_eq_false hp90) tm tm) (s2 rfl rfl) <| .nil) (by kernel_rfl) ?_
                  exact pJ1 _ (so h) ⟨rfl, rfl, rfl, rfl, rfl, rfl, rfl, trivial⟩ rfl
              · rintro x88 rfl
                replace h := hk3
                rcases ic h with ⟨hp92, h⟩ | ⟨hp92, h⟩
                · refine wBT hp92 tm (s1 rfl) ?_
                  refine wSeq ?_
                  refine rg (cp (oAs (cI (by decide))) trivial <| .nil) (by kernel_rfl) ?_
                  refine pSeq ?_
                  refine wRet ?_
                  refine pBlkR ?_
                  refine pThenR ?_
                  refine pThenR ?_
                  refine pBlkR ?_
                  refine pThenR ?_
                  obtain rfl := so h
                  replace h := hk2
                  refine pBlkR ?_
                  refine pThenR ?_
                  refine pThenR ?_
                  refine pBlkR ?_
                  refine pThenR ?_
                  obtain rfl := so h
                  replace h := hk1
                  refine pThenR ?_
                  obtain rfl := so h
                  exact pR1 (.inl rfl) rfl (.tmp rfl <| .nil)
                · refine wBF hp92 tm (s1 rfl) ?_
                  refine wSkip ?_
                  refine pBlkN ?_
                  refine pSeq ?_
                  refine rg (cp (oAdd tm (cI (by decide))) (s1 rfl) <| cp (oMv tm) (s1 rfl) <| .nil) (by kernel_rfl) ?_
                  exact pLoop (lW (ih _ h) ⟨rfl, rfl, rfl, rfl, rfl, rfl, trivial⟩ rfl)
            · refine wCF hp84 tm (s1 rfl) ?_
              refine wExit ?_
              refine pThenX ?_
              refine pThenX ?_
              refine pBlkX ?_
              exact pJ0 (so h) ⟨rfl, rfl, rfl, trivial⟩ rfl
          · rintro rfl
            replace h := hk2
            refine pBlkN ?_
            refine pSeq ?_
            refine rg (cp (oAdd tm (cI (by decide))) (s1 rfl) <| cp (oMv tm) (s1 rfl) <| .nil) (by kernel_rfl) ?_
            exact pLoop (lW (ih _ h) ⟨rfl, rfl, rfl, trivial⟩ rfl)
        · refine wCF hp64 tm (s1 rfl) ?_
          refine wExit ?_
          refine pThenX ?_
          refine pThenX ?_
          refine pBlkX ?_
          exact pJ0 (so h) trivial rfl
      · rintro rfl
        replace h := hk1
        refine pSeq ?_
        refine wSeq ?_
        refine rg (cp (oAs (cI (by decide))) trivial <| .nil) (by kernel_rfl) ?_
        refine pSeq ?_
        refine wRet ?_
        obtain rfl := so h
        exact pR1 (.inl rfl) rfl (.tmp rfl <| .nil)

theorem reticentref08_Instr.ok {a0 : Int} {a1 : api_Instr} {r : Bool} (h : reticentref08_Instr.f a0 a1 = some r) : FnA Tryz.prog 72 [(kI .i64).sig a0, (kR f_api_Instr).sig a1] (kB.sig r) := by
  refine fnIntro Tryz.func72 rfl (by kernel_rfl) fun H0 w0 => ?_
  unfold reticentref08_Instr.f at h
  refine wSeq ?_
  refine rg (cp (oBox tm) (s1 rfl) <| cp (oAs cB) trivial <| .nil) (by kernel_rfl) ?_
  refine pSeq ?_
  refine wSeq ?_
  refine wSeq ?_
  refine rg (cp (oFld (fs := f_api_Instr) (k := 0) rfl o81_0 tm) (s1 rfl) <| cp (oLd t3 tm) (s1 rfl) <| cp (oEq rfl tm (cI (by decide))) (s1 rfl) <| .nil) (by kernel_rfl) ?_
  refine pSeq ?_
  rcases ic h with ⟨hp1, h⟩ | ⟨hp1, h⟩
  · refine wCT hp1 tm (s1 rfl) ?_
    obtain ⟨o1, h, hk1⟩ := bd h
    refine wJ1 (fun x5 => x5 = o1) (fun x5 => [(4, .d (kB.sig x5))]) (fun x5 => []) ?_ ?_
    · rcases ic h with ⟨hp6, h⟩ | ⟨hp6, h⟩
      · rcases ic h with ⟨hp7, h⟩ | ⟨hp7, h⟩
        · rcases ic h with ⟨hp8, h⟩ | ⟨hp8, h⟩
          · refine rg (cp (oFld (fs := f_api_Instr) (k := 1) rfl o81_1 tm) (s1 rfl) <| cp (oLd t3 tm) (s1 rfl) <| cp (oGe rfl tm (cI (by decide))) (s1 rfl) <| cp (oMv tm) (s1 rfl) <| cgB (decide_eq_true hp6) rfl rfl (oFld (fs := f_api_Instr) (k := 1) rfl o81_1 tm) (s1 rfl) <| cgB (decide_eq_true hp6) rfl rfl (oLd t3 tm) (s1 rfl) <| cgB (decide_eq_true hp6) rfl rfl (oLe rfl tm (cI (by decide))) (s1 rfl) <| cp (oPkT (decide_eq_true hp6) tm tm) (s2 rfl rfl) <| cp (oMv tm) (s1 rfl) <| cgB (decide_eq_true hp7) rfl rfl (oFld (fs := f_api_Instr) (k := 2) rfl o81_2 tm) (s1 rfl) <| cgB (decide_eq_true hp7) rfl rfl (oLd t3 tm) (s1 rfl) <| cgB (decide_eq_true hp7) rfl rfl (oGe rfl tm (cI (by decide))) (s1 rfl) <| cp (oPkT (decide_eq_true hp7) tm tm) (s2 rfl rfl) <| cp (oMv tm) (s1 rfl) <| cgB (decide_eq_true hp8) rfl rfl (oFld (fs := f_api_Instr) (k := 2) rfl o81_2 tm) (s1 rfl) <| cgB (decide_eq_true hp8) rfl rfl (oLd t3 tm) (s1 rfl) <| cgB (decide_eq_true hp8) rfl rfl (oMv tm) (s1 rfl) <| cgB (decide_eq_true hp8) rfl rfl (oLt rfl tm tm) (s2 rfl rfl) <| cp (oPkT (decide_eq_true hp8) tm tm) (s2 rfl rfl) <| cp (oAs tm) (s1 rfl) <| .nil) (by kernel_rfl) ?_
            exact pJ1 _ (so h) ⟨rfl, trivial⟩ rfl
          · refine rg (cp (oFld (fs := f_api_Instr) (k := 1) rfl o81_1 tm) (s1 rfl) <| cp (oLd t3 tm) (s1 rfl) <| cp (oGe rfl tm (cI (by decide))) (s1 rfl) <| cp (oMv tm) (s1 rfl) <| cgB (decide_eq_true hp6) rfl rfl (oFld (fs := f_api_Instr) (k := 1) rfl o81_1 tm) (s1 rfl) <| cgB (decide_eq_true hp6) rfl rfl (oLd t3 tm) (s1 rfl) <| cgB (decide_eq_true hp6) rfl rfl (oLe rfl tm (cI (by decide))) (s1 rfl) <| cp (oPkT (decide_eq_true hp6) tm tm) (s2 rfl rfl) <| cp (oMv tm) (s1 rfl) <| cgB (decide_eq_true hp7) rfl rfl (oFld (fs := f_api_Instr) (k := 2) rfl o81_2 tm) (s1 rfl) <| cgB (decide_eq_true hp7) rfl rfl (oLd t3 tm) (s1 rfl) <| cgB (decide_eq_true hp7) rfl rfl (oGe rfl tm (cI (by decide))) (s1 rfl) <| cp (oPkT (decide_eq_true hp7) tm tm) (s2 rfl rfl) <| cp (oMv tm) (s1 rfl) <| csB (decide_eq_false hp8) rfl rfl <| csB (decide_eq_false hp8) rfl rfl <| csB (decide_eq_false hp8) rfl rfl <| csB (decide_eq_false hp8) rfl rfl <| cp (oPkF (decide_eq_false hp8) tm cB) (s1 rfl) <| cp (oAs tm) (s1 rfl) <| .nil) (by kernel_rfl) ?_
            exact pJ1 _ (so h) ⟨rfl, trivial⟩ rfl
        · refine rg (cp (oFld (fs := f_api_Instr) (k := 1) rfl o81_1 tm) (s1 rfl) <| cp (oLd t3 tm) (s1 rfl) <| cp (oGe rfl tm (cI (by decide))) (s1 rfl) <| cp (oMv tm) (s1 rfl) <| cgB (decide_eq_true hp6) rfl rfl (oFld (fs := f_api_Instr) (k := 1) rfl o81_1 tm) (s1 rfl) <| cgB (decide_eq_true hp6) rfl rfl (oLd t3 tm) (s1 rfl) <| cgB (decide_eq_true hp6) rfl rfl (oLe rfl tm (cI (by decide))) (s1 rfl) <| cp (oPkT (decide_eq_true hp6) tm tm) (s2 rfl rfl) <| cp (oMv tm) (s1 rfl) <| csB (decide_eq_false hp7) rfl rfl <| csB (decide_eq_false hp7) rfl rfl <| csB (decide_eq_false hp7) rfl rfl <| cp (oPkF (decide_eq_false hp7) tm cB) (s1 rfl) <| cp (oMv tm) (s1 rfl) <| csB rfl rfl rfl <| csB rfl rfl rfl <| csB rfl rfl rfl <| csB rfl rfl rfl <| cp (oPkF rfl tm cB) (s1 rfl) <| cp (oAs tm) (s1 rfl) <| .nil) (by kernel_rfl) ?_
          exact pJ1 _ (so h) ⟨rfl, trivial⟩ rfl
      · refine rg (cp (oFld (fs := f_api_Instr) (k := 1) rfl o81_1 tm) (s1 rfl) <| cp (oLd t3 tm) (s1 rfl) <| cp (oGe rfl tm (cI (by decide))) (s1 rfl) <| cp (oMv tm) (s1 rfl) <| csB (decide_eq_false hp6) rfl rfl <| csB (decide_eq_false hp6) rfl rfl <| csB (decide_eq_false hp6) rfl rfl <| cp (oPkF (decide_eq_false hp6) tm cB) (s1 rfl) <| cp (oMv tm) (s1 rfl) <| csB rfl rfl rfl <| csB rfl rfl rfl <| csB rfl rfl rfl <| cp (oPkF rfl tm cB) (s1 rfl) <| cp (oMv tm) (s1 rfl) <| csB rfl rfl rfl <| csB rfl rfl rfl <| csB rfl rfl rfl <| csB rfl rfl rfl <| cp (oPkF rfl tm cB) (s1 rfl) <| cp (oAs tm) (s1 rfl) <| .nil) (by kernel_rfl) ?_
        exact pJ1 _ (so h) ⟨rfl, trivial⟩ rfl
    · rintro x5 rfl
      replace h := hk1
      refine wRet ?_
      refine pThenR ?_
      obtain rfl := so h
      exact pR1 (.inl rfl) rfl (.tmp rfl <| .nil)
  · refine wCF hp1 tm (s1 rfl) ?_
    refine wSkip ?_
    refine pSeq ?_
    refine wSeq ?_
    obtain ⟨o1, h, hk1⟩ := bd h
    refine wJ1 (fun x11 => x11 = o1) (fun x11 => [(3, .d (sP (kR f_api_Instr) a1)), (39, .d (kB.sig x11))]) (fun x11 => []) ?_ ?_
    · rcases ic h with ⟨hp12, h⟩ | ⟨hp12, h⟩
      · refine rg (cp (oFld (fs := f_api_Instr) (k := 0) rfl o81_0 tm) (s1 rfl) <| cp (oLd t3 tm) (s1 rfl) <| cp (oLt rfl tm (cI (by decide))) (s1 rfl) <| cp (oMv tm) (s1 rfl) <| csB (decide_eq_true hp12) rfl rfl <| csB (decide_eq_true hp12) rfl rfl <| csB (decide_eq_true hp12) rfl rfl <| cp (oPkT (decide_eq_true hp12) tm cB) (s1 rfl) <| cp (oMv tm) (s1 rfl) <| csB rfl rfl rfl <| csB rfl rfl rfl <| csB rfl rfl rfl <| cp (oPkT rfl tm cB) (s1 rfl) <| .nil) (by kernel_rfl) ?_
        exact pJ1 _ (so h) ⟨rfl, rfl, trivial⟩ rfl
      · rcases ic h with ⟨hp13, h⟩ | ⟨hp13, h⟩
        · refine rg (cp (oFld (fs := f_api_Instr) (k := 0) rfl o81_0 tm) (s1 rfl) <| cp (oLd t3 tm) (s1 rfl) <| cp (oLt rfl tm (cI (by decide))) (s1 rfl) <| cp (oMv tm) (s1 rfl) <| cgB (decide_eq_false hp12) rfl rfl (oFld (fs := f_api_Instr) (k := 0) rfl o81_0 tm) (s1 rfl) <| cgB (decide_eq_false hp12) rfl rfl (oLd t3 tm) (s1 rfl) <| cgB (decide_eq_false hp12) rfl rfl (oGt rfl tm (cI (by decide))) (s1 rfl) <| cp (oPkF (decide_eq_false hp12) tm tm) (s2 rfl rfl) <| cp (oMv tm) (s1 rfl) <| csB (decide_eq_true hp13) rfl rfl <| csB (decide_eq_true hp13) rfl rfl <| csB (decide_eq_true hp13) rfl rfl <| cp (oPkT (decide_eq_true hp13) tm cB) (s1 rfl) <| .nil) (by kernel_rfl) ?_
          exact pJ1 _ (so h) ⟨rfl, rfl, trivial⟩ rfl
        · refine rg (cp (oFld (fs := f_api_Instr) (k := 0) rfl o81_0 tm) (s1 rfl) <| cp (oLd t3 tm) (s1 rfl) <| cp (oLt rfl tm (cI (by decide))) (s1 rfl) <| cp (oMv tm) (s1 rfl) <| cgB (decide_eq_false hp12) rfl rfl (oFld (fs := f_api_Instr) (k := 0) rfl o81_0 tm) (s1 rfl) <| cgB (decide_eq_false hp12) rfl rfl (oLd t3 tm) (s1 rfl) <| cgB (decide_eq_false hp12) rfl rfl (oGt rfl tm (cI (by decide))) (s1 rfl) <| cp (oPkF (decide_eq_false hp12) tm tm) (s2 rfl rfl) <| cp (oMv tm) (s1 rfl) <| cgB (decide_eq_false hp13) rfl rfl (oFld (fs := f_api_Instr) (k := 2) rfl o81_2 tm) (s1 rfl) <| cgB (decide_eq_false hp13) rfl rfl (oLd t3 tm) (s1 rfl) <| cgB (decide_eq_false hp13) rfl rfl (oNe rfl tm (cI (by decide))) (s1 rfl) <| cp (oPkF (decide_eq_false hp13) tm tm) (s2 rfl rfl) <| .nil) (by kernel_rfl) ?_
          exact pJ1 _ (so h) ⟨rfl, rfl, trivial⟩ rfl
    · rintro x11 rfl
      replace h := hk1
      rcases ic h with ⟨hp14, h⟩ | ⟨hp14, h⟩
      · refine wBT hp14 tm (s1 rfl) ?_
        refine wSeq ?_
        refine rg (cp (oAs cB) trivial <| .nil) (by kernel_rfl) ?_
        refine pSeq ?_
        refine wRet ?_
        refine pThenR ?_
        obtain rfl := so h
        exact pR1 (.inl rfl) rfl (.tmp rfl <| .nil)
      · refine wBF hp14 tm (s1 rfl) ?_
        refine wSkip ?_
        refine pSeq ?_
        refine wSeq ?_
        refine wSeq ?_
        refine rg (cp (oFld (fs := f_api_Instr) (k := 0) rfl o81_0 tm) (s1 rfl) <| cp (oLd t3 tm) (s1 rfl) <| cp (oEq rfl tm (cI (by decide))) (s1 rfl) <| .nil) (by kernel_rfl) ?_
        refine pSeq ?_
        rcases ic h with ⟨hp15, h⟩ | ⟨hp15, h⟩
        · refine wCT hp15 tm (s1 rfl) ?_
          obtain ⟨o1, h, hk1⟩ := bd h
          refine wJ1 (fun x17 => x17 = o1) (fun x17 => [(4, .d (kB.sig x17))]) (fun x17 => []) ?_ ?_
          · rcases ic h with ⟨hp18, h⟩ | ⟨hp18, h⟩
            · refine rg (cp (oFld (fs := f_api_Instr) (k := 1) rfl o81_1 tm) (s1 rfl) <| cp (oLd t3 tm) (s1 rfl) <| cp (oGe rfl tm (cI (by decide))) (s1 rfl) <| cp (oMv tm) (s1 rfl) <| cgB (decide_eq_true hp18) rfl rfl (oFld (fs := f_api_Instr) (k := 1) rfl o81_1 tm) (s1 rfl) <| cgB (decide_eq_true hp18) rfl rfl (oLd t3 tm) (s1 rfl) <| cgB (decide_eq_true hp18) rfl rfl (oLe rfl tm (cI (by decide))) (s1 rfl) <| cp (oPkT (decide_eq_true hp18) tm tm) (s2 rfl rfl) <| cp (oAs tm) (s1 rfl) <| .nil) (by kernel_rfl) ?_
              exact pJ1 _ (so h) ⟨rfl, trivial⟩ rfl
            · refine rg (cp (oFld (fs := f_api_Instr) (k := 1) rfl o81_1 tm) (s1 rfl) <| cp (oLd t3 tm) (s1 rfl) <| cp (oGe rfl tm (cI (by decide))) (s1 rfl) <| cp (oMv tm) (s1 rfl) <| csB (decide_eq_false hp18) rfl rfl <| csB (decide_eq_false hp18) rfl rfl <| csB (decide_eq_false hp18) rfl rfl <| cp (oPkF (decide_eq_false hp18) tm cB) (s1 rfl) <| cp (oAs tm) (s1 rfl) <| .nil) (by kernel_rfl) ?_
              exact pJ1 _ (so h) ⟨rfl, trivial⟩ rfl
          · rintro x17 rfl
            replace h := hk1
            refine wRet ?_
            refine pThenR ?_
            obtain rfl := so h
            exact pR1 (.inl rfl) rfl (.tmp rfl <| .nil)
        · refine wCF hp15 tm (s1 rfl) ?_
          refine wSkip ?_
          refine pSeq ?_
          refine wSeq ?_
          refine wSeq ?_
          refine rg (cp (oFld (fs := f_api_Instr) (k := 0) rfl o81_0 tm) (s1 rfl) <| cp (oLd t3 tm) (s1 rfl) <| cp (oEq rfl tm (cI (by decide))) (s1 rfl) <| .nil) (by kernel_rfl) ?_
          refine pSeq ?_
          rcases ic h with ⟨hp19, h⟩ | ⟨hp19, h⟩
          · refine wCT hp19 tm (s1 rfl) ?_
            obtain ⟨o1, h, hk1⟩ := bd h
            refine wJ1 (fun x21 => x21 = o1) (fun x21 => [(4, .d (kB.sig x21))]) (fun x21 => []) ?_ ?_
            · rcases ic h with ⟨hp22, h⟩ | ⟨hp22, h⟩
              · refine rg (cp (oFld (fs := f_api_Instr) (k := 1) rfl o81_1 tm) (s1 rfl) <| cp (oLd t3 tm) (s1 rfl) <| cp (oGe rfl tm (cI (by decide))) (s1 rfl) <| cp (oMv tm) (s1 rfl) <| cgB (decide_eq_true hp22) rfl rfl (oFld (fs := f_api_Instr) (k := 1) rfl o81_1 tm) (s1 rfl) <| cgB (decide_eq_true hp22) rfl rfl (oLd t3 tm) (s1 rfl) <| cgB (decide_eq_true hp22) rfl rfl (oLe rfl tm (cI (by decide))) (s1 rfl) <| cp (oPkT (decide_eq_true hp22) tm tm) (s2 rfl rfl) <| cp (oAs tm) (s1 rfl) <| .nil) (by kernel_rfl) ?_
                exact pJ1 _ (so h) ⟨rfl, trivial⟩ rfl
              · refine rg (cp (oFld (fs := f_api_Instr) (k := 1) rfl o81_1 tm) (s1 rfl) <| cp (oLd t3 tm) (s1 rfl) <| cp (oGe rfl tm (cI (by decide))) (s1 rfl) <| cp (oMv tm) (s1 rfl) <| csB (decide_eq_false hp22) rfl rfl <| csB (decide_eq_false hp22) rfl rfl <| csB (decide_eq_false hp22) rfl rfl <| cp (oPkF (decide_eq_false hp22) tm cB) (s1 rfl) <| cp (oAs tm) (s1 rfl) <| .nil) (by kernel_rfl) ?_
                exact pJ1 _ (so h) ⟨rfl, trivial⟩ rfl
            · rintro x21 rfl
              replace h := hk1
              refine wRet ?_
              refine pThenR ?_
              obtain rfl := so h
              exact pR1 (.inl rfl) rfl (.tmp rfl <| .nil)
          · refine wCF hp19 tm (s1 rfl) ?_
            refine wSkip ?_
            refine pSeq ?_
            refine wSeq ?_
            refine wSeq ?_
            refine rg (cp (oFld (fs := f_api_Instr) (k := 0) rfl o81_0 tm) (s1 rfl) <| cp (oLd t3 tm) (s1 rfl) <| cp (oEq rfl tm (cI (by decide))) (s1 rfl) <| .nil) (by kernel_rfl) ?_
            refine pSeq ?_
            rcases ic h with ⟨hp23, h⟩ | ⟨hp23, h⟩
            · refine wCT hp23 tm (s1 rfl) ?_
              obtain ⟨o1, h, hk1⟩ := bd h
              refine wJ1 (fun x25 => x25 = o1) (fun x25 => [(4, .d (kB.sig x25))]) (fun x25 => []) ?_ ?_
              · rcases ic h with ⟨hp26, h⟩ | ⟨hp26, h⟩
                · refine rg (cp (oFld (fs := f_api_Instr) (k := 1) rfl o81_1 tm) (s1 rfl) <| cp (oLd t3 tm) (s1 rfl) <| cp (oEq rfl tm (cI (by decide))) (s1 rfl) <| cp (oMv tm) (s1 rfl) <| csB (decide_eq_true hp26) rfl rfl <| csB (decide_eq_true hp26) rfl rfl <| csB (decide_eq_true hp26) rfl rfl <| cp (oPkT (decide_eq_true hp26) tm cB) (s1 rfl) <| cp (oAs tm) (s1 rfl) <| .nil) (by kernel_rfl) ?_
                  exact pJ1 _ (so h) ⟨rfl, trivial⟩ rfl
                · refine rg (cp (oFld (fs := f_api_Instr) (k := 1) rfl o81_1 tm) (s1 rfl) <| cp (oLd t3 tm) (s1 rfl) <| cp (oEq rfl tm (cI (by decide))) (s1 rfl) <| cp (oMv tm) (s1 rfl) <| cgB (decide_eq_false hp26) rfl rfl (oFld (fs := f_api_Instr) (k := 1) rfl o81_1 tm) (s1 rfl) <| cgB (decide_eq_false hp26) rfl rfl (oLd t3 tm) (s1 rfl) <| cgB (decide_eq_false hp26) rfl rfl (oEq rfl tm (cI (by decide))) (s1 rfl) <| cp (oPkF (decide_eq_false hp26) tm tm) (s2 rfl rfl) <| cp (oAs tm) (s1 rfl) <| .nil) (by kernel_rfl) ?_
                  exact pJ1 _ (so h) ⟨rfl, trivial⟩ rfl
              · rintro x25 rfl
                replace h := hk1
                refine wRet ?_
                refine pThenR ?_
                obtain rfl := so h
                exact pR1 (.inl rfl) rfl (.tmp rfl <| .nil)
            · refine wCF hp23 tm (s1 rfl) ?_
              refine wSkip ?_
              refine pSeq ?_
              refine wSeq ?_
              refine rg (cp (oFld (fs := f_api_Instr) (k := 1) rfl o81_1 tm) (s1 rfl) <| cp (oLd t3 tm) (s1 rfl) <| cp (oEq rfl tm (cI (by decide))) (s1 rfl) <| cp (oAs tm) (s1 rfl) <| .nil) (by kernel_rfl) ?_
              refine pSeq ?_
              refine wRet ?_
              obtain rfl := so h
              exact pR1 (.inl rfl) rfl (.tmp rfl <| .nil)

theorem reticentref08_Right.ok {a0 : api_Lattice} {a1 : List api_Instr} {r : Bool} (h : reticentref08_Right.f a0 a1 = some r) : FnA Tryz.prog 37 [(kR f_api_Lattice).sig a0, (kL (kR f_api_Instr)).sig a1] (kB.sig r) := by
  refine fnIntro Tryz.func37 rfl (by kernel_rfl) fun H0 w0 => ?_
  unfold reticentref08_Right.f at h
  refine wSeq ?_
  refine rg (cp (oBox tm) (s1 rfl) <| cp (oAs cB) trivial <| .nil) (by kernel_rfl) ?_
  refine pSeq ?_
  refine wSeq ?_
  refine wSeq ?_
  refine rg (cp (oMv tm) (s1 rfl) <| cp (oLenL u28 tm) (s1 rfl) <| cp (oMv (cI (by decide))) trivial <| .nil) (by kernel_rfl) ?_
  refine pSeq ?_
  obtain ⟨o1, h, hk1⟩ := bd h
  refine wK0 (.inr () = o1) ([(1, .d ((kL (kR f_api_Instr)).sig a1))]) ([]) ?_ ?_
  · refine wBlock (wLoop ?_)
    refine lW (pc1 o1 (fun v9 => [(1, .d ((kL (kR f_api_Instr)).sig a1)), (2, .d (sP (kR f_api_Lattice) a0)), (7, .d ((kL (kR f_api_Instr)).sig a1)), (8, .d ((kI .i64).sig (a1.length : Int))), (9, .d ((kI .i64).sig v9))]) (fun v9 => []) (reticentref08_Right.l0.partial_correctness a0 a1) ?_ _ h) ⟨rfl, rfl, rfl, rfl, rfl, trivial⟩ rfl
    clear h
    intro f' ih v9 h
    refine wSeq ?_
    refine rg (cp (oLt rfl tm tm) (s2 rfl rfl) <| .nil) (by kernel_rfl) ?_
    refine pSeq ?_
    refine wSeq ?_
    rcases ic h with ⟨hp10, h⟩ | ⟨hp10, h⟩
    · refine wCT hp10 tm (s1 rfl) ?_
      refine wSkip ?_
      refine pSeq ?_
      refine wSeq ?_
      refine wBlock ?_
      refine wSeq ?_
      obtain ⟨y11, hy11, h⟩ := bd h
      refine rg (cp (oIdx u28 z81 hy11 tm tm) (s2 rfl rfl) <| cp (oLd t81 tm) (s1 rfl) <| cw (oAlloc (id := 6) (ls := [.d (kI .i64) 0, .d (kI .i64) 0, .d (kI .i64) 0]) ze81 (fun g => ⟨[(.int .i64 0)], _, rfl, zI_i64 g.H, ⟨[(.int .i64 0)], _, rfl, zI_i64 g.H, ⟨[(.int .i64 0)], _, rfl, zI_i64 g.H, rfl⟩⟩⟩)) trivial <| cwn (oStA (n := 0) (fs := f_api_Instr) rfl rfl z81 tm tm) (s2 rfl rfl) <| .nil) (by kernel_rfl) ?_
      refine pSeq ?_
      refine wSeq ?_
      obtain ⟨y12, hy12, h⟩ := bd h
      refine rg (cp (oFld (fs := f_api_Lattice) (k := 1) rfl o25_1 tm) (s1 rfl) <| cp (oLd t23 tm) (s1 rfl) <| cp (oLenL u23 tm) (s1 rfl) <| cr (oLdA (n := 0) (fs := f_api_Instr) (u := ⟨y11.Op, y11.N, y11.L⟩) rfl ⟨rfl, rfl, rfl, trivial⟩ t81 tm) (s1 rfl) <| cp (oCall rfl (reticentref08_Instr.ok hy12) b72 (opds_cons tm (opds_cons tm opds_nil))) (s2 rfl rfl) <| cp (oNot tm) (s1 rfl) <| .nil) (by kernel_rfl) ?_
      refine pSeq ?_
      rcases ic h with ⟨hp13, h⟩ | ⟨hp13, h⟩
      · refine wBT hp13 tm (s1 rfl) ?_
        refine wSeq ?_
        refine rg (cp (oAs cB) trivial <| .nil) (by kernel_rfl) ?_
        refine pSeq ?_
        refine wRet ?_
        refine pBlkR ?_
        refine pThenR ?_
        refine pThenR ?_
        refine pBlkR ?_
        refine pThenR ?_
        obtain rfl := so h
        replace h := hk1
        refine pThenR ?_
        obtain rfl := so h
        exact pR1 (.inl rfl) rfl (.tmp rfl <| .nil)
      · refine wBF hp13 tm (s1 rfl) ?_
        refine wSkip ?_
        refine pBlkN ?_
        refine pSeq ?_
        refine rg (cp (oAdd tm (cI (by decide))) (s1 rfl) <| cp (oMv tm) (s1 rfl) <| .nil) (by kernel_rfl) ?_
        refine pDrop (.cons _ .slnil) ?_
        exact pLoop (lW (ih _ h) ⟨rfl, rfl, rfl, rfl, rfl, trivial⟩ rfl)
    · refine wCF hp10 tm (s1 rfl) ?_
      refine wExit ?_
      refine pThenX ?_
      refine pThenX ?_
      refine pBlkX ?_
      exact pJ0 (so h) ⟨rfl, trivial⟩ rfl
  · rintro rfl
    replace h := hk1
    refine pSeq ?_
    refine wSeq ?_
    refine rg (cp (oMv tm) (s1 rfl) <| cp (oLenL u28 tm) (s1 rfl) <| cp (oLe rfl tm (cI (by decide))) (s1 rfl) <| cp (oAs tm) (s1 rfl) <| .nil) (by kernel_rfl) ?_
    refine pSeq ?_
    refine wRet ?_
    obtain rfl := so h
    exact pR1 (.inl rfl) rfl (.tmp rfl <| .nil)

theorem reticentref09_label.ok {a0 : api_Lattice} {a1 : Int} {r : Bool} (h : reticentref09_label.f a0 a1 = some r) : FnA Tryz.prog 38 [(kR f_api_Lattice).sig a0, (kI .i64).sig a1] (kB.sig r) := by
  refine fnIntro Tryz.func38 rfl (by kernel_rfl) fun H0 w0 => ?_
  unfold reticentref09_label.f at h
  refine wSeq ?_
  refine rg (cp (oBox tm) (s1 rfl) <| cp (oAs cB) trivial <| .nil) (by kernel_rfl) ?_
  refine pSeq ?_
  obtain ⟨o1, h, hk1⟩ := bd h
  refine wJ1 (fun x2 => x2 = o1) (fun x2 => [(4, .d (kB.sig x2))]) (fun x2 => []) ?_ ?_
  · rcases ic h with ⟨hp3, h⟩ | ⟨hp3, h⟩
    · refine rg (cp (oMv tm) (s1 rfl) <| cp (oGe rfl tm (cI (by decide))) (s1 rfl) <| cp (oMv tm) (s1 rfl) <| cgB (decide_eq_true hp3) rfl rfl (oMv tm) (s1 rfl) <| cgB (decide_eq_true hp3) rfl rfl (oFld (fs := f_api_Lattice) (k := 1) rfl o25_1 tm) (s1 rfl) <| cgB (decide_eq_true hp3) rfl rfl (oLd t23 tm) (s1 rfl) <| cgB (decide_eq_true hp3) rfl rfl (oLenL u23 tm) (s1 rfl) <| cgB (decide_eq_true hp3) rfl rfl (oLt rfl tm tm) (s2 rfl rfl) <| cp (oPkT (decide_eq_true hp3) tm tm) (s2 rfl rfl) <| cp (oAs tm) (s1 rfl) <| .nil) (by kernel_rfl) ?_
      exact pJ1 _ (so h) ⟨rfl, trivial⟩ rfl
    · refine rg (cp (oMv tm) (s1 rfl) <| cp (oGe rfl tm (cI (by decide))) (s1 rfl) <| cp (oMv tm) (s1 rfl) <| csB (decide_eq_false hp3) rfl rfl <| csB (decide_eq_false hp3) rfl rfl <| csB (decide_eq_false hp3) rfl rfl <| csB (decide_eq_false hp3) rfl rfl <| csB (decide_eq_false hp3) rfl rfl <| cp (oPkF (decide_eq_false hp3) tm cB) (s1 rfl) <| cp (oAs tm) (s1 rfl) <| .nil) (by kernel_rfl) ?_
      exact pJ1 _ (so h) ⟨rfl, trivial⟩ rfl
  · rintro x2 rfl
    replace h := hk1
    refine wRet ?_
    obtain rfl := so h
    exact pR1 (.inl rfl) rfl (.tmp rfl <| .nil)

theorem reticentref09_Atoms.ok {a0 : api_Lattice} {a1 : List api_Atom} {r : Bool} (h : reticentref09_Atoms.f a0 a1 = some r) : FnA Tryz.prog 39 [(kR f_api_Lattice).sig a0, (kL (kR f_api_Atom)).sig a1] (kB.sig r) := by
  refine fnIntro Tryz.func39 rfl (by kernel_rfl) fun H0 w0 => ?_
  unfold reticentref09_Atoms.f at h
  refine wSeq ?_
  refine rg (cp (oBox tm) (s1 rfl) <| cp (oAs cB) trivial <| .nil) (by kernel_rfl) ?_
  refine pSeq ?_
  refine wSeq ?_
  refine wSeq ?_
  refine rg (cp (oMv tm) (s1 rfl) <| cp (oLenL u29 tm) (s1 rfl) <| cp (oMv (cI (by decide))) trivial <| .nil) (by kernel_rfl) ?_
  refine pSeq ?_
  obtain ⟨o1, h, hk1⟩ := bd h
  refine wK0 (.inr () = o1) ([]) ([]) ?_ ?_
  · refine wBlock (wLoop ?_)
    refine lW (pc1 o1 (fun v21 => [(2, .d (sP (kR f_api_Lattice) a0)), (7, .d ((kL (kR f_api_Atom)).sig a1)), (8, .d ((kI .i64).sig (a1.length : Int))), (9, .d ((kI .i64).sig v21))]) (fun v21 => []) (reticentref09_Atoms.l0.partial_correctness a0 a1) ?_ _ h) ⟨rfl, rfl, rfl, rfl, trivial⟩ rfl
    clear h
    intro f' ih v21 h
    refine wSeq ?_
    refine rg (cp (oLt rfl tm tm) (s2 rfl rfl) <| .nil) (by kernel_rfl) ?_
    refine pSeq ?_
    refine wSeq ?_
    rcases ic h with ⟨hp22, h⟩ | ⟨hp22, h⟩
    · refine wCT hp22 tm (s1 rfl) ?_
      refine wSkip ?_
      refine pSeq ?_
      refine wSeq ?_
      refine wBlock ?_
      refine wSeq ?_
      obtain ⟨y23, hy23, h⟩ := bd h
      refine rg (cp (oIdx u29 z27 hy23 tm tm) (s2 rfl rfl) <| cp (oLd t27 tm) (s1 rfl) <| cw (oAlloc (id := 6) (ls := [.d (kI .i64) 0, .d (kI .i64) 0]) ze27 (fun g => ⟨[(.int .i64 0)], _, rfl, zI_i64 g.H, ⟨[(.int .i64 0)], _, rfl, zI_i64 g.H, rfl⟩⟩)) trivial <| cwn (oStA (n := 0) (fs := f_api_Atom) rfl rfl z27 tm tm) (s2 rfl rfl) <| .nil) (by kernel_rfl) ?_
      refine pSeq ?_
      obtain ⟨o2, h, hk2⟩ := bd h
      refine wJ1 (fun x27 => x27 = o2) (fun x27 => [(2, .d (sP (kR f_api_Lattice) a0)), (7, .d ((kL (kR f_api_Atom)).sig a1)), (8, .d ((kI .i64).sig (a1.length : Int))), (9, .d ((kI .i64).sig v21)), (27, .d (kB.sig x27))]) (fun x27 => [.box 6 27 [.d (kI .i64) y23.V, .d (kI .i64) y23.L]]) ?_ ?_
      · rcases ic h with ⟨hp28, h⟩ | ⟨hp28, h⟩
        · refine rg (cp (oFldP o27_0 tm) (s1 rfl) <| cr (oLdB (n := 0) (k := 0) rfl rfl rfl t3 tm) (s1 rfl) <| cp (oLt rfl tm (cI (by decide))) (s1 rfl) <| cp (oMv tm) (s1 rfl) <| csB (decide_eq_true hp28) rfl rfl <| csB (decide_eq_true hp28) rfl rfl <| csB (decide_eq_true hp28) rfl rfl <| cp (oPkT (decide_eq_true hp28) tm cB) (s1 rfl) <| cp (oMv tm) (s1 rfl) <| csB rfl rfl rfl <| csB rfl rfl rfl <| csB rfl rfl rfl <| csB rfl rfl rfl <| csB rfl rfl rfl <| cp (oPkT rfl tm cB) (s1 rfl) <| .nil) (by kernel_rfl) ?_
          exact pJ1 _ (so h) ⟨rfl, rfl, rfl, rfl, rfl, trivial⟩ rfl
        · rcases ic h with ⟨hp29, h⟩ | ⟨hp29, h⟩
          · refine rg (cp (oFldP o27_0 tm) (s1 rfl) <| cr (oLdB (n := 0) (k := 0) rfl rfl rfl t3 tm) (s1 rfl) <| cp (oLt rfl tm (cI (by decide))) (s1 rfl) <| cp (oMv tm) (s1 rfl) <| cgB (decide_eq_false hp28) rfl rfl (oFldP o27_0 tm) (s1 rfl) <| crgB (decide_eq_false hp28) rfl rfl (oLdB (n := 0) (k := 0) rfl rfl rfl t3 tm) (s1 rfl) <| cgB (decide_eq_false hp28) rfl rfl (oGt rfl tm (cI (by decide))) (s1 rfl) <| cp (oPkF (decide_eq_false hp28) tm tm) (s2 rfl rfl) <| cp (oMv tm) (s1 rfl) <| csB (decide_eq_true hp29) rfl rfl <| csB (decide_eq_true hp29) rfl rfl <| csB (decide_eq_true hp29) rfl rfl <| csB (decide_eq_true hp29) rfl rfl <| csB (decide_eq_true hp29) rfl rfl <| cp (oPkT (decide_eq_true hp29) tm cB) (s1 rfl) <| .nil) (by kernel_rfl) ?_
            exact pJ1 _ (so h) ⟨rfl, rfl, rfl, rfl, rfl, trivial⟩ rfl
          · obtain ⟨y30, hy30, h⟩ := bd h
            refine rg (cp (oFldP o27_0 tm) (s1 rfl) <| cr (oLdB (n := 0) (k := 0) rfl rfl rfl t3 tm) (s1 rfl) <| cp (oLt rfl tm (cI (by decide))) (s1 rfl) <| cp (oMv tm) (s1 rfl) <| cgB (decide_eq_false hp28) rfl rfl (oFldP o27_0 tm) (s1 rfl) <| crgB (decide_eq_false hp28) rfl rfl (oLdB (n := 0) (k := 0) rfl rfl rfl t3 tm) (s1 rfl) <| cgB (decide_eq_false hp28) rfl rfl (oGt rfl tm (cI (by decide))) (s1 rfl) <| cp (oPkF (decide_eq_false hp28) tm tm) (s2 rfl rfl) <| cp (oMv tm) (s1 rfl) <| cgB (decide_eq_false hp29) rfl rfl (oLd t25 tm) (s1 rfl) <| cgB (decide_eq_false hp29) rfl rfl (oFldP o27_1 tm) (s1 rfl) <| crgB (decide_eq_false hp29) rfl rfl (oLdB (n := 0) (k := 1) rfl rfl rfl t3 tm) (s1 rfl) <| cgB (decide_eq_false hp29) rfl rfl (oCall rfl (reticentref09_label.ok hy30) b38 (opds_cons tm (opds_cons tm opds_nil))) (s2 rfl rfl) <| cgB (decide_eq_false hp29) rfl rfl (oNot tm) (s1 rfl) <| cp (oPkF (decide_eq_false hp29) tm tm) (s2 rfl rfl) <| .nil) (by kernel_rfl) ?_
            exact pJ1 _ (so h) ⟨rfl, rfl, rfl, rfl, rfl, trivial⟩ rfl
      · rintro x27 rfl
        replace h := hk2
        rcases ic h with ⟨hp31, h⟩ | ⟨hp31, h⟩
        · refine wBT hp31 tm (s1 rfl) ?_
          refine wSeq ?_
          refine rg (cp (oAs cB) trivial <| .nil) (by kernel_rfl) ?_
          refine pSeq ?_
          refine wRet ?_
          refine pBlkR ?_
          refine pThenR ?_
          refine pThenR ?_
          refine pBlkR ?_
          refine pThenR ?_
          obtain rfl := so h
          replace h := hk1
          refine pThenR ?_
          obtain rfl := so h
          exact pR1 (.inl rfl) rfl (.tmp rfl <| .nil)
        · refine wBF hp31 tm (s1 rfl) ?_
          refine wSkip ?_
          refine pBlkN ?_
          refine pSeq ?_
          refine rg (cp (oAdd tm (cI (by decide))) (s1 rfl) <| cp (oMv tm) (s1 rfl) <| .nil) (by kernel_rfl) ?_
          refine pDrop (.cons _ .slnil) ?_
          exact pLoop (lW (ih _ h) ⟨rfl, rfl, rfl, rfl, trivial⟩ rfl)
    · refine wCF hp22 tm (s1 rfl) ?_
      refine wExit ?_
      refine pThenX ?_
      refine pThenX ?_
      refine pBlkX ?_
      exact pJ0 (so h) trivial rfl
  · rintro rfl
    replace h := hk1
    refine pSeq ?_
    refine wSeq ?_
    refine rg (cp (oAs cB) trivial <| .nil) (by kernel_rfl) ?_
    refine pSeq ?_
    refine wRet ?_
    obtain rfl := so h
    exact pR1 (.inl rfl) rfl (.tmp rfl <| .nil)

theorem reticentref09_Stack.ok {a0 : api_Lattice} {a1 : List api_Slot} {r : Bool} (h : reticentref09_Stack.f a0 a1 = some r) : FnA Tryz.prog 40 [(kR f_api_Lattice).sig a0, (kL (kR f_api_Slot)).sig a1] (kB.sig r) := by
  refine fnIntro Tryz.func40 rfl (by kernel_rfl) fun H0 w0 => ?_
  unfold reticentref09_Stack.f at h
  refine wSeq ?_
  refine rg (cp (oBox tm) (s1 rfl) <| cp (oAs cB) trivial <| .nil) (by kernel_rfl) ?_
  refine pSeq ?_
  refine wSeq ?_
  refine wSeq ?_
  refine rg (cp (oMv tm) (s1 rfl) <| cp (oLenL u30 tm) (s1 rfl) <| cp (oMv (cI (by decide))) trivial <| .nil) (by kernel_rfl) ?_
  refine pSeq ?_
  obtain ⟨o1, h, hk1⟩ := bd h
  refine wK0 (.inr () = o1) ([(1, .d ((kL (kR f_api_Slot)).sig a1))]) ([]) ?_ ?_
  · refine wBlock (wLoop ?_)
    refine lW (pc1 o1 (fun v33 => [(1, .d ((kL (kR f_api_Slot)).sig a1)), (2, .d (sP (kR f_api_Lattice) a0)), (7, .d ((kL (kR f_api_Slot)).sig a1)), (8, .d ((kI .i64).sig (a1.length : Int))), (9, .d ((kI .i64).sig v33))]) (fun v33 => []) (reticentref09_Stack.l0.partial_correctness a0 a1) ?_ _ h) ⟨rfl, rfl, rfl, rfl, rfl, trivial⟩ rfl
    clear h
    intro f' ih v33 h
    refine wSeq ?_
    refine rg (cp (oLt rfl tm tm) (s2 rfl rfl) <| .nil) (by kernel_rfl) ?_
    refine pSeq ?_
    refine wSeq ?_
    rcases ic h with ⟨hp34, h⟩ | ⟨hp34, h⟩
    · refine wCT hp34 tm (s1 rfl) ?_
      refine wSkip ?_
      refine pSeq ?_
      refine wSeq ?_
      refine wBlock ?_
      refine wSeq ?_
      obtain ⟨y35, hy35, h⟩ := bd h
      refine rg (cp (oIdx u30 z51 hy35 tm tm) (s2 rfl rfl) <| cp (oLd t51 tm) (s1 rfl) <| cw (oAlloc (id := 6) (ls := [.d kB false, .d (kI .i64) 0, .d (kI .i64) 0]) ze51 (fun g => ⟨[(.bool false)], _, rfl, zB g.H, ⟨[(.int .i64 0)], _, rfl, zI_i64 g.H, ⟨[(.int .i64 0)], _, rfl, zI_i64 g.H, rfl⟩⟩⟩)) trivial <| cwn (oStA (n := 0) (fs := f_api_Slot) rfl rfl z51 tm tm) (s2 rfl rfl) <| .nil) (by kernel_rfl) ?_
      refine pSeq ?_
      obtain ⟨o2, h, hk2⟩ := bd h
      refine wJ1 (fun x42 => x42 = o2) (fun x42 => [(1, .d ((kL (kR f_api_Slot)).sig a1)), (2, .d (sP (kR f_api_Lattice) a0)), (7, .d ((kL (kR f_api_Slot)).sig a1)), (8, .d ((kI .i64).sig (a1.length : Int))), (9, .d ((kI .i64).sig v33)), (41, .d (kB.sig x42))]) (fun x42 => [.box 6 51 [.d kB y35.Ret, .d (kI .i64) y35.V, .d (kI .i64) y35.L]]) ?_ ?_
      · rcases ic h with ⟨hp43, h⟩ | ⟨hp43, h⟩
        · refine rg (cp (oFldP o51_1 tm) (s1 rfl) <| cr (oLdB (n := 0) (k := 1) rfl rfl rfl t3 tm) (s1 rfl) <| cp (oLt rfl tm (cI (by decide))) (s1 rfl) <| cp (oMv tm) (s1 rfl) <| csB (decide_eq_true hp43) rfl rfl <| csB (decide_eq_true hp43) rfl rfl <| csB (decide_eq_true hp43) rfl rfl <| cp (oPkT (decide_eq_true hp43) tm cB) (s1 rfl) <| cp (oMv tm) (s1 rfl) <| csB rfl rfl rfl <| csB rfl rfl rfl <| csB rfl rfl rfl <| csB rfl rfl rfl <| csB rfl rfl rfl <| cp (oPkT rfl tm cB) (s1 rfl) <| cp (oMv tm) (s1 rfl) <| csB rfl rfl rfl <| csB rfl rfl rfl <| csB rfl rfl rfl <| csU rfl rfl <| csU rfl rfl <| csU rfl rfl <| csU rfl rfl <| csU rfl rfl <| csU rfl rfl <| csU rfl rfl <| csU rfl rfl <| csB rfl rfl rfl <| cp (oPkT rfl tm cB) (s1 rfl) <| .nil) (by kernel_rfl) ?_
          exact pJ1 _ (so h) ⟨rfl, rfl, rfl, rfl, rfl, rfl, trivial⟩ rfl
        · rcases ic h with ⟨hp44, h⟩ | ⟨hp44, h⟩
          · refine rg (cp (oFldP o51_1 tm) (s1 rfl) <| cr (oLdB (n := 0) (k := 1) rfl rfl rfl t3 tm) (s1 rfl) <| cp (oLt rfl tm (cI (by decide))) (s1 rfl) <| cp (oMv tm) (s1 rfl) <| cgB (decide_eq_false hp43) rfl rfl (oFldP o51_1 tm) (s1 rfl) <| crgB (decide_eq_false hp43) rfl rfl (oLdB (n := 0) (k := 1) rfl rfl rfl t3 tm) (s1 rfl) <| cgB (decide_eq_false hp43) rfl rfl (oGt rfl tm (cI (by decide))) (s1 rfl) <| cp (oPkF (decide_eq_false hp43) tm tm) (s2 rfl rfl) <| cp (oMv tm) (s1 rfl) <| csB (decide_eq_true hp44) rfl rfl <| csB (decide_eq_true hp44) rfl rfl <| csB (decide_eq_true hp44) rfl rfl <| csB (decide_eq_true hp44) rfl rfl <| csB (decide_eq_true hp44) rfl rfl <| cp (oPkT (decide_eq_true hp44) tm cB) (s1 rfl) <| cp (oMv tm) (s1 rfl) <| csB rfl rfl rfl <| csB rfl rfl rfl <| csB rfl rfl rfl <| csU rfl rfl <| csU rfl rfl <| csU rfl rfl <| csU rfl rfl <| csU rfl rfl <| csU rfl rfl <| csU rfl rfl <| csU rfl rfl <| csB rfl rfl rfl <| cp (oPkT rfl tm cB) (s1 rfl) <| .nil) (by kernel_rfl) ?_
            exact pJ1 _ (so h) ⟨rfl, rfl, rfl, rfl, rfl, rfl, trivial⟩ rfl
          · obtain ⟨y45, hy45, h⟩ := bd h
            rcases ic h with ⟨hp46, h⟩ | ⟨hp46, h⟩
            · refine rg (cp (oFldP o51_1 tm) (s1 rfl) <| cr (oLdB (n := 0) (k := 1) rfl rfl rfl t3 tm) (s1 rfl) <| cp (oLt rfl tm (cI (by decide))) (s1 rfl) <| cp (oMv tm) (s1 rfl) <| cgB (decide_eq_false hp43) rfl rfl (oFldP o51_1 tm) (s1 rfl) <| crgB (decide_eq_false hp43) rfl rfl (oLdB (n := 0) (k := 1) rfl rfl rfl t3 tm) (s1 rfl) <| cgB (decide_eq_false hp43) rfl rfl (oGt rfl tm (cI (by decide))) (s1 rfl) <| cp (oPkF (decide_eq_false hp43) tm tm) (s2 rfl rfl) <| cp (oMv tm) (s1 rfl) <| cgB (decide_eq_false hp44) rfl rfl (oLd t25 tm) (s1 rfl) <| cgB (decide_eq_false hp44) rfl rfl (oFldP o51_2 tm) (s1 rfl) <| crgB (decide_eq_false hp44) rfl rfl (oLdB (n := 0) (k := 2) rfl rfl rfl t3 tm) (s1 rfl) <| cgB (decide_eq_false hp44) rfl rfl (oCall rfl (reticentref09_label.ok hy45) b38 (opds_cons tm (opds_cons tm opds_nil))) (s2 rfl rfl) <| cgB (decide_eq_false hp44) rfl rfl (oNot tm) (s1 rfl) <| cp (oPkF (decide_eq_false hp44) tm tm) (s2 rfl rfl) <| cp (oMv tm) (s1 rfl) <| csB hp46 rfl rfl <| csB hp46 rfl rfl <| csB hp46 rfl rfl <| csU rfl rfl <| csU rfl rfl <| csU rfl rfl <| csU rfl rfl <| csU rfl rfl <| csU rfl rfl <| csU rfl rfl <| csU rfl rfl <| csB hp46 rfl rfl <| cp (oPkT hp46 tm cB) (s1 rfl) <| .nil) (by kernel_rfl) ?_
              exact pJ1 _ (so h) ⟨rfl, rfl, rfl, rfl, rfl, rfl, trivial⟩ rfl
            · rcases ic h with ⟨hp47, h⟩ | ⟨hp47, h⟩
              · rcases ic h with ⟨hp48, h⟩ | ⟨hp48, h⟩
                · refine rg (cp (oFldP o51_1 tm) (s1 rfl) <| cr (oLdB (n := 0) (k := 1) rfl rfl rfl t3 tm) (s1 rfl) <| cp (oLt rfl tm (cI (by decide))) (s1 rfl) <| cp (oMv tm) (s1 rfl) <| cgB (decide_eq_false hp43) rfl rfl (oFldP o51_1 tm) (s1 rfl) <| crgB (decide_eq_false hp43) rfl rfl (oLdB (n := 0) (k := 1) rfl rfl rfl t3 tm) (s1 rfl) <| cgB (decide_eq_false hp43) rfl rfl (oGt rfl tm (cI (by decide))) (s1 rfl) <| cp (oPkF (decide_eq_false hp43) tm tm) (s2 rfl rfl) <| cp (oMv tm) (s1 rfl) <| cgB (decide_eq_false hp44) rfl rfl (oLd t25 tm) (s1 rfl) <| cgB (decide_eq_false hp44) rfl rfl (oFldP o51_2 tm) (s1 rfl) <| crgB (decide_eq_false hp44) rfl rfl (oLdB (n := 0) (k := 2) rfl rfl rfl t3 tm) (s1 rfl) <| cgB (decide_eq_false hp44) rfl rfl (oCall rfl (reticentref09_label.ok hy45) b38 (opds_cons tm (opds_cons tm opds_nil))) (s2 rfl rfl) <| cgB (decide_eq_false hp44) rfl rfl (oNot tm) (s1 rfl) <| cp (oPkF (decide_eq_false hp44) tm tm) (s2 rfl rfl) <| cp (oMv tm) (s1 rfl) <| cgB (nb hp46) rfl rfl (oFldP o51_0 tm) (s1 rfl) <| crgB (nb hp46) rfl rfl (oLdB (n := 0) (k := 0) rfl rfl rfl t4 tm) (s1 rfl) <| cgB (nb hp46) rfl rfl (oMv tm) (s1 rfl) <| cgB hp47 rfl rfl (oFldP o51_1 tm) (s1 rfl) <| crgB hp47 rfl rfl (oLdB (n := 0) (k := 1) rfl rfl rfl t3 tm) (s1 rfl) <| cgB hp47 rfl rfl (oLt rfl tm (cI (by decide))) (s1 rfl) <| cgB hp47 rfl rfl (oMv tm) (s1 rfl) <| csB (decide_eq_true hp48) rfl rfl <| csB (decide_eq_true hp48) rfl rfl <| csB (decide_eq_true hp48) rfl rfl <| cgB hp47 rfl rfl (oPkT (decide_eq_true hp48) tm cB) (s1 rfl) <| cgB (nb hp46) rfl rfl (oPkT hp47 tm tm) (s2 rfl rfl) <| cp (oPkF (nb hp46) tm tm) (s2 rfl rfl) <| .nil) (by kernel_rfl) ?_
                  exact pJ1 _ (so h) ⟨rfl, rfl, rfl, rfl, rfl, rfl, trivial⟩ rfl
                · refine rg (cp (oFldP o51_1 tm) (s1 rfl) <| cr (oLdB (n := 0) (k := 1) rfl rfl rfl t3 tm) (s1 rfl) <| cp (oLt rfl tm (cI (by decide))) (s1 rfl) <| cp (oMv tm) (s1 rfl) <| cgB (decide_eq_false hp43) rfl rfl (oFldP o51_1 tm) (s1 rfl) <| crgB (decide_eq_false hp43) rfl rfl (oLdB (n := 0) (k := 1) rfl rfl rfl t3 tm) (s1 rfl) <| cgB (decide_eq_false hp43) rfl rfl (oGt rfl tm (cI (by decide))) (s1 rfl) <| cp (oPkF (decide_eq_false hp43) tm tm) (s2 rfl rfl) <| cp (oMv tm) (s1 rfl) <| cgB (decide_eq_false hp44) rfl rfl (oLd t25 tm) (s1 rfl) <| cgB (decide_eq_false hp44) rfl rfl (oFldP o51_2 tm) (s1 rfl) <| crgB (decide_eq_false hp44) rfl rfl (oLdB (n := 0) (k := 2) rfl rfl rfl t3 tm) (s1 rfl) <| cgB (decide_eq_false hp44) rfl rfl (oCall rfl (reticentref09_label.ok hy45) b38 (opds_cons tm (opds_cons tm opds_nil))) (s2 rfl rfl) <| cgB (decide_eq_false hp44) rfl rfl (oNot tm) (s1 rfl) <| cp (oPkF (decide_eq_false hp44) tm tm) (s2 rfl rfl) <| cp (oMv tm) (s1 rfl) <| cgB (nb hp46) rfl rfl (oFldP o51_0 tm) (s1 rfl) <| crgB (nb hp46) rfl rfl (oLdB (n := 0) (k := 0) rfl rfl rfl t4 tm) (s1 rfl) <| cgB (nb hp46) rfl rfl (oMv tm) (s1 rfl) <| cgB hp47 rfl rfl (oFldP o51_1 tm) (s1 rfl) <| crgB hp47 rfl rfl (oLdB (n := 0) (k := 1) rfl rfl rfl t3 tm) (s1 rfl) <| cgB hp47 rfl rfl (oLt rfl tm (cI (by decide))) (s1 rfl) <| cgB hp47 rfl rfl (oMv tm) (s1 rfl) <| cgB (decide_eq_false hp48) rfl rfl (oFldP o51_1 tm) (s1 rfl) <| crgB (decide_eq_false hp48) rfl rfl (oLdB (n := 0) (k := 1) rfl rfl rfl t3 tm) (s1 rfl) <| cgB (decide_eq_false hp48) rfl rfl (oGt rfl tm (cI (by decide))) (s1 rfl) <| cgB hp47 rfl rfl (oPkF (decide_eq_false hp48) tm tm) (s2 rfl rfl) <| cgB (nb hp46) rfl rfl (oPkT hp47 tm tm) (s2 rfl rfl) <| cp (oPkF (nb hp46) tm tm) (s2 rfl rfl) <| .nil) (by kernel_rfl) ?_
                  exact pJ1 _ (so h) ⟨rfl, rfl, rfl, rfl, rfl, rfl, trivial⟩ rfl
              · refine rg (cp (oFldP o51_1 tm) (s1 rfl) <| cr (oLdB (n := 0) (k := 1) rfl rfl rfl t3 tm) (s1 rfl) <| cp (oLt rfl tm (cI (by decide))) (s1 rfl) <| cp (oMv tm) (s1 rfl) <| cgB (decide_eq_false hp43) rfl rfl (oFldP o51_1 tm) (s1 rfl) <| crgB (decide_eq_false hp43) rfl rfl (oLdB (n := 0) (k := 1) rfl rfl rfl t3 tm) (s1 rfl) <| cgB (decide_eq_false hp43) rfl rfl (oGt rfl tm (cI (by decide))) (s1 rfl) <| cp (oPkF (decide_eq_false hp43) tm tm) (s2 rfl rfl) <| cp (oMv tm) (s1 rfl) <| cgB (decide_eq_false hp44) rfl rfl (oLd t25 tm) (s1 rfl) <| cgB (decide_eq_false hp44) rfl rfl (oFldP o51_2 tm) (s1 rfl) <| crgB (decide_eq_false hp44) rfl rfl (oLdB (n := 0) (k := 2) rfl rfl rfl t3 tm) (s1 rfl) <| cgB (decide_eq_false hp44) rfl rfl (oCall rfl (reticentref09_label.ok hy45) b38 (opds_cons tm (opds_cons tm opds_nil))) (s2 rfl rfl) <| cgB (decide_eq_false hp44) rfl rfl (oNot tm) (s1 rfl) <| cp (oPkF (decide_eq_false hp44) tm tm) (s2 rfl rfl) <| cp (oMv tm) (s1 rfl) <| cgB (nb hp46) rfl rfl (oFldP o51_0 tm) (s1 rfl) <| crgB (nb hp46) rfl rfl (oLdB (n := 0) (k := 0) rfl rfl rfl t4 tm) (s1 rfl) <| cgB (nb hp46) rfl rfl (oMv tm) (s1 rfl) <| csB (nb hp47) rfl rfl <| csB (nb hp47) rfl rfl <| csB (nb hp47) rfl rfl <| csB (nb hp47) rfl rfl <| csU rfl rfl <| csU rfl rfl <| csU rfl rfl <| csB (nb hp47) rfl rfl <| cgB (nb hp46) rfl rfl (oPkF (nb hp47) tm cB) (s1 rfl) <| cp (oPkF (nb hp46) tm tm) (s2 rfl rfl) <| .nil) (by kernel_rfl) ?_
                exact pJ1 _ (so h) ⟨rfl, rfl, rfl, rfl, rfl, rfl, trivial⟩ rfl
      · rintro x42 rfl
        replace h := hk2
        rcases ic h with ⟨hp49, h⟩ | ⟨hp49, h⟩
        · refine wBT hp49 tm (s1 rfl) ?_
          refine wSeq ?_
          refine rg (cp (oAs cB) trivial <| .nil) (by kernel_rfl) ?_
          refine pSeq ?_
          refine wRet ?_
          refine pBlkR ?_
          refine pThenR ?_
          refine pThenR ?_
          refine pBlkR ?_
          refine pThenR ?_
          obtain rfl := so h
          replace h := hk1
          refine pThenR ?_
          obtain rfl := so h
          exact pR1 (.inl rfl) rfl (.tmp rfl <| .nil)
        · refine wBF hp49 tm (s1 rfl) ?_
          refine wSkip ?_
          refine pBlkN ?_
          refine pSeq ?_
          refine rg (cp (oAdd tm (cI (by decide))) (s1 rfl) <| cp (oMv tm) (s1 rfl) <| .nil) (by kernel_rfl) ?_
          refine pDrop (.cons _ .slnil) ?_
          exact pLoop (lW (ih _ h) ⟨rfl, rfl, rfl, rfl, rfl, trivial⟩ rfl)
    · refine wCF hp34 tm (s1 rfl) ?_
      refine wExit ?_
      refine pThenX ?_
      refine pThenX ?_
      refine pBlkX ?_
      exact pJ0 (so h) ⟨rfl, trivial⟩ rfl
  · rintro rfl
    replace h := hk1
    refine pSeq ?_
    refine wSeq ?_
    refine rg (cp (oMv tm) (s1 rfl) <| cp (oLenL u30 tm) (s1 rfl) <| cp (oLe rfl tm (cI (by decide))) (s1 rfl) <| cp (oAs tm) (s1 rfl) <| .nil) (by kernel_rfl) ?_
    refine pSeq ?_
    refine wRet ?_
    obtain rfl := so h
    exact pR1 (.inl rfl) rfl (.tmp rfl <| .nil)

theorem reticentref09_Right.ok {a0 : api_Lattice} {a1 : api_State} {r : Bool} (h : reticentref09_Right.f a0 a1 = some r) : FnA Tryz.prog 13 [(kR f_api_Lattice).sig a0, (kR f_api_State).sig a1] (kB.sig r) := by
  refine fnIntro Tryz.func13 rfl (by kernel_rfl) fun H0 w0 => ?_
  unfold reticentref09_Right.f at h
  refine wSeq ?_
  refine rg (cp (oBox tm) (s1 rfl) <| cp (oBox tm) (s1 rfl) <| cp (oAs cB) trivial <| .nil) (by kernel_rfl) ?_
  refine pSeq ?_
  refine wSeq ?_
  obtain ⟨o1, h, hk1⟩ := bd h
  refine wJ1 (fun x6 => x6 = o1) (fun x6 => [(2, .d (sP (kR f_api_Lattice) a0)), (3, .d (sP (kR f_api_State) a1)), (29, .d (kB.sig x6))]) (fun x6 => []) ?_ ?_
  · obtain ⟨y7, hy7, h⟩ := bd h
    rcases ic h with ⟨hp8, h⟩ | ⟨hp8, h⟩
    · refine rg (cp (oLd t25 tm) (s1 rfl) <| cp (oFld (fs := f_api_State) (k := 1) rfl o32_1 tm) (s1 rfl) <| cp (oLd t28 tm) (s1 rfl) <| cp (oCall rfl (reticentref08_Right.ok hy7) b37 (opds_cons tm (opds_cons tm opds_nil))) (s2 rfl rfl) <| cp (oNot tm) (s1 rfl) <| cp (oMv tm) (s1 rfl) <| csB hp8 rfl rfl <| csB hp8 rfl rfl <| csB hp8 rfl rfl <| csB hp8 rfl rfl <| cp (oPkT hp8 tm cB) (s1 rfl) <| cp (oMv tm) (s1 rfl) <| csB rfl rfl rfl <| csB rfl rfl rfl <| csB rfl rfl rfl <| csB rfl rfl rfl <| cp (oPkT rfl tm cB) (s1 rfl) <| cp (oMv tm) (s1 rfl) <| csB rfl rfl rfl <| csB rfl rfl rfl <| csB rfl rfl rfl <| csB rfl rfl rfl <| csB rfl rfl rfl <| csB rfl rfl rfl <| cp (oPkT rfl tm cB) (s1 rfl) <| .nil) (by kernel_rfl) ?_
      exact pJ1 _ (so h) ⟨rfl, rfl, rfl, trivial⟩ rfl
    · rcases ic h with ⟨hp9, h⟩ | ⟨hp9, h⟩
      · refine rg (cp (oLd t25 tm) (s1 rfl) <| cp (oFld (fs := f_api_State) (k := 1) rfl o32_1 tm) (s1 rfl) <| cp (oLd t28 tm) (s1 rfl) <| cp (oCall rfl (reticentref08_Right.ok hy7) b37 (opds_cons tm (opds_cons tm opds_nil))) (s2 rfl rfl) <| cp (oNot tm) (s1 rfl) <| cp (oMv tm) (s1 rfl) <| cgB (nb hp8) rfl rfl (oFld (fs := f_api_State) (k := 0) rfl o32_0 tm) (s1 rfl) <| cgB (nb hp8) rfl rfl (oFld (fs := f_api_Atom) (k := 0) rfl o27_0 tm) (s1 rfl) <| cgB (nb hp8) rfl rfl (oLd t3 tm) (s1 rfl) <| cgB (nb hp8) rfl rfl (oLt rfl tm (cI (by decide))) (s1 rfl) <| cp (oPkF (nb hp8) tm tm) (s2 rfl rfl) <| cp (oMv tm) (s1 rfl) <| csB (decide_eq_true hp9) rfl rfl <| csB (decide_eq_true hp9) rfl rfl <| csB (decide_eq_true hp9) rfl rfl <| csB (decide_eq_true hp9) rfl rfl <| cp (oPkT (decide_eq_true hp9) tm cB) (s1 rfl) <| cp (oMv tm) (s1 rfl) <| csB rfl rfl rfl <| csB rfl rfl rfl <| csB rfl rfl rfl <| csB rfl rfl rfl <| csB rfl rfl rfl <| csB rfl rfl rfl <| cp (oPkT rfl tm cB) (s1 rfl) <| .nil) (by kernel_rfl) ?_
        exact pJ1 _ (so h) ⟨rfl, rfl, rfl, trivial⟩ rfl
      · rcases ic h with ⟨hp10, h⟩ | ⟨hp10, h⟩
        · refine rg (cp (oLd t25 tm) (s1 rfl) <| cp (oFld (fs := f_api_State) (k := 1) rfl o32_1 tm) (s1 rfl) <| cp (oLd t28 tm) (s1 rfl) <| cp (oCall rfl (reticentref08_Right.ok hy7) b37 (opds_cons tm (opds_cons tm opds_nil))) (s2 rfl rfl) <| cp (oNot tm) (s1 rfl) <| cp (oMv tm) (s1 rfl) <| cgB (nb hp8) rfl rfl (oFld (fs := f_api_State) (k := 0) rfl o32_0 tm) (s1 rfl) <| cgB (nb hp8) rfl rfl (oFld (fs := f_api_Atom) (k := 0) rfl o27_0 tm) (s1 rfl) <| cgB (nb hp8) rfl rfl (oLd t3 tm) (s1 rfl) <| cgB (nb hp8) rfl rfl (oLt rfl tm (cI (by decide))) (s1 rfl) <| cp (oPkF (nb hp8) tm tm) (s2 rfl rfl) <| cp (oMv tm) (s1 rfl) <| cgB (decide_eq_false hp9) rfl rfl (oFld (fs := f_api_State) (k := 0) rfl o32_0 tm) (s1 rfl) <| cgB (decide_eq_false hp9) rfl rfl (oFld (fs := f_api_Atom) (k := 0) rfl o27_0 tm) (s1 rfl) <| cgB (decide_eq_false hp9) rfl rfl (oLd t3 tm) (s1 rfl) <| cgB (decide_eq_false hp9) rfl rfl (oGt rfl tm (cI (by decide))) (s1 rfl) <| cp (oPkF (decide_eq_false hp9) tm tm) (s2 rfl rfl) <| cp (oMv tm) (s1 rfl) <| csB (decide_eq_true hp10) rfl rfl <| csB (decide_eq_true hp10) rfl rfl <| csB (decide_eq_true hp10) rfl rfl <| csB (decide_eq_true hp10) rfl rfl <| csB (decide_eq_true hp10) rfl rfl <| csB (decide_eq_true hp10) rfl rfl <| cp (oPkT (decide_eq_true hp10) tm cB) (s1 rfl) <| .nil) (by kernel_rfl) ?_
          exact pJ1 _ (so h) ⟨rfl, rfl, rfl, trivial⟩ rfl
        · obtain ⟨y11, hy11, h⟩ := bd h
          refine rg (cp (oLd t25 tm) (s1 rfl) <| cp (oFld (fs := f_api_State) (k := 1) rfl o32_1 tm) (s1 rfl) <| cp (oLd t28 tm) (s1 rfl) <| cp (oCall rfl (reticentref08_Right.ok hy7) b37 (opds_cons tm (opds_cons tm opds_nil))) (s2 rfl rfl) <| cp (oNot tm) (s1 rfl) <| cp (oMv tm) (s1 rfl) <| cgB (nb hp8) rfl rfl (oFld (fs := f_api_State) (k := 0) rfl o32_0 tm) (s1 rfl) <| cgB (nb hp8) rfl rfl (oFld (fs := f_api_Atom) (k := 0) rfl o27_0 tm) (s1 rfl) <| cgB (nb hp8) rfl rfl (oLd t3 tm) (s1 rfl) <| cgB (nb hp8) rfl rfl (oLt rfl tm (cI (by decide))) (s1 rfl) <| cp (oPkF (nb hp8) tm tm) (s2 rfl rfl) <| cp (oMv tm) (s1 rfl) <| cgB (decide_eq_false hp9) rfl rfl (oFld (fs := f_api_State) (k := 0) rfl o32_0 tm) (s1 rfl) <| cgB (decide_eq_false hp9) rfl rfl (oFld (fs := f_api_Atom) (k := 0) rfl o27_0 tm) (s1 rfl) <| cgB (decide_eq_false hp9) rfl rfl (oLd t3 tm) (s1 rfl) <| cgB (decide_eq_false hp9) rfl rfl (oGt rfl tm (cI (by decide))) (s1 rfl) <| cp (oPkF (decide_eq_false hp9) tm tm) (s2 rfl rfl) <| cp (oMv tm) (s1 rfl) <| cgB (decide_eq_false hp10) rfl rfl (oLd t25 tm) (s1 rfl) <| cgB (decide_eq_false hp10) rfl rfl (oFld (fs := f_api_State) (k := 0) rfl o32_0 tm) (s1 rfl) <| cgB (decide_eq_false hp10) rfl rfl (oFld (fs := f_api_Atom) (k := 1) rfl o27_1 tm) (s1 rfl) <| cgB (decide_eq_false hp10) rfl rfl (oLd t3 tm) (s1 rfl) <| cgB (decide_eq_false hp10) rfl rfl (oCall rfl (reticentref09_label.ok hy11) b38 (opds_cons tm (opds_cons tm opds_nil))) (s2 rfl rfl) <| cgB (decide_eq_false hp10) rfl rfl (oNot tm) (s1 rfl) <| cp (oPkF (decide_eq_false hp10) tm tm) (s2 rfl rfl) <| .nil) (by kernel_rfl) ?_
          exact pJ1 _ (so h) ⟨rfl, rfl, rfl, trivial⟩ rfl
  · rintro x6 rfl
    replace h := hk1
    rcases ic h with ⟨hp12, h⟩ | ⟨hp12, h⟩
    · refine wBT hp12 tm (s1 rfl) ?_
      refine wSeq ?_
      refine rg (cp (oAs cB) trivial <| .nil) (by kernel_rfl) ?_
      refine pSeq ?_
      refine wRet ?_
      refine pThenR ?_
      obtain rfl := so h
      exact pR1 (.inl rfl) rfl (.tmp rfl <| .nil)
    · refine wBF hp12 tm (s1 rfl) ?_
      refine wSkip ?_
      refine pSeq ?_
      obtain ⟨o1, h, hk1⟩ := bd h
      refine wJ1 (fun x20 => x20 = o1) (fun x20 => [(4, .d (kB.sig x20))]) (fun x20 => []) ?_ ?_
      · obtain ⟨y21, hy21, h⟩ := bd h
        rcases ic h with ⟨hp22, h⟩ | ⟨hp22, h⟩
        · rcases ic h with ⟨hp23, h⟩ | ⟨hp23, h⟩
          · obtain ⟨y24, hy24, h⟩ := bd h
            rcases ic h with ⟨hp25, h⟩ | ⟨hp25, h⟩
            · obtain ⟨y26, hy26, h⟩ := bd h
              rcases ic h with ⟨hp27, h⟩ | ⟨hp27, h⟩
              · refine rg (cp (oLd t25 tm) (s1 rfl) <| cp (oFld (fs := f_api_State) (k := 2) rfl o32_2 tm) (s1 rfl) <| cp (oLd t29 tm) (s1 rfl) <| cp (oCall rfl (reticentref09_Atoms.ok hy21) b39 (opds_cons tm (opds_cons tm opds_nil))) (s2 rfl rfl) <| cp (oMv tm) (s1 rfl) <| cgB hp22 rfl rfl (oFld (fs := f_api_State) (k := 2) rfl o32_2 tm) (s1 rfl) <| cgB hp22 rfl rfl (oLd t29 tm) (s1 rfl) <| cgB hp22 rfl rfl (oLenL u29 tm) (s1 rfl) <| cgB hp22 rfl rfl (oLe rfl tm (cI (by decide))) (s1 rfl) <| cp (oPkT hp22 tm tm) (s2 rfl rfl) <| cp (oMv tm) (s1 rfl) <| cgB (decide_eq_true hp23) rfl rfl (oLd t25 tm) (s1 rfl) <| cgB (decide_eq_true hp23) rfl rfl (oFld (fs := f_api_State) (k := 3) rfl o32_3 tm) (s1 rfl) <| cgB (decide_eq_true hp23) rfl rfl (oLd t30 tm) (s1 rfl) <| cgB (decide_eq_true hp23) rfl rfl (oCall rfl (reticentref09_Stack.ok hy24) b40 (opds_cons tm (opds_cons tm opds_nil))) (s2 rfl rfl) <| cp (oPkT (decide_eq_true hp23) tm tm) (s2 rfl rfl) <| cp (oMv tm) (s1 rfl) <| cgB hp25 rfl rfl (oLd t25 tm) (s1 rfl) <| cgB hp25 rfl rfl (oFld (fs := f_api_State) (k := 4) rfl o32_4 tm) (s1 rfl) <| cgB hp25 rfl rfl (oLd t29 tm) (s1 rfl) <| cgB hp25 rfl rfl (oCall rfl (reticentref09_Atoms.ok hy26) b39 (opds_cons tm (opds_cons tm opds_nil))) (s2 rfl rfl) <| cp (oPkT hp25 tm tm) (s2 rfl rfl) <| cp (oMv tm) (s1 rfl) <| cgB hp27 rfl rfl (oFld (fs := f_api_State) (k := 4) rfl o32_4 tm) (s1 rfl) <| cgB hp27 rfl rfl (oLd t29 tm) (s1 rfl) <| cgB hp27 rfl rfl (oLenL u29 tm) (s1 rfl) <| cgB hp27 rfl rfl (oLe rfl tm (cI (by decide))) (s1 rfl) <| cp (oPkT hp27 tm tm) (s2 rfl rfl) <| cp (oAs tm) (s1 rfl) <| .nil) (by kernel_rfl) ?_
                exact pJ1 _ (so h) ⟨rfl, trivial⟩ rfl
              · refine rg (cp (oLd t25 tm) (s1 rfl) <| cp (oFld (fs := f_api_State) (k := 2) rfl o32_2 tm) (s1 rfl) <| cp (oLd t29 tm) (s1 rfl) <| cp (oCall rfl (reticentref09_Atoms.ok hy21) b39 (opds_cons tm (opds_cons tm opds_nil))) (s2 rfl rfl) <| cp (oMv tm) (s1 rfl) <| cgB hp22 rfl rfl (oFld (fs := f_api_State) (k := 2) rfl o32_2 tm) (s1 rfl) <| cgB hp22 rfl rfl (oLd t29 tm) (s1 rfl) <| cgB hp22 rfl rfl (oLenL u29 tm) (s1 rfl) <| cgB hp22 rfl rfl (oLe rfl tm (cI (by decide))) (s1 rfl) <| cp (oPkT hp22 tm tm) (s2 rfl rfl) <| cp (oMv tm) (s1 rfl) <| cgB (decide_eq_true hp23) rfl rfl (oLd t25 tm) (s1 rfl) <| cgB (decide_eq_true hp23) rfl rfl (oFld (fs := f_api_State) (k := 3) rfl o32_3 tm) (s1 rfl) <| cgB (decide_eq_true hp23) rfl rfl (oLd t30 tm) (s1 rfl) <| cgB (decide_eq_true hp23) rfl rfl (oCall rfl (reticentref09_Stack.ok hy24) b40 (opds_cons tm (opds_cons tm opds_nil))) (s2 rfl rfl) <| cp (oPkT (decide_eq_true hp23) tm tm) (s2 rfl rfl) <| cp (oMv tm) (s1 rfl) <| cgB hp25 rfl rfl (oLd t25 tm) (s1 rfl) <| cgB hp25 rfl rfl (oFld (fs := f_api_State) (k := 4) rfl o32_4 tm) (s1 rfl) <| cgB hp25 rfl rfl (oLd t29 tm) (s1 rfl) <| cgB hp25 rfl rfl (oCall rfl (reticentref09_Atoms.ok hy26) b39 (opds_cons tm (opds_cons tm opds_nil))) (s2 rfl rfl) <| cp (oPkT hp25 tm tm) (s2 rfl rfl) <| cp (oMv tm) (s1 rfl) <| csB (nb hp27) rfl rfl <| csB (nb hp27) rfl rfl <| csB (nb hp27) rfl rfl <| csB (nb hp27) rfl rfl <| cp (oPkF (nb hp27) tm cB) (s1 rfl) <| cp (oAs tm) (s1 rfl) <| .nil) (by kernel_rfl) ?_
                exact pJ1 _ (so h) ⟨rfl, trivial⟩ rfl
            · refine rg (cp (oLd t25 tm) (s1 rfl) <| cp (oFld (fs := f_api_State) (k := 2) rfl o32_2 tm) (s1 rfl) <| cp (oLd t29 tm) (s1 rfl) <| cp (oCall rfl (reticentref09_Atoms.ok hy21) b39 (opds_cons tm (opds_cons tm opds_nil))) (s2 rfl rfl) <| cp (oMv tm) (s1 rfl) <| cgB hp22 rfl rfl (oFld (fs := f_api_State) (k := 2) rfl o32_2 tm) (s1 rfl) <| cgB hp22 rfl rfl (oLd t29 tm) (s1 rfl) <| cgB hp22 rfl rfl (oLenL u29 tm) (s1 rfl) <| cgB hp22 rfl rfl (oLe rfl tm (cI (by decide))) (s1 rfl) <| cp (oPkT hp22 tm tm) (s2 rfl rfl) <| cp (oMv tm) (s1 rfl) <| cgB (decide_eq_true hp23) rfl rfl (oLd t25 tm) (s1 rfl) <| cgB (decide_eq_true hp23) rfl rfl (oFld (fs := f_api_State) (k := 3) rfl o32_3 tm) (s1 rfl) <| cgB (decide_eq_true hp23) rfl rfl (oLd t30 tm) (s1 rfl) <| cgB (decide_eq_true hp23) rfl rfl (oCall rfl (reticentref09_Stack.ok hy24) b40 (opds_cons tm (opds_cons tm opds_nil))) (s2 rfl rfl) <| cp (oPkT (decide_eq_true hp23) tm tm) (s2 rfl rfl) <| cp (oMv tm) (s1 rfl) <| csB (nb hp25) rfl rfl <| csB (nb hp25) rfl rfl <| csB (nb hp25) rfl rfl <| csB (nb hp25) rfl rfl <| cp (oPkF (nb hp25) tm cB) (s1 rfl) <| cp (oMv tm) (s1 rfl) <| csB rfl rfl rfl <| csB rfl rfl rfl <| csB rfl rfl rfl <| csB rfl rfl rfl <| cp (oPkF rfl tm cB) (s1 rfl) <| cp (oAs tm) (s1 rfl) <| .nil) (by kernel_rfl) ?_
              exact pJ1 _ (so h) ⟨rfl, trivial⟩ rfl
          · refine rg (cp (oLd t25 tm) (s1 rfl) <| cp (oFld (fs := f_api_State) (k := 2) rfl o32_2 tm) (s1 rfl) <| cp (oLd t29 tm) (s1 rfl) <| cp (oCall rfl (reticentref09_Atoms.ok hy21) b39 (opds_cons tm (opds_cons tm opds_nil))) (s2 rfl rfl) <| cp (oMv tm) (s1 rfl) <| cgB hp22 rfl rfl (oFld (fs := f_api_State) (k := 2) rfl o32_2 tm) (s1 rfl) <| cgB hp22 rfl rfl (oLd t29 tm) (s1 rfl) <| cgB hp22 rfl rfl (oLenL u29 tm) (s1 rfl) <| cgB hp22 rfl rfl (oLe rfl tm (cI (by decide))) (s1 rfl) <| cp (oPkT hp22 tm tm) (s2 rfl rfl) <| cp (oMv tm) (s1 rfl) <| csB (decide_eq_false hp23) rfl rfl <| csB (decide_eq_false hp23) rfl rfl <| csB (decide_eq_false hp23) rfl rfl <| csB (decide_eq_false hp23) rfl rfl <| cp (oPkF (decide_eq_false hp23) tm cB) (s1 rfl) <| cp (oMv tm) (s1 rfl) <| csB rfl rfl rfl <| csB rfl rfl rfl <| csB rfl rfl rfl <| csB rfl rfl rfl <| cp (oPkF rfl tm cB) (s1 rfl) <| cp (oMv tm) (s1 rfl) <| csB rfl rfl rfl <| csB rfl rfl rfl <| csB rfl rfl rfl <| csB rfl rfl rfl <| cp (oPkF rfl tm cB) (s1 rfl) <| cp (oAs tm) (s1 rfl) <| .nil) (by kernel_rfl) ?_
            exact pJ1 _ (so h) ⟨rfl, trivial⟩ rfl
        · refine rg (cp (oLd t25 tm) (s1 rfl) <| cp (oFld (fs := f_api_State) (k := 2) rfl o32_2 tm) (s1 rfl) <| cp (oLd t29 tm) (s1 rfl) <| cp (oCall rfl (reticentref09_Atoms.ok hy21) b39 (opds_cons tm (opds_cons tm opds_nil))) (s2 rfl rfl) <| cp (oMv tm) (s1 rfl) <| csB (nb hp22) rfl rfl <| csB (nb hp22) rfl rfl <| csB (nb hp22) rfl rfl <| csB (nb hp22) rfl rfl <| cp (oPkF (nb hp22) tm cB) (s1 rfl) <| cp (oMv tm) (s1 rfl) <| csB rfl rfl rfl <| csB rfl rfl rfl <| csB rfl rfl rfl <| csB rfl rfl rfl <| cp (oPkF rfl tm cB) (s1 rfl) <| cp (oMv tm) (s1 rfl) <| csB rfl rfl rfl <| csB rfl rfl rfl <| csB rfl rfl rfl <| csB rfl rfl rfl <| cp (oPkF rfl tm cB) (s1 rfl) <| cp (oMv tm) (s1 rfl) <| csB rfl rfl rfl <| csB rfl rfl rfl <| csB rfl rfl rfl <| csB rfl rfl rfl <| cp (oPkF rfl tm cB) (s1 rfl) <| cp (oAs tm) (s1 rfl) <| .nil) (by kernel_rfl) ?_
          exact pJ1 _ (so h) ⟨rfl, trivial⟩ rfl
      · rintro x20 rfl
        replace h := hk1
        refine wRet ?_
        obtain rfl := so h
        exact pR1 (.inl rfl) rfl (.tmp rfl <| .nil)

theorem slices_Equal_api_Instr_api_Instr.ok {a0 : List api_Instr} {a1 : List api_Instr} {r : Bool} (h : slices_Equal_api_Instr_api_Instr.f a0 a1 = some r) : FnA Tryz.prog 73 [(kL (kR f_api_Instr)).sig a0, (kL (kR f_api_Instr)).sig a1] (kB.sig r) := by
  refine fnIntro Tryz.func73 rfl (by kernel_rfl) fun H0 w0 => ?_
  unfold slices_Equal_api_Instr_api_Instr.f at h
  refine wSeq ?_
  refine rg (cp (oAs cB) trivial <| .nil) (by kernel_rfl) ?_
  refine pSeq ?_
  refine wSeq ?_
  refine wSeq ?_
  refine rg (cp (oMv tm) (s1 rfl) <| cp (oLenL u28 tm) (s1 rfl) <| cp (oMv tm) (s1 rfl) <| cp (oLenL u28 tm) (s1 rfl) <| cp (oNe rfl tm tm) (s2 rfl rfl) <| .nil) (by kernel_rfl) ?_
  refine pSeq ?_
  rcases ic h with ⟨hp1, h⟩ | ⟨hp1, h⟩
  · refine wNT hp1 tm (s1 rfl) ?_
    refine wSkip ?_
    refine pSeq ?_
    refine wSeq ?_
    refine wSeq ?_
    refine rg (cp (oMv tm) (s1 rfl) <| cp (oLenL u28 tm) (s1 rfl) <| cp (oMv (cI (by decide))) trivial <| .nil) (by kernel_rfl) ?_
    refine pSeq ?_
    obtain ⟨o1, h, hk1⟩ := bd h
    refine wK0 (.inr () = o1) ([]) ([]) ?_ ?_
    · refine wBlock (wLoop ?_)
      refine lW (pc1 o1 (fun v10 => [(0, .d ((kL (kR f_api_Instr)).sig a0)), (1, .d ((kL (kR f_api_Instr)).sig a1)), (12, .d ((kI .i64).sig (a0.length : Int))), (13, .d ((kI .i64).sig v10))]) (fun v10 => []) (slices_Equal_api_Instr_api_Instr.l0.partial_correctness a0 a1) ?_ _ h) ⟨rfl, rfl, rfl, rfl, trivial⟩ rfl
      clear h
      intro f' ih v10 h
      refine wSeq ?_
      refine rg (cp (oLt rfl tm tm) (s2 rfl rfl) <| .nil) (by kernel_rfl) ?_
      refine pSeq ?_
      refine wSeq ?_
      rcases ic h with ⟨hp11, h⟩ | ⟨hp11, h⟩
      · refine wCT hp11 tm (s1 rfl) ?_
        refine wSkip ?_
        refine pSeq ?_
        refine wSeq ?_
        refine wBlock ?_
        refine wSeq ?_
        refine rg (cp (oMv tm) (s1 rfl) <| cp (oAs tm) (s1 rfl) <| .nil) (by kernel_rfl) ?_
        refine pSeq ?_
        refine wSeq ?_
        obtain ⟨y12, hy12, h⟩ := bd h
        obtain ⟨y13, hy13, h⟩ := bd h
        refine rgD hm (cp (oMv tm) (s1 rfl) <| cp (oMv tm) (s1 rfl) <| cp (oIdx u28 z81 hy12 tm tm) (s2 rfl rfl) <| cp (oLd t81 tm) (s1 rfl) <| cp (oMv tm) (s1 rfl) <| cp (oMv tm) (s1 rfl) <| cp (oIdx u28 z81 hy13 tm tm) (s2 rfl rfl) <| cp (oLd t81 tm) (s1 rfl) <| cp (oRNe eqk81 rfl eg81 rfl tm tm) (s2 rfl rfl) <| .nil) (by kernel_rfl) (by kernel_rfl) ?_
        refine pSeq ?_
        rcases ic h with ⟨hp14, h⟩ | ⟨hp14, h⟩
        · refine wNT hp14 tm (s1 rfl) ?_
          refine wSkip ?_
          refine pBlkN ?_
          refine pSeq ?_
          refine rg (cp (oAdd tm (cI (by decide))) (s1 rfl) <| cp (oMv tm) (s1 rfl) <| .nil) (by kernel_rfl) ?_
          exact pLoop (lW (ih _ h) ⟨rfl, rfl, rfl, rfl, trivial⟩ rfl)
        · refine wNF hp14 tm (s1 rfl) ?_
          refine wSeq ?_
          refine rg (cp (oAs cB) trivial <| .nil) (by kernel_rfl) ?_
          refine pSeq ?_
          refine wRet ?_
          refine pBlkR ?_
          refine pThenR ?_
          refine pThenR ?_
          refine pBlkR ?_
          refine pThenR ?_
          obtain rfl := so h
          replace h := hk1
          refine pThenR ?_
          obtain rfl := so h
          exact pR1 (.inl rfl) rfl (.tmp rfl <| .nil)
      · refine wCF hp11 tm (s1 rfl) ?_
        refine wExit ?_
        refine pThenX ?_
        refine pThenX ?_
        refine pBlkX ?_
        exact pJ0 (so h) trivial rfl
    · rintro rfl
      replace h := hk1
      refine pSeq ?_
      refine wSeq ?_
      refine rg (cp (oAs cB) trivial <| .nil) (by kernel_rfl) ?_
      refine pSeq ?_
      refine wRet ?_
      obtain rfl := so h
      exact pR1 (.inl rfl) rfl (.tmp rfl <| .nil)
  · refine wNF hp1 tm (s1 rfl) ?_
    refine wSeq ?_
    refine rg (cp (oAs cB) trivial <| .nil) (by kernel_rfl) ?_
    refine pSeq ?_
    refine wRet ?_
    refine pThenR ?_
    obtain rfl := so h
    exact pR1 (.inl rfl) rfl (.tmp rfl <| .nil)

theorem code_Like.ok {a0 : List api_Instr} {a1 : List api_Instr} {r : Bool} (h : code_Like.f a0 a1 = some r) : FnA Tryz.prog 41 [(kL (kR f_api_Instr)).sig a0, (kL (kR f_api_Instr)).sig a1] (kB.sig r) := by
  refine fnIntro Tryz.func41 rfl (by kernel_rfl) fun H0 w0 => ?_
  unfold code_Like.f at h
  refine wSeq ?_
  refine rg (cp (oAs cB) trivial <| .nil) (by kernel_rfl) ?_
  refine pSeq ?_
  refine wSeq ?_
  obtain ⟨y1, hy1, h⟩ := bd h
  refine rg (cp (oMv tm) (s1 rfl) <| cp (oMv tm) (s1 rfl) <| cp (oCall rfl (slices_Equal_api_Instr_api_Instr.ok hy1) b73 (opds_cons tm (opds_cons tm opds_nil))) (s2 rfl rfl) <| cp (oAs tm) (s1 rfl) <| .nil) (by kernel_rfl) ?_
  refine pSeq ?_
  refine wRet ?_
  obtain rfl := so h
  exact pR1 (.inl rfl) rfl (.tmp rfl <| .nil)

theorem slices_Equal_api_Atom_api_Atom.ok {a0 : List api_Atom} {a1 : List api_Atom} {r : Bool} (h : slices_Equal_api_Atom_api_Atom.f a0 a1 = some r) : FnA Tryz.prog 42 [(kL (kR f_api_Atom)).sig a0, (kL (kR f_api_Atom)).sig a1] (kB.sig r) := by
  refine fnIntro Tryz.func42 rfl (by kernel_rfl) fun H0 w0 => ?_
  unfold slices_Equal_api_Atom_api_Atom.f at h
  refine wSeq ?_
  refine rg (cp (oAs cB) trivial <| .nil) (by kernel_rfl) ?_
  refine pSeq ?_
  refine wSeq ?_
  refine wSeq ?_
  refine rg (cp (oMv tm) (s1 rfl) <| cp (oLenL u29 tm) (s1 rfl) <| cp (oMv tm) (s1 rfl) <| cp (oLenL u29 tm) (s1 rfl) <| cp (oNe rfl tm tm) (s2 rfl rfl) <| .nil) (by kernel_rfl) ?_
  refine pSeq ?_
  rcases ic h with ⟨hp1, h⟩ | ⟨hp1, h⟩
  · refine wNT hp1 tm (s1 rfl) ?_
    refine wSkip ?_
    refine pSeq ?_
    refine wSeq ?_
    refine wSeq ?_
    refine rg (cp (oMv tm) (s1 rfl) <| cp (oLenL u29 tm) (s1 rfl) <| cp (oMv (cI (by decide))) trivial <| .nil) (by kernel_rfl) ?_
    refine pSeq ?_
    obtain ⟨o1, h, hk1⟩ := bd h
    refine wK0 (.inr () = o1) ([]) ([]) ?_ ?_
    · refine wBlock (wLoop ?_)
      refine lW (pc1 o1 (fun v10 => [(0, .d ((kL (kR f_api_Atom)).sig a0)), (1, .d ((kL (kR f_api_Atom)).sig a1)), (12, .d ((kI .i64).sig (a0.length : Int))), (13, .d ((kI .i64).sig v10))]) (fun v10 => []) (slices_Equal_api_Atom_api_Atom.l0.partial_correctness a0 a1) ?_ _ h) ⟨rfl, rfl, rfl, rfl, trivial⟩ rfl
      clear h
      intro f' ih v10 h
      refine wSeq ?_
      refine rg (cp (oLt rfl tm tm) (s2 rfl rfl) <| .nil) (by kernel_rfl) ?_
      refine pSeq ?_
      refine wSeq ?_
      rcases ic h with ⟨hp11, h⟩ | ⟨hp11, h⟩
      · refine wCT hp11 tm (s1 rfl) ?_
        refine wSkip ?_
        refine pSeq ?_
        refine wSeq ?_
        refine wBlock ?_
        refine wSeq ?_
        refine rg (cp (oMv tm) (s1 rfl) <| cp (oAs tm) (s1 rfl) <| .nil) (by kernel_rfl) ?_
        refine pSeq ?_
        refine wSeq ?_
        obtain ⟨y12, hy12, h⟩ := bd h
        obtain ⟨y13, hy13, h⟩ := bd h
        refine rgD hm (cp (oMv tm) (s1 rfl) <| cp (oMv tm) (s1 rfl) <| cp (oIdx u29 z27 hy12 tm tm) (s2 rfl rfl) <| cp (oLd t27 tm) (s1 rfl) <| cp (oMv tm) (s1 rfl) <| cp (oMv tm) (s1 rfl) <| cp (oIdx u29 z27 hy13 tm tm) (s2 rfl rfl) <| cp (oLd t27 tm) (s1 rfl) <| cp (oRNe eqk27 rfl eg27 rfl tm tm) (s2 rfl rfl) <| .nil) (by kernel_rfl) (by kernel_rfl) ?_
        refine pSeq ?_
        rcases ic h with ⟨hp14, h⟩ | ⟨hp14, h⟩
        · refine wNT hp14 tm (s1 rfl) ?_
          refine wSkip ?_
          refine pBlkN ?_
          refine pSeq ?_
          refine rg (cp (oAdd tm (cI (by decide))) (s1 rfl) <| cp (oMv tm) (s1 rfl) <| .nil) (by kernel_rfl) ?_
          exact pLoop (lW (ih _ h) ⟨rfl, rfl, rfl, rfl, trivial⟩ rfl)
        · refine wNF hp14 tm (s1 rfl) ?_
          refine wSeq ?_
          refine rg (cp (oAs cB) trivial <| .nil) (by kernel_rfl) ?_
          refine pSeq ?_
          refine wRet ?_
          refine pBlkR ?_
          refine pThenR ?_
          refine pThenR ?_
          refine pBlkR ?_
          refine pThenR ?_
          obtain rfl := so h
          replace h := hk1
          refine pThenR ?_
          obtain rfl := so h
          exact pR1 (.inl rfl) rfl (.tmp rfl <| .nil)
      · refine wCF hp11 tm (s1 rfl) ?_
        refine wExit ?_
        refine pThenX ?_
        refine pThenX ?_
        refine pBlkX ?_
        exact pJ0 (so h) trivial rfl
    · rintro rfl
      replace h := hk1
      refine pSeq ?_
      refine wSeq ?_
      refine rg (cp (oAs cB) trivial <| .nil) (by kernel_rfl) ?_
      refine pSeq ?_
      refine wRet ?_
      obtain rfl := so h
      exact pR1 (.inl rfl) rfl (.tmp rfl <| .nil)
  · refine wNF hp1 tm (s1 rfl) ?_
    refine wSeq ?_
    refine rg (cp (oAs cB) trivial <| .nil) (by kernel_rfl) ?_
    refine pSeq ?_
    refine wRet ?_
    refine pThenR ?_
    obtain rfl := so h
    exact pR1 (.inl rfl) rfl (.tmp rfl <| .nil)

theorem slices_Equal_api_Slot_api_Slot.ok {a0 : List api_Slot} {a1 : List api_Slot} {r : Bool} (h : slices_Equal_api_Slot_api_Slot.f a0 a1 = some r) : FnA Tryz.prog 43 [(kL (kR f_api_Slot)).sig a0, (kL (kR f_api_Slot)).sig a1] (kB.sig r) := by
  refine fnIntro Tryz.func43 rfl (by kernel_rfl) fun H0 w0 => ?_
  unfold slices_Equal_api_Slot_api_Slot.f at h
  refine wSeq ?_
  refine rg (cp (oAs cB) trivial <| .nil) (by kernel_rfl) ?_
  refine pSeq ?_
  refine wSeq ?_
  refine wSeq ?_
  refine rg (cp (oMv tm) (s1 rfl) <| cp (oLenL u30 tm) (s1 rfl) <| cp (oMv tm) (s1 rfl) <| cp (oLenL u30 tm) (s1 rfl) <| cp (oNe rfl tm tm) (s2 rfl rfl) <| .nil) (by kernel_rfl) ?_
  refine pSeq ?_
  rcases ic h with ⟨hp1, h⟩ | ⟨hp1, h⟩
  · refine wNT hp1 tm (s1 rfl) ?_
    refine wSkip ?_
    refine pSeq ?_
    refine wSeq ?_
    refine wSeq ?_
    refine rg (cp (oMv tm) (s1 rfl) <| cp (oLenL u30 tm) (s1 rfl) <| cp (oMv (cI (by decide))) trivial <| .nil) (by kernel_rfl) ?_
    refine pSeq ?_
    obtain ⟨o1, h, hk1⟩ := bd h
    refine wK0 (.inr () = o1) ([]) ([]) ?_ ?_
    · refine wBlock (wLoop ?_)
      refine lW (pc1 o1 (fun v10 => [(0, .d ((kL (kR f_api_Slot)).sig a0)), (1, .d ((kL (kR f_api_Slot)).sig a1)), (12, .d ((kI .i64).sig (a0.length : Int))), (13, .d ((kI .i64).sig v10))]) (fun v10 => []) (slices_Equal_api_Slot_api_Slot.l0.partial_correctness a0 a1) ?_ _ h) ⟨rfl, rfl, rfl, rfl, trivial⟩ rfl
      clear h
      intro f' ih v10 h
      refine wSeq ?_
      refine rg (cp (oLt rfl tm tm) (s2 rfl rfl) <| .nil) (by kernel_rfl) ?_
      refine pSeq ?_
      refine wSeq ?_
      rcases ic h with ⟨hp11, h⟩ | ⟨hp11, h⟩
      · refine wCT hp11 tm (s1 rfl) ?_
        refine wSkip ?_
        refine pSeq ?_
        refine wSeq ?_
        refine wBlock ?_
        refine wSeq ?_
        refine rg (cp (oMv tm) (s1 rfl) <| cp (oAs tm) (s1 rfl) <| .nil) (by kernel_rfl) ?_
        refine pSeq ?_
        refine wSeq ?_
        obtain ⟨y12, hy12, h⟩ := bd h
        obtain ⟨y13, hy13, h⟩ := bd h
        refine rgD hm (cp (oMv tm) (s1 rfl) <| cp (oMv tm) (s1 rfl) <| cp (oIdx u30 z51 hy12 tm tm) (s2 rfl rfl) <| cp (oLd t51 tm) (s1 rfl) <| cp (oMv tm) (s1 rfl) <| cp (oMv tm) (s1 rfl) <| cp (oIdx u30 z51 hy13 tm tm) (s2 rfl rfl) <| cp (oLd t51 tm) (s1 rfl) <| cp (oRNe eqk51 rfl eg51 rfl tm tm) (s2 rfl rfl) <| .nil) (by kernel_rfl) (by kernel_rfl) ?_
        refine pSeq ?_
        rcases ic h with ⟨hp14, h⟩ | ⟨hp14, h⟩
        · refine wNT hp14 tm (s1 rfl) ?_
          refine wSkip ?_
          refine pBlkN ?_
          refine pSeq ?_
          refine rg (cp (oAdd tm (cI (by decide))) (s1 rfl) <| cp (oMv tm) (s1 rfl) <| .nil) (by kernel_rfl) ?_
          exact pLoop (lW (ih _ h) ⟨rfl, rfl, rfl, rfl, trivial⟩ rfl)
        · refine wNF hp14 tm (s1 rfl) ?_
          refine wSeq ?_
          refine rg (cp (oAs cB) trivial <| .nil) (by kernel_rfl) ?_
          refine pSeq ?_
          refine wRet ?_
          refine pBlkR ?_
          refine pThenR ?_
          refine pThenR ?_
          refine pBlkR ?_
          refine pThenR ?_
          obtain rfl := so h
          replace h := hk1
          refine pThenR ?_
          obtain rfl := so h
          exact pR1 (.inl rfl) rfl (.tmp rfl <| .nil)
      · refine wCF hp11 tm (s1 rfl) ?_
        refine wExit ?_
        refine pThenX ?_
        refine pThenX ?_
        refine pBlkX ?_
        exact pJ0 (so h) trivial rfl
    · rintro rfl
      replace h := hk1
      refine pSeq ?_
      refine wSeq ?_
      refine rg (cp (oAs cB) trivial <| .nil) (by kernel_rfl) ?_
      refine pSeq ?_
      refine wRet ?_
      obtain rfl := so h
      exact pR1 (.inl rfl) rfl (.tmp rfl <| .nil)
  · refine wNF hp1 tm (s1 rfl) ?_
    refine wSeq ?_
    refine rg (cp (oAs cB) trivial <| .nil) (by kernel_rfl) ?_
    refine pSeq ?_
    refine wRet ?_
    refine pThenR ?_
    obtain rfl := so h
    exact pR1 (.inl rfl) rfl (.tmp rfl <| .nil)

theorem state_Like.ok {a0 : api_State} {a1 : api_State} {r : Bool} (h : state_Like.f a0 a1 = some r) : FnA Tryz.prog 14 [(kR f_api_State).sig a0, (kR f_api_State).sig a1] (kB.sig r) := by
  refine fnIntro Tryz.func14 rfl (by kernel_rfl) fun H0 w0 => ?_
  unfold state_Like.f at h
  refine wSeq ?_
  refine rg (cp (oBox tm) (s1 rfl) <| cp (oBox tm) (s1 rfl) <| cp (oAs cB) trivial <| .nil) (by kernel_rfl) ?_
  refine pSeq ?_
  obtain ⟨o1, h, hk1⟩ := bd h
  refine wJ1 (fun x9 => x9 = o1) (fun x9 => [(4, .d (kB.sig x9))]) (fun x9 => []) ?_ ?_
  · rcases ic h with ⟨hp10, h⟩ | ⟨hp10, h⟩
    · obtain ⟨y11, hy11, h⟩ := bd h
      rcases ic h with ⟨hp12, h⟩ | ⟨hp12, h⟩
      · obtain ⟨y13, hy13, h⟩ := bd h
        rcases ic h with ⟨hp14, h⟩ | ⟨hp14, h⟩
        · obtain ⟨y15, hy15, h⟩ := bd h
          rcases ic h with ⟨hp16, h⟩ | ⟨hp16, h⟩
          · obtain ⟨y17, hy17, h⟩ := bd h
            refine rg (cp (oFld (fs := f_api_State) (k := 0) rfl o32_0 tm) (s1 rfl) <| cp (oLd t27 tm) (s1 rfl) <| cp (oFld (fs := f_api_State) (k := 0) rfl o32_0 tm) (s1 rfl) <| cp (oLd t27 tm) (s1 rfl) <| cp (oREq eqk27 rfl eg27 rfl tm tm) (s2 rfl rfl) <| cp (oMv tm) (s1 rfl) <| cgB (decide_eq_true hp10) rfl rfl (oFld (fs := f_api_State) (k := 1) rfl o32_1 tm) (s1 rfl) <| cgB (decide_eq_true hp10) rfl rfl (oLd t28 tm) (s1 rfl) <| cgB (decide_eq_true hp10) rfl rfl (oFld (fs := f_api_State) (k := 1) rfl o32_1 tm) (s1 rfl) <| cgB (decide_eq_true hp10) rfl rfl (oLd t28 tm) (s1 rfl) <| cgB (decide_eq_true hp10) rfl rfl (oCall rfl (code_Like.ok hy11) b41 (opds_cons tm (opds_cons tm opds_nil))) (s2 rfl rfl) <| cp (oPkT (decide_eq_true hp10) tm tm) (s2 rfl rfl) <| cp (oMv tm) (s1 rfl) <| cgB hp12 rfl rfl (oFld (fs := f_api_State) (k := 2) rfl o32_2 tm) (s1 rfl) <| cgB hp12 rfl rfl (oLd t29 tm) (s1 rfl) <| cgB hp12 rfl rfl (oFld (fs := f_api_State) (k := 2) rfl o32_2 tm) (s1 rfl) <| cgB hp12 rfl rfl (oLd t29 tm) (s1 rfl) <| cgB hp12 rfl rfl (oCall rfl (slices_Equal_api_Atom_api_Atom.ok hy13) b42 (opds_cons tm (opds_cons tm opds_nil))) (s2 rfl rfl) <| cp (oPkT hp12 tm tm) (s2 rfl rfl) <| cp (oMv tm) (s1 rfl) <| cgB hp14 rfl rfl (oFld (fs := f_api_State) (k := 3) rfl o32_3 tm) (s1 rfl) <| cgB hp14 rfl rfl (oLd t30 tm) (s1 rfl) <| cgB hp14 rfl rfl (oFld (fs := f_api_State) (k := 3) rfl o32_3 tm) (s1 rfl) <| cgB hp14 rfl rfl (oLd t30 tm) (s1 rfl) <| cgB hp14 rfl rfl (oCall rfl (slices_Equal_api_Slot_api_Slot.ok hy15) b43 (opds_cons tm (opds_cons tm opds_nil))) (s2 rfl rfl) <| cp (oPkT hp14 tm tm) (s2 rfl rfl) <| cp (oMv tm) (s1 rfl) <| cgB hp16 rfl rfl (oFld (fs := f_api_State) (k := 4) rfl o32_4 tm) (s1 rfl) <| cgB hp16 rfl rfl (oLd t29 tm) (s1 rfl) <| cgB hp16 rfl rfl (oFld (fs := f_api_State) (k := 4) rfl o32_4 tm) (s1 rfl) <| cgB hp16 rfl rfl (oLd t29 tm) (s1 rfl) <| cgB hp16 rfl rfl (oCall rfl (slices_Equal_api_Atom_api_Atom.ok hy17) b42 (opds_cons tm (opds_cons tm opds_nil))) (s2 rfl rfl) <| cp (oPkT hp16 tm tm) (s2 rfl rfl) <| cp (oAs tm) (s1 rfl) <| .nil) (by kernel_rfl) ?_
            exact pJ1 _ (so h) ⟨rfl, trivial⟩ rfl
          · refine rg (cp (oFld (fs := f_api_State) (k := 0) rfl o32_0 tm) (s1 rfl) <| cp (oLd t27 tm) (s1 rfl) <| cp (oFld (fs := f_api_State) (k := 0) rfl o32_0 tm) (s1 rfl) <| cp (oLd t27 tm) (s1 rfl) <| cp (oREq eqk27 rfl eg27 rfl tm tm) (s2 rfl rfl) <| cp (oMv tm) (s1 rfl) <| cgB (decide_eq_true hp10) rfl rfl (oFld (fs := f_api_State) (k := 1) rfl o32_1 tm) (s1 rfl) <| cgB (decide_eq_true hp10) rfl rfl (oLd t28 tm) (s1 rfl) <| cgB (decide_eq_true hp10) rfl rfl (oFld (fs := f_api_State) (k := 1) rfl o32_1 tm) (s1 rfl) <| cgB (decide_eq_true hp10) rfl rfl (oLd t28 tm) (s1 rfl) <| cgB (decide_eq_true hp10) rfl rfl (oCall rfl (code_Like.ok hy11) b41 (opds_cons tm (opds_cons tm opds_nil))) (s2 rfl rfl) <| cp (oPkT (decide_eq_true hp10) tm tm) (s2 rfl rfl) <| cp (oMv tm) (s1 rfl) <| cgB hp12 rfl rfl (oFld (fs := f_api_State) (k := 2) rfl o32_2 tm) (s1 rfl) <| cgB hp12 rfl rfl (oLd t29 tm) (s1 rfl) <| cgB hp12 rfl rfl (oFld (fs := f_api_State) (k := 2) rfl o32_2 tm) (s1 rfl) <| cgB hp12 rfl rfl (oLd t29 tm) (s1 rfl) <| cgB hp12 rfl rfl (oCall rfl (slices_Equal_api_Atom_api_Atom.ok hy13) b42 (opds_cons tm (opds_cons tm opds_nil))) (s2 rfl rfl) <| cp (oPkT hp12 tm tm) (s2 rfl rfl) <| cp (oMv tm) (s1 rfl) <| cgB hp14 rfl rfl (oFld (fs := f_api_State) (k := 3) rfl o32_3 tm) (s1 rfl) <| cgB hp14 rfl rfl (oLd t30 tm) (s1 rfl) <| cgB hp14 rfl rfl (oFld (fs := f_api_State) (k := 3) rfl o32_3 tm) (s1 rfl) <| cgB hp14 rfl rfl (oLd t30 tm) (s1 rfl) <| cgB hp14 rfl rfl (oCall rfl (slices_Equal_api_Slot_api_Slot.ok hy15) b43 (opds_cons tm (opds_cons tm opds_nil))) (s2 rfl rfl) <| cp (oPkT hp14 tm tm) (s2 rfl rfl) <| cp (oMv tm) (s1 rfl) <| csB (nb hp16) rfl rfl <| csB (nb hp16) rfl rfl <| csB (nb hp16) rfl rfl <| csB (nb hp16) rfl rfl <| csB (nb hp16) rfl rfl <| cp (oPkF (nb hp16) tm cB) (s1 rfl) <| cp (oAs tm) (s1 rfl) <| .nil) (by kernel_rfl) ?_
            exact pJ1 _ (so h) ⟨rfl, trivial⟩ rfl
        · refine rg (cp (oFld (fs := f_api_State) (k := 0) rfl o32_0 tm) (s1 rfl) <| cp (oLd t27 tm) (s1 rfl) <| cp (oFld (fs := f_api_State) (k := 0) rfl o32_0 tm) (s1 rfl) <| cp (oLd t27 tm) (s1 rfl) <| cp (oREq eqk27 rfl eg27 rfl tm tm) (s2 rfl rfl) <| cp (oMv tm) (s1 rfl) <| cgB (decide_eq_true hp10) rfl rfl (oFld (fs := f_api_State) (k := 1) rfl o32_1 tm) (s1 rfl) <| cgB (decide_eq_true hp10) rfl rfl (oLd t28 tm) (s1 rfl) <| cgB (decide_eq_true hp10) rfl rfl (oFld (fs := f_api_State) (k := 1) rfl o32_1 tm) (s1 rfl) <| cgB (decide_eq_true hp10) rfl rfl (oLd t28 tm) (s1 rfl) <| cgB (decide_eq_true hp10) rfl rfl (oCall rfl (code_Like.ok hy11) b41 (opds_cons tm (opds_cons tm opds_nil))) (s2 rfl rfl) <| cp (oPkT (decide_eq_true hp10) tm tm) (s2 rfl rfl) <| cp (oMv tm) (s1 rfl) <| cgB hp12 rfl rfl (oFld (fs := f_api_State) (k := 2) rfl o32_2 tm) (s1 rfl) <| cgB hp12 rfl rfl (oLd t29 tm) (s1 rfl) <| cgB hp12 rfl rfl (oFld (fs := f_api_State) (k := 2) rfl o32_2 tm) (s1 rfl) <| cgB hp12 rfl rfl (oLd t29 tm) (s1 rfl) <| cgB hp12 rfl rfl (oCall rfl (slices_Equal_api_Atom_api_Atom.ok hy13) b42 (opds_cons tm (opds_cons tm opds_nil))) (s2 rfl rfl) <| cp (oPkT hp12 tm tm) (s2 rfl rfl) <| cp (oMv tm) (s1 rfl) <| csB (nb hp14) rfl rfl <| csB (nb hp14) rfl rfl <| csB (nb hp14) rfl rfl <| csB (nb hp14) rfl rfl <| csB (nb hp14) rfl rfl <| cp (oPkF (nb hp14) tm cB) (s1 rfl) <| cp (oMv tm) (s1 rfl) <| csB rfl rfl rfl <| csB rfl rfl rfl <| csB rfl rfl rfl <| csB rfl rfl rfl <| csB rfl rfl rfl <| cp (oPkF rfl tm cB) (s1 rfl) <| cp (oAs tm) (s1 rfl) <| .nil) (by kernel_rfl) ?_
          exact pJ1 _ (so h) ⟨rfl, trivial⟩ rfl
      · refine rg (cp (oFld (fs := f_api_State) (k := 0) rfl o32_0 tm) (s1 rfl) <| cp (oLd t27 tm) (s1 rfl) <| cp (oFld (fs := f_api_State) (k := 0) rfl o32_0 tm) (s1 rfl) <| cp (oLd t27 tm) (s1 rfl) <| cp (oREq eqk27 rfl eg27 rfl tm tm) (s2 rfl rfl) <| cp (oMv tm) (s1 rfl) <| cgB (decide_eq_true hp10) rfl rfl (oFld (fs := f_api_State) (k := 1) rfl o32_1 tm) (s1 rfl) <| cgB (decide_eq_true hp10) rfl rfl (oLd t28 tm) (s1 rfl) <| cgB (decide_eq_true hp10) rfl rfl (oFld (fs := f_api_State) (k := 1) rfl o32_1 tm) (s1 rfl) <| cgB (decide_eq_true hp10) rfl rfl (oLd t28 tm) (s1 rfl) <| cgB (decide_eq_true hp10) rfl rfl (oCall rfl (code_Like.ok hy11) b41 (opds_cons tm (opds_cons tm opds_nil))) (s2 rfl rfl) <| cp (oPkT (decide_eq_true hp10) tm tm) (s2 rfl rfl) <| cp (oMv tm) (s1 rfl) <| csB (nb hp12) rfl rfl <| csB (nb hp12) rfl rfl <| csB (nb hp12) rfl rfl <| csB (nb hp12) rfl rfl <| csB (nb hp12) rfl rfl <| cp (oPkF (nb hp12) tm cB) (s1 rfl) <| cp (oMv tm) (s1 rfl) <| csB rfl rfl rfl <| csB rfl rfl rfl <| csB rfl rfl rfl <| csB rfl rfl rfl <| csB rfl rfl rfl <| cp (oPkF rfl tm cB) (s1 rfl) <| cp (oMv tm) (s1 rfl) <| csB rfl rfl rfl <| csB rfl rfl rfl <| csB rfl rfl rfl <| csB rfl rfl rfl <| csB rfl rfl rfl <| cp (oPkF rfl tm cB) (s1 rfl) <| cp (oAs tm) (s1 rfl) <| .nil) (by kernel_rfl) ?_
        exact pJ1 _ (so h) ⟨rfl, trivial⟩ rfl
    · refine rg (cp (oFld (fs := f_api_State) (k := 0) rfl o32_0 tm) (s1 rfl) <| cp (oLd t27 tm) (s1 rfl) <| cp (oFld (fs := f_api_State) (k := 0) rfl o32_0 tm) (s1 rfl) <| cp (oLd t27 tm) (s1 rfl) <| cp (oREq eqk27 rfl eg27 rfl tm tm) (s2 rfl rfl) <| cp (oMv tm) (s1 rfl) <| csB (decide_eq_false hp10) rfl rfl <| csB (decide_eq_false hp10) rfl rfl <| csB (decide_eq_false hp10) rfl rfl <| csB (decide_eq_false hp10) rfl rfl <| csB (decide_eq_false hp10) rfl rfl <| cp (oPkF (decide_eq_false hp10) tm cB) (s1 rfl) <| cp (oMv tm) (s1 rfl) <| csB rfl rfl rfl <| csB rfl rfl rfl <| csB rfl rfl rfl <| csB rfl rfl rfl <| csB rfl rfl rfl <| cp (oPkF rfl tm cB) (s1 rfl) <| cp (oMv tm) (s1 rfl) <| csB rfl rfl rfl <| csB rfl rfl rfl <| csB rfl rfl rfl <| csB rfl rfl rfl <| csB rfl rfl rfl <| cp (oPkF rfl tm cB) (s1 rfl) <| cp (oMv tm) (s1 rfl) <| csB rfl rfl rfl <| csB rfl rfl rfl <| csB rfl rfl rfl <| csB rfl rfl rfl <| csB rfl rfl rfl <| cp (oPkF rfl tm cB) (s1 rfl) <| cp (oAs tm) (s1 rfl) <| .nil) (by kernel_rfl) ?_
      exact pJ1 _ (so h) ⟨rfl, trivial⟩ rfl
  · rintro x9 rfl
    replace h := hk1
    refine wRet ?_
    obtain rfl := so h
    exact pR1 (.inl rfl) rfl (.tmp rfl <| .nil)

theorem reticentref08_Same.ok {a0 : List api_Instr} {a1 : List api_Instr} {r : Bool} (h : reticentref08_Same.f a0 a1 = some r) : FnA Tryz.prog 23 [(kL (kR f_api_Instr)).sig a0, (kL (kR f_api_Instr)).sig a1] (kB.sig r) := by
  refine fnIntro Tryz.func23 rfl (by kernel_rfl) fun H0 w0 => ?_
  unfold reticentref08_Same.f at h
  refine wSeq ?_
  refine rg (cp (oAs cB) trivial <| .nil) (by kernel_rfl) ?_
  refine pSeq ?_
  refine wSeq ?_
  refine wSeq ?_
  refine rg (cp (oMv tm) (s1 rfl) <| cp (oLenL u28 tm) (s1 rfl) <| cp (oMv tm) (s1 rfl) <| cp (oLenL u28 tm) (s1 rfl) <| cp (oNe rfl tm tm) (s2 rfl rfl) <| .nil) (by kernel_rfl) ?_
  refine pSeq ?_
  rcases ic h with ⟨hp1, h⟩ | ⟨hp1, h⟩
  · refine wNT hp1 tm (s1 rfl) ?_
    refine wSkip ?_
    refine pSeq ?_
    refine wSeq ?_
    refine wSeq ?_
    refine rg (cp (oMv tm) (s1 rfl) <| cp (oLenL u28 tm) (s1 rfl) <| cp (oMv (cI (by decide))) trivial <| .nil) (by kernel_rfl) ?_
    refine pSeq ?_
    obtain ⟨o1, h, hk1⟩ := bd h
    refine wK0 (.inr () = o1) ([]) ([]) ?_ ?_
    · refine wBlock (wLoop ?_)
      refine lW (pc1 o1 (fun v10 => [(0, .d ((kL (kR f_api_Instr)).sig a0)), (1, .d ((kL (kR f_api_Instr)).sig a1)), (12, .d ((kI .i64).sig (a0.length : Int))), (13, .d ((kI .i64).sig v10))]) (fun v10 => []) (reticentref08_Same.l0.partial_correctness a0 a1) ?_ _ h) ⟨rfl, rfl, rfl, rfl, trivial⟩ rfl
      clear h
      intro f' ih v10 h
      refine wSeq ?_
      refine rg (cp (oLt rfl tm tm) (s2 rfl rfl) <| .nil) (by kernel_rfl) ?_
      refine pSeq ?_
      refine wSeq ?_
      rcases ic h with ⟨hp11, h⟩ | ⟨hp11, h⟩
      · refine wCT hp11 tm (s1 rfl) ?_
        refine wSkip ?_
        refine pSeq ?_
        refine wSeq ?_
        refine wBlock ?_
        refine wSeq ?_
        refine rg (cp (oMv tm) (s1 rfl) <| cp (oAs tm) (s1 rfl) <| .nil) (by kernel_rfl) ?_
        refine pSeq ?_
        refine wSeq ?_
        obtain ⟨y12, hy12, h⟩ := bd h
        obtain ⟨y13, hy13, h⟩ := bd h
        refine rgD hm (cp (oMv tm) (s1 rfl) <| cp (oMv tm) (s1 rfl) <| cp (oIdx u28 z81 hy12 tm tm) (s2 rfl rfl) <| cp (oLd t81 tm) (s1 rfl) <| cp (oMv tm) (s1 rfl) <| cp (oMv tm) (s1 rfl) <| cp (oIdx u28 z81 hy13 tm tm) (s2 rfl rfl) <| cp (oLd t81 tm) (s1 rfl) <| cp (oRNe eqk81 rfl eg81 rfl tm tm) (s2 rfl rfl) <| .nil) (by kernel_rfl) (by kernel_rfl) ?_
        refine pSeq ?_
        rcases ic h with ⟨hp14, h⟩ | ⟨hp14, h⟩
        · refine wNT hp14 tm (s1 rfl) ?_
          refine wSkip ?_
          refine pBlkN ?_
          refine pSeq ?_
          refine rg (cp (oAdd tm (cI (by decide))) (s1 rfl) <| cp (oMv tm) (s1 rfl) <| .nil) (by kernel_rfl) ?_
          exact pLoop (lW (ih _ h) ⟨rfl, rfl, rfl, rfl, trivial⟩ rfl)
        · refine wNF hp14 tm (s1 rfl) ?_
          refine wSeq ?_
          refine rg (cp (oAs cB) trivial <| .nil) (by kernel_rfl) ?_
          refine pSeq ?_
          refine wRet ?_
          refine pBlkR ?_
          refine pThenR ?_
          refine pThenR ?_
          refine pBlkR ?_
          refine pThenR ?_
          obtain rfl := so h
          replace h := hk1
          refine pThenR ?_
          obtain rfl := so h
          exact pR1 (.inl rfl) rfl (.tmp rfl <| .nil)
      · refine wCF hp11 tm (s1 rfl) ?_
        refine wExit ?_
        refine pThenX ?_
        refine pThenX ?_
        refine pBlkX ?_
        exact pJ0 (so h) trivial rfl
    · rintro rfl
      replace h := hk1
      refine pSeq ?_
      refine wSeq ?_
      refine rg (cp (oAs cB) trivial <| .nil) (by kernel_rfl) ?_
      refine pSeq ?_
      refine wRet ?_
      obtain rfl := so h
      exact pR1 (.inl rfl) rfl (.tmp rfl <| .nil)
  · refine wNF hp1 tm (s1 rfl) ?_
    refine wSeq ?_
    refine rg (cp (oAs cB) trivial <| .nil) (by kernel_rfl) ?_
    refine pSeq ?_
    refine wRet ?_
    refine pThenR ?_
    obtain rfl := so h
    exact pR1 (.inl rfl) rfl (.tmp rfl <| .nil)

theorem reticentref09_AtomsSame.ok {a0 : List api_Atom} {a1 : List api_Atom} {r : Bool} (h : reticentref09_AtomsSame.f a0 a1 = some r) : FnA Tryz.prog 24 [(kL (kR f_api_Atom)).sig a0, (kL (kR f_api_Atom)).sig a1] (kB.sig r) := by
  refine fnIntro Tryz.func24 rfl (by kernel_rfl) fun H0 w0 => ?_
  unfold reticentref09_AtomsSame.f at h
  refine wSeq ?_
  refine rg (cp (oAs cB) trivial <| .nil) (by kernel_rfl) ?_
  refine pSeq ?_
  refine wSeq ?_
  refine wSeq ?_
  refine rg (cp (oMv tm) (s1 rfl) <| cp (oLenL u29 tm) (s1 rfl) <| cp (oMv tm) (s1 rfl) <| cp (oLenL u29 tm) (s1 rfl) <| cp (oNe rfl tm tm) (s2 rfl rfl) <| .nil) (by kernel_rfl) ?_
  refine pSeq ?_
  rcases ic h with ⟨hp1, h⟩ | ⟨hp1, h⟩
  · refine wNT hp1 tm (s1 rfl) ?_
    refine wSkip ?_
    refine pSeq ?_
    refine wSeq ?_
    refine wSeq ?_
    refine rg (cp (oMv tm) (s1 rfl) <| cp (oLenL u29 tm) (s1 rfl) <| cp (oMv (cI (by decide))) trivial <| .nil) (by kernel_rfl) ?_
    refine pSeq ?_
    obtain ⟨o1, h, hk1⟩ := bd h
    refine wK0 (.inr () = o1) ([]) ([]) ?_ ?_
    · refine wBlock (wLoop ?_)
      refine lW (pc1 o1 (fun v10 => [(0, .d ((kL (kR f_api_Atom)).sig a0)), (1, .d ((kL (kR f_api_Atom)).sig a1)), (12, .d ((kI .i64).sig (a0.length : Int))), (13, .d ((kI .i64).sig v10))]) (fun v10 => []) (reticentref09_AtomsSame.l0.partial_correctness a0 a1) ?_ _ h) ⟨rfl, rfl, rfl, rfl, trivial⟩ rfl
      clear h
      intro f' ih v10 h
      refine wSeq ?_
      refine rg (cp (oLt rfl tm tm) (s2 rfl rfl) <| .nil) (by kernel_rfl) ?_
      refine pSeq ?_
      refine wSeq ?_
      rcases ic h with ⟨hp11, h⟩ | ⟨hp11, h⟩
      · refine wCT hp11 tm (s1 rfl) ?_
        refine wSkip ?_
        refine pSeq ?_
        refine wSeq ?_
        refine wBlock ?_
        refine wSeq ?_
        refine rg (cp (oMv tm) (s1 rfl) <| cp (oAs tm) (s1 rfl) <| .nil) (by kernel_rfl) ?_
        refine pSeq ?_
        refine wSeq ?_
        obtain ⟨y12, hy12, h⟩ := bd h
        obtain ⟨y13, hy13, h⟩ := bd h
        refine rgD hm (cp (oMv tm) (s1 rfl) <| cp (oMv tm) (s1 rfl) <| cp (oIdx u29 z27 hy12 tm tm) (s2 rfl rfl) <| cp (oLd t27 tm) (s1 rfl) <| cp (oMv tm) (s1 rfl) <| cp (oMv tm) (s1 rfl) <| cp (oIdx u29 z27 hy13 tm tm) (s2 rfl rfl) <| cp (oLd t27 tm) (s1 rfl) <| cp (oRNe eqk27 rfl eg27 rfl tm tm) (s2 rfl rfl) <| .nil) (by kernel_rfl) (by kernel_rfl) ?_
        refine pSeq ?_
        rcases ic h with ⟨hp14, h⟩ | ⟨hp14, h⟩
        · refine wNT hp14 tm (s1 rfl) ?_
          refine wSkip ?_
          refine pBlkN ?_
          refine pSeq ?_
          refine rg (cp (oAdd tm (cI (by decide))) (s1 rfl) <| cp (oMv tm) (s1 rfl) <| .nil) (by kernel_rfl) ?_
          exact pLoop (lW (ih _ h) ⟨rfl, rfl, rfl, rfl, trivial⟩ rfl)
        · refine wNF hp14 tm (s1 rfl) ?_
          refine wSeq ?_
          refine rg (cp (oAs cB) trivial <| .nil) (by kernel_rfl) ?_
          refine pSeq ?_
          refine wRet ?_
          refine pBlkR ?_
          refine pThenR ?_
          refine pThenR ?_
          refine pBlkR ?_
          refine pThenR ?_
          obtain rfl := so h
          replace h := hk1
          refine pThenR ?_
          obtain rfl := so h
          exact pR1 (.inl rfl) rfl (.tmp rfl <| .nil)
      · refine wCF hp11 tm (s1 rfl) ?_
        refine wExit ?_
        refine pThenX ?_
        refine pThenX ?_
        refine pBlkX ?_
        exact pJ0 (so h) trivial rfl
    · rintro rfl
      replace h := hk1
      refine pSeq ?_
      refine wSeq ?_
      refine rg (cp (oAs cB) trivial <| .nil) (by kernel_rfl) ?_
      refine pSeq ?_
      refine wRet ?_
      obtain rfl := so h
      exact pR1 (.inl rfl) rfl (.tmp rfl <| .nil)
  · refine wNF hp1 tm (s1 rfl) ?_
    refine wSeq ?_
    refine rg (cp (oAs cB) trivial <| .nil) (by kernel_rfl) ?_
    refine pSeq ?_
    refine wRet ?_
    refine pThenR ?_
    obtain rfl := so h
    exact pR1 (.inl rfl) rfl (.tmp rfl <| .nil)

theorem reticentref09_Same.ok {a0 : api_State} {a1 : api_State} {r : Bool} (h : reticentref09_Same.f a0 a1 = some r) : FnA Tryz.prog 9 [(kR f_api_State).sig a0, (kR f_api_State).sig a1] (kB.sig r) := by
  refine fnIntro Tryz.func9 rfl (by kernel_rfl) fun H0 w0 => ?_
  unfold reticentref09_Same.f at h
  refine wSeq ?_
  refine rg (cp (oBox tm) (s1 rfl) <| cp (oBox tm) (s1 rfl) <| cp (oAs cB) trivial <| .nil) (by kernel_rfl) ?_
  refine pSeq ?_
  refine wSeq ?_
  obtain ⟨o1, h, hk1⟩ := bd h
  refine wJ1 (fun x8 => x8 = o1) (fun x8 => [(2, .d (sP (kR f_api_State) a0)), (3, .d (sP (kR f_api_State) a1)), (43, .d (kB.sig x8))]) (fun x8 => []) ?_ ?_
  · rcases ic h with ⟨hp9, h⟩ | ⟨hp9, h⟩
    · obtain ⟨y10, hy10, h⟩ := bd h
      rcases ic h with ⟨hp11, h⟩ | ⟨hp11, h⟩
      · refine rg (cp (oFld (fs := f_api_State) (k := 0) rfl o32_0 tm) (s1 rfl) <| cp (oLd t27 tm) (s1 rfl) <| cp (oFld (fs := f_api_State) (k := 0) rfl o32_0 tm) (s1 rfl) <| cp (oLd t27 tm) (s1 rfl) <| cp (oRNe eqk27 rfl eg27 rfl tm tm) (s2 rfl rfl) <| cp (oMv tm) (s1 rfl) <| cgB (nf hp9) rfl rfl (oFld (fs := f_api_State) (k := 1) rfl o32_1 tm) (s1 rfl) <| cgB (nf hp9) rfl rfl (oLd t28 tm) (s1 rfl) <| cgB (nf hp9) rfl rfl (oFld (fs := f_api_State) (k := 1) rfl o32_1 tm) (s1 rfl) <| cgB (nf hp9) rfl rfl (oLd t28 tm) (s1 rfl) <| cgB (nf hp9) rfl rfl (oCall rfl (reticentref08_Same.ok hy10) b23 (opds_cons tm (opds_cons tm opds_nil))) (s2 rfl rfl) <| cgB (nf hp9) rfl rfl (oNot tm) (s1 rfl) <| cp (oPkF (nf hp9) tm tm) (s2 rfl rfl) <| cp (oMv tm) (s1 rfl) <| csB hp11 rfl rfl <| csB hp11 rfl rfl <| csB hp11 rfl rfl <| csB hp11 rfl rfl <| csB hp11 rfl rfl <| csB hp11 rfl rfl <| cp (oPkT hp11 tm cB) (s1 rfl) <| cp (oMv tm) (s1 rfl) <| csB rfl rfl rfl <| csB rfl rfl rfl <| csB rfl rfl rfl <| csB rfl rfl rfl <| csB rfl rfl rfl <| csB rfl rfl rfl <| cp (oPkT rfl tm cB) (s1 rfl) <| cp (oMv tm) (s1 rfl) <| csB rfl rfl rfl <| csB rfl rfl rfl <| csB rfl rfl rfl <| csB rfl rfl rfl <| csB rfl rfl rfl <| csB rfl rfl rfl <| csB rfl rfl rfl <| cp (oPkT rfl tm cB) (s1 rfl) <| .nil) (by kernel_rfl) ?_
        exact pJ1 _ (so h) ⟨rfl, rfl, rfl, trivial⟩ rfl
      · obtain ⟨y12, hy12, h⟩ := bd h
        rcases ic h with ⟨hp13, h⟩ | ⟨hp13, h⟩
        · refine rg (cp (oFld (fs := f_api_State) (k := 0) rfl o32_0 tm) (s1 rfl) <| cp (oLd t27 tm) (s1 rfl) <| cp (oFld (fs := f_api_State) (k := 0) rfl o32_0 tm) (s1 rfl) <| cp (oLd t27 tm) (s1 rfl) <| cp (oRNe eqk27 rfl eg27 rfl tm tm) (s2 rfl rfl) <| cp (oMv tm) (s1 rfl) <| cgB (nf hp9) rfl rfl (oFld (fs := f_api_State) (k := 1) rfl o32_1 tm) (s1 rfl) <| cgB (nf hp9) rfl rfl (oLd t28 tm) (s1 rfl) <| cgB (nf hp9) rfl rfl (oFld (fs := f_api_State) (k := 1) rfl o32_1 tm) (s1 rfl) <| cgB (nf hp9) rfl rfl (oLd t28 tm) (s1 rfl) <| cgB (nf hp9) rfl rfl (oCall rfl (reticentref08_Same.ok hy10) b23 (opds_cons tm (opds_cons tm opds_nil))) (s2 rfl rfl) <| cgB (nf hp9) rfl rfl (oNot tm) (s1 rfl) <| cp (oPkF (nf hp9) tm tm) (s2 rfl rfl) <| cp (oMv tm) (s1 rfl) <| cgB (nb hp11) rfl rfl (oFld (fs := f_api_State) (k := 2) rfl o32_2 tm) (s1 rfl) <| cgB (nb hp11) rfl rfl (oLd t29 tm) (s1 rfl) <| cgB (nb hp11) rfl rfl (oFld (fs := f_api_State) (k := 2) rfl o32_2 tm) (s1 rfl) <| cgB (nb hp11) rfl rfl (oLd t29 tm) (s1 rfl) <| cgB (nb hp11) rfl rfl (oCall rfl (reticentref09_AtomsSame.ok hy12) b24 (opds_cons tm (opds_cons tm opds_nil))) (s2 rfl rfl) <| cgB (nb hp11) rfl rfl (oNot tm) (s1 rfl) <| cp (oPkF (nb hp11) tm tm) (s2 rfl rfl) <| cp (oMv tm) (s1 rfl) <| csB hp13 rfl rfl <| csB hp13 rfl rfl <| csB hp13 rfl rfl <| csB hp13 rfl rfl <| csB hp13 rfl rfl <| csB hp13 rfl rfl <| cp (oPkT hp13 tm cB) (s1 rfl) <| cp (oMv tm) (s1 rfl) <| csB rfl rfl rfl <| csB rfl rfl rfl <| csB rfl rfl rfl <| csB rfl rfl rfl <| csB rfl rfl rfl <| csB rfl rfl rfl <| csB rfl rfl rfl <| cp (oPkT rfl tm cB) (s1 rfl) <| .nil) (by kernel_rfl) ?_
          exact pJ1 _ (so h) ⟨rfl, rfl, rfl, trivial⟩ rfl
        · obtain ⟨y14, hy14, h⟩ := bd h
          rcases ic h with ⟨hp15, h⟩ | ⟨hp15, h⟩
          · refine rg (cp (oFld (fs := f_api_State) (k := 0) rfl o32_0 tm) (s1 rfl) <| cp (oLd t27 tm) (s1 rfl) <| cp (oFld (fs := f_api_State) (k := 0) rfl o32_0 tm) (s1 rfl) <| cp (oLd t27 tm) (s1 rfl) <| cp (oRNe eqk27 rfl eg27 rfl tm tm) (s2 rfl rfl) <| cp (oMv tm) (s1 rfl) <| cgB (nf hp9) rfl rfl (oFld (fs := f_api_State) (k := 1) rfl o32_1 tm) (s1 rfl) <| cgB (nf hp9) rfl rfl (oLd t28 tm) (s1 rfl) <| cgB (nf hp9) rfl rfl (oFld (fs := f_api_State) (k := 1) rfl o32_1 tm) (s1 rfl) <| cgB (nf hp9) rfl rfl (oLd t28 tm) (s1 rfl) <| cgB (nf hp9) rfl rfl (oCall rfl (reticentref08_Same.ok hy10) b23 (opds_cons tm (opds_cons tm opds_nil))) (s2 rfl rfl) <| cgB (nf hp9) rfl rfl (oNot tm) (s1 rfl) <| cp (oPkF (nf hp9) tm tm) (s2 rfl rfl) <| cp (oMv tm) (s1 rfl) <| cgB (nb hp11) rfl rfl (oFld (fs := f_api_State) (k := 2) rfl o32_2 tm) (s1 rfl) <| cgB (nb hp11) rfl rfl (oLd t29 tm) (s1 rfl) <| cgB (nb hp11) rfl rfl (oFld (fs := f_api_State) (k := 2) rfl o32_2 tm) (s1 rfl) <| cgB (nb hp11) rfl rfl (oLd t29 tm) (s1 rfl) <| cgB (nb hp11) rfl rfl (oCall rfl (reticentref09_AtomsSame.ok hy12) b24 (opds_cons tm (opds_cons tm opds_nil))) (s2 rfl rfl) <| cgB (nb hp11) rfl rfl (oNot tm) (s1 rfl) <| cp (oPkF (nb hp11) tm tm) (s2 rfl rfl) <| cp (oMv tm) (s1 rfl) <| cgB (nb hp13) rfl rfl (oFld (fs := f_api_State) (k := 4) rfl o32_4 tm) (s1 rfl) <| cgB (nb hp13) rfl rfl (oLd t29 tm) (s1 rfl) <| cgB (nb hp13) rfl rfl (oFld (fs := f_api_State) (k := 4) rfl o32_4 tm) (s1 rfl) <| cgB (nb hp13) rfl rfl (oLd t29 tm) (s1 rfl) <| cgB (nb hp13) rfl rfl (oCall rfl (reticentref09_AtomsSame.ok hy14) b24 (opds_cons tm (opds_cons tm opds_nil))) (s2 rfl rfl) <| cgB (nb hp13) rfl rfl (oNot tm) (s1 rfl) <| cp (oPkF (nb hp13) tm tm) (s2 rfl rfl) <| cp (oMv tm) (s1 rfl) <| csB hp15 rfl rfl <| csB hp15 rfl rfl <| csB hp15 rfl rfl <| csB hp15 rfl rfl <| csB hp15 rfl rfl <| csB hp15 rfl rfl <| csB hp15 rfl rfl <| cp (oPkT hp15 tm cB) (s1 rfl) <| .nil) (by kernel_rfl) ?_
            exact pJ1 _ (so h) ⟨rfl, rfl, rfl, trivial⟩ rfl
          · refine rg (cp (oFld (fs := f_api_State) (k := 0) rfl o32_0 tm) (s1 rfl) <| cp (oLd t27 tm) (s1 rfl) <| cp (oFld (fs := f_api_State) (k := 0) rfl o32_0 tm) (s1 rfl) <| cp (oLd t27 tm) (s1 rfl) <| cp (oRNe eqk27 rfl eg27 rfl tm tm) (s2 rfl rfl) <| cp (oMv tm) (s1 rfl) <| cgB (nf hp9) rfl rfl (oFld (fs := f_api_State) (k := 1) rfl o32_1 tm) (s1 rfl) <| cgB (nf hp9) rfl rfl (oLd t28 tm) (s1 rfl) <| cgB (nf hp9) rfl rfl (oFld (fs := f_api_State) (k := 1) rfl o32_1 tm) (s1 rfl) <| cgB (nf hp9) rfl rfl (oLd t28 tm) (s1 rfl) <| cgB (nf hp9) rfl rfl (oCall rfl (reticentref08_Same.ok hy10) b23 (opds_cons tm (opds_cons tm opds_nil))) (s2 rfl rfl) <| cgB (nf hp9) rfl rfl (oNot tm) (s1 rfl) <| cp (oPkF (nf hp9) tm tm) (s2 rfl rfl) <| cp (oMv tm) (s1 rfl) <| cgB (nb hp11) rfl rfl (oFld (fs := f_api_State) (k := 2) rfl o32_2 tm) (s1 rfl) <| cgB (nb hp11) rfl rfl (oLd t29 tm) (s1 rfl) <| cgB (nb hp11) rfl rfl (oFld (fs := f_api_State) (k := 2) rfl o32_2 tm) (s1 rfl) <| cgB (nb hp11) rfl rfl (oLd t29 tm) (s1 rfl) <| cgB (nb hp11) rfl rfl (oCall rfl (reticentref09_AtomsSame.ok hy12) b24 (opds_cons tm (opds_cons tm opds_nil))) (s2 rfl rfl) <| cgB (nb hp11) rfl rfl (oNot tm) (s1 rfl) <| cp (oPkF (nb hp11) tm tm) (s2 rfl rfl) <| cp (oMv tm) (s1 rfl) <| cgB (nb hp13) rfl rfl (oFld (fs := f_api_State) (k := 4) rfl o32_4 tm) (s1 rfl) <| cgB (nb hp13) rfl rfl (oLd t29 tm) (s1 rfl) <| cgB (nb hp13) rfl rfl (oFld (fs := f_api_State) (k := 4) rfl o32_4 tm) (s1 rfl) <| cgB (nb hp13) rfl rfl (oLd t29 tm) (s1 rfl) <| cgB (nb hp13) rfl rfl (oCall rfl (reticentref09_AtomsSame.ok hy14) b24 (opds_cons tm (opds_cons tm opds_nil))) (s2 rfl rfl) <| cgB (nb hp13) rfl rfl (oNot tm) (s1 rfl) <| cp (oPkF (nb hp13) tm tm) (s2 rfl rfl) <| cp (oMv tm) (s1 rfl) <| cgB (nb hp15) rfl rfl (oFld (fs := f_api_State) (k := 3) rfl o32_3 tm) (s1 rfl) <| cgB (nb hp15) rfl rfl (oLd t30 tm) (s1 rfl) <| cgB (nb hp15) rfl rfl (oLenL u30 tm) (s1 rfl) <| cgB (nb hp15) rfl rfl (oFld (fs := f_api_State) (k := 3) rfl o32_3 tm) (s1 rfl) <| cgB (nb hp15) rfl rfl (oLd t30 tm) (s1 rfl) <| cgB (nb hp15) rfl rfl (oLenL u30 tm) (s1 rfl) <| cgB (nb hp15) rfl rfl (oNe rfl tm tm) (s2 rfl rfl) <| cp (oPkF (nb hp15) tm tm) (s2 rfl rfl) <| .nil) (by kernel_rfl) ?_
            exact pJ1 _ (so h) ⟨rfl, rfl, rfl, trivial⟩ rfl
    · refine rg (cp (oFld (fs := f_api_State) (k := 0) rfl o32_0 tm) (s1 rfl) <| cp (oLd t27 tm) (s1 rfl) <| cp (oFld (fs := f_api_State) (k := 0) rfl o32_0 tm) (s1 rfl) <| cp (oLd t27 tm) (s1 rfl) <| cp (oRNe eqk27 rfl eg27 rfl tm tm) (s2 rfl rfl) <| cp (oMv tm) (s1 rfl) <| csB (nt hp9) rfl rfl <| csB (nt hp9) rfl rfl <| csB (nt hp9) rfl rfl <| csB (nt hp9) rfl rfl <| csB (nt hp9) rfl rfl <| csB (nt hp9) rfl rfl <| cp (oPkT (nt hp9) tm cB) (s1 rfl) <| cp (oMv tm) (s1 rfl) <| csB rfl rfl rfl <| csB rfl rfl rfl <| csB rfl rfl rfl <| csB rfl rfl rfl <| csB rfl rfl rfl <| csB rfl rfl rfl <| cp (oPkT rfl tm cB) (s1 rfl) <| cp (oMv tm) (s1 rfl) <| csB rfl rfl rfl <| csB rfl rfl rfl <| csB rfl rfl rfl <| csB rfl rfl rfl <| csB rfl rfl rfl <| csB rfl rfl rfl <| cp (oPkT rfl tm cB) (s1 rfl) <| cp (oMv tm) (s1 rfl) <| csB rfl rfl rfl <| csB rfl rfl rfl <| csB rfl rfl rfl <| csB rfl rfl rfl <| csB rfl rfl rfl <| csB rfl rfl rfl <| csB rfl rfl rfl <| cp (oPkT rfl tm cB) (s1 rfl) <| .nil) (by kernel_rfl) ?_
      exact pJ1 _ (so h) ⟨rfl, rfl, rfl, trivial⟩ rfl
  · rintro x8 rfl
    replace h := hk1
    rcases ic h with ⟨hp16, h⟩ | ⟨hp16, h⟩
    · refine wBT hp16 tm (s1 rfl) ?_
      refine wSeq ?_
      refine rg (cp (oAs cB) trivial <| .nil) (by kernel_rfl) ?_
      refine pSeq ?_
      refine wRet ?_
      refine pThenR ?_
      obtain rfl := so h
      exact pR1 (.inl rfl) rfl (.tmp rfl <| .nil)
    · refine wBF hp16 tm (s1 rfl) ?_
      refine wSkip ?_
      refine pSeq ?_
      refine wSeq ?_
      refine wSeq ?_
      refine rg (cp (oFld (fs := f_api_State) (k := 3) rfl o32_3 tm) (s1 rfl) <| cp (oLd t30 tm) (s1 rfl) <| cp (oLenL u30 tm) (s1 rfl) <| cp (oMv (cI (by decide))) trivial <| .nil) (by kernel_rfl) ?_
      refine pSeq ?_
      obtain ⟨o1, h, hk1⟩ := bd h
      refine wK0 (.inr () = o1) ([]) ([]) ?_ ?_
      · refine wBlock (wLoop ?_)
        refine lW (pc1 o1 (fun v25 => [(2, .d (sP (kR f_api_State) a0)), (3, .d (sP (kR f_api_State) a1)), (46, .d ((kI .i64).sig (a0.Stack.length : Int))), (47, .d ((kI .i64).sig v25))]) (fun v25 => []) (reticentref09_Same.l0.partial_correctness a0 a1) ?_ _ h) ⟨rfl, rfl, rfl, rfl, trivial⟩ rfl
        clear h
        intro f' ih v25 h
        refine wSeq ?_
        refine rg (cp (oLt rfl tm tm) (s2 rfl rfl) <| .nil) (by kernel_rfl) ?_
        refine pSeq ?_
        refine wSeq ?_
        rcases ic h with ⟨hp26, h⟩ | ⟨hp26, h⟩
        · refine wCT hp26 tm (s1 rfl) ?_
          refine wSkip ?_
          refine pSeq ?_
          refine wSeq ?_
          refine wBlock ?_
          refine wSeq ?_
          refine rg (cp (oMv tm) (s1 rfl) <| cp (oAs tm) (s1 rfl) <| .nil) (by kernel_rfl) ?_
          refine pSeq ?_
          refine wSeq ?_
          obtain ⟨y27, hy27, h⟩ := bd h
          obtain ⟨y28, hy28, h⟩ := bd h
          refine rgD hm (cp (oFld (fs := f_api_State) (k := 3) rfl o32_3 tm) (s1 rfl) <| cp (oLd t30 tm) (s1 rfl) <| cp (oMv tm) (s1 rfl) <| cp (oIdx u30 z51 hy27 tm tm) (s2 rfl rfl) <| cp (oLd t51 tm) (s1 rfl) <| cp (oFld (fs := f_api_State) (k := 3) rfl o32_3 tm) (s1 rfl) <| cp (oLd t30 tm) (s1 rfl) <| cp (oMv tm) (s1 rfl) <| cp (oIdx u30 z51 hy28 tm tm) (s2 rfl rfl) <| cp (oLd t51 tm) (s1 rfl) <| cp (oRNe eqk51 rfl eg51 rfl tm tm) (s2 rfl rfl) <| .nil) (by kernel_rfl) (by kernel_rfl) ?_
          refine pSeq ?_
          rcases ic h with ⟨hp29, h⟩ | ⟨hp29, h⟩
          · refine wNT hp29 tm (s1 rfl) ?_
            refine wSkip ?_
            refine pBlkN ?_
            refine pSeq ?_
            refine rg (cp (oAdd tm (cI (by decide))) (s1 rfl) <| cp (oMv tm) (s1 rfl) <| .nil) (by kernel_rfl) ?_
            exact pLoop (lW (ih _ h) ⟨rfl, rfl, rfl, rfl, trivial⟩ rfl)
          · refine wNF hp29 tm (s1 rfl) ?_
            refine wSeq ?_
            refine rg (cp (oAs cB) trivial <| .nil) (by kernel_rfl) ?_
            refine pSeq ?_
            refine wRet ?_
            refine pBlkR ?_
            refine pThenR ?_
            refine pThenR ?_
            refine pBlkR ?_
            refine pThenR ?_
            obtain rfl := so h
            replace h := hk1
            refine pThenR ?_
            obtain rfl := so h
            exact pR1 (.inl rfl) rfl (.tmp rfl <| .nil)
        · refine wCF hp26 tm (s1 rfl) ?_
          refine wExit ?_
          refine pThenX ?_
          refine pThenX ?_
          refine pBlkX ?_
          exact pJ0 (so h) trivial rfl
      · rintro rfl
        replace h := hk1
        refine pSeq ?_
        refine wSeq ?_
        refine rg (cp (oAs cB) trivial <| .nil) (by kernel_rfl) ?_
        refine pSeq ?_
        refine wRet ?_
        obtain rfl := so h
        exact pR1 (.inl rfl) rfl (.tmp rfl <| .nil)

theorem lex_while.ok {a0 : Str} {a1 : Int → Option Bool} {r : Int} (h : lex_while.f a0 a1 = some r) : FnA Tryz.prog 89 [kS.sig a0, (sFun Tryz.prog (rl1 (kI .u8) kB a1))] ((kI .i64).sig r) := by
  refine fnIntro Tryz.func89 rfl (by kernel_rfl) fun H0 w0 => ?_
  unfold lex_while.f at h
  refine wSeq ?_
  refine rg (cp (oAs (cI (by decide))) trivial <| .nil) (by kernel_rfl) ?_
  refine pSeq ?_
  refine wSeq ?_
  refine rg (cp (oAs (cI (by decide))) trivial <| .nil) (by kernel_rfl) ?_
  refine pSeq ?_
  obtain ⟨o1, h, hk1⟩ := bd h
  refine wJ1 (fun x18 => x18 = o1) (fun x18 => [(5, .d ((kI .i64).sig x18))]) (fun x18 => []) ?_ ?_
  · refine wBlock (wLoop ?_)
    refine lW (pc1 o1 (fun v17 => [(0, .d (kS.sig a0)), (1, .d ((sFun Tryz.prog (rl1 (kI .u8) kB a1)))), (5, .d ((kI .i64).sig v17))]) (fun v17 => []) (lex_while.l0.partial_correctness a0 a1) ?_ _ h) ⟨rfl, rfl, rfl, trivial⟩ rfl
    clear h
    intro f' ih v17 h
    refine wSeq ?_
    obtain ⟨o2, h, hk2⟩ := bd h
    refine wJ1 (fun x22 => x22 = o2) (fun x22 => [(0, .d (kS.sig a0)), (1, .d ((sFun Tryz.prog (rl1 (kI .u8) kB a1)))), (5, .d ((kI .i64).sig v17)), (16, .d (kB.sig x22))]) (fun x22 => []) ?_ ?_
    · rcases ic h with ⟨hp23, h⟩ | ⟨hp23, h⟩
      · obtain ⟨hc24, h⟩ := ib h
        obtain ⟨y25, hy25, h⟩ := bd h
        refine rg (cp (oMv tm) (s1 rfl) <| cp (oMv tm) (s1 rfl) <| cp (oLenS u9 tm) (s1 rfl) <| cp (oLt rfl tm tm) (s2 rfl rfl) <| cp (oMv tm) (s1 rfl) <| cgB (decide_eq_true hp23) rfl rfl (oMv tm) (s1 rfl) <| cgB (decide_eq_true hp23) rfl rfl (oMv tm) (s1 rfl) <| cgB (decide_eq_true hp23) rfl rfl (oMv tm) (s1 rfl) <| cgB (decide_eq_true hp23) rfl rfl (oIdxS u9 hc24.1 hc24.2 tm tm) (s2 rfl rfl) <| cgB (decide_eq_true hp23) rfl rfl (oCallV rfl (rl1i (f := a1) hy25) tm (opds_cons tm opds_nil)) (s2 rfl rfl) <| cp (oPkT (decide_eq_true hp23) tm tm) (s2 rfl rfl) <| .nil) (by kernel_rfl) ?_
        exact pJ1 _ (so h) ⟨rfl, rfl, rfl, rfl, trivial⟩ rfl
      · refine rg (cp (oMv tm) (s1 rfl) <| cp (oMv tm) (s1 rfl) <| cp (oLenS u9 tm) (s1 rfl) <| cp (oLt rfl tm tm) (s2 rfl rfl) <| cp (oMv tm) (s1 rfl) <| csB (decide_eq_false hp23) rfl rfl <| csB (decide_eq_false hp23) rfl rfl <| csB (decide_eq_false hp23) rfl rfl <| csB (decide_eq_false hp23) rfl rfl <| csB (decide_eq_false hp23) rfl rfl <| cp (oPkF (decide_eq_false hp23) tm cB) (s1 rfl) <| .nil) (by kernel_rfl) ?_
        exact pJ1 _ (so h) ⟨rfl, rfl, rfl, rfl, trivial⟩ rfl
    · rintro x22 rfl
      replace h := hk2
      rcases ic h with ⟨hp26, h⟩ | ⟨hp26, h⟩
      · refine wBT hp26 tm (s1 rfl) ?_
        refine wSkip ?_
        refine pSeq ?_
        refine wBlock ?_
        refine rg (cp (oMv tm) (s1 rfl) <| cp (oAdd tm (cI (by decide))) (s1 rfl) <| cp (oAs tm) (s1 rfl) <| .nil) (by kernel_rfl) ?_
        refine pBlkN ?_
        exact pLoop (lW (ih _ h) ⟨rfl, rfl, rfl, trivial⟩ rfl)
      · refine wBF hp26 tm (s1 rfl) ?_
        refine wExit ?_
        refine pThenX ?_
        refine pThenX ?_
        refine pBlkX ?_
        exact pJ1 _ (so h) ⟨rfl, trivial⟩ rfl
  · rintro x18 rfl
    replace h := hk1
    refine wSeq ?_
    refine rg (cp (oMv tm) (s1 rfl) <| cp (oAs tm) (s1 rfl) <| .nil) (by kernel_rfl) ?_
    refine pSeq ?_
    refine wRet ?_
    obtain rfl := so h
    exact pR1 (.inl rfl) rfl (.tmp rfl <| .nil)

theorem lex_token_1.ok {a0 : Int} {r : Bool} (h : lex_token_1.f a0 = some r) : FnA Tryz.prog 90 [(kI .u8).sig a0] (kB.sig r) := by
  refine fnIntro Tryz.func90 rfl (by kernel_rfl) fun H0 w0 => ?_
  unfold lex_token_1.f at h
  refine wSeq ?_
  refine rg (cp (oAs cB) trivial <| .nil) (by kernel_rfl) ?_
  refine pSeq ?_
  refine wSeq ?_
  refine rg (cp (oMv tm) (s1 rfl) <| cp (oNe rfl tm (cI (by decide))) (s1 rfl) <| cp (oAs tm) (s1 rfl) <| .nil) (by kernel_rfl) ?_
  refine pSeq ?_
  refine wRet ?_
  obtain rfl := so h
  exact pR1 (.inl rfl) rfl (.tmp rfl <| .nil)

theorem lex_letter.ok {a0 : Int} {r : Bool} (h : lex_letter.f a0 = some r) : FnA Tryz.prog 91 [(kI .u8).sig a0] (kB.sig r) := by
  refine fnIntro Tryz.func91 rfl (by kernel_rfl) fun H0 w0 => ?_
  unfold lex_letter.f at h
  refine wSeq ?_
  refine rg (cp (oAs cB) trivial <| .nil) (by kernel_rfl) ?_
  refine pSeq ?_
  obtain ⟨o1, h, hk1⟩ := bd h
  refine wJ1 (fun x2 => x2 = o1) (fun x2 => [(2, .d (kB.sig x2))]) (fun x2 => []) ?_ ?_
  · rcases ic h with ⟨hp3, h⟩ | ⟨hp3, h⟩
    · refine rg (cp (oMv tm) (s1 rfl) <| cp (oGe rfl tm (cI (by decide))) (s1 rfl) <| cp (oMv tm) (s1 rfl) <| cgB (decide_eq_true hp3) rfl rfl (oMv tm) (s1 rfl) <| cgB (decide_eq_true hp3) rfl rfl (oLe rfl tm (cI (by decide))) (s1 rfl) <| cp (oPkT (decide_eq_true hp3) tm tm) (s2 rfl rfl) <| cp (oAs tm) (s1 rfl) <| .nil) (by kernel_rfl) ?_
      exact pJ1 _ (so h) ⟨rfl, trivial⟩ rfl
    · refine rg (cp (oMv tm) (s1 rfl) <| cp (oGe rfl tm (cI (by decide))) (s1 rfl) <| cp (oMv tm) (s1 rfl) <| csB (decide_eq_false hp3) rfl rfl <| csB (decide_eq_false hp3) rfl rfl <| cp (oPkF (decide_eq_false hp3) tm cB) (s1 rfl) <| cp (oAs tm) (s1 rfl) <| .nil) (by kernel_rfl) ?_
      exact pJ1 _ (so h) ⟨rfl, trivial⟩ rfl
  · rintro x2 rfl
    replace h := hk1
    refine wRet ?_
    obtain rfl := so h
    exact pR1 (.inl rfl) rfl (.tmp rfl <| .nil)

theorem lex_digit.ok {a0 : Int} {r : Bool} (h : lex_digit.f a0 = some r) : FnA Tryz.prog 92 [(kI .u8).sig a0] (kB.sig r) := by
  refine fnIntro Tryz.func92 rfl (by kernel_rfl) fun H0 w0 => ?_
  unfold lex_digit.f at h
  refine wSeq ?_
  refine rg (cp (oAs cB) trivial <| .nil) (by kernel_rfl) ?_
  refine pSeq ?_
  obtain ⟨o1, h, hk1⟩ := bd h
  refine wJ1 (fun x2 => x2 = o1) (fun x2 => [(2, .d (kB.sig x2))]) (fun x2 => []) ?_ ?_
  · rcases ic h with ⟨hp3, h⟩ | ⟨hp3, h⟩
    · refine rg (cp (oMv tm) (s1 rfl) <| cp (oGe rfl tm (cI (by decide))) (s1 rfl) <| cp (oMv tm) (s1 rfl) <| cgB (decide_eq_true hp3) rfl rfl (oMv tm) (s1 rfl) <| cgB (decide_eq_true hp3) rfl rfl (oLe rfl tm (cI (by decide))) (s1 rfl) <| cp (oPkT (decide_eq_true hp3) tm tm) (s2 rfl rfl) <| cp (oAs tm) (s1 rfl) <| .nil) (by kernel_rfl) ?_
      exact pJ1 _ (so h) ⟨rfl, trivial⟩ rfl
    · refine rg (cp (oMv tm) (s1 rfl) <| cp (oGe rfl tm (cI (by decide))) (s1 rfl) <| cp (oMv tm) (s1 rfl) <| csB (decide_eq_false hp3) rfl rfl <| csB (decide_eq_false hp3) rfl rfl <| cp (oPkF (decide_eq_false hp3) tm cB) (s1 rfl) <| cp (oAs tm) (s1 rfl) <| .nil) (by kernel_rfl) ?_
      exact pJ1 _ (so h) ⟨rfl, trivial⟩ rfl
  · rintro x2 rfl
    replace h := hk1
    refine wRet ?_
    obtain rfl := so h
    exact pR1 (.inl rfl) rfl (.tmp rfl <| .nil)

theorem stringslite_HasPrefix.ok {a0 : Str} {a1 : Str} {r : Bool} (h : stringslite_HasPrefix.f a0 a1 = some r) : FnA Tryz.prog 107 [kS.sig a0, kS.sig a1] (kB.sig r) := by
  refine fnIntro Tryz.func107 rfl (by kernel_rfl) fun H0 w0 => ?_
  unfold stringslite_HasPrefix.f at h
  refine wSeq ?_
  refine rg (cp (oAs cB) trivial <| .nil) (by kernel_rfl) ?_
  refine pSeq ?_
  obtain ⟨o1, h, hk1⟩ := bd h
  refine wJ1 (fun x3 => x3 = o1) (fun x3 => [(4, .d (kB.sig x3))]) (fun x3 => []) ?_ ?_
  · rcases ic h with ⟨hp4, h⟩ | ⟨hp4, h⟩
    · obtain ⟨hc5, h⟩ := ib h
      refine rg (cp (oMv tm) (s1 rfl) <| cp (oLenS u9 tm) (s1 rfl) <| cp (oMv tm) (s1 rfl) <| cp (oLenS u9 tm) (s1 rfl) <| cp (oGe rfl tm tm) (s2 rfl rfl) <| cp (oMv tm) (s1 rfl) <| cgB (decide_eq_true hp4) rfl rfl (oMv tm) (s1 rfl) <| cgB (decide_eq_true hp4) rfl rfl (oMv tm) (s1 rfl) <| cgB (decide_eq_true hp4) rfl rfl (oLenS u9 tm) (s1 rfl) <| cgB (decide_eq_true hp4) rfl rfl (oCutSH u9 hc5.1 hc5.2 tm tm) (s2 rfl rfl) <| cgB (decide_eq_true hp4) rfl rfl (oMv tm) (s1 rfl) <| cgB (decide_eq_true hp4) rfl rfl (oSEq rfl tm tm) (s2 rfl rfl) <| cp (oPkT (decide_eq_true hp4) tm tm) (s2 rfl rfl) <| cp (oAs tm) (s1 rfl) <| .nil) (by kernel_rfl) ?_
      exact pJ1 _ (so h) ⟨rfl, trivial⟩ rfl
    · refine rg (cp (oMv tm) (s1 rfl) <| cp (oLenS u9 tm) (s1 rfl) <| cp (oMv tm) (s1 rfl) <| cp (oLenS u9 tm) (s1 rfl) <| cp (oGe rfl tm tm) (s2 rfl rfl) <| cp (oMv tm) (s1 rfl) <| csB (decide_eq_false hp4) rfl rfl <| csB (decide_eq_false hp4) rfl rfl <| csB (decide_eq_false hp4) rfl rfl <| csB (decide_eq_false hp4) rfl rfl <| csB (decide_eq_false hp4) rfl rfl <| csB (decide_eq_false hp4) rfl rfl <| cp (oPkF (decide_eq_false hp4) tm cB) (s1 rfl) <| cp (oAs tm) (s1 rfl) <| .nil) (by kernel_rfl) ?_
      exact pJ1 _ (so h) ⟨rfl, trivial⟩ rfl
  · rintro x3 rfl
    replace h := hk1
    refine wRet ?_
    obtain rfl := so h
    exact pR1 (.inl rfl) rfl (.tmp rfl <| .nil)

theorem strings_HasPrefix.ok {a0 : Str} {a1 : Str} {r : Bool} (h : strings_HasPrefix.f a0 a1 = some r) : FnA Tryz.prog 93 [kS.sig a0, kS.sig a1] (kB.sig r) := by
  refine fnIntro Tryz.func93 rfl (by kernel_rfl) fun H0 w0 => ?_
  unfold strings_HasPrefix.f at h
  refine wSeq ?_
  refine rg (cp (oAs cB) trivial <| .nil) (by kernel_rfl) ?_
  refine pSeq ?_
  refine wSeq ?_
  obtain ⟨y1, hy1, h⟩ := bd h
  refine rg (cp (oMv tm) (s1 rfl) <| cp (oMv tm) (s1 rfl) <| cp (oCall rfl (stringslite_HasPrefix.ok hy1) b107 (opds_cons tm (opds_cons tm opds_nil))) (s2 rfl rfl) <| cp (oAs tm) (s1 rfl) <| .nil) (by kernel_rfl) ?_
  refine pSeq ?_
  refine wRet ?_
  obtain rfl := so h
  exact pR1 (.inl rfl) rfl (.tmp rfl <| .nil)

theorem lex_token.ok {a0 : Str} {r : Int × Int} (h : lex_token.f a0 = some r) : FnA Tryz.prog 57 [kS.sig a0] (tup [(kI .i64).sig r.1, (kI .i64).sig r.2]) := by
  refine fnIntro Tryz.func57 rfl (by kernel_rfl) fun H0 w0 => ?_
  unfold lex_token.f at h
  refine wSeq ?_
  refine rg (cp (oAs (cI (by decide))) trivial <| cp (oAs (cI (by decide))) trivial <| .nil) (by kernel_rfl) ?_
  refine pSeq ?_
  refine wSeq ?_
  obtain ⟨hc1, h⟩ := ib h
  refine rg (cp (oMv tm) (s1 rfl) <| cp (oIdxS u9 hc1.1 hc1.2 tm (cI (by decide))) (s1 rfl) <| cp (oAs tm) (s1 rfl) <| .nil) (by kernel_rfl) ?_
  refine pSeq ?_
  refine wSeq ?_
  refine wBlock ?_
  obtain ⟨o1, h, hk1⟩ := bd h
  refine wJ1 (fun x4 => x4 = o1) (fun x4 => [(0, .d (kS.sig a0)), (4, .d ((kI .u8).sig (sAt a0 0))), (7, .d (kB.sig x4))]) (fun x4 => []) ?_ ?_
  · rcases ic h with ⟨hp5, h⟩ | ⟨hp5, h⟩
    · refine rg (cp (oMv tm) (s1 rfl) <| cp (oEq rfl tm (cI (by decide))) (s1 rfl) <| cp (oMv tm) (s1 rfl) <| csB (decide_eq_true hp5) rfl rfl <| csB (decide_eq_true hp5) rfl rfl <| cp (oPkT (decide_eq_true hp5) tm cB) (s1 rfl) <| cp (oMv tm) (s1 rfl) <| csB rfl rfl rfl <| csB rfl rfl rfl <| cp (oPkT rfl tm cB) (s1 rfl) <| cp (oAs tm) (s1 rfl) <| .nil) (by kernel_rfl) ?_
      exact pJ1 _ (so h) ⟨rfl, rfl, rfl, trivial⟩ rfl
    · rcases ic h with ⟨hp6, h⟩ | ⟨hp6, h⟩
      · refine rg (cp (oMv tm) (s1 rfl) <| cp (oEq rfl tm (cI (by decide))) (s1 rfl) <| cp (oMv tm) (s1 rfl) <| cgB (decide_eq_false hp5) rfl rfl (oMv tm) (s1 rfl) <| cgB (decide_eq_false hp5) rfl rfl (oEq rfl tm (cI (by decide))) (s1 rfl) <| cp (oPkF (decide_eq_false hp5) tm tm) (s2 rfl rfl) <| cp (oMv tm) (s1 rfl) <| csB (decide_eq_true hp6) rfl rfl <| csB (decide_eq_true hp6) rfl rfl <| cp (oPkT (decide_eq_true hp6) tm cB) (s1 rfl) <| cp (oAs tm) (s1 rfl) <| .nil) (by kernel_rfl) ?_
        exact pJ1 _ (so h) ⟨rfl, rfl, rfl, trivial⟩ rfl
      · refine rg (cp (oMv tm) (s1 rfl) <| cp (oEq rfl tm (cI (by decide))) (s1 rfl) <| cp (oMv tm) (s1 rfl) <| cgB (decide_eq_false hp5) rfl rfl (oMv tm) (s1 rfl) <| cgB (decide_eq_false hp5) rfl rfl (oEq rfl tm (cI (by decide))) (s1 rfl) <| cp (oPkF (decide_eq_false hp5) tm tm) (s2 rfl rfl) <| cp (oMv tm) (s1 rfl) <| cgB (decide_eq_false hp6) rfl rfl (oMv tm) (s1 rfl) <| cgB (decide_eq_false hp6) rfl rfl (oEq rfl tm (cI (by decide))) (s1 rfl) <| cp (oPkF (decide_eq_false hp6) tm tm) (s2 rfl rfl) <| cp (oAs tm) (s1 rfl) <| .nil) (by kernel_rfl) ?_
        exact pJ1 _ (so h) ⟨rfl, rfl, rfl, trivial⟩ rfl
  · rintro x4 rfl
    replace h := hk1
    rcases ic h with ⟨hp7, h⟩ | ⟨hp7, h⟩
    · refine wBT hp7 tm (s1 rfl) ?_
      refine wSeq ?_
      refine rg (cp (oAs (cI (by decide))) trivial <| cp (oAs (cI (by decide))) trivial <| .nil) (by kernel_rfl) ?_
      refine pSeq ?_
      refine wRet ?_
      refine pBlkR ?_
      refine pThenR ?_
      obtain rfl := so h
      exact pRn (.inl rfl) rfl rfl (.tmp rfl <| .tmp rfl <| .nil)
    · refine wBF hp7 tm (s1 rfl) ?_
      refine wSeq ?_
      refine rg (cp (oMv tm) (s1 rfl) <| cp (oEq rfl tm (cI (by decide))) (s1 rfl) <| cp (oAs tm) (s1 rfl) <| .nil) (by kernel_rfl) ?_
      refine pSeq ?_
      rcases ic h with ⟨hp8, h⟩ | ⟨hp8, h⟩
      · refine wCT hp8 tm (s1 rfl) ?_
        refine wSeq ?_
        obtain ⟨y9, hy9, h⟩ := bd h
        refine rg (cp (oMv tm) (s1 rfl) <| cp (oCall rfl (lex_while.ok hy9) b89 (opds_cons tm (opds_cons (oFn b90 (rl1n lex_token_1.ok)) opds_nil))) (s1 rfl) <| cp (oAs (cI (by decide))) trivial <| cp (oAs tm) (s1 rfl) <| .nil) (by kernel_rfl) ?_
        refine pSeq ?_
        refine wRet ?_
        refine pBlkR ?_
        refine pThenR ?_
        obtain rfl := so h
        exact pRn (.inl rfl) rfl rfl (.tmp rfl <| .tmp rfl <| .nil)
      · refine wCF hp8 tm (s1 rfl) ?_
        refine wSeq ?_
        obtain ⟨y10, hy10, h⟩ := bd h
        refine rg (cp (oMv tm) (s1 rfl) <| cp (oCall rfl (lex_letter.ok hy10) b91 (opds_cons tm opds_nil)) (s1 rfl) <| cp (oAs tm) (s1 rfl) <| .nil) (by kernel_rfl) ?_
        refine pSeq ?_
        rcases ic h with ⟨hp11, h⟩ | ⟨hp11, h⟩
        · refine wBT hp11 tm (s1 rfl) ?_
          refine wSeq ?_
          obtain ⟨y12, hy12, h⟩ := bd h
          refine rg (cp (oMv tm) (s1 rfl) <| cp (oCall rfl (lex_while.ok hy12) b89 (opds_cons tm (opds_cons (oFn b91 (rl1n lex_letter.ok)) opds_nil))) (s1 rfl) <| cp (oAs (cI (by decide))) trivial <| cp (oAs tm) (s1 rfl) <| .nil) (by kernel_rfl) ?_
          refine pSeq ?_
          refine wRet ?_
          refine pBlkR ?_
          refine pThenR ?_
          obtain rfl := so h
          exact pRn (.inl rfl) rfl rfl (.tmp rfl <| .tmp rfl <| .nil)
        · refine wBF hp11 tm (s1 rfl) ?_
          refine wSeq ?_
          obtain ⟨y13, hy13, h⟩ := bd h
          refine rg (cp (oMv tm) (s1 rfl) <| cp (oCall rfl (lex_digit.ok hy13) b92 (opds_cons tm opds_nil)) (s1 rfl) <| cp (oAs tm) (s1 rfl) <| .nil) (by kernel_rfl) ?_
          refine pSeq ?_
          rcases ic h with ⟨hp14, h⟩ | ⟨hp14, h⟩
          · refine wBT hp14 tm (s1 rfl) ?_
            refine wSeq ?_
            obtain ⟨y15, hy15, h⟩ := bd h
            refine rg (cp (oMv tm) (s1 rfl) <| cp (oCall rfl (lex_while.ok hy15) b89 (opds_cons tm (opds_cons (oFn b92 (rl1n lex_digit.ok)) opds_nil))) (s1 rfl) <| cp (oAs (cI (by decide))) trivial <| cp (oAs tm) (s1 rfl) <| .nil) (by kernel_rfl) ?_
            refine pSeq ?_
            refine wRet ?_
            refine pBlkR ?_
            refine pThenR ?_
            obtain rfl := so h
            exact pRn (.inl rfl) rfl rfl (.tmp rfl <| .tmp rfl <| .nil)
          · refine wBF hp14 tm (s1 rfl) ?_
            refine wSeq ?_
            obtain ⟨y16, hy16, h⟩ := bd h
            refine rg (cp (oMv tm) (s1 rfl) <| cp (oCall rfl (strings_HasPrefix.ok hy16) b93 (opds_cons tm (opds_cons (cS (by decide)) opds_nil))) (s1 rfl) <| cp (oAs tm) (s1 rfl) <| .nil) (by kernel_rfl) ?_
            refine pSeq ?_
            rcases ic h with ⟨hp17, h⟩ | ⟨hp17, h⟩
            · refine wBT hp17 tm (s1 rfl) ?_
              refine wSeq ?_
              refine rg (cp (oAs (cI (by decide))) trivial <| cp (oAs (cI (by decide))) trivial <| .nil) (by kernel_rfl) ?_
              refine pSeq ?_
              refine wRet ?_
              refine pBlkR ?_
              refine pThenR ?_
              obtain rfl := so h
              exact pRn (.inl rfl) rfl rfl (.tmp rfl <| .tmp rfl <| .nil)
            · refine wBF hp17 tm (s1 rfl) ?_
              refine wSeq ?_
              obtain ⟨y18, hy18, h⟩ := bd h
              refine rg (cp (oMv tm) (s1 rfl) <| cp (oCall rfl (libIndexByte Tryz.strings_IndexByte hy18) b94 (opds_cons (cS (by decide)) (opds_cons tm opds_nil))) (s1 rfl) <| cp (oGe rfl tm (cI (by decide))) (s1 rfl) <| cp (oAs tm) (s1 rfl) <| .nil) (by kernel_rfl) ?_
              refine pSeq ?_
              rcases ic h with ⟨hp19, h⟩ | ⟨hp19, h⟩
              · refine wCT hp19 tm (s1 rfl) ?_
                refine wSeq ?_
                refine rg (cp (oAs (cI (by decide))) trivial <| cp (oAs (cI (by decide))) trivial <| .nil) (by kernel_rfl) ?_
                refine pSeq ?_
                refine wRet ?_
                refine pBlkR ?_
                refine pThenR ?_
                obtain rfl := so h
                exact pRn (.inl rfl) rfl rfl (.tmp rfl <| .tmp rfl <| .nil)
              · refine wCF hp19 tm (s1 rfl) ?_
                refine wSkip ?_
                refine pBlkN ?_
                refine pSeq ?_
                refine wSeq ?_
                refine rg (cp (oAs (cI (by decide))) trivial <| cp (oAs (cI (by decide))) trivial <| .nil) (by kernel_rfl) ?_
                refine pSeq ?_
                refine wRet ?_
                obtain rfl := so h
                exact pRn (.inl rfl) rfl rfl (.tmp rfl <| .tmp rfl <| .nil)

theorem lex_Lex.ok {a0 : Str} {r : (List api_Tok) × Int × Int} (h : lex_Lex.f a0 = some r) : FnA Tryz.prog 21 [kS.sig a0] (tup [(kL (kR f_api_Tok)).sig r.1, (kI .i64).sig r.2.1, (kI .i64).sig r.2.2]) := by
  refine fnIntro Tryz.func21 rfl (by kernel_rfl) fun H0 w0 => ?_
  unfold lex_Lex.f at h
  refine wSeq ?_
  refine rg (cp (oAs cV) trivial <| cp (oAs (cI (by decide))) trivial <| cp (oAs (cI (by decide))) trivial <| .nil) (by kernel_rfl) ?_
  refine pSeq ?_
  refine wSeq ?_
  refine wSeq ?_
  refine rg (cp (oMv tm) (s1 rfl) <| cp (oLenS u9 tm) (s1 rfl) <| cp (oGt rfl tm (cI (by decide))) (s1 rfl) <| .nil) (by kernel_rfl) ?_
  refine pSeq ?_
  rcases ic h with ⟨hp1, h⟩ | ⟨hp1, h⟩
  · refine wCT hp1 tm (s1 rfl) ?_
    refine wSeq ?_
    refine rg (cp (oAs cV) trivial <| cp (oAs (cI (by decide))) trivial <| cp (oAs (cI (by decide))) trivial <| .nil) (by kernel_rfl) ?_
    refine pSeq ?_
    refine wNil (kR f_api_Tok) 58 9002 2 rfl rfl ?_
    refine wFrzR (n := 0) (id := 9002) [2] rfl rfl ⟨rfl, trivial⟩ ?_
    refine wRet ?_
    refine pThenR ?_
    obtain rfl := so h
    exact pRn (.inl rfl) rfl rfl (.tmp rfl <| .tmp rfl <| .tmp rfl <| .nil)
  · refine wCF hp1 tm (s1 rfl) ?_
    refine wSkip ?_
    refine pSeq ?_
    refine wSeq ?_
    refine rg (cp (oAs cV) trivial <| .nil) (by kernel_rfl) ?_
    refine pSeq ?_
    refine wSeq ?_
    refine wSeq ?_
    refine rg (cp (oAs (cI (by decide))) trivial <| .nil) (by kernel_rfl) ?_
    refine pSeq ?_
    refine wNil (kR f_api_Tok) 58 1005 5 rfl rfl ?_
    obtain ⟨o1, h, hk1⟩ := bd h
    refine wK1 (fun x34 => .inr x34 = o1) (fun x34 => [(0, .d (kS.sig a0)), (5, .v 1005)]) (fun x34 => [.row 1005 58 (kR f_api_Tok) x34]) ?_ ?_
    · refine wBlock (wLoop ?_)
      refine lW (pc2 o1 (fun v32 v33 => [(0, .d (kS.sig a0)), (5, .v 1005), (6, .d ((kI .i64).sig v33))]) (fun v32 v33 => [.row 1005 58 (kR f_api_Tok) v32]) (lex_Lex.l0.partial_correctness a0) ?_ _ _ h) ⟨rfl, rfl, rfl, trivial⟩ rfl
      clear h
      intro f' ih v32 v33 h
      refine wSeq ?_
      refine wSeq ?_
      refine rg (cp (oMv tm) (s1 rfl) <| cp (oMv tm) (s1 rfl) <| cp (oLenS u9 tm) (s1 rfl) <| cp (oLt rfl tm tm) (s2 rfl rfl) <| .nil) (by kernel_rfl) ?_
      refine pSeq ?_
      rcases ic h with ⟨hp35, h⟩ | ⟨hp35, h⟩
      · refine wCT hp35 tm (s1 rfl) ?_
        refine wSkip ?_
        refine pSeq ?_
        obtain ⟨o2, h, hk2⟩ := bd h
        refine wK2 (fun x42 x43 => .inr (x42, x43) = o2) (fun x42 x43 => [(0, .d (kS.sig a0)), (5, .v 1005), (6, .d ((kI .i64).sig x43))]) (fun x42 x43 => [.row 1005 58 (kR f_api_Tok) x42]) ?_ ?_
        · refine wBlock ?_
          refine wSeq ?_
          obtain ⟨hc44, h⟩ := ib h
          obtain ⟨y45, hy45, h⟩ := bd h
          refine rg (cp (oMv tm) (s1 rfl) <| cp (oMv tm) (s1 rfl) <| cp (oCutSL u9 hc44.1 hc44.2 tm tm) (s2 rfl rfl) <| cp (oCall rfl (lex_token.ok hy45) b57 (opds_cons tm opds_nil)) (s1 rfl) <| cp (oMv tm) (s1 rfl) <| cp (oExt (k := 0) rfl tm) (s1 rfl) <| cp (oExt (k := 1) rfl tm) (s1 rfl) <| cp (oAs tm) (s1 rfl) <| cp (oAs tm) (s1 rfl) <| .nil) (by kernel_rfl) ?_
          refine pSeq ?_
          refine wSeq ?_
          refine wSeq ?_
          refine rg (cp (oMv tm) (s1 rfl) <| cp (oEq rfl tm (cI (by decide))) (s1 rfl) <| .nil) (by kernel_rfl) ?_
          refine pSeq ?_
          rcases ic h with ⟨hp46, h⟩ | ⟨hp46, h⟩
          · refine wCT hp46 tm (s1 rfl) ?_
            refine wSeq ?_
            refine rg (cp (oMv tm) (s1 rfl) <| cp (oAs cV) trivial <| cp (oAs tm) (s1 rfl) <| cp (oAs (cI (by decide))) trivial <| .nil) (by kernel_rfl) ?_
            refine pSeq ?_
            refine wNil (kR f_api_Tok) 58 9002 2 rfl rfl ?_
            refine wFrzR (n := 0) (id := 9002) [2] rfl rfl ⟨rfl, trivial⟩ ?_
            refine wRet ?_
            refine pThenR ?_
            refine pBlkR ?_
            refine pThenR ?_
            obtain rfl := so h
            replace h := hk2
            refine pThenR ?_
            refine pBlkR ?_
            refine pThenR ?_
            obtain rfl := so h
            replace h := hk1
            refine pThenR ?_
            obtain rfl := so h
            exact pRn (.inl rfl) rfl rfl (.tmp rfl <| .tmp rfl <| .tmp rfl <| .nil)
          · refine wCF hp46 tm (s1 rfl) ?_
            refine wSkip ?_
            refine pSeq ?_
            refine wSeq ?_
            refine wSeq ?_
            refine rg (cp (oMv tm) (s1 rfl) <| cp (oNe rfl tm (cI (by decide))) (s1 rfl) <| .nil) (by kernel_rfl) ?_
            refine pSeq ?_
            rcases ic h with ⟨hp47, h⟩ | ⟨hp47, h⟩
            · refine wNT hp47 tm (s1 rfl) ?_
              refine wSkip ?_
              refine pSeq ?_
              refine rg (cp (oMv tm) (s1 rfl) <| cp (oMv tm) (s1 rfl) <| cp (oAdd tm tm) (s2 rfl rfl) <| cp (oAs tm) (s1 rfl) <| .nil) (by kernel_rfl) ?_
              refine pBlkN ?_
              exact pJ2 _ _ (so h) ⟨rfl, rfl, rfl, trivial⟩ rfl
            · refine wNF hp47 tm (s1 rfl) ?_
              obtain ⟨hc48, h⟩ := ib h
              obtain ⟨hc49, h⟩ := ib h
              refine rg (cp (oMv tm) (s1 rfl) <| cp (oMv tm) (s1 rfl) <| cp (oMv tm) (s1 rfl) <| cp (oMv tm) (s1 rfl) <| cp (oMv tm) (s1 rfl) <| cp (oMv tm) (s1 rfl) <| cp (oAdd tm tm) (s2 rfl rfl) <| cp (oCutS u9 hc48.1 hc48.2.1 hc48.2.2 tm tm tm) (s3 rfl rfl rfl) <| cp (oMv tm) (s1 rfl) <| cp (oBuild (fs := f_api_Tok) (u := ⟨y45.1, sCut a0 v33 (IntKind.i64.wrap (v33 + y45.2)), v33⟩) rfl ze58 pl58 po58 (.op (zc := [(.int .i64 0)]) tm rfl (.op (zc := [(.string ⟨⟨[]⟩⟩)]) tm rfl (.op (zc := [(.int .i64 0)]) tm rfl .nil)))) (s3 rfl rfl rfl) <| cp (oLit (d := (kR f_api_Tok)) el53 (by decide) rfl rfl rfl (e1 tm e0)) (s1 rfl) <| cw (oApp (n := 0) (id' := 39) el53 (by decide) rfl (by decide) hc49 tm tm) (s2 rfl rfl) <| cp (oAs tm) (s1 rfl) <| .nil) (by kernel_rfl) ?_
              refine pSeq ?_
              refine rg (cp (oMv tm) (s1 rfl) <| cp (oMv tm) (s1 rfl) <| cp (oAdd tm tm) (s2 rfl rfl) <| cp (oAs tm) (s1 rfl) <| .nil) (by kernel_rfl) ?_
              refine pBlkN ?_
              refine pSub (Γ' := [(0, .d (kS.sig a0)), (5, .v 39), (6, .d ((kI .i64).sig (IntKind.i64.wrap (v33 + y45.2))))]) ⟨rfl, rfl, rfl, trivial⟩ ?_
              refine pRen 39 1005 rfl ?_
              exact pJ2 _ _ (so h) ⟨rfl, rfl, rfl, trivial⟩ rfl
        · rintro x42 x43 rfl
          replace h := hk2
          exact pLoop (lW (ih _ _ h) ⟨rfl, rfl, rfl, trivial⟩ rfl)
      · refine wCF hp35 tm (s1 rfl) ?_
        refine wExit ?_
        refine pThenX ?_
        refine pThenX ?_
        refine pBlkX ?_
        exact pJ1 _ (so h) ⟨rfl, rfl, trivial⟩ rfl
    · rintro x34 rfl
      replace h := hk1
      refine pSeq ?_
      refine wSeq ?_
      obtain ⟨hc50, h⟩ := ib h
      refine rg (cp (oMv tm) (s1 rfl) <| cp (oMv tm) (s1 rfl) <| cp (oLenS u9 tm) (s1 rfl) <| cp (oBuild (fs := f_api_Tok) (u := ⟨0, [], (a0.length : Int)⟩) rfl ze58 pl58 po58 (.ze (zc := [(.int .i64 0)]) zI_i64 (.ze (zc := [(.string ⟨⟨[]⟩⟩)]) zS (.op (zc := [(.int .i64 0)]) tm rfl .nil)))) (s1 rfl) <| cp (oLit (d := (kR f_api_Tok)) el53 (by decide) rfl rfl rfl (e1 tm e0)) (s1 rfl) <| cw (oApp (n := 0) (id' := 48) el53 (by decide) rfl (by decide) hc50 tm tm) (s2 rfl rfl) <| cp (oAs tm) (s1 rfl) <| .nil) (by kernel_rfl) ?_
      refine pSeq ?_
      refine wSeq ?_
      refine wSeq ?_
      refine rg (cp (oMv tm) (s1 rfl) <| cr (oLenR (n := 0) u53 rfl tm) (s1 rfl) <| cp (oGt rfl tm (cI (by decide))) (s1 rfl) <| .nil) (by kernel_rfl) ?_
      refine pSeq ?_
      rcases ic h with ⟨hp51, h⟩ | ⟨hp51, h⟩
      · refine wCT hp51 tm (s1 rfl) ?_
        refine wSeq ?_
        refine rg (cp (oAs cV) trivial <| cp (oAs (cI (by decide))) trivial <| cp (oAs (cI (by decide))) trivial <| .nil) (by kernel_rfl) ?_
        refine pSeq ?_
        refine wNil (kR f_api_Tok) 58 9002 2 rfl rfl ?_
        refine wFrzR (n := 0) (id := 9002) [2] rfl rfl ⟨rfl, trivial⟩ ?_
        refine wRet ?_
        refine pThenR ?_
        obtain rfl := so h
        exact pRn (.inl rfl) rfl rfl (.tmp rfl <| .tmp rfl <| .tmp rfl <| .nil)
      · refine wCF hp51 tm (s1 rfl) ?_
        refine wSkip ?_
        refine pSeq ?_
        refine wSeq ?_
        refine rg (cp (oMv tm) (s1 rfl) <| cp (oAs tm) (s1 rfl) <| cp (oAs (cI (by decide))) trivial <| cp (oAs (cI (by decide))) trivial <| .nil) (by kernel_rfl) ?_
        refine pSeq ?_
        refine wFrzR (n := 0) (id := 48) [2] rfl rfl ⟨rfl, trivial⟩ ?_
        refine wRet ?_
        obtain rfl := so h
        exact pRn (.inl rfl) rfl rfl (.tmp rfl <| .tmp rfl <| .tmp rfl <| .nil)

theorem state_reader_is.ok {a0 : state_reader} {a1 : Int} {a2 : Str} {r : state_reader × Bool} (h : state_reader_is.f a0 a1 a2 = some r) : FnS Tryz.prog 95 [.p 70000 0, .d ((kI .i64).sig a1), .d (kS.sig a2)] [.box 70000 88 [.d (kL kS) a0.l_.Names, .d (kL (kI .u32)) a0.l_.Up, .d (kL (kR f_api_Tok)) a0.toks_, .d (kI .i64) a0.i_, .d (kI .i64) a0.bad_]] [70000] (.d (kB.sig r.2)) [.box 70000 88 [.d (kL kS) r.1.l_.Names, .d (kL (kI .u32)) r.1.l_.Up, .d (kL (kR f_api_Tok)) r.1.toks_, .d (kI .i64) r.1.i_, .d (kI .i64) r.1.bad_]] := by
  refine fnIntroS Tryz.func95 rfl (by kernel_rfl) fun X H0 w0 pv => ?_
  unfold state_reader_is.f at h
  refine wSeq ?_
  refine rg (cp (oAs cB) trivial <| .nil) (by kernel_rfl) ?_
  refine pSeq ?_
  refine wSeq ?_
  obtain ⟨y1, hy1, h⟩ := bd h
  refine rgL hm (cp (oMv tm) (s1 rfl) <| cp (oNilP tm) (s1 rfl) <| cp (oFldP o88_1 tm) (s1 rfl) <| cl [] rfl (oLdB (n := 0) (k := 2) rfl rfl rfl t53 tm) (s1 rfl) <| cp (oMv tm) (s1 rfl) <| cp (oNilP tm) (s1 rfl) <| cp (oFldP o88_2 tm) (s1 rfl) <| cl [] rfl (oLdB (n := 0) (k := 3) rfl rfl rfl t3 tm) (s1 rfl) <| cp (oIdx u53 z58 hy1 tm tm) (s2 rfl rfl) <| cp (oLd t58 tm) (s1 rfl) <| cn (oAlloc (id := 7) (ls := [.d (kI .i64) 0, .d kS [], .d (kI .i64) 0]) ze58 (fun g => ⟨[(.int .i64 0)], _, rfl, zI_i64 g.H, ⟨[(.string ⟨⟨[]⟩⟩)], _, rfl, zS g.H, ⟨[(.int .i64 0)], _, rfl, zI_i64 g.H, rfl⟩⟩⟩)) trivial <| cwn (oStA (n := 0) (fs := f_api_Tok) rfl rfl z58 tm tm) (s2 rfl rfl) <| .nil) (by kernel_rfl) (by kernel_rfl) (by kernel_rfl) ?_
  refine pSeq ?_
  obtain ⟨o1, h, hk1⟩ := bd h
  refine wJ1 (fun x4 => x4 = o1) (fun x4 => [(6, .d (kB.sig x4))]) (fun x4 => [.box 7 58 [.d (kI .i64) y1.Kind, .d kS y1.Text, .d (kI .i64) y1.At], .box 70000 88 [.d (kL kS) a0.l_.Names, .d (kL (kI .u32)) a0.l_.Up, .d (kL (kR f_api_Tok)) a0.toks_, .d (kI .i64) a0.i_, .d (kI .i64) a0.bad_]]) ?_ ?_
  · rcases ic h with ⟨hp5, h⟩ | ⟨hp5, h⟩
    · rcases ic h with ⟨hp6, h⟩ | ⟨hp6, h⟩
      · refine rg (cp (oMv tm) (s1 rfl) <| cp (oNilP tm) (s1 rfl) <| cp (oFldP o88_3 tm) (s1 rfl) <| cr (oLdB (n := 1) (k := 4) rfl rfl rfl t35 tm) (s1 rfl) <| cp (oEq rfl tm (cI (by decide))) (s1 rfl) <| cp (oMv tm) (s1 rfl) <| cgB (decide_eq_true hp5) rfl rfl (oFldP o58_0 tm) (s1 rfl) <| crgB (decide_eq_true hp5) rfl rfl (oLdB (n := 0) (k := 0) rfl rfl rfl t3 tm) (s1 rfl) <| cgB (decide_eq_true hp5) rfl rfl (oMv tm) (s1 rfl) <| cgB (decide_eq_true hp5) rfl rfl (oEq rfl tm tm) (s2 rfl rfl) <| cp (oPkT (decide_eq_true hp5) tm tm) (s2 rfl rfl) <| cp (oMv tm) (s1 rfl) <| cgB (decide_eq_true hp6) rfl rfl (oFldP o58_1 tm) (s1 rfl) <| crgB (decide_eq_true hp6) rfl rfl (oLdB (n := 0) (k := 1) rfl rfl rfl t9 tm) (s1 rfl) <| cgB (decide_eq_true hp6) rfl rfl (oMv tm) (s1 rfl) <| cgB (decide_eq_true hp6) rfl rfl (oSEq rfl tm tm) (s2 rfl rfl) <| cp (oPkT (decide_eq_true hp6) tm tm) (s2 rfl rfl) <| cp (oAs tm) (s1 rfl) <| .nil) (by kernel_rfl) ?_
        exact pJ1 _ (so h) ⟨rfl, trivial⟩ rfl
      · refine rg (cp (oMv tm) (s1 rfl) <| cp (oNilP tm) (s1 rfl) <| cp (oFldP o88_3 tm) (s1 rfl) <| cr (oLdB (n := 1) (k := 4) rfl rfl rfl t35 tm) (s1 rfl) <| cp (oEq rfl tm (cI (by decide))) (s1 rfl) <| cp (oMv tm) (s1 rfl) <| cgB (decide_eq_true hp5) rfl rfl (oFldP o58_0 tm) (s1 rfl) <| crgB (decide_eq_true hp5) rfl rfl (oLdB (n := 0) (k := 0) rfl rfl rfl t3 tm) (s1 rfl) <| cgB (decide_eq_true hp5) rfl rfl (oMv tm) (s1 rfl) <| cgB (decide_eq_true hp5) rfl rfl (oEq rfl tm tm) (s2 rfl rfl) <| cp (oPkT (decide_eq_true hp5) tm tm) (s2 rfl rfl) <| cp (oMv tm) (s1 rfl) <| csB (decide_eq_false hp6) rfl rfl <| csB (decide_eq_false hp6) rfl rfl <| csB (decide_eq_false hp6) rfl rfl <| csB (decide_eq_false hp6) rfl rfl <| cp (oPkF (decide_eq_false hp6) tm cB) (s1 rfl) <| cp (oAs tm) (s1 rfl) <| .nil) (by kernel_rfl) ?_
        exact pJ1 _ (so h) ⟨rfl, trivial⟩ rfl
    · refine rg (cp (oMv tm) (s1 rfl) <| cp (oNilP tm) (s1 rfl) <| cp (oFldP o88_3 tm) (s1 rfl) <| cr (oLdB (n := 1) (k := 4) rfl rfl rfl t35 tm) (s1 rfl) <| cp (oEq rfl tm (cI (by decide))) (s1 rfl) <| cp (oMv tm) (s1 rfl) <| csB (decide_eq_false hp5) rfl rfl <| csB (decide_eq_false hp5) rfl rfl <| csB (decide_eq_false hp5) rfl rfl <| csB (decide_eq_false hp5) rfl rfl <| cp (oPkF (decide_eq_false hp5) tm cB) (s1 rfl) <| cp (oMv tm) (s1 rfl) <| csB rfl rfl rfl <| csB rfl rfl rfl <| csB rfl rfl rfl <| csB rfl rfl rfl <| cp (oPkF rfl tm cB) (s1 rfl) <| cp (oAs tm) (s1 rfl) <| .nil) (by kernel_rfl) ?_
      exact pJ1 _ (so h) ⟨rfl, trivial⟩ rfl
  · rintro x4 rfl
    replace h := hk1
    refine wRet ?_
    obtain rfl := so h
    exact pS1 [1] rfl rfl (.inl rfl) rfl (.tmp rfl <| .nil)

theorem state_reader_fail.ok {a0 : state_reader} {a1 : Int} {r : state_reader} (h : state_reader_fail.f a0 a1 = some r) : FnS Tryz.prog 96 [.p 70000 0, .d ((kI .i64).sig a1)] [.box 70000 88 [.d (kL kS) a0.l_.Names, .d (kL (kI .u32)) a0.l_.Up, .d (kL (kR f_api_Tok)) a0.toks_, .d (kI .i64) a0.i_, .d (kI .i64) a0.bad_]] [70000] (.d (tup [])) [.box 70000 88 [.d (kL kS) r.l_.Names, .d (kL (kI .u32)) r.l_.Up, .d (kL (kR f_api_Tok)) r.toks_, .d (kI .i64) r.i_, .d (kI .i64) r.bad_]] := by
  refine fnIntroS Tryz.func96 rfl (by kernel_rfl) fun X H0 w0 pv => ?_
  unfold state_reader_fail.f at h
  refine wSeq ?_
  refine rg (cp (oMv tm) (s1 rfl) <| cp (oNilP tm) (s1 rfl) <| cp (oFldP o88_3 tm) (s1 rfl) <| cr (oLdB (n := 0) (k := 4) rfl rfl rfl t35 tm) (s1 rfl) <| cp (oEq rfl tm (cI (by decide))) (s1 rfl) <| .nil) (by kernel_rfl) ?_
  refine pSeq ?_
  rcases ic h with ⟨hp1, h⟩ | ⟨hp1, h⟩
  · refine wCT hp1 tm (s1 rfl) ?_
    refine rg (cp (oMv tm) (s1 rfl) <| cp (oMv tm) (s1 rfl) <| cp (oNilP tm) (s1 rfl) <| cp (oFldP o88_3 tm) (s1 rfl) <| cwn (oSt (n := 0) (k := 4) rfl rfl rfl rfl z35 tm tm) (s2 rfl rfl) <| .nil) (by kernel_rfl) ?_
    obtain rfl := so h
    exact pSn [0] rfl rfl (.inr rfl) rfl rfl (.nil)
  · refine wCF hp1 tm (s1 rfl) ?_
    refine wSkip ?_
    obtain rfl := so h
    exact pSn [0] rfl rfl (.inr rfl) rfl rfl (.nil)

theorem state_reader_must.ok {a0 : state_reader} {a1 : Int} {a2 : Str} {r : state_reader} (h : state_reader_must.f a0 a1 a2 = some r) : FnS Tryz.prog 58 [.p 70000 0, .d ((kI .i64).sig a1), .d (kS.sig a2)] [.box 70000 88 [.d (kL kS) a0.l_.Names, .d (kL (kI .u32)) a0.l_.Up, .d (kL (kR f_api_Tok)) a0.toks_, .d (kI .i64) a0.i_, .d (kI .i64) a0.bad_]] [70000] (.d (tup [])) [.box 70000 88 [.d (kL kS) r.l_.Names, .d (kL (kI .u32)) r.l_.Up, .d (kL (kR f_api_Tok)) r.toks_, .d (kI .i64) r.i_, .d (kI .i64) r.bad_]] := by
  refine fnIntroS Tryz.func58 rfl (by kernel_rfl) fun X H0 w0 pv => ?_
  unfold state_reader_must.f at h
  refine wSeq ?_
  refine wSeq ?_
  obtain ⟨y1, hy1, h⟩ := bd h
  refine rg (cp (oMv tm) (s1 rfl) <| cp (oMv tm) (s1 rfl) <| cp (oMv tm) (s1 rfl) <| cm (oCallS (rest := []) (R' := [.box 70000 88 [.d (kL kS) y1.1.l_.Names, .d (kL (kI .u32)) y1.1.l_.Up, .d (kL (kR f_api_Tok)) y1.1.toks_, .d (kI .i64) y1.1.i_, .d (kI .i64) y1.1.bad_]]) (out' := .d (kB.sig y1.2)) [(70000, 70000)] [] [0] [] [0] rfl (state_reader_is.ok hy1) b95 (oE1 tm (oE1 tm (oE1 tm oE0))) rfl rfl rfl rfl rfl rfl rfl rfl) (s3 rfl rfl rfl) <| .nil) (by kernel_rfl) ?_
  refine pSeq ?_
  rcases ic h with ⟨hp2, h⟩ | ⟨hp2, h⟩
  · refine wBT hp2 tm (s1 rfl) ?_
    refine wSeq ?_
    refine rg (cp (oMv tm) (s1 rfl) <| cp (oNilP tm) (s1 rfl) <| cp (oFldP o88_2 tm) (s1 rfl) <| cr (oLdB (n := 0) (k := 3) rfl rfl rfl t3 tm) (s1 rfl) <| cp (oAdd tm (cI (by decide))) (s1 rfl) <| cp (oNilP tm) (s1 rfl) <| cp (oFldP o88_2 tm) (s1 rfl) <| cwn (oSt (n := 0) (k := 3) rfl rfl rfl rfl z3 tm tm) (s2 rfl rfl) <| .nil) (by kernel_rfl) ?_
    refine pSeq ?_
    refine wRet ?_
    refine pThenR ?_
    obtain rfl := so h
    exact pSn [0] rfl rfl (.inl rfl) rfl rfl (.nil)
  · refine wBF hp2 tm (s1 rfl) ?_
    refine wSkip ?_
    refine pSeq ?_
    obtain ⟨y3, hy3, h⟩ := bd h
    refine rg (cp (oMv tm) (s1 rfl) <| cm (oCallS (rest := []) (R' := [.box 70000 88 [.d (kL kS) y3.l_.Names, .d (kL (kI .u32)) y3.l_.Up, .d (kL (kR f_api_Tok)) y3.toks_, .d (kI .i64) y3.i_, .d (kI .i64) y3.bad_]]) (out' := .d (tup [])) [(70000, 70000)] [] [0] [] [0] rfl (state_reader_fail.ok hy3) b96 (oE1 tm (oE1 (cI (by decide)) oE0)) rfl rfl rfl rfl rfl rfl rfl rfl) (s1 rfl) <| .nil) (by kernel_rfl) ?_
    obtain rfl := so h
    exact pSn [0] rfl rfl (.inr rfl) rfl rfl (.nil)

end Go.Proofs.YtkcpghpglhamfaaGreatDoor.ST
