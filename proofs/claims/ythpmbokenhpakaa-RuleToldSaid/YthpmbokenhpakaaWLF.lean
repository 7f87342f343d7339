import Derived.Test.YthpmbokenhpakaaShelf
import Derived.Test.YthpmbokenhpakaaWLFp1
import Derived.Test.YthpmbokenhpakaaProg
set_option linter.unusedVariables false
set_option maxRecDepth 10000
namespace Go.Proofs.Ythpmbokenhpakaa.LF
open Go Go.Proofs.Ythpmbokenhpakaa.Ab

theorem reticentref04_Same.ok {a0 : List Int} {a1 : List Int} {r : Bool} (h : reticentref04_Same.f a0 a1 = some r) : FnA Try.prog 21 [(kL (kI .i64)).sig a0, (kL (kI .i64)).sig a1] (kB.sig r) := by
  refine fnIntro Try.func21 rfl (by kernel_rfl) fun H0 w0 => ?_
  unfold reticentref04_Same.f at h
  refine wSeq ?_
  refine rg (cp (oAs cB) trivial <| .nil) (by kernel_rfl) ?_
  refine pSeq ?_
  refine wSeq ?_
  refine wSeq ?_
  refine rg (cp (oMv tm) (s1 rfl) <| cp (oLenL u22 tm) (s1 rfl) <| cp (oMv tm) (s1 rfl) <| cp (oLenL u22 tm) (s1 rfl) <| cp (oNe rfl tm tm) (s2 rfl rfl) <| .nil) (by kernel_rfl) ?_
  refine pSeq ?_
  rcases ic h with ⟨hp1, h⟩ | ⟨hp1, h⟩
  · refine wNT hp1 tm (s1 rfl) ?_
    refine wSkip ?_
    refine pSeq ?_
    refine wSeq ?_
    refine wSeq ?_
    refine rg (cp (oMv tm) (s1 rfl) <| cp (oLenL u22 tm) (s1 rfl) <| cp (oMv (cI (by decide))) trivial <| .nil) (by kernel_rfl) ?_
    refine pSeq ?_
    obtain ⟨o1, h, hk1⟩ := bd h
    refine wK0 (.inr () = o1) ([]) ([]) ?_ ?_
    · refine wBlock (wLoop ?_)
      refine lW (pc1 o1 (fun v10 => [(0, .d ((kL (kI .i64)).sig a0)), (1, .d ((kL (kI .i64)).sig a1)), (12, .d ((kI .i64).sig (a0.length : Int))), (13, .d ((kI .i64).sig v10))]) (fun v10 => []) (reticentref04_Same.l0.partial_correctness a0 a1) ?_ _ h) ⟨rfl, rfl, rfl, rfl, trivial⟩ rfl
      clear h
      intro f' ih v10 h
      refine wSeq ?_
      refine rg (cp (oLt rfl tm tm) (s2 rfl rfl) <| .nil) (by kernel_rfl) ?_
      refine pSeq ?_
      refine wSeq ?_
      rcases ic h with ⟨hp11, h⟩ | ⟨hp11, h⟩
      · refine wCT hp11 tm (s1 rfl) ?_
        refine wSkip ?_
        refine pSeq ?_
        refine wSeq ?_
        refine wBlock ?_
        refine wSeq ?_
        refine rg (cp (oMv tm) (s1 rfl) <| cp (oAs tm) (s1 rfl) <| .nil) (by kernel_rfl) ?_
        refine pSeq ?_
        refine wSeq ?_
        obtain ⟨y12, hy12, h⟩ := bd h
        obtain ⟨y13, hy13, h⟩ := bd h
        refine rgD hm (cp (oMv tm) (s1 rfl) <| cp (oMv tm) (s1 rfl) <| cp (oIdx u22 z3 hy12 tm tm) (s2 rfl rfl) <| cp (oLd t3 tm) (s1 rfl) <| cp (oMv tm) (s1 rfl) <| cp (oMv tm) (s1 rfl) <| cp (oIdx u22 z3 hy13 tm tm) (s2 rfl rfl) <| cp (oLd t3 tm) (s1 rfl) <| cp (oNe rfl tm tm) (s2 rfl rfl) <| .nil) (by kernel_rfl) (by kernel_rfl) ?_
        refine pSeq ?_
        rcases ic h with ⟨hp14, h⟩ | ⟨hp14, h⟩
        · refine wNT hp14 tm (s1 rfl) ?_
          refine wSkip ?_
          refine pBlkN ?_
          refine pSeq ?_
          refine rg (cp (oAdd tm (cI (by decide))) (s1 rfl) <| cp (oMv tm) (s1 rfl) <| .nil) (by kernel_rfl) ?_
          exact pLoop (lW (ih _ h) ⟨rfl, rfl, rfl, rfl, trivial⟩ rfl)
        · refine wNF hp14 tm (s1 rfl) ?_
          refine wSeq ?_
          refine rg (cp (oAs cB) trivial <| .nil) (by kernel_rfl) ?_
          refine pSeq ?_
          refine wRet ?_
          refine pBlkR ?_
          refine pThenR ?_
          refine pThenR ?_
          refine pBlkR ?_
          refine pThenR ?_
          obtain rfl := so h
          replace h := hk1
          refine pThenR ?_
          obtain rfl := so h
          exact pR1 (.inl rfl) rfl (.tmp rfl <| .nil)
      · refine wCF hp11 tm (s1 rfl) ?_
        refine wExit ?_
        refine pThenX ?_
        refine pThenX ?_
        refine pBlkX ?_
        exact pJ0 (so h) trivial rfl
    · rintro rfl
      replace h := hk1
      refine pSeq ?_
      refine wSeq ?_
      refine rg (cp (oAs cB) trivial <| .nil) (by kernel_rfl) ?_
      refine pSeq ?_
      refine wRet ?_
      obtain rfl := so h
      exact pR1 (.inl rfl) rfl (.tmp rfl <| .nil)
  · refine wNF hp1 tm (s1 rfl) ?_
    refine wSeq ?_
    refine rg (cp (oAs cB) trivial <| .nil) (by kernel_rfl) ?_
    refine pSeq ?_
    refine wRet ?_
    refine pThenR ?_
    obtain rfl := so h
    exact pR1 (.inl rfl) rfl (.tmp rfl <| .nil)

theorem reticentlaw04_alive.ok {r : Bool} (h : reticentlaw04_alive.f = some r) : FnA Try.prog 46 [] (kB.sig r) := by
  refine fnIntro Try.func46 rfl (by kernel_rfl) fun H0 w0 => ?_
  unfold reticentlaw04_alive.f at h
  refine wSeq ?_
  refine rg (cp (oAs cB) trivial <| .nil) (by kernel_rfl) ?_
  refine pSeq ?_
  refine wSeq ?_
  obtain ⟨y1, hy1, h⟩ := bd h
  refine rg (cp (oCall rfl (lex_Lex.ok hy1) b57 (opds_cons (cS (by decide)) opds_nil)) trivial <| cp (oMv tm) (s1 rfl) <| cp (oExt (k := 0) rfl tm) (s1 rfl) <| cp (oExt (k := 1) rfl tm) (s1 rfl) <| cp (oExt (k := 2) rfl tm) (s1 rfl) <| cp (oAs tm) (s1 rfl) <| cp (oAs tm) (s1 rfl) <| cp (oAs tm) (s1 rfl) <| .nil) (by kernel_rfl) ?_
  refine pSeq ?_
  refine wSeq ?_
  obtain ⟨y2, hy2, h⟩ := bd h
  refine rg (cp (oMv tm) (s1 rfl) <| cp (oCall rfl (rule_From.ok hy2) b45 (opds_cons tm (opds_cons (cI (by decide)) (opds_cons cB opds_nil)))) (s1 rfl) <| cp (oMv tm) (s1 rfl) <| cp (oExt (k := 0) rfl tm) (s1 rfl) <| cp (oExt (k := 1) rfl tm) (s1 rfl) <| cp (oExt (k := 2) rfl tm) (s1 rfl) <| cp (oAs tm) (s1 rfl) <| cp (oAs tm) (s1 rfl) <| cp (oAs tm) (s1 rfl) <| .nil) (by kernel_rfl) ?_
  refine pSeq ?_
  obtain ⟨o1, h, hk1⟩ := bd h
  refine wJ1 (fun x7 => x7 = o1) (fun x7 => [(0, .d (kB.sig x7))]) (fun x7 => []) ?_ ?_
  · rcases ic h with ⟨hp8, h⟩ | ⟨hp8, h⟩
    · rcases ic h with ⟨hp9, h⟩ | ⟨hp9, h⟩
      · rcases ic h with ⟨hp10, h⟩ | ⟨hp10, h⟩
        · obtain ⟨y11, hy11, h⟩ := bd h
          refine rg (cp (oMv tm) (s1 rfl) <| cp (oEq rfl tm (cI (by decide))) (s1 rfl) <| cp (oMv tm) (s1 rfl) <| cgB (decide_eq_true hp8) rfl rfl (oMv tm) (s1 rfl) <| cgB (decide_eq_true hp8) rfl rfl (oEq rfl tm (cI (by decide))) (s1 rfl) <| cp (oPkT (decide_eq_true hp8) tm tm) (s2 rfl rfl) <| cp (oMv tm) (s1 rfl) <| cgB (decide_eq_true hp9) rfl rfl (oMv tm) (s1 rfl) <| cgB (decide_eq_true hp9) rfl rfl (oEq rfl tm (cI (by decide))) (s1 rfl) <| cp (oPkT (decide_eq_true hp9) tm tm) (s2 rfl rfl) <| cp (oMv tm) (s1 rfl) <| cgB (decide_eq_true hp10) rfl rfl (oMv tm) (s1 rfl) <| cgB (decide_eq_true hp10) rfl rfl (oLit (d := (kI .i64)) el22 (by decide) rfl rfl rfl (e1 (cI (by decide)) (e1 (cI (by decide)) (e1 (cI (by decide)) (e1 (cI (by decide)) (e1 (cI (by decide)) e0)))))) trivial <| cgB (decide_eq_true hp10) rfl rfl (oCall rfl (reticentref04_Same.ok hy11) b21 (opds_cons tm (opds_cons tm opds_nil))) (s2 rfl rfl) <| cp (oPkT (decide_eq_true hp10) tm tm) (s2 rfl rfl) <| cp (oAs tm) (s1 rfl) <| .nil) (by kernel_rfl) ?_
          exact pJ1 _ (so h) ⟨rfl, trivial⟩ rfl
        · refine rg (cp (oMv tm) (s1 rfl) <| cp (oEq rfl tm (cI (by decide))) (s1 rfl) <| cp (oMv tm) (s1 rfl) <| cgB (decide_eq_true hp8) rfl rfl (oMv tm) (s1 rfl) <| cgB (decide_eq_true hp8) rfl rfl (oEq rfl tm (cI (by decide))) (s1 rfl) <| cp (oPkT (decide_eq_true hp8) tm tm) (s2 rfl rfl) <| cp (oMv tm) (s1 rfl) <| cgB (decide_eq_true hp9) rfl rfl (oMv tm) (s1 rfl) <| cgB (decide_eq_true hp9) rfl rfl (oEq rfl tm (cI (by decide))) (s1 rfl) <| cp (oPkT (decide_eq_true hp9) tm tm) (s2 rfl rfl) <| cp (oMv tm) (s1 rfl) <| csB (decide_eq_false hp10) rfl rfl <| csB (decide_eq_false hp10) rfl rfl <| csB (decide_eq_false hp10) rfl rfl <| cp (oPkF (decide_eq_false hp10) tm cB) (s1 rfl) <| cp (oAs tm) (s1 rfl) <| .nil) (by kernel_rfl) ?_
          exact pJ1 _ (so h) ⟨rfl, trivial⟩ rfl
      · refine rg (cp (oMv tm) (s1 rfl) <| cp (oEq rfl tm (cI (by decide))) (s1 rfl) <| cp (oMv tm) (s1 rfl) <| cgB (decide_eq_true hp8) rfl rfl (oMv tm) (s1 rfl) <| cgB (decide_eq_true hp8) rfl rfl (oEq rfl tm (cI (by decide))) (s1 rfl) <| cp (oPkT (decide_eq_true hp8) tm tm) (s2 rfl rfl) <| cp (oMv tm) (s1 rfl) <| csB (decide_eq_false hp9) rfl rfl <| csB (decide_eq_false hp9) rfl rfl <| cp (oPkF (decide_eq_false hp9) tm cB) (s1 rfl) <| cp (oMv tm) (s1 rfl) <| csB rfl rfl rfl <| csB rfl rfl rfl <| csB rfl rfl rfl <| cp (oPkF rfl tm cB) (s1 rfl) <| cp (oAs tm) (s1 rfl) <| .nil) (by kernel_rfl) ?_
        exact pJ1 _ (so h) ⟨rfl, trivial⟩ rfl
    · refine rg (cp (oMv tm) (s1 rfl) <| cp (oEq rfl tm (cI (by decide))) (s1 rfl) <| cp (oMv tm) (s1 rfl) <| csB (decide_eq_false hp8) rfl rfl <| csB (decide_eq_false hp8) rfl rfl <| cp (oPkF (decide_eq_false hp8) tm cB) (s1 rfl) <| cp (oMv tm) (s1 rfl) <| csB rfl rfl rfl <| csB rfl rfl rfl <| cp (oPkF rfl tm cB) (s1 rfl) <| cp (oMv tm) (s1 rfl) <| csB rfl rfl rfl <| csB rfl rfl rfl <| csB rfl rfl rfl <| cp (oPkF rfl tm cB) (s1 rfl) <| cp (oAs tm) (s1 rfl) <| .nil) (by kernel_rfl) ?_
      exact pJ1 _ (so h) ⟨rfl, trivial⟩ rfl
  · rintro x7 rfl
    replace h := hk1
    refine wRet ?_
    obtain rfl := so h
    exact pR1 (.inl rfl) rfl (.tmp rfl <| .nil)

theorem reticentref04_Has.ok {a0 : List Int} {a1 : Int} {r : Bool} (h : reticentref04_Has.f a0 a1 = some r) : FnA Try.prog 86 [(kL (kI .i64)).sig a0, (kI .i64).sig a1] (kB.sig r) := by
  refine fnIntro Try.func86 rfl (by kernel_rfl) fun H0 w0 => ?_
  unfold reticentref04_Has.f at h
  refine wSeq ?_
  refine rg (cp (oAs cB) trivial <| .nil) (by kernel_rfl) ?_
  refine pSeq ?_
  refine wSeq ?_
  refine wSeq ?_
  refine rg (cp (oMv tm) (s1 rfl) <| cp (oLenL u22 tm) (s1 rfl) <| cp (oMv (cI (by decide))) trivial <| .nil) (by kernel_rfl) ?_
  refine pSeq ?_
  obtain ⟨o1, h, hk1⟩ := bd h
  refine wK0 (.inr () = o1) ([]) ([]) ?_ ?_
  · refine wBlock (wLoop ?_)
    refine lW (pc1 o1 (fun v7 => [(1, .d ((kI .i64).sig a1)), (7, .d ((kL (kI .i64)).sig a0)), (8, .d ((kI .i64).sig (a0.length : Int))), (9, .d ((kI .i64).sig v7))]) (fun v7 => []) (reticentref04_Has.l0.partial_correctness a0 a1) ?_ _ h) ⟨rfl, rfl, rfl, rfl, trivial⟩ rfl
    clear h
    intro f' ih v7 h
    refine wSeq ?_
    refine rg (cp (oLt rfl tm tm) (s2 rfl rfl) <| .nil) (by kernel_rfl) ?_
    refine pSeq ?_
    refine wSeq ?_
    rcases ic h with ⟨hp8, h⟩ | ⟨hp8, h⟩
    · refine wCT hp8 tm (s1 rfl) ?_
      refine wSkip ?_
      refine pSeq ?_
      refine wSeq ?_
      refine wBlock ?_
      refine wSeq ?_
      obtain ⟨y9, hy9, h⟩ := bd h
      refine rg (cp (oIdx u22 z3 hy9 tm tm) (s2 rfl rfl) <| cp (oLd t3 tm) (s1 rfl) <| cp (oAs tm) (s1 rfl) <| .nil) (by kernel_rfl) ?_
      refine pSeq ?_
      refine wSeq ?_
      refine rg (cp (oMv tm) (s1 rfl) <| cp (oMv tm) (s1 rfl) <| cp (oAdd (cI (by decide)) tm) (s1 rfl) <| cp (oEq rfl tm tm) (s2 rfl rfl) <| .nil) (by kernel_rfl) ?_
      refine pSeq ?_
      rcases ic h with ⟨hp10, h⟩ | ⟨hp10, h⟩
      · refine wCT hp10 tm (s1 rfl) ?_
        refine wSeq ?_
        refine rg (cp (oAs cB) trivial <| .nil) (by kernel_rfl) ?_
        refine pSeq ?_
        refine wRet ?_
        refine pBlkR ?_
        refine pThenR ?_
        refine pThenR ?_
        refine pBlkR ?_
        refine pThenR ?_
        obtain rfl := so h
        replace h := hk1
        refine pThenR ?_
        obtain rfl := so h
        exact pR1 (.inl rfl) rfl (.tmp rfl <| .nil)
      · refine wCF hp10 tm (s1 rfl) ?_
        refine wSkip ?_
        refine pBlkN ?_
        refine pSeq ?_
        refine rg (cp (oAdd tm (cI (by decide))) (s1 rfl) <| cp (oMv tm) (s1 rfl) <| .nil) (by kernel_rfl) ?_
        exact pLoop (lW (ih _ h) ⟨rfl, rfl, rfl, rfl, trivial⟩ rfl)
    · refine wCF hp8 tm (s1 rfl) ?_
      refine wExit ?_
      refine pThenX ?_
      refine pThenX ?_
      refine pBlkX ?_
      exact pJ0 (so h) trivial rfl
  · rintro rfl
    replace h := hk1
    refine pSeq ?_
    refine wSeq ?_
    refine rg (cp (oAs cB) trivial <| .nil) (by kernel_rfl) ?_
    refine pSeq ?_
    refine wRet ?_
    obtain rfl := so h
    exact pR1 (.inl rfl) rfl (.tmp rfl <| .nil)

theorem reticentref04_Uses.ok {a0 : List Int} {r : Int} (h : reticentref04_Uses.f a0 = some r) : FnA Try.prog 50 [(kL (kI .i64)).sig a0] ((kI .u32).sig r) := by
  refine fnIntro Try.func50 rfl (by kernel_rfl) fun H0 w0 => ?_
  unfold reticentref04_Uses.f at h
  refine wSeq ?_
  refine rg (cp (oAs (cI (by decide))) trivial <| .nil) (by kernel_rfl) ?_
  refine pSeq ?_
  refine wSeq ?_
  refine rg (cp (oAs (cI (by decide))) trivial <| .nil) (by kernel_rfl) ?_
  refine pSeq ?_
  refine wSeq ?_
  refine rg (cp (oAs (cI (by decide))) trivial <| .nil) (by kernel_rfl) ?_
  refine pSeq ?_
  refine wSeq ?_
  refine wSeq ?_
  refine rg (cp (oAs (cI (by decide))) trivial <| .nil) (by kernel_rfl) ?_
  refine pSeq ?_
  obtain ⟨o1, h, hk1⟩ := bd h
  refine wK1 (fun x18 => x18 = o1) (fun x18 => [(3, .d ((kI .u32).sig x18))]) (fun x18 => []) ?_ ?_
  · refine wBlock (wLoop ?_)
    refine lW (pc3 o1 (fun v15 v16 v17 => [(0, .d ((kL (kI .i64)).sig a0)), (3, .d ((kI .u32).sig v15)), (4, .d ((kI .u32).sig v16)), (5, .d ((kI .i64).sig v17))]) (fun v15 v16 v17 => []) (reticentref04_Uses.l0.partial_correctness a0) ?_ _ _ _ h) ⟨rfl, rfl, rfl, rfl, trivial⟩ rfl
    clear h
    intro f' ih v15 v16 v17 h
    refine wSeq ?_
    refine wSeq ?_
    refine rg (cp (oMv tm) (s1 rfl) <| cp (oLt rfl tm (cI (by decide))) (s1 rfl) <| .nil) (by kernel_rfl) ?_
    refine pSeq ?_
    rcases ic h with ⟨hp19, h⟩ | ⟨hp19, h⟩
    · refine wCT hp19 tm (s1 rfl) ?_
      refine wSkip ?_
      refine pSeq ?_
      obtain ⟨o2, h, hk2⟩ := bd h
      refine wJ2 (fun x22 x23 => (x22, x23) = o2) (fun x22 x23 => [(0, .d ((kL (kI .i64)).sig a0)), (3, .d ((kI .u32).sig x22)), (4, .d ((kI .u32).sig x23)), (5, .d ((kI .i64).sig v17))]) (fun x22 x23 => []) ?_ ?_
      · refine wBlock ?_
        refine wSeq ?_
        refine wSeq ?_
        obtain ⟨y24, hy24, h⟩ := bd h
        refine rg (cp (oMv tm) (s1 rfl) <| cp (oMv tm) (s1 rfl) <| cp (oCall rfl (reticentref04_Has.ok hy24) b86 (opds_cons tm (opds_cons tm opds_nil))) (s2 rfl rfl) <| .nil) (by kernel_rfl) ?_
        refine pSeq ?_
        rcases ic h with ⟨hp25, h⟩ | ⟨hp25, h⟩
        · refine wBT hp25 tm (s1 rfl) ?_
          refine rg (cp (oMv tm) (s1 rfl) <| cp (oMv tm) (s1 rfl) <| cp (oAdd tm tm) (s2 rfl rfl) <| cp (oAs tm) (s1 rfl) <| .nil) (by kernel_rfl) ?_
          refine pSeq ?_
          refine rg (cp (oMv tm) (s1 rfl) <| cp (oMul (cI (by decide)) tm) (s1 rfl) <| cp (oAs tm) (s1 rfl) <| .nil) (by kernel_rfl) ?_
          refine pBlkN ?_
          exact pJ2 _ _ (so h) ⟨rfl, rfl, rfl, rfl, trivial⟩ rfl
        · refine wBF hp25 tm (s1 rfl) ?_
          refine wSkip ?_
          refine pSeq ?_
          refine rg (cp (oMv tm) (s1 rfl) <| cp (oMul (cI (by decide)) tm) (s1 rfl) <| cp (oAs tm) (s1 rfl) <| .nil) (by kernel_rfl) ?_
          refine pBlkN ?_
          exact pJ2 _ _ (so h) ⟨rfl, rfl, rfl, rfl, trivial⟩ rfl
      · rintro x22 x23 rfl
        replace h := hk2
        refine rg (cp (oMv tm) (s1 rfl) <| cp (oAdd tm (cI (by decide))) (s1 rfl) <| cp (oAs tm) (s1 rfl) <| .nil) (by kernel_rfl) ?_
        exact pLoop (lW (ih _ _ _ h) ⟨rfl, rfl, rfl, rfl, trivial⟩ rfl)
    · refine wCF hp19 tm (s1 rfl) ?_
      refine wExit ?_
      refine pThenX ?_
      refine pThenX ?_
      refine pBlkX ?_
      exact pJ1 _ (so h) ⟨rfl, trivial⟩ rfl
  · rintro x18 rfl
    replace h := hk1
    refine pSeq ?_
    refine wSeq ?_
    refine rg (cp (oMv tm) (s1 rfl) <| cp (oAs tm) (s1 rfl) <| .nil) (by kernel_rfl) ?_
    refine pSeq ?_
    refine wRet ?_
    obtain rfl := so h
    exact pR1 (.inl rfl) rfl (.tmp rfl <| .nil)

theorem reticentlaw04_RuleRight.ok {a0 : List Int} {a1 : Bool} {r : Bool} (h : reticentlaw04_RuleRight.f a0 a1 = some r) : FnA Try.prog 10 [(kL (kI .i64)).sig a0, kB.sig a1] (kB.sig r) := by
  refine fnIntro Try.func10 rfl (by kernel_rfl) fun H0 w0 => ?_
  unfold reticentlaw04_RuleRight.f at h
  refine wSeq ?_
  refine rg (cp (oAs cB) trivial <| .nil) (by kernel_rfl) ?_
  refine pSeq ?_
  refine wSeq ?_
  obtain ⟨hc1, h⟩ := ib h
  refine rg (cp (oMv tm) (s1 rfl) <| cp (oMv tm) (s1 rfl) <| cp (oLenL u22 tm) (s1 rfl) <| cp (oMin tm (cI (by decide))) (s1 rfl) <| cp (oCutHi u22 z3 hc1.1 hc1.2 tm tm) (s2 rfl rfl) <| cp (oAs tm) (s1 rfl) <| .nil) (by kernel_rfl) ?_
  refine pSeq ?_
  refine wSeq ?_
  obtain ⟨y2, hy2, h⟩ := bd h
  refine rg (cp (oMv tm) (s1 rfl) <| cp (oCall rfl (rule_Uses.ok hy2) b48 (opds_cons tm opds_nil)) (s1 rfl) <| cp (oMv tm) (s1 rfl) <| cp (oExt (k := 0) rfl tm) (s1 rfl) <| cp (oExt (k := 1) rfl tm) (s1 rfl) <| cp (oAs tm) (s1 rfl) <| cp (oAs tm) (s1 rfl) <| .nil) (by kernel_rfl) ?_
  refine pSeq ?_
  refine wSeq ?_
  obtain ⟨o1, h, hk1⟩ := bd h
  refine wJ1 (fun x7 => x7 = o1) (fun x7 => [(0, .d ((kL (kI .i64)).sig (lCut a0 0 (if 45 < (a0.length : Int) then 45 else (a0.length : Int))))), (5, .d ((kI .u32).sig y2.1)), (6, .d ((kI .i64).sig y2.2)), (27, .d (kB.sig x7))]) (fun x7 => []) ?_ ?_
  · obtain ⟨y8, hy8, h⟩ := bd h
    obtain ⟨y9, hy9, h⟩ := bd h
    rcases ic h with ⟨hp10, h⟩ | ⟨hp10, h⟩
    · obtain ⟨y11, hy11, h⟩ := bd h
      refine rg (cp (oMv tm) (s1 rfl) <| cp (oMv tm) (s1 rfl) <| cp (oCall rfl (rule_Right.ok hy8) b47 (opds_cons tm (opds_cons tm opds_nil))) (s2 rfl rfl) <| cp (oMv tm) (s1 rfl) <| cp (oMv tm) (s1 rfl) <| cp (oCall rfl (reticentref04_Right.ok hy9) b49 (opds_cons tm (opds_cons tm opds_nil))) (s2 rfl rfl) <| cp (oBNe u4 rfl tm tm) (s2 rfl rfl) <| cp (oMv tm) (s1 rfl) <| cgB (nf hp10) rfl rfl (oCall rfl (reticentlaw04_alive.ok hy11) b46 opds_nil) trivial <| cgB (nf hp10) rfl rfl (oNot tm) (s1 rfl) <| cp (oPkF (nf hp10) tm tm) (s2 rfl rfl) <| .nil) (by kernel_rfl) ?_
      exact pJ1 _ (so h) ⟨rfl, rfl, rfl, rfl, trivial⟩ rfl
    · refine rg (cp (oMv tm) (s1 rfl) <| cp (oMv tm) (s1 rfl) <| cp (oCall rfl (rule_Right.ok hy8) b47 (opds_cons tm (opds_cons tm opds_nil))) (s2 rfl rfl) <| cp (oMv tm) (s1 rfl) <| cp (oMv tm) (s1 rfl) <| cp (oCall rfl (reticentref04_Right.ok hy9) b49 (opds_cons tm (opds_cons tm opds_nil))) (s2 rfl rfl) <| cp (oBNe u4 rfl tm tm) (s2 rfl rfl) <| cp (oMv tm) (s1 rfl) <| csB (nt hp10) rfl rfl <| csB (nt hp10) rfl rfl <| cp (oPkT (nt hp10) tm cB) (s1 rfl) <| .nil) (by kernel_rfl) ?_
      exact pJ1 _ (so h) ⟨rfl, rfl, rfl, rfl, trivial⟩ rfl
  · rintro x7 rfl
    replace h := hk1
    rcases ic h with ⟨hp12, h⟩ | ⟨hp12, h⟩
    · refine wBT hp12 tm (s1 rfl) ?_
      refine wSeq ?_
      refine rg (cp (oAs cB) trivial <| .nil) (by kernel_rfl) ?_
      refine pSeq ?_
      refine wRet ?_
      refine pThenR ?_
      obtain rfl := so h
      exact pR1 (.inl rfl) rfl (.tmp rfl <| .nil)
    · refine wBF hp12 tm (s1 rfl) ?_
      refine wSkip ?_
      refine pSeq ?_
      refine wSeq ?_
      refine wSeq ?_
      obtain ⟨y13, hy13, h⟩ := bd h
      refine rg (cp (oMv tm) (s1 rfl) <| cp (oCall rfl (reticentref04_Made.ok hy13) b15 (opds_cons tm opds_nil)) (s1 rfl) <| cp (oEq rfl tm (cI (by decide))) (s1 rfl) <| .nil) (by kernel_rfl) ?_
      refine pSeq ?_
      rcases ic h with ⟨hp14, h⟩ | ⟨hp14, h⟩
      · refine wCT hp14 tm (s1 rfl) ?_
        obtain ⟨o1, h, hk1⟩ := bd h
        refine wJ1 (fun x16 => x16 = o1) (fun x16 => [(4, .d (kB.sig x16))]) (fun x16 => []) ?_ ?_
        · rcases ic h with ⟨hp17, h⟩ | ⟨hp17, h⟩
          · refine rg (cp (oMv tm) (s1 rfl) <| cp (oEq rfl tm (cI (by decide))) (s1 rfl) <| cp (oMv tm) (s1 rfl) <| cgB (decide_eq_true hp17) rfl rfl (oMv tm) (s1 rfl) <| cgB (decide_eq_true hp17) rfl rfl (oEq rfl tm (cI (by decide))) (s1 rfl) <| cp (oPkT (decide_eq_true hp17) tm tm) (s2 rfl rfl) <| cp (oAs tm) (s1 rfl) <| .nil) (by kernel_rfl) ?_
            exact pJ1 _ (so h) ⟨rfl, trivial⟩ rfl
          · refine rg (cp (oMv tm) (s1 rfl) <| cp (oEq rfl tm (cI (by decide))) (s1 rfl) <| cp (oMv tm) (s1 rfl) <| csB (decide_eq_false hp17) rfl rfl <| csB (decide_eq_false hp17) rfl rfl <| cp (oPkF (decide_eq_false hp17) tm cB) (s1 rfl) <| cp (oAs tm) (s1 rfl) <| .nil) (by kernel_rfl) ?_
            exact pJ1 _ (so h) ⟨rfl, trivial⟩ rfl
        · rintro x16 rfl
          replace h := hk1
          refine wRet ?_
          refine pThenR ?_
          obtain rfl := so h
          exact pR1 (.inl rfl) rfl (.tmp rfl <| .nil)
      · refine wCF hp14 tm (s1 rfl) ?_
        refine wSkip ?_
        refine pSeq ?_
        obtain ⟨o1, h, hk1⟩ := bd h
        refine wJ1 (fun x20 => x20 = o1) (fun x20 => [(4, .d (kB.sig x20))]) (fun x20 => []) ?_ ?_
        · rcases ic h with ⟨hp21, h⟩ | ⟨hp21, h⟩
          · obtain ⟨y22, hy22, h⟩ := bd h
            refine rg (cp (oMv tm) (s1 rfl) <| cp (oEq rfl tm (cI (by decide))) (s1 rfl) <| cp (oMv tm) (s1 rfl) <| cgB (decide_eq_true hp21) rfl rfl (oMv tm) (s1 rfl) <| cgB (decide_eq_true hp21) rfl rfl (oMv tm) (s1 rfl) <| cgB (decide_eq_true hp21) rfl rfl (oCall rfl (reticentref04_Uses.ok hy22) b50 (opds_cons tm opds_nil)) (s1 rfl) <| cgB (decide_eq_true hp21) rfl rfl (oEq rfl tm tm) (s2 rfl rfl) <| cp (oPkT (decide_eq_true hp21) tm tm) (s2 rfl rfl) <| cp (oAs tm) (s1 rfl) <| .nil) (by kernel_rfl) ?_
            exact pJ1 _ (so h) ⟨rfl, trivial⟩ rfl
          · refine rg (cp (oMv tm) (s1 rfl) <| cp (oEq rfl tm (cI (by decide))) (s1 rfl) <| cp (oMv tm) (s1 rfl) <| csB (decide_eq_false hp21) rfl rfl <| csB (decide_eq_false hp21) rfl rfl <| csB (decide_eq_false hp21) rfl rfl <| csB (decide_eq_false hp21) rfl rfl <| cp (oPkF (decide_eq_false hp21) tm cB) (s1 rfl) <| cp (oAs tm) (s1 rfl) <| .nil) (by kernel_rfl) ?_
            exact pJ1 _ (so h) ⟨rfl, trivial⟩ rfl
        · rintro x20 rfl
          replace h := hk1
          refine wRet ?_
          obtain rfl := so h
          exact pR1 (.inl rfl) rfl (.tmp rfl <| .nil)

theorem reticentlaw04_few.ok {a0 : List api_Tok} {r : List api_Tok} (h : reticentlaw04_few.f a0 = some r) : FnA Try.prog 44 [(kL (kR f_api_Tok)).sig a0] ((kL (kR f_api_Tok)).sig r) := by
  refine fnIntro Try.func44 rfl (by kernel_rfl) fun H0 w0 => ?_
  unfold reticentlaw04_few.f at h
  refine wSeq ?_
  refine rg (cp (oAs cV) trivial <| .nil) (by kernel_rfl) ?_
  refine pSeq ?_
  refine wSeq ?_
  refine rg (cp (oAs cV) trivial <| .nil) (by kernel_rfl) ?_
  refine pSeq ?_
  refine wSeq ?_
  refine wSeq ?_
  obtain ⟨hc1, h⟩ := ib h
  refine rg (cp (oMv tm) (s1 rfl) <| cp (oMv tm) (s1 rfl) <| cp (oLenL u34 tm) (s1 rfl) <| cp (oMin tm (cI (by decide))) (s1 rfl) <| cp (oCutHi u34 z36 hc1.1 hc1.2 tm tm) (s2 rfl rfl) <| cp (oLenL u34 tm) (s1 rfl) <| cp (oMv (cI (by decide))) trivial <| .nil) (by kernel_rfl) ?_
  refine pSeq ?_
  refine wNil (kR f_api_Tok) 36 1003 3 rfl rfl ?_
  obtain ⟨o1, h, hk1⟩ := bd h
  refine wK1 (fun x12 => x12 = o1) (fun x12 => [(3, .v 1003)]) (fun x12 => [.row 1003 36 (kR f_api_Tok) x12]) ?_ ?_
  · refine wBlock (wLoop ?_)
    refine lW (pc2 o1 (fun v10 v11 => [(3, .v 1003), (10, .d ((kL (kR f_api_Tok)).sig (lCut a0 0 (if 150 < (a0.length : Int) then 150 else (a0.length : Int))))), (11, .d ((kI .i64).sig ((lCut a0 0 (if 150 < (a0.length : Int) then 150 else (a0.length : Int))).length : Int))), (12, .d ((kI .i64).sig v11))]) (fun v10 v11 => [.row 1003 36 (kR f_api_Tok) v10]) (reticentlaw04_few.l0.partial_correctness a0) ?_ _ _ h) ⟨rfl, rfl, rfl, rfl, trivial⟩ rfl
    clear h
    intro f' ih v10 v11 h
    refine wSeq ?_
    refine rg (cp (oLt rfl tm tm) (s2 rfl rfl) <| .nil) (by kernel_rfl) ?_
    refine pSeq ?_
    refine wSeq ?_
    rcases ic h with ⟨hp13, h⟩ | ⟨hp13, h⟩
    · refine wCT hp13 tm (s1 rfl) ?_
      refine wSkip ?_
      refine pSeq ?_
      refine wSeq ?_
      refine wBlock ?_
      refine wSeq ?_
      obtain ⟨y14, hy14, h⟩ := bd h
      refine rg (cp (oIdx u34 z36 hy14 tm tm) (s2 rfl rfl) <| cp (oLd t36 tm) (s1 rfl) <| cw (oAlloc (id := 5) (ls := [.d (kI .i64) 0, .d kS [], .d (kI .i64) 0]) ze36 (fun g => ⟨[(.int .i64 0)], _, rfl, zI_i64 g.H, ⟨[(.string ⟨⟨[]⟩⟩)], _, rfl, zS g.H, ⟨[(.int .i64 0)], _, rfl, zI_i64 g.H, rfl⟩⟩⟩)) trivial <| cwn (oStA (n := 0) (fs := f_api_Tok) rfl rfl z36 tm tm) (s2 rfl rfl) <| .nil) (by kernel_rfl) ?_
      refine pSeq ?_
      refine wSeq ?_
      obtain ⟨hc15, h⟩ := ib h
      refine rg (cp (oFldP o36_1 tm) (s1 rfl) <| cr (oLdB (n := 0) (k := 1) rfl rfl rfl t9 tm) (s1 rfl) <| cp (oFldP o36_1 tm) (s1 rfl) <| cr (oLdB (n := 0) (k := 1) rfl rfl rfl t9 tm) (s1 rfl) <| cp (oLenS u9 tm) (s1 rfl) <| cp (oMin tm (cI (by decide))) (s1 rfl) <| cp (oCutSH u9 hc15.1 hc15.2 tm tm) (s2 rfl rfl) <| cp (oFldP o36_1 tm) (s1 rfl) <| cwn (oSt (n := 0) (k := 1) rfl rfl rfl rfl z9 tm tm) (s2 rfl rfl) <| .nil) (by kernel_rfl) ?_
      refine pSeq ?_
      obtain ⟨hc16, h⟩ := ib h
      refine rg (cp (oMv tm) (s1 rfl) <| cr (oLdA (n := 0) (fs := f_api_Tok) (u := ⟨y14.Kind, sCut y14.Text 0 (if 20 < (y14.Text.length : Int) then 20 else (y14.Text.length : Int)), y14.At⟩) rfl ⟨rfl, rfl, rfl, trivial⟩ t36 tm) (s1 rfl) <| cp (oLit (d := (kR f_api_Tok)) el34 (by decide) rfl rfl rfl (e1 tm e0)) (s1 rfl) <| cw (oApp (n := 1) (id' := 27) el34 (by decide) rfl (by decide) hc16 tm tm) (s2 rfl rfl) <| cp (oAs tm) (s1 rfl) <| .nil) (by kernel_rfl) ?_
      refine pBlkN ?_
      refine pSeq ?_
      refine rg (cp (oAdd tm (cI (by decide))) (s1 rfl) <| cp (oMv tm) (s1 rfl) <| .nil) (by kernel_rfl) ?_
      refine pDrop (.cons _ (.cons_cons _ .slnil)) ?_
      refine pSub (Γ' := [(3, .v 27), (10, .d ((kL (kR f_api_Tok)).sig (lCut a0 0 (if 150 < (a0.length : Int) then 150 else (a0.length : Int))))), (11, .d ((kI .i64).sig ((lCut a0 0 (if 150 < (a0.length : Int) then 150 else (a0.length : Int))).length : Int))), (12, .d ((kI .i64).sig (IntKind.i64.wrap (v11 + 1))))]) ⟨rfl, rfl, rfl, rfl, trivial⟩ ?_
      refine pRen 27 1003 rfl ?_
      exact pLoop (lW (ih _ _ h) ⟨rfl, rfl, rfl, rfl, trivial⟩ rfl)
    · refine wCF hp13 tm (s1 rfl) ?_
      refine wExit ?_
      refine pThenX ?_
      refine pThenX ?_
      refine pBlkX ?_
      exact pJ1 _ (so h) ⟨rfl, trivial⟩ rfl
  · rintro x12 rfl
    replace h := hk1
    refine pSeq ?_
    refine wSeq ?_
    refine rg (cp (oMv tm) (s1 rfl) <| cp (oAs tm) (s1 rfl) <| .nil) (by kernel_rfl) ?_
    refine pSeq ?_
    refine wFrzR (n := 0) (id := 1003) [2] rfl rfl ⟨rfl, trivial⟩ ?_
    refine wRet ?_
    obtain rfl := so h
    exact pR1 (.inl rfl) rfl (.tmp rfl <| .nil)

theorem reticentlaw04_RuleTold.ok {a0 : List api_Tok} {a1 : Int} {a2 : Bool} {r : Bool} (h : reticentlaw04_RuleTold.f a0 a1 a2 = some r) : FnA Try.prog 9 [(kL (kR f_api_Tok)).sig a0, (kI .i64).sig a1, kB.sig a2] (kB.sig r) := by
  refine fnIntro Try.func9 rfl (by kernel_rfl) fun H0 w0 => ?_
  unfold reticentlaw04_RuleTold.f at h
  refine wSeq ?_
  refine rg (cp (oAs cB) trivial <| .nil) (by kernel_rfl) ?_
  refine pSeq ?_
  refine wSeq ?_
  obtain ⟨y1, hy1, h⟩ := bd h
  refine rg (cp (oMv tm) (s1 rfl) <| cp (oCall rfl (reticentlaw04_few.ok hy1) b44 (opds_cons tm opds_nil)) (s1 rfl) <| cp (oAs tm) (s1 rfl) <| .nil) (by kernel_rfl) ?_
  refine pSeq ?_
  refine wSeq ?_
  obtain ⟨y2, hy2, h⟩ := bd h
  refine rg (cp (oMv tm) (s1 rfl) <| cp (oMv tm) (s1 rfl) <| cp (oMv tm) (s1 rfl) <| cp (oCall rfl (rule_From.ok hy2) b45 (opds_cons tm (opds_cons tm (opds_cons tm opds_nil)))) (s3 rfl rfl rfl) <| cp (oMv tm) (s1 rfl) <| cp (oExt (k := 0) rfl tm) (s1 rfl) <| cp (oExt (k := 1) rfl tm) (s1 rfl) <| cp (oExt (k := 2) rfl tm) (s1 rfl) <| cp (oAs tm) (s1 rfl) <| cp (oAs tm) (s1 rfl) <| cp (oAs tm) (s1 rfl) <| .nil) (by kernel_rfl) ?_
  refine pSeq ?_
  refine wSeq ?_
  refine wSeq ?_
  refine rg (cp (oMv tm) (s1 rfl) <| cp (oNe rfl tm (cI (by decide))) (s1 rfl) <| .nil) (by kernel_rfl) ?_
  refine pSeq ?_
  rcases ic h with ⟨hp3, h⟩ | ⟨hp3, h⟩
  · refine wNT hp3 tm (s1 rfl) ?_
    refine wSkip ?_
    refine pSeq ?_
    refine wSeq ?_
    obtain ⟨o1, h, hk1⟩ := bd h
    refine wJ1 (fun x9 => x9 = o1) (fun x9 => [(0, .d ((kL (kR f_api_Tok)).sig y1)), (1, .d ((kI .i64).sig a1)), (2, .d (kB.sig a2)), (7, .d ((kL (kI .i64)).sig y2.1)), (8, .d ((kI .i64).sig y2.2.1)), (52, .d (kB.sig x9))]) (fun x9 => []) ?_ ?_
    · obtain ⟨y10, hy10, h⟩ := bd h
      rcases ic h with ⟨hp11, h⟩ | ⟨hp11, h⟩
      · refine rg (cp (oMv tm) (s1 rfl) <| cp (oMv tm) (s1 rfl) <| cp (oCall rfl (rule_Right.ok hy10) b47 (opds_cons tm (opds_cons tm opds_nil))) (s2 rfl rfl) <| cp (oNot tm) (s1 rfl) <| cp (oMv tm) (s1 rfl) <| csB hp11 rfl rfl <| csB hp11 rfl rfl <| csB hp11 rfl rfl <| csB hp11 rfl rfl <| cp (oPkT hp11 tm cB) (s1 rfl) <| cp (oMv tm) (s1 rfl) <| csB rfl rfl rfl <| csB rfl rfl rfl <| csB rfl rfl rfl <| cp (oPkT rfl tm cB) (s1 rfl) <| cp (oMv tm) (s1 rfl) <| csB rfl rfl rfl <| csB rfl rfl rfl <| csB rfl rfl rfl <| csB rfl rfl rfl <| cp (oPkT rfl tm cB) (s1 rfl) <| .nil) (by kernel_rfl) ?_
        exact pJ1 _ (so h) ⟨rfl, rfl, rfl, rfl, rfl, rfl, trivial⟩ rfl
      · obtain ⟨y12, hy12, h⟩ := bd h
        rcases ic h with ⟨hp13, h⟩ | ⟨hp13, h⟩
        · refine rg (cp (oMv tm) (s1 rfl) <| cp (oMv tm) (s1 rfl) <| cp (oCall rfl (rule_Right.ok hy10) b47 (opds_cons tm (opds_cons tm opds_nil))) (s2 rfl rfl) <| cp (oNot tm) (s1 rfl) <| cp (oMv tm) (s1 rfl) <| cgB (nb hp11) rfl rfl (oMv tm) (s1 rfl) <| cgB (nb hp11) rfl rfl (oMv tm) (s1 rfl) <| cgB (nb hp11) rfl rfl (oNot tm) (s1 rfl) <| cgB (nb hp11) rfl rfl (oCall rfl (rule_Right.ok hy12) b47 (opds_cons tm (opds_cons tm opds_nil))) (s2 rfl rfl) <| cp (oPkF (nb hp11) tm tm) (s2 rfl rfl) <| cp (oMv tm) (s1 rfl) <| csB hp13 rfl rfl <| csB hp13 rfl rfl <| csB hp13 rfl rfl <| cp (oPkT hp13 tm cB) (s1 rfl) <| cp (oMv tm) (s1 rfl) <| csB rfl rfl rfl <| csB rfl rfl rfl <| csB rfl rfl rfl <| csB rfl rfl rfl <| cp (oPkT rfl tm cB) (s1 rfl) <| .nil) (by kernel_rfl) ?_
          exact pJ1 _ (so h) ⟨rfl, rfl, rfl, rfl, rfl, rfl, trivial⟩ rfl
        · rcases ic h with ⟨hp14, h⟩ | ⟨hp14, h⟩
          · refine rg (cp (oMv tm) (s1 rfl) <| cp (oMv tm) (s1 rfl) <| cp (oCall rfl (rule_Right.ok hy10) b47 (opds_cons tm (opds_cons tm opds_nil))) (s2 rfl rfl) <| cp (oNot tm) (s1 rfl) <| cp (oMv tm) (s1 rfl) <| cgB (nb hp11) rfl rfl (oMv tm) (s1 rfl) <| cgB (nb hp11) rfl rfl (oMv tm) (s1 rfl) <| cgB (nb hp11) rfl rfl (oNot tm) (s1 rfl) <| cgB (nb hp11) rfl rfl (oCall rfl (rule_Right.ok hy12) b47 (opds_cons tm (opds_cons tm opds_nil))) (s2 rfl rfl) <| cp (oPkF (nb hp11) tm tm) (s2 rfl rfl) <| cp (oMv tm) (s1 rfl) <| cgB (nb hp13) rfl rfl (oMv tm) (s1 rfl) <| cgB (nb hp13) rfl rfl (oMv tm) (s1 rfl) <| cgB (nb hp13) rfl rfl (oLe rfl tm tm) (s2 rfl rfl) <| cp (oPkF (nb hp13) tm tm) (s2 rfl rfl) <| cp (oMv tm) (s1 rfl) <| csB (decide_eq_true hp14) rfl rfl <| csB (decide_eq_true hp14) rfl rfl <| csB (decide_eq_true hp14) rfl rfl <| csB (decide_eq_true hp14) rfl rfl <| cp (oPkT (decide_eq_true hp14) tm cB) (s1 rfl) <| .nil) (by kernel_rfl) ?_
            exact pJ1 _ (so h) ⟨rfl, rfl, rfl, rfl, rfl, rfl, trivial⟩ rfl
          · refine rg (cp (oMv tm) (s1 rfl) <| cp (oMv tm) (s1 rfl) <| cp (oCall rfl (rule_Right.ok hy10) b47 (opds_cons tm (opds_cons tm opds_nil))) (s2 rfl rfl) <| cp (oNot tm) (s1 rfl) <| cp (oMv tm) (s1 rfl) <| cgB (nb hp11) rfl rfl (oMv tm) (s1 rfl) <| cgB (nb hp11) rfl rfl (oMv tm) (s1 rfl) <| cgB (nb hp11) rfl rfl (oNot tm) (s1 rfl) <| cgB (nb hp11) rfl rfl (oCall rfl (rule_Right.ok hy12) b47 (opds_cons tm (opds_cons tm opds_nil))) (s2 rfl rfl) <| cp (oPkF (nb hp11) tm tm) (s2 rfl rfl) <| cp (oMv tm) (s1 rfl) <| cgB (nb hp13) rfl rfl (oMv tm) (s1 rfl) <| cgB (nb hp13) rfl rfl (oMv tm) (s1 rfl) <| cgB (nb hp13) rfl rfl (oLe rfl tm tm) (s2 rfl rfl) <| cp (oPkF (nb hp13) tm tm) (s2 rfl rfl) <| cp (oMv tm) (s1 rfl) <| cgB (decide_eq_false hp14) rfl rfl (oMv tm) (s1 rfl) <| cgB (decide_eq_false hp14) rfl rfl (oMv tm) (s1 rfl) <| cgB (decide_eq_false hp14) rfl rfl (oLenL u34 tm) (s1 rfl) <| cgB (decide_eq_false hp14) rfl rfl (oGe rfl tm tm) (s2 rfl rfl) <| cp (oPkF (decide_eq_false hp14) tm tm) (s2 rfl rfl) <| .nil) (by kernel_rfl) ?_
            exact pJ1 _ (so h) ⟨rfl, rfl, rfl, rfl, rfl, rfl, trivial⟩ rfl
    · rintro x9 rfl
      replace h := hk1
      rcases ic h with ⟨hp15, h⟩ | ⟨hp15, h⟩
      · refine wBT hp15 tm (s1 rfl) ?_
        refine wSeq ?_
        refine rg (cp (oAs cB) trivial <| .nil) (by kernel_rfl) ?_
        refine pSeq ?_
        refine wRet ?_
        refine pThenR ?_
        obtain rfl := so h
        exact pR1 (.inl rfl) rfl (.tmp rfl <| .nil)
      · refine wBF hp15 tm (s1 rfl) ?_
        refine wSkip ?_
        refine pSeq ?_
        refine wSeq ?_
        obtain ⟨hc16, h⟩ := ib h
        obtain ⟨hc17, h⟩ := ib h
        obtain ⟨hc18, h⟩ := ib h
        refine rg (cw (oLitR (id := 53) (d := (kR f_api_Tok)) el34 (by decide) rfl rfl rfl e0) trivial <| cp (oMv tm) (s1 rfl) <| cp (oMv tm) (s1 rfl) <| cp (oMv tm) (s1 rfl) <| cp (oCut u34 z36 hc16.1 hc16.2.1 hc16.2.2 tm tm tm) (s3 rfl rfl rfl) <| cw (oApp (n := 0) (id' := 58) el34 (by decide) rfl (by decide) hc17 tm tm) (s2 rfl rfl) <| cp (oBuild (fs := f_api_Tok) (u := ⟨0, [], 0⟩) rfl ze36 pl36 po36 (.ze (zc := [(.int .i64 0)]) zI_i64 (.ze (zc := [(.string ⟨⟨[]⟩⟩)]) zS (.ze (zc := [(.int .i64 0)]) zI_i64 .nil)))) trivial <| cp (oLit (d := (kR f_api_Tok)) el34 (by decide) rfl rfl rfl (e1 tm e0)) (s1 rfl) <| cw (oApp (n := 0) (id' := 61) el34 (by decide) rfl (by decide) hc18 tm tm) (s2 rfl rfl) <| cp (oAs tm) (s1 rfl) <| .nil) (by kernel_rfl) ?_
        refine pSeq ?_
        refine wSeq ?_
        refine wFrzR (n := 0) (id := 61) [10, 61] rfl rfl ⟨rfl, rfl, trivial⟩ ?_
        obtain ⟨y19, hy19, h⟩ := bd h
        refine rg (cp (oMv tm) (s1 rfl) <| cp (oMv tm) (s1 rfl) <| cp (oCall rfl (rule_From.ok hy19) b45 (opds_cons tm (opds_cons (cI (by decide)) (opds_cons tm opds_nil)))) (s2 rfl rfl) <| cp (oMv tm) (s1 rfl) <| cp (oExt (k := 0) rfl tm) (s1 rfl) <| cp (oExt (k := 1) rfl tm) (s1 rfl) <| cp (oExt (k := 2) rfl tm) (s1 rfl) <| cp (oAs tm) (s1 rfl) <| cp (oAs tm) (s1 rfl) <| cp (oAs tm) (s1 rfl) <| .nil) (by kernel_rfl) ?_
        refine pSeq ?_
        obtain ⟨o1, h, hk1⟩ := bd h
        refine wJ1 (fun x25 => x25 = o1) (fun x25 => [(6, .d (kB.sig x25))]) (fun x25 => []) ?_ ?_
        · obtain ⟨y26, hy26, h⟩ := bd h
          rcases ic h with ⟨hp27, h⟩ | ⟨hp27, h⟩
          · rcases ic h with ⟨hp28, h⟩ | ⟨hp28, h⟩
            · rcases ic h with ⟨hp29, h⟩ | ⟨hp29, h⟩
              · obtain ⟨y30, hy30, h⟩ := bd h
                refine rg (cp (oCall rfl (reticentlaw04_alive.ok hy26) b46 opds_nil) trivial <| cp (oMv tm) (s1 rfl) <| cgB hp27 rfl rfl (oMv tm) (s1 rfl) <| cgB hp27 rfl rfl (oEq rfl tm (cI (by decide))) (s1 rfl) <| cp (oPkT hp27 tm tm) (s2 rfl rfl) <| cp (oMv tm) (s1 rfl) <| cgB (decide_eq_true hp28) rfl rfl (oMv tm) (s1 rfl) <| cgB (decide_eq_true hp28) rfl rfl (oMv tm) (s1 rfl) <| cgB (decide_eq_true hp28) rfl rfl (oMv tm) (s1 rfl) <| cgB (decide_eq_true hp28) rfl rfl (oSub tm tm) (s2 rfl rfl) <| cgB (decide_eq_true hp28) rfl rfl (oEq rfl tm tm) (s2 rfl rfl) <| cp (oPkT (decide_eq_true hp28) tm tm) (s2 rfl rfl) <| cp (oMv tm) (s1 rfl) <| cgB (decide_eq_true hp29) rfl rfl (oMv tm) (s1 rfl) <| cgB (decide_eq_true hp29) rfl rfl (oMv tm) (s1 rfl) <| cgB (decide_eq_true hp29) rfl rfl (oCall rfl (reticentref04_Same.ok hy30) b21 (opds_cons tm (opds_cons tm opds_nil))) (s2 rfl rfl) <| cp (oPkT (decide_eq_true hp29) tm tm) (s2 rfl rfl) <| cp (oAs tm) (s1 rfl) <| .nil) (by kernel_rfl) ?_
                exact pJ1 _ (so h) ⟨rfl, trivial⟩ rfl
              · refine rg (cp (oCall rfl (reticentlaw04_alive.ok hy26) b46 opds_nil) trivial <| cp (oMv tm) (s1 rfl) <| cgB hp27 rfl rfl (oMv tm) (s1 rfl) <| cgB hp27 rfl rfl (oEq rfl tm (cI (by decide))) (s1 rfl) <| cp (oPkT hp27 tm tm) (s2 rfl rfl) <| cp (oMv tm) (s1 rfl) <| cgB (decide_eq_true hp28) rfl rfl (oMv tm) (s1 rfl) <| cgB (decide_eq_true hp28) rfl rfl (oMv tm) (s1 rfl) <| cgB (decide_eq_true hp28) rfl rfl (oMv tm) (s1 rfl) <| cgB (decide_eq_true hp28) rfl rfl (oSub tm tm) (s2 rfl rfl) <| cgB (decide_eq_true hp28) rfl rfl (oEq rfl tm tm) (s2 rfl rfl) <| cp (oPkT (decide_eq_true hp28) tm tm) (s2 rfl rfl) <| cp (oMv tm) (s1 rfl) <| csB (decide_eq_false hp29) rfl rfl <| csB (decide_eq_false hp29) rfl rfl <| csB (decide_eq_false hp29) rfl rfl <| cp (oPkF (decide_eq_false hp29) tm cB) (s1 rfl) <| cp (oAs tm) (s1 rfl) <| .nil) (by kernel_rfl) ?_
                exact pJ1 _ (so h) ⟨rfl, trivial⟩ rfl
            · refine rg (cp (oCall rfl (reticentlaw04_alive.ok hy26) b46 opds_nil) trivial <| cp (oMv tm) (s1 rfl) <| cgB hp27 rfl rfl (oMv tm) (s1 rfl) <| cgB hp27 rfl rfl (oEq rfl tm (cI (by decide))) (s1 rfl) <| cp (oPkT hp27 tm tm) (s2 rfl rfl) <| cp (oMv tm) (s1 rfl) <| csB (decide_eq_false hp28) rfl rfl <| csB (decide_eq_false hp28) rfl rfl <| csB (decide_eq_false hp28) rfl rfl <| csB (decide_eq_false hp28) rfl rfl <| csB (decide_eq_false hp28) rfl rfl <| cp (oPkF (decide_eq_false hp28) tm cB) (s1 rfl) <| cp (oMv tm) (s1 rfl) <| csB rfl rfl rfl <| csB rfl rfl rfl <| csB rfl rfl rfl <| cp (oPkF rfl tm cB) (s1 rfl) <| cp (oAs tm) (s1 rfl) <| .nil) (by kernel_rfl) ?_
              exact pJ1 _ (so h) ⟨rfl, trivial⟩ rfl
          · refine rg (cp (oCall rfl (reticentlaw04_alive.ok hy26) b46 opds_nil) trivial <| cp (oMv tm) (s1 rfl) <| csB (nb hp27) rfl rfl <| csB (nb hp27) rfl rfl <| cp (oPkF (nb hp27) tm cB) (s1 rfl) <| cp (oMv tm) (s1 rfl) <| csB rfl rfl rfl <| csB rfl rfl rfl <| csB rfl rfl rfl <| csB rfl rfl rfl <| csB rfl rfl rfl <| cp (oPkF rfl tm cB) (s1 rfl) <| cp (oMv tm) (s1 rfl) <| csB rfl rfl rfl <| csB rfl rfl rfl <| csB rfl rfl rfl <| cp (oPkF rfl tm cB) (s1 rfl) <| cp (oAs tm) (s1 rfl) <| .nil) (by kernel_rfl) ?_
            exact pJ1 _ (so h) ⟨rfl, trivial⟩ rfl
        · rintro x25 rfl
          replace h := hk1
          refine wRet ?_
          obtain rfl := so h
          exact pR1 (.inl rfl) rfl (.tmp rfl <| .nil)
  · refine wNF hp3 tm (s1 rfl) ?_
    obtain ⟨o1, h, hk1⟩ := bd h
    refine wJ1 (fun x33 => x33 = o1) (fun x33 => [(6, .d (kB.sig x33))]) (fun x33 => []) ?_ ?_
    · obtain ⟨y34, hy34, h⟩ := bd h
      rcases ic h with ⟨hp35, h⟩ | ⟨hp35, h⟩
      · refine rg (cp (oCall rfl (reticentlaw04_alive.ok hy34) b46 opds_nil) trivial <| cp (oMv tm) (s1 rfl) <| cgB hp35 rfl rfl (oMv tm) (s1 rfl) <| cgB hp35 rfl rfl (oLenL u22 tm) (s1 rfl) <| cgB hp35 rfl rfl (oEq rfl tm (cI (by decide))) (s1 rfl) <| cp (oPkT hp35 tm tm) (s2 rfl rfl) <| cp (oAs tm) (s1 rfl) <| .nil) (by kernel_rfl) ?_
        exact pJ1 _ (so h) ⟨rfl, trivial⟩ rfl
      · refine rg (cp (oCall rfl (reticentlaw04_alive.ok hy34) b46 opds_nil) trivial <| cp (oMv tm) (s1 rfl) <| csB (nb hp35) rfl rfl <| csB (nb hp35) rfl rfl <| csB (nb hp35) rfl rfl <| cp (oPkF (nb hp35) tm cB) (s1 rfl) <| cp (oAs tm) (s1 rfl) <| .nil) (by kernel_rfl) ?_
        exact pJ1 _ (so h) ⟨rfl, trivial⟩ rfl
    · rintro x33 rfl
      replace h := hk1
      refine wRet ?_
      refine pThenR ?_
      obtain rfl := so h
      exact pR1 (.inl rfl) rfl (.tmp rfl <| .nil)

theorem show_word.ok {a0 : Int} {r : Str × Int × Bool} (h : show_word.f a0 = some r) : FnA Try.prog 59 [(kI .i64).sig a0] (tup [kS.sig r.1, (kI .i64).sig r.2.1, kB.sig r.2.2]) := by
  refine fnIntro Try.func59 rfl (by kernel_rfl) fun H0 w0 => ?_
  unfold show_word.f at h
  refine wSeq ?_
  refine rg (cp (oAs (cS (by decide))) trivial <| cp (oAs (cI (by decide))) trivial <| cp (oAs cB) trivial <| .nil) (by kernel_rfl) ?_
  refine pSeq ?_
  refine wSeq ?_
  refine wSeq ?_
  refine rg (cp (oMv tm) (s1 rfl) <| .nil) (by kernel_rfl) ?_
  refine pSeq ?_
  refine wBlock ?_
  refine wSeq ?_
  refine rg (cp (oEq rfl tm (cI (by decide))) (s1 rfl) <| cp (oAs tm) (s1 rfl) <| .nil) (by kernel_rfl) ?_
  refine pSeq ?_
  rcases ic h with ⟨hp1, h⟩ | ⟨hp1, h⟩
  · refine wCT hp1 tm (s1 rfl) ?_
    refine wSeq ?_
    refine rg (cp (oAs (cS (by decide))) trivial <| cp (oAs (cI (by decide))) trivial <| cp (oAs cB) trivial <| .nil) (by kernel_rfl) ?_
    refine pSeq ?_
    refine wRet ?_
    refine pBlkR ?_
    refine pThenR ?_
    obtain rfl := so h
    exact pRn (.inl rfl) rfl rfl (.tmp rfl <| .tmp rfl <| .tmp rfl <| .nil)
  · refine wCF hp1 tm (s1 rfl) ?_
    refine wSeq ?_
    refine rg (cp (oEq rfl tm (cI (by decide))) (s1 rfl) <| cp (oAs tm) (s1 rfl) <| .nil) (by kernel_rfl) ?_
    refine pSeq ?_
    rcases ic h with ⟨hp2, h⟩ | ⟨hp2, h⟩
    · refine wCT hp2 tm (s1 rfl) ?_
      refine wSeq ?_
      refine rg (cp (oAs (cS (by decide))) trivial <| cp (oAs (cI (by decide))) trivial <| cp (oAs cB) trivial <| .nil) (by kernel_rfl) ?_
      refine pSeq ?_
      refine wRet ?_
      refine pBlkR ?_
      refine pThenR ?_
      obtain rfl := so h
      exact pRn (.inl rfl) rfl rfl (.tmp rfl <| .tmp rfl <| .tmp rfl <| .nil)
    · refine wCF hp2 tm (s1 rfl) ?_
      refine wSeq ?_
      refine rg (cp (oEq rfl tm (cI (by decide))) (s1 rfl) <| cp (oAs tm) (s1 rfl) <| .nil) (by kernel_rfl) ?_
      refine pSeq ?_
      rcases ic h with ⟨hp3, h⟩ | ⟨hp3, h⟩
      · refine wCT hp3 tm (s1 rfl) ?_
        refine wSeq ?_
        refine rg (cp (oAs (cS (by decide))) trivial <| cp (oAs (cI (by decide))) trivial <| cp (oAs cB) trivial <| .nil) (by kernel_rfl) ?_
        refine pSeq ?_
        refine wRet ?_
        refine pBlkR ?_
        refine pThenR ?_
        obtain rfl := so h
        exact pRn (.inl rfl) rfl rfl (.tmp rfl <| .tmp rfl <| .tmp rfl <| .nil)
      · refine wCF hp3 tm (s1 rfl) ?_
        refine wSeq ?_
        refine rg (cp (oEq rfl tm (cI (by decide))) (s1 rfl) <| cp (oAs tm) (s1 rfl) <| .nil) (by kernel_rfl) ?_
        refine pSeq ?_
        rcases ic h with ⟨hp4, h⟩ | ⟨hp4, h⟩
        · refine wCT hp4 tm (s1 rfl) ?_
          refine wSeq ?_
          refine rg (cp (oAs (cS (by decide))) trivial <| cp (oAs (cI (by decide))) trivial <| cp (oAs cB) trivial <| .nil) (by kernel_rfl) ?_
          refine pSeq ?_
          refine wRet ?_
          refine pBlkR ?_
          refine pThenR ?_
          obtain rfl := so h
          exact pRn (.inl rfl) rfl rfl (.tmp rfl <| .tmp rfl <| .tmp rfl <| .nil)
        · refine wCF hp4 tm (s1 rfl) ?_
          refine wSeq ?_
          refine rg (cp (oEq rfl tm (cI (by decide))) (s1 rfl) <| cp (oAs tm) (s1 rfl) <| .nil) (by kernel_rfl) ?_
          refine pSeq ?_
          rcases ic h with ⟨hp5, h⟩ | ⟨hp5, h⟩
          · refine wCT hp5 tm (s1 rfl) ?_
            refine wSeq ?_
            refine rg (cp (oAs (cS (by decide))) trivial <| cp (oAs (cI (by decide))) trivial <| cp (oAs cB) trivial <| .nil) (by kernel_rfl) ?_
            refine pSeq ?_
            refine wRet ?_
            refine pBlkR ?_
            refine pThenR ?_
            obtain rfl := so h
            exact pRn (.inl rfl) rfl rfl (.tmp rfl <| .tmp rfl <| .tmp rfl <| .nil)
          · refine wCF hp5 tm (s1 rfl) ?_
            refine wSeq ?_
            refine rg (cp (oEq rfl tm (cI (by decide))) (s1 rfl) <| cp (oAs tm) (s1 rfl) <| .nil) (by kernel_rfl) ?_
            refine pSeq ?_
            rcases ic h with ⟨hp6, h⟩ | ⟨hp6, h⟩
            · refine wCT hp6 tm (s1 rfl) ?_
              refine wSeq ?_
              refine rg (cp (oAs (cS (by decide))) trivial <| cp (oAs (cI (by decide))) trivial <| cp (oAs cB) trivial <| .nil) (by kernel_rfl) ?_
              refine pSeq ?_
              refine wRet ?_
              refine pBlkR ?_
              refine pThenR ?_
              obtain rfl := so h
              exact pRn (.inl rfl) rfl rfl (.tmp rfl <| .tmp rfl <| .tmp rfl <| .nil)
            · refine wCF hp6 tm (s1 rfl) ?_
              refine wSeq ?_
              refine rg (cp (oEq rfl tm (cI (by decide))) (s1 rfl) <| cp (oAs tm) (s1 rfl) <| .nil) (by kernel_rfl) ?_
              refine pSeq ?_
              rcases ic h with ⟨hp7, h⟩ | ⟨hp7, h⟩
              · refine wCT hp7 tm (s1 rfl) ?_
                refine wSeq ?_
                refine rg (cp (oAs (cS (by decide))) trivial <| cp (oAs (cI (by decide))) trivial <| cp (oAs cB) trivial <| .nil) (by kernel_rfl) ?_
                refine pSeq ?_
                refine wRet ?_
                refine pBlkR ?_
                refine pThenR ?_
                obtain rfl := so h
                exact pRn (.inl rfl) rfl rfl (.tmp rfl <| .tmp rfl <| .tmp rfl <| .nil)
              · refine wCF hp7 tm (s1 rfl) ?_
                refine wSkip ?_
                refine pBlkN ?_
                refine pSeq ?_
                refine wSeq ?_
                obtain ⟨y8, hy8, h⟩ := bd h
                refine rg (cp (oLit (d := kS) el39 (by decide) rfl rfl rfl (e1 (cS (by decide)) (e1 (cS (by decide)) (e1 (cS (by decide)) (e1 (cS (by decide)) (e1 (cS (by decide)) (e1 (cS (by decide)) e0))))))) trivial <| cp (oMv tm) (s1 rfl) <| cp (oSub tm (cI (by decide))) (s1 rfl) <| cp (oIdx u39 z9 hy8 tm tm) (s2 rfl rfl) <| cp (oLd t9 tm) (s1 rfl) <| cp (oAs tm) (s1 rfl) <| cp (oAs (cI (by decide))) trivial <| cp (oAs cB) trivial <| .nil) (by kernel_rfl) ?_
                refine pSeq ?_
                refine wRet ?_
                obtain rfl := so h
                exact pRn (.inl rfl) rfl rfl (.tmp rfl <| .tmp rfl <| .tmp rfl <| .nil)

theorem show_pile_show_piece_put.ok {a0 : show_piece_81} {a1 : show_piece} {r : show_piece_81} (h : show_pile_show_piece_put.f a0 a1 = some r) : FnS Try.prog 60 [.p 70000 0, .d ((kR f_show_piece).sig a1)] [.box 70000 81 [.v 70001], .row 70001 86 (kR f_show_piece) a0.l_] [70000] (.d (tup [])) [.box 70000 81 [.v 70001], .row 70001 86 (kR f_show_piece) r.l_] := by
  refine fnIntroS Try.func60 rfl (by kernel_rfl) fun X H0 w0 pv => ?_
  unfold show_pile_show_piece_put.f at h
  refine wSeq ?_
  refine rg (cp (oBox tm) (s1 rfl) <| .nil) (by kernel_rfl) ?_
  refine pSeq ?_
  obtain ⟨hc1, h⟩ := ib h
  refine rgD hm (cp (oMv tm) (s1 rfl) <| cp (oMv tm) (s1 rfl) <| cp (oNilP tm) (s1 rfl) <| cp (oFldP o81_0 tm) (s1 rfl) <| cr (oLdN (n := 0) (k := 0) rfl rfl rfl t79 tm) (s1 rfl) <| cp (oLd t86 tm) (s1 rfl) <| cp (oLit (d := (kR f_show_piece)) el79 (by decide) rfl rfl rfl (e1 tm e0)) (s1 rfl) <| cw (oApp (n := 1) (id' := 11) el79 (by decide) rfl (by decide) hc1 tm tm) (s2 rfl rfl) <| cp (oNilP tm) (s1 rfl) <| cp (oFldP o81_0 tm) (s1 rfl) <| cwn (oStN (n := 0) (m := 1) (k := 0) rfl rfl rfl rfl z79 rfl tm tm) (s2 rfl rfl) <| .nil) (by kernel_rfl) (by kernel_rfl) ?_
  obtain rfl := so h
  refine pSub (Γ' := []) trivial ?_
  refine pRen 11 70001 rfl ?_
  exact pSn [0, 1] rfl rfl (.inr rfl) rfl rfl (.nil)

theorem show_pile_show_piece_take.ok {a0 : show_piece_81} {r : show_piece_81 × show_piece} (h : show_pile_show_piece_take.f a0 = some r) : FnS Try.prog 61 [.p 70000 0] [.box 70000 81 [.v 70001], .row 70001 86 (kR f_show_piece) a0.l_] [70000] (.d ((kR f_show_piece).sig r.2)) [.box 70000 81 [.v 70001], .row 70001 86 (kR f_show_piece) r.1.l_] := by
  refine fnIntroS Try.func61 rfl (by kernel_rfl) fun X H0 w0 pv => ?_
  unfold show_pile_show_piece_take.f at h
  refine wSeq ?_
  refine rg (cw (oAlloc (id := 2) (ls := [.d kS [], .d (kI .i64) 0, .d (kI .i64) 0]) ze86 (fun g => ⟨[(.string ⟨⟨[]⟩⟩)], _, rfl, zS g.H, ⟨[(.int .i64 0)], _, rfl, zI_i64 g.H, ⟨[(.int .i64 0)], _, rfl, zI_i64 g.H, rfl⟩⟩⟩)) trivial <| .nil) (by kernel_rfl) ?_
  refine pSeq ?_
  refine wSeq ?_
  refine rg (cp (oMv tm) (s1 rfl) <| cp (oNilP tm) (s1 rfl) <| cp (oFldP o81_0 tm) (s1 rfl) <| cr (oLdN (n := 1) (k := 0) rfl rfl rfl t79 tm) (s1 rfl) <| cr (oLenR (n := 2) u79 rfl tm) (s1 rfl) <| cp (oSub tm (cI (by decide))) (s1 rfl) <| cp (oAs tm) (s1 rfl) <| .nil) (by kernel_rfl) ?_
  refine pSeq ?_
  refine wSeq ?_
  obtain ⟨y1, hy1, h⟩ := bd h
  refine rg (cp (oMv tm) (s1 rfl) <| cp (oNilP tm) (s1 rfl) <| cp (oFldP o81_0 tm) (s1 rfl) <| cr (oLdN (n := 1) (k := 0) rfl rfl rfl t79 tm) (s1 rfl) <| cp (oMv tm) (s1 rfl) <| cr (oIdxR (n := 2) u79 z86 rfl hy1 tm tm) (s2 rfl rfl) <| cr (oLdE (n := 2) rfl hy1 rfl t86 tm) (s1 rfl) <| cw (oAlloc (id := 4) (ls := [.d kS [], .d (kI .i64) 0, .d (kI .i64) 0]) ze86 (fun g => ⟨[(.string ⟨⟨[]⟩⟩)], _, rfl, zS g.H, ⟨[(.int .i64 0)], _, rfl, zI_i64 g.H, ⟨[(.int .i64 0)], _, rfl, zI_i64 g.H, rfl⟩⟩⟩)) trivial <| cwn (oStA (n := 0) (fs := f_show_piece) rfl rfl z86 tm tm) (s2 rfl rfl) <| .nil) (by kernel_rfl) ?_
  refine pSeq ?_
  refine wSeq ?_
  obtain ⟨hc2, h⟩ := ib h
  refine rg (cp (oMv tm) (s1 rfl) <| cp (oMv tm) (s1 rfl) <| cp (oNilP tm) (s1 rfl) <| cp (oFldP o81_0 tm) (s1 rfl) <| cr (oLdN (n := 2) (k := 0) rfl rfl rfl t79 tm) (s1 rfl) <| cp (oMv tm) (s1 rfl) <| cw (oCutR (n := 3) (id' := 24) u79 z86 rfl hc2.1 hc2.2 tm tm) (s2 rfl rfl) <| cp (oNilP tm) (s1 rfl) <| cp (oFldP o81_0 tm) (s1 rfl) <| cwn (oStN (n := 2) (m := 3) (k := 0) rfl rfl rfl rfl z79 rfl tm tm) (s2 rfl rfl) <| .nil) (by kernel_rfl) ?_
  refine pSeq ?_
  refine wSeq ?_
  refine rg (cr (oLdA (n := 0) (fs := f_show_piece) (u := ⟨y1.text_, y1.binds_, y1.deep_⟩) rfl ⟨rfl, rfl, rfl, trivial⟩ t86 tm) (s1 rfl) <| cwn (oStA (n := 1) (fs := f_show_piece) rfl rfl z86 tm tm) (s2 rfl rfl) <| .nil) (by kernel_rfl) ?_
  refine pSeq ?_
  refine wRet ?_
  obtain rfl := so h
  refine pSub (Γ' := [(2, .p 2 0)]) ⟨rfl, trivial⟩ ?_
  refine pRen 24 70001 rfl ?_
  exact pS1 [2, 3] rfl rfl (.inl rfl) rfl (.box (n := 1) (fs := f_show_piece) (u := ⟨(⟨y1.text_, y1.binds_, y1.deep_⟩ : show_piece).text_, (⟨y1.text_, y1.binds_, y1.deep_⟩ : show_piece).binds_, (⟨y1.text_, y1.binds_, y1.deep_⟩ : show_piece).deep_⟩) rfl rfl ⟨rfl, rfl, rfl, trivial⟩ t86 <| .nil)

theorem show_within.ok {a0 : show_piece} {a1 : Int} {a2 : Str} {a3 : Str} {r : show_piece} (h : show_within.f a0 a1 a2 a3 = some r) : FnA Try.prog 62 [(kR f_show_piece).sig a0, (kI .i64).sig a1, kS.sig a2, kS.sig a3] ((kR f_show_piece).sig r) := by
  refine fnIntro Try.func62 rfl (by kernel_rfl) fun H0 w0 => ?_
  unfold show_within.f at h
  refine wSeq ?_
  refine rg (cp (oBox tm) (s1 rfl) <| cw (oAlloc (id := 8) (ls := [.d kS [], .d (kI .i64) 0, .d (kI .i64) 0]) ze86 (fun g => ⟨[(.string ⟨⟨[]⟩⟩)], _, rfl, zS g.H, ⟨[(.int .i64 0)], _, rfl, zI_i64 g.H, ⟨[(.int .i64 0)], _, rfl, zI_i64 g.H, rfl⟩⟩⟩)) trivial <| .nil) (by kernel_rfl) ?_
  refine pSeq ?_
  refine wSeq ?_
  refine wSeq ?_
  refine rg (cp (oFld (fs := f_show_piece) (k := 1) rfl o86_1 tm) (s1 rfl) <| cp (oLd t3 tm) (s1 rfl) <| cp (oMv tm) (s1 rfl) <| cp (oGe rfl tm tm) (s2 rfl rfl) <| .nil) (by kernel_rfl) ?_
  refine pSeq ?_
  rcases ic h with ⟨hp1, h⟩ | ⟨hp1, h⟩
  · refine wCT hp1 tm (s1 rfl) ?_
    refine wSeq ?_
    refine rg (cp (oLd t86 tm) (s1 rfl) <| cwn (oStA (n := 0) (fs := f_show_piece) rfl rfl z86 tm tm) (s2 rfl rfl) <| .nil) (by kernel_rfl) ?_
    refine pSeq ?_
    refine wRet ?_
    refine pThenR ?_
    obtain rfl := so h
    exact pR1 (.inl rfl) rfl (.box (n := 0) (fs := f_show_piece) (u := ⟨a0.text_, a0.binds_, a0.deep_⟩) rfl rfl ⟨rfl, rfl, rfl, trivial⟩ t86 <| .nil)
  · refine wCF hp1 tm (s1 rfl) ?_
    refine wSkip ?_
    refine pSeq ?_
    refine wSeq ?_
    obtain ⟨hc2, h⟩ := ib h
    obtain ⟨hc3, h⟩ := ib h
    refine rg (cp (oMv tm) (s1 rfl) <| cp (oFld (fs := f_show_piece) (k := 0) rfl o86_0 tm) (s1 rfl) <| cp (oLd t9 tm) (s1 rfl) <| cp (oSAdd hc2 tm tm) (s2 rfl rfl) <| cp (oMv tm) (s1 rfl) <| cp (oSAdd hc3 tm tm) (s2 rfl rfl) <| cp (oFld (fs := f_show_piece) (k := 2) rfl o86_2 tm) (s1 rfl) <| cp (oLd t3 tm) (s1 rfl) <| cp (oAdd tm (cI (by decide))) (s1 rfl) <| cp (oBuild (fs := f_show_piece) (u := ⟨(a2 ++ a0.text_) ++ a3, 3, IntKind.i64.wrap (a0.deep_ + 1)⟩) rfl ze86 pl86 po86 (.op (zc := [(.string ⟨⟨[]⟩⟩)]) tm rfl (.op (zc := [(.int .i64 0)]) (cI (by decide)) rfl (.op (zc := [(.int .i64 0)]) tm rfl .nil)))) (s2 rfl rfl) <| cwn (oStA (n := 0) (fs := f_show_piece) rfl rfl z86 tm tm) (s2 rfl rfl) <| .nil) (by kernel_rfl) ?_
    refine pSeq ?_
    refine wRet ?_
    obtain rfl := so h
    exact pR1 (.inl rfl) rfl (.box (n := 0) (fs := f_show_piece) (u := ⟨(⟨(a2 ++ a0.text_) ++ a3, 3, IntKind.i64.wrap (a0.deep_ + 1)⟩ : show_piece).text_, (⟨(a2 ++ a0.text_) ++ a3, 3, IntKind.i64.wrap (a0.deep_ + 1)⟩ : show_piece).binds_, (⟨(a2 ++ a0.text_) ++ a3, 3, IntKind.i64.wrap (a0.deep_ + 1)⟩ : show_piece).deep_⟩) rfl rfl ⟨rfl, rfl, rfl, trivial⟩ t86 <| .nil)

theorem show_Text.ok {a0 : List Int} {r : Str × Int} (h : show_Text.f a0 = some r) : FnA Try.prog 14 [(kL (kI .i64)).sig a0] (tup [kS.sig r.1, (kI .i64).sig r.2]) := by
  refine fnIntro Try.func14 rfl (by kernel_rfl) fun H0 w0 => ?_
  unfold show_Text.f at h
  refine wSeq ?_
  refine rg (cp (oAs (cS (by decide))) trivial <| cp (oAs (cI (by decide))) trivial <| .nil) (by kernel_rfl) ?_
  refine pSeq ?_
  refine wSeq ?_
  obtain ⟨o1, h, hk1⟩ := bd h
  refine wJ1 (fun x4 => x4 = o1) (fun x4 => [(0, .d ((kL (kI .i64)).sig a0)), (22, .d (kB.sig x4))]) (fun x4 => []) ?_ ?_
  · obtain ⟨y5, hy5, h⟩ := bd h
    rcases ic h with ⟨hp6, h⟩ | ⟨hp6, h⟩
    · obtain ⟨y7, hy7, h⟩ := bd h
      refine rg (cp (oMv tm) (s1 rfl) <| cp (oCall rfl (rule_Right.ok hy5) b47 (opds_cons tm (opds_cons cB opds_nil))) (s1 rfl) <| cp (oNot tm) (s1 rfl) <| cp (oMv tm) (s1 rfl) <| cgB hp6 rfl rfl (oMv tm) (s1 rfl) <| cgB hp6 rfl rfl (oCall rfl (rule_Right.ok hy7) b47 (opds_cons tm (opds_cons cB opds_nil))) (s1 rfl) <| cgB hp6 rfl rfl (oNot tm) (s1 rfl) <| cp (oPkT hp6 tm tm) (s2 rfl rfl) <| .nil) (by kernel_rfl) ?_
      exact pJ1 _ (so h) ⟨rfl, rfl, trivial⟩ rfl
    · refine rg (cp (oMv tm) (s1 rfl) <| cp (oCall rfl (rule_Right.ok hy5) b47 (opds_cons tm (opds_cons cB opds_nil))) (s1 rfl) <| cp (oNot tm) (s1 rfl) <| cp (oMv tm) (s1 rfl) <| csB (nb hp6) rfl rfl <| csB (nb hp6) rfl rfl <| csB (nb hp6) rfl rfl <| cp (oPkF (nb hp6) tm cB) (s1 rfl) <| .nil) (by kernel_rfl) ?_
      exact pJ1 _ (so h) ⟨rfl, rfl, trivial⟩ rfl
  · rintro x4 rfl
    replace h := hk1
    rcases ic h with ⟨hp8, h⟩ | ⟨hp8, h⟩
    · refine wBT hp8 tm (s1 rfl) ?_
      refine wSeq ?_
      refine rg (cp (oAs (cS (by decide))) trivial <| cp (oAs (cI (by decide))) trivial <| .nil) (by kernel_rfl) ?_
      refine pSeq ?_
      refine wRet ?_
      refine pThenR ?_
      obtain rfl := so h
      exact pRn (.inl rfl) rfl rfl (.tmp rfl <| .tmp rfl <| .nil)
    · refine wBF hp8 tm (s1 rfl) ?_
      refine wSkip ?_
      refine pSeq ?_
      refine wSeq ?_
      refine rg (cw (oAlloc (id := 4) (ls := [.d (kN show_piece) []]) ze81 (fun g => ⟨[(.slice none 0 0)], _, rfl, zN g.H, rfl⟩)) trivial <| .nil) (by kernel_rfl) ?_
      refine pSeq ?_
      refine wSeq ?_
      refine wSeq ?_
      refine rg (cp (oMv tm) (s1 rfl) <| cp (oLenL u22 tm) (s1 rfl) <| cp (oMv (cI (by decide))) trivial <| .nil) (by kernel_rfl) ?_
      refine pSeq ?_
      refine wNilL (kR f_show_piece) 86 5200 (n := 0) (k := 0) rfl rfl rfl ?_
      obtain ⟨o1, h, hk1⟩ := bd h
      refine wK1 (fun x159 => x159 = o1) (fun x159 => [(4, .p 4 0)]) (fun x159 => [.row 5200 86 (kR f_show_piece) x159, .box 4 81 [.v 5200]]) ?_ ?_
      · refine wBlock (wLoop ?_)
        refine lW (pc2 o1 (fun v157 v158 => [(4, .p 4 0), (23, .d ((kL (kI .i64)).sig a0)), (24, .d ((kI .i64).sig (a0.length : Int))), (25, .d ((kI .i64).sig v158))]) (fun v157 v158 => [.row 5200 86 (kR f_show_piece) v157, .box 4 81 [.v 5200]]) (show_Text.l0.partial_correctness a0) ?_ _ _ h) ⟨rfl, rfl, rfl, rfl, trivial⟩ rfl
        clear h
        intro f' ih v157 v158 h
        refine wSeq ?_
        refine rg (cp (oLt rfl tm tm) (s2 rfl rfl) <| .nil) (by kernel_rfl) ?_
        refine pSeq ?_
        refine wSeq ?_
        rcases ic h with ⟨hp160, h⟩ | ⟨hp160, h⟩
        · refine wCT hp160 tm (s1 rfl) ?_
          refine wSkip ?_
          refine pSeq ?_
          obtain ⟨o2, h, hk2⟩ := bd h
          refine wJ1 (fun x197 => x197 = o2) (fun x197 => [(4, .p 4 0), (23, .d ((kL (kI .i64)).sig a0)), (24, .d ((kI .i64).sig (a0.length : Int))), (25, .d ((kI .i64).sig v158))]) (fun x197 => [.row 5200 86 (kR f_show_piece) x197, .box 4 81 [.v 5200]]) ?_ ?_
          · refine wBlock ?_
            refine wSeq ?_
            obtain ⟨y198, hy198, h⟩ := bd h
            refine rg (cp (oIdx u22 z3 hy198 tm tm) (s2 rfl rfl) <| cp (oLd t3 tm) (s1 rfl) <| cp (oAs tm) (s1 rfl) <| .nil) (by kernel_rfl) ?_
            refine pSeq ?_
            refine wSeq ?_
            obtain ⟨y199, hy199, h⟩ := bd h
            refine rg (cp (oMv tm) (s1 rfl) <| cp (oCall rfl (show_word.ok hy199) b59 (opds_cons tm opds_nil)) (s1 rfl) <| cp (oMv tm) (s1 rfl) <| cp (oExt (k := 0) rfl tm) (s1 rfl) <| cp (oExt (k := 1) rfl tm) (s1 rfl) <| cp (oExt (k := 2) rfl tm) (s1 rfl) <| cp (oAs tm) (s1 rfl) <| cp (oAs tm) (s1 rfl) <| cp (oAs tm) (s1 rfl) <| .nil) (by kernel_rfl) ?_
            refine pSeq ?_
            refine wSeq ?_
            refine wSeq ?_
            refine rg (cp (oMv tm) (s1 rfl) <| cp (oNot tm) (s1 rfl) <| .nil) (by kernel_rfl) ?_
            refine pSeq ?_
            rcases ic h with ⟨hp200, h⟩ | ⟨hp200, h⟩
            · refine wBT hp200 tm (s1 rfl) ?_
              refine wSeq ?_
              obtain ⟨y201, hy201, h⟩ := bd h
              refine rg (cp (oMv tm) (s1 rfl) <| cp (oMv tm) (s1 rfl) <| cp (oBuild (fs := f_show_piece) (u := ⟨y199.1, y199.2.1, 0⟩) rfl ze86 pl86 po86 (.op (zc := [(.string ⟨⟨[]⟩⟩)]) tm rfl (.op (zc := [(.int .i64 0)]) tm rfl (.op (zc := [(.int .i64 0)]) (cI (by decide)) rfl .nil)))) (s2 rfl rfl) <| cm (oCallS (rest := []) (R' := [.row 390120 86 (kR f_show_piece) y201.l_, .box 4 81 [.v 390120]]) (out' := .d (tup [])) [(70000, 4), (70001, 5200)] [(70001, 390120)] [1, 0] [] [1, 0] rfl (show_pile_show_piece_put.ok hy201) b60 (oE1 tm (oE1 tm oE0)) rfl rfl rfl rfl rfl rfl rfl rfl) (s2 rfl rfl) <| .nil) (by kernel_rfl) ?_
              refine pSeq ?_
              refine wExit ?_
              refine pThenX ?_
              refine pBlkX ?_
              refine pSub (Γ' := [(4, .p 4 0), (23, .d ((kL (kI .i64)).sig a0)), (24, .d ((kI .i64).sig (a0.length : Int))), (25, .d ((kI .i64).sig v158))]) ⟨rfl, rfl, rfl, rfl, trivial⟩ ?_
              refine pRen 390120 5200 rfl ?_
              exact pJ1 _ (so h) ⟨rfl, rfl, rfl, rfl, trivial⟩ rfl
            · refine wBF hp200 tm (s1 rfl) ?_
              refine wSkip ?_
              refine pSeq ?_
              refine wSeq ?_
              obtain ⟨y202, hy202, h⟩ := bd h
              obtain ⟨y203, hy203, h⟩ := bd h
              refine rg (cm (oCallS (rest := []) (R' := [.row 400000 86 (kR f_show_piece) y202.1.l_, .box 4 81 [.v 400000]]) (out' := .d ((kR f_show_piece).sig y202.2)) [(70000, 4), (70001, 5200)] [(70001, 400000)] [1, 0] [] [1, 0] rfl (show_pile_show_piece_take.ok hy202) b61 (oE1 tm oE0) rfl rfl rfl rfl rfl rfl rfl rfl) (s1 rfl) <| cm (oCallS (rest := []) (R' := [.row 400040 86 (kR f_show_piece) y203.1.l_, .box 4 81 [.v 400040]]) (out' := .d ((kR f_show_piece).sig y203.2)) [(70000, 4), (70001, 400000)] [(70001, 400040)] [1, 0] [] [1, 0] rfl (show_pile_show_piece_take.ok hy203) b61 (oE1 tm oE0) rfl rfl rfl rfl rfl rfl rfl rfl) (s1 rfl) <| cw (oAlloc (id := 10) (ls := [.d kS [], .d (kI .i64) 0, .d (kI .i64) 0]) ze86 (fun g => ⟨[(.string ⟨⟨[]⟩⟩)], _, rfl, zS g.H, ⟨[(.int .i64 0)], _, rfl, zI_i64 g.H, ⟨[(.int .i64 0)], _, rfl, zI_i64 g.H, rfl⟩⟩⟩)) trivial <| cw (oAlloc (id := 11) (ls := [.d kS [], .d (kI .i64) 0, .d (kI .i64) 0]) ze86 (fun g => ⟨[(.string ⟨⟨[]⟩⟩)], _, rfl, zS g.H, ⟨[(.int .i64 0)], _, rfl, zI_i64 g.H, ⟨[(.int .i64 0)], _, rfl, zI_i64 g.H, rfl⟩⟩⟩)) trivial <| cwn (oStA (n := 1) (fs := f_show_piece) rfl rfl z86 tm tm) (s2 rfl rfl) <| cwn (oStA (n := 0) (fs := f_show_piece) rfl rfl z86 tm tm) (s2 rfl rfl) <| .nil) (by kernel_rfl) ?_
              refine pSeq ?_
              refine wSeq ?_
              refine rg (cp (oAs (cS (by decide))) trivial <| cp (oAs (cS (by decide))) trivial <| .nil) (by kernel_rfl) ?_
              refine pSeq ?_
              refine wSeq ?_
              refine wWeak (Γ' := [(4, .p 4 0), (6, .d ((kI .i64).sig y198)), (7, .d (kS.sig y199.1)), (8, .d ((kI .i64).sig y199.2.1)), (10, .p 10 0), (11, .p 11 0), (12, .d (kS.sig ([40] : Str))), (13, .d (kS.sig ([41] : Str))), (23, .d ((kL (kI .i64)).sig a0)), (24, .d ((kI .i64).sig (a0.length : Int))), (25, .d ((kI .i64).sig v158))]) ⟨rfl, rfl, rfl, rfl, rfl, rfl, rfl, rfl, rfl, rfl, rfl, trivial⟩ ?_
              refine wRen 400040 5200 rfl ?_
              obtain ⟨o3, h, hk3⟩ := bd h
              refine wJ1 (fun x205 => x205 = o3) (fun x205 => [(4, .p 4 0), (6, .d ((kI .i64).sig y198)), (7, .d (kS.sig y199.1)), (8, .d ((kI .i64).sig y199.2.1)), (10, .p 10 0), (11, .p 11 0), (12, .d (kS.sig ([40] : Str))), (13, .d (kS.sig ([41] : Str))), (23, .d ((kL (kI .i64)).sig a0)), (24, .d ((kI .i64).sig (a0.length : Int))), (25, .d ((kI .i64).sig v158)), (48, .d (kB.sig x205))]) (fun x205 => [.box 11 86 [.d kS y203.2.text_, .d (kI .i64) y203.2.binds_, .d (kI .i64) y203.2.deep_], .box 10 86 [.d kS y202.2.text_, .d (kI .i64) y202.2.binds_, .d (kI .i64) y202.2.deep_], .row 5200 86 (kR f_show_piece) y203.1.l_, .box 4 81 [.v 5200]]) ?_ ?_
              · rcases ic h with ⟨hp206, h⟩ | ⟨hp206, h⟩
                · refine rg (cp (oMv tm) (s1 rfl) <| cp (oEq rfl tm (cI (by decide))) (s1 rfl) <| cp (oMv tm) (s1 rfl) <| csB (decide_eq_true hp206) rfl rfl <| csB (decide_eq_true hp206) rfl rfl <| cp (oPkT (decide_eq_true hp206) tm cB) (s1 rfl) <| .nil) (by kernel_rfl) ?_
                  exact pJ1 _ (so h) ⟨rfl, rfl, rfl, rfl, rfl, rfl, rfl, rfl, rfl, rfl, rfl, rfl, trivial⟩ rfl
                · refine rg (cp (oMv tm) (s1 rfl) <| cp (oEq rfl tm (cI (by decide))) (s1 rfl) <| cp (oMv tm) (s1 rfl) <| cgB (decide_eq_false hp206) rfl rfl (oMv tm) (s1 rfl) <| cgB (decide_eq_false hp206) rfl rfl (oEq rfl tm (cI (by decide))) (s1 rfl) <| cp (oPkF (decide_eq_false hp206) tm tm) (s2 rfl rfl) <| .nil) (by kernel_rfl) ?_
                  exact pJ1 _ (so h) ⟨rfl, rfl, rfl, rfl, rfl, rfl, rfl, rfl, rfl, rfl, rfl, rfl, trivial⟩ rfl
              · rintro x205 rfl
                replace h := hk3
                rcases ic h with ⟨hp207, h⟩ | ⟨hp207, h⟩
                · refine wBT hp207 tm (s1 rfl) ?_
                  refine rg (cp (oAs (cS (by decide))) trivial <| cp (oAs (cS (by decide))) trivial <| .nil) (by kernel_rfl) ?_
                  refine pSeq ?_
                  refine wSeq ?_
                  refine wSeq ?_
                  refine rg (cp (oMv tm) (s1 rfl) <| cp (oNe rfl tm (cI (by decide))) (s1 rfl) <| .nil) (by kernel_rfl) ?_
                  refine pSeq ?_
                  rcases ic h with ⟨hp208, h⟩ | ⟨hp208, h⟩
                  · refine wNT hp208 tm (s1 rfl) ?_
                    refine wSkip ?_
                    refine pSeq ?_
                    obtain ⟨hc209, h⟩ := ib h
                    obtain ⟨hc210, h⟩ := ib h
                    obtain ⟨hc211, h⟩ := ib h
                    obtain ⟨hc212, h⟩ := ib h
                    obtain ⟨y213, hy213, h⟩ := bd h
                    refine rg (cp (oFldP o86_0 tm) (s1 rfl) <| cr (oLdB (n := 0) (k := 0) rfl rfl rfl t9 tm) (s1 rfl) <| cp (oSAdd hc209 tm (cS (by decide))) (s1 rfl) <| cp (oMv tm) (s1 rfl) <| cp (oSAdd hc210 tm tm) (s2 rfl rfl) <| cp (oSAdd hc211 tm (cS (by decide))) (s1 rfl) <| cp (oFldP o86_0 tm) (s1 rfl) <| cr (oLdB (n := 1) (k := 0) rfl rfl rfl t9 tm) (s1 rfl) <| cp (oSAdd hc212 tm tm) (s2 rfl rfl) <| cp (oMv tm) (s1 rfl) <| cp (oFldP o86_2 tm) (s1 rfl) <| cr (oLdB (n := 0) (k := 2) rfl rfl rfl t3 tm) (s1 rfl) <| cp (oFldP o86_2 tm) (s1 rfl) <| cr (oLdB (n := 1) (k := 2) rfl rfl rfl t3 tm) (s1 rfl) <| cp (oMax tm tm) (s2 rfl rfl) <| cp (oBuild (fs := f_show_piece) (u := ⟨(((y203.2.text_ ++ ([32] : Str)) ++ y199.1) ++ ([32] : Str)) ++ y202.2.text_, y199.2.1, (if y203.2.deep_ < y202.2.deep_ then y202.2.deep_ else y203.2.deep_)⟩) rfl ze86 pl86 po86 (.op (zc := [(.string ⟨⟨[]⟩⟩)]) tm rfl (.op (zc := [(.int .i64 0)]) tm rfl (.op (zc := [(.int .i64 0)]) tm rfl .nil)))) (s3 rfl rfl rfl) <| cm (oCallS (rest := [.box 11 86 [.d kS y203.2.text_, .d (kI .i64) y203.2.binds_, .d (kI .i64) y203.2.deep_], .box 10 86 [.d kS y202.2.text_, .d (kI .i64) y202.2.binds_, .d (kI .i64) y202.2.deep_]]) (R' := [.box 11 86 [.d kS y203.2.text_, .d (kI .i64) y203.2.binds_, .d (kI .i64) y203.2.deep_], .box 10 86 [.d kS y202.2.text_, .d (kI .i64) y202.2.binds_, .d (kI .i64) y202.2.deep_], .row 460640 86 (kR f_show_piece) y213.l_, .box 4 81 [.v 460640]]) (out' := .d (tup [])) [(70000, 4), (70001, 5200)] [(70001, 460640)] [3, 2] [0, 1] [2, 3, 1, 0] rfl (show_pile_show_piece_put.ok hy213) b60 (oE1 tm (oE1 tm oE0)) rfl rfl rfl rfl rfl rfl rfl rfl) (s2 rfl rfl) <| .nil) (by kernel_rfl) ?_
                    refine pBlkN ?_
                    refine pDrop (.cons _ (.cons _ (.cons_cons _ (.cons_cons _ .slnil)))) ?_
                    refine pSub (Γ' := [(4, .p 4 0), (23, .d ((kL (kI .i64)).sig a0)), (24, .d ((kI .i64).sig (a0.length : Int))), (25, .d ((kI .i64).sig v158))]) ⟨rfl, rfl, rfl, rfl, trivial⟩ ?_
                    refine pRen 460640 5200 rfl ?_
                    exact pJ1 _ (so h) ⟨rfl, rfl, rfl, rfl, trivial⟩ rfl
                  · refine wNF hp208 tm (s1 rfl) ?_
                    obtain ⟨y214, hy214, h⟩ := bd h
                    obtain ⟨y215, hy215, h⟩ := bd h
                    refine rgD hm (cr (oLdA (n := 0) (fs := f_show_piece) (u := ⟨y203.2.text_, y203.2.binds_, y203.2.deep_⟩) rfl ⟨rfl, rfl, rfl, trivial⟩ t86 tm) (s1 rfl) <| cp (oMv tm) (s1 rfl) <| cp (oMv tm) (s1 rfl) <| cp (oMv tm) (s1 rfl) <| cp (oCall rfl (show_within.ok hy214) b62 (opds_cons tm (opds_cons tm (opds_cons tm (opds_cons tm opds_nil))))) ⟨rfl, rfl, rfl, rfl, trivial⟩ <| cr (oLdA (n := 1) (fs := f_show_piece) (u := ⟨y202.2.text_, y202.2.binds_, y202.2.deep_⟩) rfl ⟨rfl, rfl, rfl, trivial⟩ t86 tm) (s1 rfl) <| cp (oMv tm) (s1 rfl) <| cp (oAdd tm (cI (by decide))) (s1 rfl) <| cp (oMv tm) (s1 rfl) <| cp (oMv tm) (s1 rfl) <| cp (oCall rfl (show_within.ok hy215) b62 (opds_cons tm (opds_cons tm (opds_cons tm (opds_cons tm opds_nil))))) ⟨rfl, rfl, rfl, rfl, trivial⟩ <| cwn (oStA (n := 0) (fs := f_show_piece) rfl rfl z86 tm tm) (s2 rfl rfl) <| cwn (oStA (n := 1) (fs := f_show_piece) rfl rfl z86 tm tm) (s2 rfl rfl) <| .nil) (by kernel_rfl) (by kernel_rfl) ?_
                    refine pSeq ?_
                    obtain ⟨hc216, h⟩ := ib h
                    obtain ⟨hc217, h⟩ := ib h
                    obtain ⟨hc218, h⟩ := ib h
                    obtain ⟨hc219, h⟩ := ib h
                    obtain ⟨y220, hy220, h⟩ := bd h
                    refine rg (cp (oFldP o86_0 tm) (s1 rfl) <| cr (oLdB (n := 0) (k := 0) rfl rfl rfl t9 tm) (s1 rfl) <| cp (oSAdd hc216 tm (cS (by decide))) (s1 rfl) <| cp (oMv tm) (s1 rfl) <| cp (oSAdd hc217 tm tm) (s2 rfl rfl) <| cp (oSAdd hc218 tm (cS (by decide))) (s1 rfl) <| cp (oFldP o86_0 tm) (s1 rfl) <| cr (oLdB (n := 1) (k := 0) rfl rfl rfl t9 tm) (s1 rfl) <| cp (oSAdd hc219 tm tm) (s2 rfl rfl) <| cp (oMv tm) (s1 rfl) <| cp (oFldP o86_2 tm) (s1 rfl) <| cr (oLdB (n := 0) (k := 2) rfl rfl rfl t3 tm) (s1 rfl) <| cp (oFldP o86_2 tm) (s1 rfl) <| cr (oLdB (n := 1) (k := 2) rfl rfl rfl t3 tm) (s1 rfl) <| cp (oMax tm tm) (s2 rfl rfl) <| cp (oBuild (fs := f_show_piece) (u := ⟨(((y214.text_ ++ ([32] : Str)) ++ y199.1) ++ ([32] : Str)) ++ y215.text_, y199.2.1, (if y214.deep_ < y215.deep_ then y215.deep_ else y214.deep_)⟩) rfl ze86 pl86 po86 (.op (zc := [(.string ⟨⟨[]⟩⟩)]) tm rfl (.op (zc := [(.int .i64 0)]) tm rfl (.op (zc := [(.int .i64 0)]) tm rfl .nil)))) (s3 rfl rfl rfl) <| cm (oCallS (rest := [.box 11 86 [.d kS y214.text_, .d (kI .i64) y214.binds_, .d (kI .i64) y214.deep_], .box 10 86 [.d kS y215.text_, .d (kI .i64) y215.binds_, .d (kI .i64) y215.deep_]]) (R' := [.box 11 86 [.d kS y214.text_, .d (kI .i64) y214.binds_, .d (kI .i64) y214.deep_], .box 10 86 [.d kS y215.text_, .d (kI .i64) y215.binds_, .d (kI .i64) y215.deep_], .row 460640 86 (kR f_show_piece) y220.l_, .box 4 81 [.v 460640]]) (out' := .d (tup [])) [(70000, 4), (70001, 5200)] [(70001, 460640)] [3, 2] [0, 1] [2, 3, 1, 0] rfl (show_pile_show_piece_put.ok hy220) b60 (oE1 tm (oE1 tm oE0)) rfl rfl rfl rfl rfl rfl rfl rfl) (s2 rfl rfl) <| .nil) (by kernel_rfl) ?_
                    refine pBlkN ?_
                    refine pDrop (.cons _ (.cons _ (.cons_cons _ (.cons_cons _ .slnil)))) ?_
                    refine pSub (Γ' := [(4, .p 4 0), (23, .d ((kL (kI .i64)).sig a0)), (24, .d ((kI .i64).sig (a0.length : Int))), (25, .d ((kI .i64).sig v158))]) ⟨rfl, rfl, rfl, rfl, trivial⟩ ?_
                    refine pRen 460640 5200 rfl ?_
                    exact pJ1 _ (so h) ⟨rfl, rfl, rfl, rfl, trivial⟩ rfl
                · refine wBF hp207 tm (s1 rfl) ?_
                  refine wSkip ?_
                  refine pSeq ?_
                  refine wSeq ?_
                  refine wSeq ?_
                  refine rg (cp (oMv tm) (s1 rfl) <| cp (oNe rfl tm (cI (by decide))) (s1 rfl) <| .nil) (by kernel_rfl) ?_
                  refine pSeq ?_
                  rcases ic h with ⟨hp221, h⟩ | ⟨hp221, h⟩
                  · refine wNT hp221 tm (s1 rfl) ?_
                    refine wSkip ?_
                    refine pSeq ?_
                    obtain ⟨hc222, h⟩ := ib h
                    obtain ⟨hc223, h⟩ := ib h
                    obtain ⟨hc224, h⟩ := ib h
                    obtain ⟨hc225, h⟩ := ib h
                    obtain ⟨y226, hy226, h⟩ := bd h
                    refine rg (cp (oFldP o86_0 tm) (s1 rfl) <| cr (oLdB (n := 0) (k := 0) rfl rfl rfl t9 tm) (s1 rfl) <| cp (oSAdd hc222 tm (cS (by decide))) (s1 rfl) <| cp (oMv tm) (s1 rfl) <| cp (oSAdd hc223 tm tm) (s2 rfl rfl) <| cp (oSAdd hc224 tm (cS (by decide))) (s1 rfl) <| cp (oFldP o86_0 tm) (s1 rfl) <| cr (oLdB (n := 1) (k := 0) rfl rfl rfl t9 tm) (s1 rfl) <| cp (oSAdd hc225 tm tm) (s2 rfl rfl) <| cp (oMv tm) (s1 rfl) <| cp (oFldP o86_2 tm) (s1 rfl) <| cr (oLdB (n := 0) (k := 2) rfl rfl rfl t3 tm) (s1 rfl) <| cp (oFldP o86_2 tm) (s1 rfl) <| cr (oLdB (n := 1) (k := 2) rfl rfl rfl t3 tm) (s1 rfl) <| cp (oMax tm tm) (s2 rfl rfl) <| cp (oBuild (fs := f_show_piece) (u := ⟨(((y203.2.text_ ++ ([32] : Str)) ++ y199.1) ++ ([32] : Str)) ++ y202.2.text_, y199.2.1, (if y203.2.deep_ < y202.2.deep_ then y202.2.deep_ else y203.2.deep_)⟩) rfl ze86 pl86 po86 (.op (zc := [(.string ⟨⟨[]⟩⟩)]) tm rfl (.op (zc := [(.int .i64 0)]) tm rfl (.op (zc := [(.int .i64 0)]) tm rfl .nil)))) (s3 rfl rfl rfl) <| cm (oCallS (rest := [.box 11 86 [.d kS y203.2.text_, .d (kI .i64) y203.2.binds_, .d (kI .i64) y203.2.deep_], .box 10 86 [.d kS y202.2.text_, .d (kI .i64) y202.2.binds_, .d (kI .i64) y202.2.deep_]]) (R' := [.box 11 86 [.d kS y203.2.text_, .d (kI .i64) y203.2.binds_, .d (kI .i64) y203.2.deep_], .box 10 86 [.d kS y202.2.text_, .d (kI .i64) y202.2.binds_, .d (kI .i64) y202.2.deep_], .row 460640 86 (kR f_show_piece) y226.l_, .box 4 81 [.v 460640]]) (out' := .d (tup [])) [(70000, 4), (70001, 5200)] [(70001, 460640)] [3, 2] [0, 1] [2, 3, 1, 0] rfl (show_pile_show_piece_put.ok hy226) b60 (oE1 tm (oE1 tm oE0)) rfl rfl rfl rfl rfl rfl rfl rfl) (s2 rfl rfl) <| .nil) (by kernel_rfl) ?_
                    refine pBlkN ?_
                    refine pDrop (.cons _ (.cons _ (.cons_cons _ (.cons_cons _ .slnil)))) ?_
                    refine pSub (Γ' := [(4, .p 4 0), (23, .d ((kL (kI .i64)).sig a0)), (24, .d ((kI .i64).sig (a0.length : Int))), (25, .d ((kI .i64).sig v158))]) ⟨rfl, rfl, rfl, rfl, trivial⟩ ?_
                    refine pRen 460640 5200 rfl ?_
                    exact pJ1 _ (so h) ⟨rfl, rfl, rfl, rfl, trivial⟩ rfl
                  · refine wNF hp221 tm (s1 rfl) ?_
                    obtain ⟨y227, hy227, h⟩ := bd h
                    obtain ⟨y228, hy228, h⟩ := bd h
                    refine rgD hm (cr (oLdA (n := 0) (fs := f_show_piece) (u := ⟨y203.2.text_, y203.2.binds_, y203.2.deep_⟩) rfl ⟨rfl, rfl, rfl, trivial⟩ t86 tm) (s1 rfl) <| cp (oMv tm) (s1 rfl) <| cp (oMv tm) (s1 rfl) <| cp (oMv tm) (s1 rfl) <| cp (oCall rfl (show_within.ok hy227) b62 (opds_cons tm (opds_cons tm (opds_cons tm (opds_cons tm opds_nil))))) ⟨rfl, rfl, rfl, rfl, trivial⟩ <| cr (oLdA (n := 1) (fs := f_show_piece) (u := ⟨y202.2.text_, y202.2.binds_, y202.2.deep_⟩) rfl ⟨rfl, rfl, rfl, trivial⟩ t86 tm) (s1 rfl) <| cp (oMv tm) (s1 rfl) <| cp (oAdd tm (cI (by decide))) (s1 rfl) <| cp (oMv tm) (s1 rfl) <| cp (oMv tm) (s1 rfl) <| cp (oCall rfl (show_within.ok hy228) b62 (opds_cons tm (opds_cons tm (opds_cons tm (opds_cons tm opds_nil))))) ⟨rfl, rfl, rfl, rfl, trivial⟩ <| cwn (oStA (n := 0) (fs := f_show_piece) rfl rfl z86 tm tm) (s2 rfl rfl) <| cwn (oStA (n := 1) (fs := f_show_piece) rfl rfl z86 tm tm) (s2 rfl rfl) <| .nil) (by kernel_rfl) (by kernel_rfl) ?_
                    refine pSeq ?_
                    obtain ⟨hc229, h⟩ := ib h
                    obtain ⟨hc230, h⟩ := ib h
                    obtain ⟨hc231, h⟩ := ib h
                    obtain ⟨hc232, h⟩ := ib h
                    obtain ⟨y233, hy233, h⟩ := bd h
                    refine rg (cp (oFldP o86_0 tm) (s1 rfl) <| cr (oLdB (n := 0) (k := 0) rfl rfl rfl t9 tm) (s1 rfl) <| cp (oSAdd hc229 tm (cS (by decide))) (s1 rfl) <| cp (oMv tm) (s1 rfl) <| cp (oSAdd hc230 tm tm) (s2 rfl rfl) <| cp (oSAdd hc231 tm (cS (by decide))) (s1 rfl) <| cp (oFldP o86_0 tm) (s1 rfl) <| cr (oLdB (n := 1) (k := 0) rfl rfl rfl t9 tm) (s1 rfl) <| cp (oSAdd hc232 tm tm) (s2 rfl rfl) <| cp (oMv tm) (s1 rfl) <| cp (oFldP o86_2 tm) (s1 rfl) <| cr (oLdB (n := 0) (k := 2) rfl rfl rfl t3 tm) (s1 rfl) <| cp (oFldP o86_2 tm) (s1 rfl) <| cr (oLdB (n := 1) (k := 2) rfl rfl rfl t3 tm) (s1 rfl) <| cp (oMax tm tm) (s2 rfl rfl) <| cp (oBuild (fs := f_show_piece) (u := ⟨(((y227.text_ ++ ([32] : Str)) ++ y199.1) ++ ([32] : Str)) ++ y228.text_, y199.2.1, (if y227.deep_ < y228.deep_ then y228.deep_ else y227.deep_)⟩) rfl ze86 pl86 po86 (.op (zc := [(.string ⟨⟨[]⟩⟩)]) tm rfl (.op (zc := [(.int .i64 0)]) tm rfl (.op (zc := [(.int .i64 0)]) tm rfl .nil)))) (s3 rfl rfl rfl) <| cm (oCallS (rest := [.box 11 86 [.d kS y227.text_, .d (kI .i64) y227.binds_, .d (kI .i64) y227.deep_], .box 10 86 [.d kS y228.text_, .d (kI .i64) y228.binds_, .d (kI .i64) y228.deep_]]) (R' := [.box 11 86 [.d kS y227.text_, .d (kI .i64) y227.binds_, .d (kI .i64) y227.deep_], .box 10 86 [.d kS y228.text_, .d (kI .i64) y228.binds_, .d (kI .i64) y228.deep_], .row 460640 86 (kR f_show_piece) y233.l_, .box 4 81 [.v 460640]]) (out' := .d (tup [])) [(70000, 4), (70001, 5200)] [(70001, 460640)] [3, 2] [0, 1] [2, 3, 1, 0] rfl (show_pile_show_piece_put.ok hy233) b60 (oE1 tm (oE1 tm oE0)) rfl rfl rfl rfl rfl rfl rfl rfl) (s2 rfl rfl) <| .nil) (by kernel_rfl) ?_
                    refine pBlkN ?_
                    refine pDrop (.cons _ (.cons _ (.cons_cons _ (.cons_cons _ .slnil)))) ?_
                    refine pSub (Γ' := [(4, .p 4 0), (23, .d ((kL (kI .i64)).sig a0)), (24, .d ((kI .i64).sig (a0.length : Int))), (25, .d ((kI .i64).sig v158))]) ⟨rfl, rfl, rfl, rfl, trivial⟩ ?_
                    refine pRen 460640 5200 rfl ?_
                    exact pJ1 _ (so h) ⟨rfl, rfl, rfl, rfl, trivial⟩ rfl
          · rintro x197 rfl
            replace h := hk2
            refine rg (cp (oAdd tm (cI (by decide))) (s1 rfl) <| cp (oMv tm) (s1 rfl) <| .nil) (by kernel_rfl) ?_
            exact pLoop (lW (ih _ _ h) ⟨rfl, rfl, rfl, rfl, trivial⟩ rfl)
        · refine wCF hp160 tm (s1 rfl) ?_
          refine wExit ?_
          refine pThenX ?_
          refine pThenX ?_
          refine pBlkX ?_
          exact pJ1 _ (so h) ⟨rfl, trivial⟩ rfl
      · rintro x159 rfl
        replace h := hk1
        refine pSeq ?_
        refine wSeq ?_
        obtain ⟨y234, hy234, h⟩ := bd h
        refine rg (cm (oCallS (rest := []) (R' := [.row 480000 86 (kR f_show_piece) y234.1.l_, .box 4 81 [.v 480000]]) (out' := .d ((kR f_show_piece).sig y234.2)) [(70000, 4), (70001, 5200)] [(70001, 480000)] [1, 0] [] [1, 0] rfl (show_pile_show_piece_take.ok hy234) b61 (oE1 tm oE0) rfl rfl rfl rfl rfl rfl rfl rfl) (s1 rfl) <| cw (oAlloc (id := 14) (ls := [.d kS [], .d (kI .i64) 0, .d (kI .i64) 0]) ze86 (fun g => ⟨[(.string ⟨⟨[]⟩⟩)], _, rfl, zS g.H, ⟨[(.int .i64 0)], _, rfl, zI_i64 g.H, ⟨[(.int .i64 0)], _, rfl, zI_i64 g.H, rfl⟩⟩⟩)) trivial <| cwn (oStA (n := 0) (fs := f_show_piece) rfl rfl z86 tm tm) (s2 rfl rfl) <| .nil) (by kernel_rfl) ?_
        refine pSeq ?_
        refine wSeq ?_
        refine wSeq ?_
        refine rg (cp (oFldP o86_2 tm) (s1 rfl) <| cr (oLdB (n := 0) (k := 2) rfl rfl rfl t3 tm) (s1 rfl) <| cp (oGt rfl tm (cI (by decide))) (s1 rfl) <| .nil) (by kernel_rfl) ?_
        refine pSeq ?_
        rcases ic h with ⟨hp235, h⟩ | ⟨hp235, h⟩
        · refine wCT hp235 tm (s1 rfl) ?_
          refine wSeq ?_
          refine rg (cp (oAs (cS (by decide))) trivial <| cp (oAs (cI (by decide))) trivial <| .nil) (by kernel_rfl) ?_
          refine pSeq ?_
          refine wRet ?_
          refine pThenR ?_
          obtain rfl := so h
          exact pRn (.inl rfl) rfl rfl (.tmp rfl <| .tmp rfl <| .nil)
        · refine wCF hp235 tm (s1 rfl) ?_
          refine wSkip ?_
          refine pSeq ?_
          refine wSeq ?_
          refine rg (cp (oFldP o86_0 tm) (s1 rfl) <| cr (oLdB (n := 0) (k := 0) rfl rfl rfl t9 tm) (s1 rfl) <| cp (oAs tm) (s1 rfl) <| cp (oAs (cI (by decide))) trivial <| .nil) (by kernel_rfl) ?_
          refine pSeq ?_
          refine wRet ?_
          obtain rfl := so h
          exact pRn (.inl rfl) rfl rfl (.tmp rfl <| .tmp rfl <| .nil)

theorem reticentlaw05_alive.ok {r : Bool} (h : reticentlaw05_alive.f = some r) : FnA Try.prog 16 [] (kB.sig r) := by
  refine fnIntro Try.func16 rfl (by kernel_rfl) fun H0 w0 => ?_
  unfold reticentlaw05_alive.f at h
  refine wSeq ?_
  refine rg (cp (oAs cB) trivial <| .nil) (by kernel_rfl) ?_
  refine pSeq ?_
  refine wSeq ?_
  obtain ⟨y1, hy1, h⟩ := bd h
  refine rg (cp (oLit (d := (kI .i64)) el22 (by decide) rfl rfl rfl (e1 (cI (by decide)) (e1 (cI (by decide)) (e1 (cI (by decide)) (e1 (cI (by decide)) (e1 (cI (by decide)) (e1 (cI (by decide)) (e1 (cI (by decide)) e0)))))))) trivial <| cp (oCall rfl (show_Text.ok hy1) b14 (opds_cons tm opds_nil)) (s1 rfl) <| cp (oMv tm) (s1 rfl) <| cp (oExt (k := 0) rfl tm) (s1 rfl) <| cp (oExt (k := 1) rfl tm) (s1 rfl) <| cp (oAs tm) (s1 rfl) <| cp (oAs tm) (s1 rfl) <| .nil) (by kernel_rfl) ?_
  refine pSeq ?_
  obtain ⟨o1, h, hk1⟩ := bd h
  refine wJ1 (fun x3 => x3 = o1) (fun x3 => [(0, .d (kB.sig x3))]) (fun x3 => []) ?_ ?_
  · rcases ic h with ⟨hp4, h⟩ | ⟨hp4, h⟩
    · refine rg (cp (oMv tm) (s1 rfl) <| cp (oEq rfl tm (cI (by decide))) (s1 rfl) <| cp (oMv tm) (s1 rfl) <| cgB (decide_eq_true hp4) rfl rfl (oMv tm) (s1 rfl) <| cgB (decide_eq_true hp4) rfl rfl (oSEq rfl tm (cS (by decide))) (s1 rfl) <| cp (oPkT (decide_eq_true hp4) tm tm) (s2 rfl rfl) <| cp (oAs tm) (s1 rfl) <| .nil) (by kernel_rfl) ?_
      exact pJ1 _ (so h) ⟨rfl, trivial⟩ rfl
    · refine rg (cp (oMv tm) (s1 rfl) <| cp (oEq rfl tm (cI (by decide))) (s1 rfl) <| cp (oMv tm) (s1 rfl) <| csB (decide_eq_false hp4) rfl rfl <| csB (decide_eq_false hp4) rfl rfl <| cp (oPkF (decide_eq_false hp4) tm cB) (s1 rfl) <| cp (oAs tm) (s1 rfl) <| .nil) (by kernel_rfl) ?_
      exact pJ1 _ (so h) ⟨rfl, trivial⟩ rfl
  · rintro x3 rfl
    replace h := hk1
    refine wRet ?_
    obtain rfl := so h
    exact pR1 (.inl rfl) rfl (.tmp rfl <| .nil)

theorem reticentlaw05_ShowBack.ok {a0 : List Int} {r : Bool} (h : reticentlaw05_ShowBack.f a0 = some r) : FnA Try.prog 12 [(kL (kI .i64)).sig a0] (kB.sig r) := by
  refine fnIntro Try.func12 rfl (by kernel_rfl) fun H0 w0 => ?_
  unfold reticentlaw05_ShowBack.f at h
  refine wSeq ?_
  refine rg (cp (oAs cB) trivial <| .nil) (by kernel_rfl) ?_
  refine pSeq ?_
  refine wSeq ?_
  obtain ⟨hc1, h⟩ := ib h
  refine rg (cp (oMv tm) (s1 rfl) <| cp (oMv tm) (s1 rfl) <| cp (oLenL u22 tm) (s1 rfl) <| cp (oMin tm (cI (by decide))) (s1 rfl) <| cp (oCutHi u22 z3 hc1.1 hc1.2 tm tm) (s2 rfl rfl) <| cp (oAs tm) (s1 rfl) <| .nil) (by kernel_rfl) ?_
  refine pSeq ?_
  refine wSeq ?_
  obtain ⟨y2, hy2, h⟩ := bd h
  refine rg (cp (oMv tm) (s1 rfl) <| cp (oCall rfl (show_Text.ok hy2) b14 (opds_cons tm opds_nil)) (s1 rfl) <| cp (oMv tm) (s1 rfl) <| cp (oExt (k := 0) rfl tm) (s1 rfl) <| cp (oExt (k := 1) rfl tm) (s1 rfl) <| cp (oAs tm) (s1 rfl) <| cp (oAs tm) (s1 rfl) <| .nil) (by kernel_rfl) ?_
  refine pSeq ?_
  refine wSeq ?_
  refine wSeq ?_
  refine rg (cp (oMv tm) (s1 rfl) <| cp (oNe rfl tm (cI (by decide))) (s1 rfl) <| .nil) (by kernel_rfl) ?_
  refine pSeq ?_
  rcases ic h with ⟨hp3, h⟩ | ⟨hp3, h⟩
  · refine wNT hp3 tm (s1 rfl) ?_
    refine wSkip ?_
    refine pSeq ?_
    refine wSeq ?_
    obtain ⟨y4, hy4, h⟩ := bd h
    refine rg (cp (oMv tm) (s1 rfl) <| cp (oCall rfl (lex_Lex.ok hy4) b57 (opds_cons tm opds_nil)) (s1 rfl) <| cp (oMv tm) (s1 rfl) <| cp (oExt (k := 0) rfl tm) (s1 rfl) <| cp (oExt (k := 1) rfl tm) (s1 rfl) <| cp (oExt (k := 2) rfl tm) (s1 rfl) <| cp (oAs tm) (s1 rfl) <| cp (oAs tm) (s1 rfl) <| cp (oAs tm) (s1 rfl) <| .nil) (by kernel_rfl) ?_
    refine pSeq ?_
    refine wSeq ?_
    obtain ⟨y5, hy5, h⟩ := bd h
    obtain ⟨y6, hy6, h⟩ := bd h
    refine rg (cp (oMv tm) (s1 rfl) <| cp (oMv tm) (s1 rfl) <| cp (oCall rfl (rule_Right.ok hy5) b47 (opds_cons tm (opds_cons cB opds_nil))) (s1 rfl) <| cp (oCall rfl (rule_From.ok hy6) b45 (opds_cons tm (opds_cons (cI (by decide)) (opds_cons tm opds_nil)))) (s2 rfl rfl) <| cp (oMv tm) (s1 rfl) <| cp (oExt (k := 0) rfl tm) (s1 rfl) <| cp (oExt (k := 1) rfl tm) (s1 rfl) <| cp (oExt (k := 2) rfl tm) (s1 rfl) <| cp (oAs tm) (s1 rfl) <| cp (oAs tm) (s1 rfl) <| cp (oAs tm) (s1 rfl) <| .nil) (by kernel_rfl) ?_
    refine pSeq ?_
    obtain ⟨o1, h, hk1⟩ := bd h
    refine wJ1 (fun x13 => x13 = o1) (fun x13 => [(2, .d (kB.sig x13))]) (fun x13 => []) ?_ ?_
    · obtain ⟨y14, hy14, h⟩ := bd h
      rcases ic h with ⟨hp15, h⟩ | ⟨hp15, h⟩
      · rcases ic h with ⟨hp16, h⟩ | ⟨hp16, h⟩
        · rcases ic h with ⟨hp17, h⟩ | ⟨hp17, h⟩
          · rcases ic h with ⟨hp18, h⟩ | ⟨hp18, h⟩
            · obtain ⟨y19, hy19, h⟩ := bd h
              refine rg (cp (oCall rfl (reticentlaw05_alive.ok hy14) b16 opds_nil) trivial <| cp (oMv tm) (s1 rfl) <| cgB hp15 rfl rfl (oMv tm) (s1 rfl) <| cgB hp15 rfl rfl (oEq rfl tm (cI (by decide))) (s1 rfl) <| cp (oPkT hp15 tm tm) (s2 rfl rfl) <| cp (oMv tm) (s1 rfl) <| cgB (decide_eq_true hp16) rfl rfl (oMv tm) (s1 rfl) <| cgB (decide_eq_true hp16) rfl rfl (oEq rfl tm (cI (by decide))) (s1 rfl) <| cp (oPkT (decide_eq_true hp16) tm tm) (s2 rfl rfl) <| cp (oMv tm) (s1 rfl) <| cgB (decide_eq_true hp17) rfl rfl (oMv tm) (s1 rfl) <| cgB (decide_eq_true hp17) rfl rfl (oMv tm) (s1 rfl) <| cgB (decide_eq_true hp17) rfl rfl (oLenL u34 tm) (s1 rfl) <| cgB (decide_eq_true hp17) rfl rfl (oSub tm (cI (by decide))) (s1 rfl) <| cgB (decide_eq_true hp17) rfl rfl (oEq rfl tm tm) (s2 rfl rfl) <| cp (oPkT (decide_eq_true hp17) tm tm) (s2 rfl rfl) <| cp (oMv tm) (s1 rfl) <| cgB (decide_eq_true hp18) rfl rfl (oMv tm) (s1 rfl) <| cgB (decide_eq_true hp18) rfl rfl (oMv tm) (s1 rfl) <| cgB (decide_eq_true hp18) rfl rfl (oCall rfl (reticentref04_Same.ok hy19) b21 (opds_cons tm (opds_cons tm opds_nil))) (s2 rfl rfl) <| cp (oPkT (decide_eq_true hp18) tm tm) (s2 rfl rfl) <| cp (oAs tm) (s1 rfl) <| .nil) (by kernel_rfl) ?_
              exact pJ1 _ (so h) ⟨rfl, trivial⟩ rfl
            · refine rg (cp (oCall rfl (reticentlaw05_alive.ok hy14) b16 opds_nil) trivial <| cp (oMv tm) (s1 rfl) <| cgB hp15 rfl rfl (oMv tm) (s1 rfl) <| cgB hp15 rfl rfl (oEq rfl tm (cI (by decide))) (s1 rfl) <| cp (oPkT hp15 tm tm) (s2 rfl rfl) <| cp (oMv tm) (s1 rfl) <| cgB (decide_eq_true hp16) rfl rfl (oMv tm) (s1 rfl) <| cgB (decide_eq_true hp16) rfl rfl (oEq rfl tm (cI (by decide))) (s1 rfl) <| cp (oPkT (decide_eq_true hp16) tm tm) (s2 rfl rfl) <| cp (oMv tm) (s1 rfl) <| cgB (decide_eq_true hp17) rfl rfl (oMv tm) (s1 rfl) <| cgB (decide_eq_true hp17) rfl rfl (oMv tm) (s1 rfl) <| cgB (decide_eq_true hp17) rfl rfl (oLenL u34 tm) (s1 rfl) <| cgB (decide_eq_true hp17) rfl rfl (oSub tm (cI (by decide))) (s1 rfl) <| cgB (decide_eq_true hp17) rfl rfl (oEq rfl tm tm) (s2 rfl rfl) <| cp (oPkT (decide_eq_true hp17) tm tm) (s2 rfl rfl) <| cp (oMv tm) (s1 rfl) <| csB (decide_eq_false hp18) rfl rfl <| csB (decide_eq_false hp18) rfl rfl <| csB (decide_eq_false hp18) rfl rfl <| cp (oPkF (decide_eq_false hp18) tm cB) (s1 rfl) <| cp (oAs tm) (s1 rfl) <| .nil) (by kernel_rfl) ?_
              exact pJ1 _ (so h) ⟨rfl, trivial⟩ rfl
          · refine rg (cp (oCall rfl (reticentlaw05_alive.ok hy14) b16 opds_nil) trivial <| cp (oMv tm) (s1 rfl) <| cgB hp15 rfl rfl (oMv tm) (s1 rfl) <| cgB hp15 rfl rfl (oEq rfl tm (cI (by decide))) (s1 rfl) <| cp (oPkT hp15 tm tm) (s2 rfl rfl) <| cp (oMv tm) (s1 rfl) <| cgB (decide_eq_true hp16) rfl rfl (oMv tm) (s1 rfl) <| cgB (decide_eq_true hp16) rfl rfl (oEq rfl tm (cI (by decide))) (s1 rfl) <| cp (oPkT (decide_eq_true hp16) tm tm) (s2 rfl rfl) <| cp (oMv tm) (s1 rfl) <| csB (decide_eq_false hp17) rfl rfl <| csB (decide_eq_false hp17) rfl rfl <| csB (decide_eq_false hp17) rfl rfl <| csB (decide_eq_false hp17) rfl rfl <| csB (decide_eq_false hp17) rfl rfl <| cp (oPkF (decide_eq_false hp17) tm cB) (s1 rfl) <| cp (oMv tm) (s1 rfl) <| csB rfl rfl rfl <| csB rfl rfl rfl <| csB rfl rfl rfl <| cp (oPkF rfl tm cB) (s1 rfl) <| cp (oAs tm) (s1 rfl) <| .nil) (by kernel_rfl) ?_
            exact pJ1 _ (so h) ⟨rfl, trivial⟩ rfl
        · refine rg (cp (oCall rfl (reticentlaw05_alive.ok hy14) b16 opds_nil) trivial <| cp (oMv tm) (s1 rfl) <| cgB hp15 rfl rfl (oMv tm) (s1 rfl) <| cgB hp15 rfl rfl (oEq rfl tm (cI (by decide))) (s1 rfl) <| cp (oPkT hp15 tm tm) (s2 rfl rfl) <| cp (oMv tm) (s1 rfl) <| csB (decide_eq_false hp16) rfl rfl <| csB (decide_eq_false hp16) rfl rfl <| cp (oPkF (decide_eq_false hp16) tm cB) (s1 rfl) <| cp (oMv tm) (s1 rfl) <| csB rfl rfl rfl <| csB rfl rfl rfl <| csB rfl rfl rfl <| csB rfl rfl rfl <| csB rfl rfl rfl <| cp (oPkF rfl tm cB) (s1 rfl) <| cp (oMv tm) (s1 rfl) <| csB rfl rfl rfl <| csB rfl rfl rfl <| csB rfl rfl rfl <| cp (oPkF rfl tm cB) (s1 rfl) <| cp (oAs tm) (s1 rfl) <| .nil) (by kernel_rfl) ?_
          exact pJ1 _ (so h) ⟨rfl, trivial⟩ rfl
      · refine rg (cp (oCall rfl (reticentlaw05_alive.ok hy14) b16 opds_nil) trivial <| cp (oMv tm) (s1 rfl) <| csB (nb hp15) rfl rfl <| csB (nb hp15) rfl rfl <| cp (oPkF (nb hp15) tm cB) (s1 rfl) <| cp (oMv tm) (s1 rfl) <| csB rfl rfl rfl <| csB rfl rfl rfl <| cp (oPkF rfl tm cB) (s1 rfl) <| cp (oMv tm) (s1 rfl) <| csB rfl rfl rfl <| csB rfl rfl rfl <| csB rfl rfl rfl <| csB rfl rfl rfl <| csB rfl rfl rfl <| cp (oPkF rfl tm cB) (s1 rfl) <| cp (oMv tm) (s1 rfl) <| csB rfl rfl rfl <| csB rfl rfl rfl <| csB rfl rfl rfl <| cp (oPkF rfl tm cB) (s1 rfl) <| cp (oAs tm) (s1 rfl) <| .nil) (by kernel_rfl) ?_
        exact pJ1 _ (so h) ⟨rfl, trivial⟩ rfl
    · rintro x13 rfl
      replace h := hk1
      refine wRet ?_
      obtain rfl := so h
      exact pR1 (.inl rfl) rfl (.tmp rfl <| .nil)
  · refine wNF hp3 tm (s1 rfl) ?_
    obtain ⟨o1, h, hk1⟩ := bd h
    refine wJ1 (fun x22 => x22 = o1) (fun x22 => [(2, .d (kB.sig x22))]) (fun x22 => []) ?_ ?_
    · obtain ⟨y23, hy23, h⟩ := bd h
      rcases ic h with ⟨hp24, h⟩ | ⟨hp24, h⟩
      · refine rg (cp (oCall rfl (reticentlaw05_alive.ok hy23) b16 opds_nil) trivial <| cp (oMv tm) (s1 rfl) <| cgB hp24 rfl rfl (oMv tm) (s1 rfl) <| cgB hp24 rfl rfl (oSEq rfl tm (cS (by decide))) (s1 rfl) <| cp (oPkT hp24 tm tm) (s2 rfl rfl) <| cp (oAs tm) (s1 rfl) <| .nil) (by kernel_rfl) ?_
        exact pJ1 _ (so h) ⟨rfl, trivial⟩ rfl
      · refine rg (cp (oCall rfl (reticentlaw05_alive.ok hy23) b16 opds_nil) trivial <| cp (oMv tm) (s1 rfl) <| csB (nb hp24) rfl rfl <| csB (nb hp24) rfl rfl <| cp (oPkF (nb hp24) tm cB) (s1 rfl) <| cp (oAs tm) (s1 rfl) <| .nil) (by kernel_rfl) ?_
        exact pJ1 _ (so h) ⟨rfl, trivial⟩ rfl
    · rintro x22 rfl
      replace h := hk1
      refine wRet ?_
      refine pThenR ?_
      obtain rfl := so h
      exact pR1 (.inl rfl) rfl (.tmp rfl <| .nil)

end Go.Proofs.Ythpmbokenhpakaa.LF
