import Derived.Test.YtkmobcaobmchpaaDoorShelf
import Derived.Test.YtkmobcaobmchpaaDoorWCGp1
import Derived.Test.YtkmobcaobmchpaaDoorProg
set_option linter.unusedVariables false
set_option maxRecDepth 10000
set_option maxHeartbeats 2000000
namespace Go.Proofs.YtkmobcaobmchpaaDoor.CG
open Go Go.Proofs.YtkmobcaobmchpaaDoor.Ab

theorem reticentref08_Right.ok {a0 : api_Lattice} {a1 : List api_Instr} {r : Bool} (h : reticentref08_Right.f a0 a1 = some r) : FnA Tryd.prog 15 [(kR f_api_Lattice).sig a0, (kL (kR f_api_Instr)).sig a1] (kB.sig r) := by
  refine fnIntro Tryd.func15 rfl (by kernel_rfl) fun H0 w0 => ?_
  unfold reticentref08_Right.f at h
  refine wSeq ?_
  refine rg (cp (oBox tm) (s1 rfl) <| cp (oAs cB) trivial <| .nil) (by kernel_rfl) ?_
  refine pSeq ?_
  refine wSeq ?_
  refine wSeq ?_
  refine rg (cp (oMv tm) (s1 rfl) <| cp (oLenL u39 tm) (s1 rfl) <| cp (oMv (cI (by decide))) trivial <| .nil) (by kernel_rfl) ?_
  refine pSeq ?_
  obtain ⟨o1, h, hk1⟩ := bd h
  refine wK0 (.inr () = o1) ([(1, .d ((kL (kR f_api_Instr)).sig a1))]) ([]) ?_ ?_
  · refine wBlock (wLoop ?_)
    refine lW (pc1 o1 (fun v9 => [(1, .d ((kL (kR f_api_Instr)).sig a1)), (2, .d (sP (kR f_api_Lattice) a0)), (7, .d ((kL (kR f_api_Instr)).sig a1)), (8, .d ((kI .i64).sig (a1.length : Int))), (9, .d ((kI .i64).sig v9))]) (fun v9 => []) (reticentref08_Right.l0.partial_correctness a0 a1) ?_ _ h) ⟨rfl, rfl, rfl, rfl, rfl, trivial⟩ rfl
    clear h
    intro f' ih v9 h
    refine wSeq ?_
    refine rg (cp (oLt rfl tm tm) (s2 rfl rfl) <| .nil) (by kernel_rfl) ?_
    refine pSeq ?_
    refine wSeq ?_
    rcases ic h with ⟨hp10, h⟩ | ⟨hp10, h⟩
    · refine wCT hp10 tm (s1 rfl) ?_
      refine wSkip ?_
      refine pSeq ?_
      refine wSeq ?_
      refine wBlock ?_
      refine wSeq ?_
      obtain ⟨y11, hy11, h⟩ := bd h
      refine rg (cp (oIdx u39 z78 hy11 tm tm) (s2 rfl rfl) <| cp (oLd t78 tm) (s1 rfl) <| cw (oAlloc (id := 6) (ls := [.d (kI .i64) 0, .d (kI .i64) 0, .d (kI .i64) 0]) ze78 (fun g => ⟨[(.int .i64 0)], _, rfl, zI_i64 g.H, ⟨[(.int .i64 0)], _, rfl, zI_i64 g.H, ⟨[(.int .i64 0)], _, rfl, zI_i64 g.H, rfl⟩⟩⟩)) trivial <| cwn (oStA (n := 0) (fs := f_api_Instr) rfl rfl z78 tm tm) (s2 rfl rfl) <| .nil) (by kernel_rfl) ?_
      refine pSeq ?_
      refine wSeq ?_
      obtain ⟨y12, hy12, h⟩ := bd h
      refine rg (cp (oFld (fs := f_api_Lattice) (k := 1) rfl o38_1 tm) (s1 rfl) <| cp (oLd t36 tm) (s1 rfl) <| cp (oLenL u36 tm) (s1 rfl) <| cr (oLdA (n := 0) (fs := f_api_Instr) (u := ⟨y11.Op, y11.N, y11.L⟩) rfl ⟨rfl, rfl, rfl, trivial⟩ t78 tm) (s1 rfl) <| cp (oCall rfl (reticentref08_Instr.ok hy12) b47 (opds_cons tm (opds_cons tm opds_nil))) (s2 rfl rfl) <| cp (oNot tm) (s1 rfl) <| .nil) (by kernel_rfl) ?_
      refine pSeq ?_
      rcases ic h with ⟨hp13, h⟩ | ⟨hp13, h⟩
      · refine wBT hp13 tm (s1 rfl) ?_
        refine wSeq ?_
        refine rg (cp (oAs cB) trivial <| .nil) (by kernel_rfl) ?_
        refine pSeq ?_
        refine wRet ?_
        refine pBlkR ?_
        refine pThenR ?_
        refine pThenR ?_
        refine pBlkR ?_
        refine pThenR ?_
        obtain rfl := so h
        replace h := hk1
        refine pThenR ?_
        obtain rfl := so h
        exact pR1 (.inl rfl) rfl (.tmp rfl <| .nil)
      · refine wBF hp13 tm (s1 rfl) ?_
        refine wSkip ?_
        refine pBlkN ?_
        refine pSeq ?_
        refine rg (cp (oAdd tm (cI (by decide))) (s1 rfl) <| cp (oMv tm) (s1 rfl) <| .nil) (by kernel_rfl) ?_
        refine pDrop (.cons _ .slnil) ?_
        exact pLoop (lW (ih _ h) ⟨rfl, rfl, rfl, rfl, rfl, trivial⟩ rfl)
    · refine wCF hp10 tm (s1 rfl) ?_
      refine wExit ?_
      refine pThenX ?_
      refine pThenX ?_
      refine pBlkX ?_
      exact pJ0 (so h) ⟨rfl, trivial⟩ rfl
  · rintro rfl
    replace h := hk1
    refine pSeq ?_
    refine wSeq ?_
    refine rg (cp (oMv tm) (s1 rfl) <| cp (oLenL u39 tm) (s1 rfl) <| cp (oLe rfl tm (cI (by decide))) (s1 rfl) <| cp (oAs tm) (s1 rfl) <| .nil) (by kernel_rfl) ?_
    refine pSeq ?_
    refine wRet ?_
    obtain rfl := so h
    exact pR1 (.inl rfl) rfl (.tmp rfl <| .nil)

theorem slices_Equal_api_Instr_api_Instr.ok {a0 : List api_Instr} {a1 : List api_Instr} {r : Bool} (h : slices_Equal_api_Instr_api_Instr.f a0 a1 = some r) : FnA Tryd.prog 51 [(kL (kR f_api_Instr)).sig a0, (kL (kR f_api_Instr)).sig a1] (kB.sig r) := by
  refine fnIntro Tryd.func51 rfl (by kernel_rfl) fun H0 w0 => ?_
  unfold slices_Equal_api_Instr_api_Instr.f at h
  refine wSeq ?_
  refine rg (cp (oAs cB) trivial <| .nil) (by kernel_rfl) ?_
  refine pSeq ?_
  refine wSeq ?_
  refine wSeq ?_
  refine rg (cp (oMv tm) (s1 rfl) <| cp (oLenL u39 tm) (s1 rfl) <| cp (oMv tm) (s1 rfl) <| cp (oLenL u39 tm) (s1 rfl) <| cp (oNe rfl tm tm) (s2 rfl rfl) <| .nil) (by kernel_rfl) ?_
  refine pSeq ?_
  rcases ic h with ⟨hp1, h⟩ | ⟨hp1, h⟩
  · refine wNT hp1 tm (s1 rfl) ?_
    refine wSkip ?_
    refine pSeq ?_
    refine wSeq ?_
    refine wSeq ?_
    refine rg (cp (oMv tm) (s1 rfl) <| cp (oLenL u39 tm) (s1 rfl) <| cp (oMv (cI (by decide))) trivial <| .nil) (by kernel_rfl) ?_
    refine pSeq ?_
    obtain ⟨o1, h, hk1⟩ := bd h
    refine wK0 (.inr () = o1) ([]) ([]) ?_ ?_
    · refine wBlock (wLoop ?_)
      refine lW (pc1 o1 (fun v10 => [(0, .d ((kL (kR f_api_Instr)).sig a0)), (1, .d ((kL (kR f_api_Instr)).sig a1)), (12, .d ((kI .i64).sig (a0.length : Int))), (13, .d ((kI .i64).sig v10))]) (fun v10 => []) (slices_Equal_api_Instr_api_Instr.l0.partial_correctness a0 a1) ?_ _ h) ⟨rfl, rfl, rfl, rfl, trivial⟩ rfl
      clear h
      intro f' ih v10 h
      refine wSeq ?_
      refine rg (cp (oLt rfl tm tm) (s2 rfl rfl) <| .nil) (by kernel_rfl) ?_
      refine pSeq ?_
      refine wSeq ?_
      rcases ic h with ⟨hp11, h⟩ | ⟨hp11, h⟩
      · refine wCT hp11 tm (s1 rfl) ?_
        refine wSkip ?_
        refine pSeq ?_
        refine wSeq ?_
        refine wBlock ?_
        refine wSeq ?_
        refine rg (cp (oMv tm) (s1 rfl) <| cp (oAs tm) (s1 rfl) <| .nil) (by kernel_rfl) ?_
        refine pSeq ?_
        refine wSeq ?_
        obtain ⟨y12, hy12, h⟩ := bd h
        obtain ⟨y13, hy13, h⟩ := bd h
        refine rgD hm (cp (oMv tm) (s1 rfl) <| cp (oMv tm) (s1 rfl) <| cp (oIdx u39 z78 hy12 tm tm) (s2 rfl rfl) <| cp (oLd t78 tm) (s1 rfl) <| cp (oMv tm) (s1 rfl) <| cp (oMv tm) (s1 rfl) <| cp (oIdx u39 z78 hy13 tm tm) (s2 rfl rfl) <| cp (oLd t78 tm) (s1 rfl) <| cp (oRNe eqk78 rfl eg78 rfl tm tm) (s2 rfl rfl) <| .nil) (by kernel_rfl) (by kernel_rfl) ?_
        refine pSeq ?_
        rcases ic h with ⟨hp14, h⟩ | ⟨hp14, h⟩
        · refine wNT hp14 tm (s1 rfl) ?_
          refine wSkip ?_
          refine pBlkN ?_
          refine pSeq ?_
          refine rg (cp (oAdd tm (cI (by decide))) (s1 rfl) <| cp (oMv tm) (s1 rfl) <| .nil) (by kernel_rfl) ?_
          exact pLoop (lW (ih _ h) ⟨rfl, rfl, rfl, rfl, trivial⟩ rfl)
        · refine wNF hp14 tm (s1 rfl) ?_
          refine wSeq ?_
          refine rg (cp (oAs cB) trivial <| .nil) (by kernel_rfl) ?_
          refine pSeq ?_
          refine wRet ?_
          refine pBlkR ?_
          refine pThenR ?_
          refine pThenR ?_
          refine pBlkR ?_
          refine pThenR ?_
          obtain rfl := so h
          replace h := hk1
          refine pThenR ?_
          obtain rfl := so h
          exact pR1 (.inl rfl) rfl (.tmp rfl <| .nil)
      · refine wCF hp11 tm (s1 rfl) ?_
        refine wExit ?_
        refine pThenX ?_
        refine pThenX ?_
        refine pBlkX ?_
        exact pJ0 (so h) trivial rfl
    · rintro rfl
      replace h := hk1
      refine pSeq ?_
      refine wSeq ?_
      refine rg (cp (oAs cB) trivial <| .nil) (by kernel_rfl) ?_
      refine pSeq ?_
      refine wRet ?_
      obtain rfl := so h
      exact pR1 (.inl rfl) rfl (.tmp rfl <| .nil)
  · refine wNF hp1 tm (s1 rfl) ?_
    refine wSeq ?_
    refine rg (cp (oAs cB) trivial <| .nil) (by kernel_rfl) ?_
    refine pSeq ?_
    refine wRet ?_
    refine pThenR ?_
    obtain rfl := so h
    exact pR1 (.inl rfl) rfl (.tmp rfl <| .nil)

theorem code_Like.ok {a0 : List api_Instr} {a1 : List api_Instr} {r : Bool} (h : code_Like.f a0 a1 = some r) : FnA Tryd.prog 17 [(kL (kR f_api_Instr)).sig a0, (kL (kR f_api_Instr)).sig a1] (kB.sig r) := by
  refine fnIntro Tryd.func17 rfl (by kernel_rfl) fun H0 w0 => ?_
  unfold code_Like.f at h
  refine wSeq ?_
  refine rg (cp (oAs cB) trivial <| .nil) (by kernel_rfl) ?_
  refine pSeq ?_
  refine wSeq ?_
  obtain ⟨y1, hy1, h⟩ := bd h
  refine rg (cp (oMv tm) (s1 rfl) <| cp (oMv tm) (s1 rfl) <| cp (oCall rfl (slices_Equal_api_Instr_api_Instr.ok hy1) b51 (opds_cons tm (opds_cons tm opds_nil))) (s2 rfl rfl) <| cp (oAs tm) (s1 rfl) <| .nil) (by kernel_rfl) ?_
  refine pSeq ?_
  refine wRet ?_
  obtain rfl := so h
  exact pR1 (.inl rfl) rfl (.tmp rfl <| .nil)

theorem reticentref08_Same.ok {a0 : List api_Instr} {a1 : List api_Instr} {r : Bool} (h : reticentref08_Same.f a0 a1 = some r) : FnA Tryd.prog 18 [(kL (kR f_api_Instr)).sig a0, (kL (kR f_api_Instr)).sig a1] (kB.sig r) := by
  refine fnIntro Tryd.func18 rfl (by kernel_rfl) fun H0 w0 => ?_
  unfold reticentref08_Same.f at h
  refine wSeq ?_
  refine rg (cp (oAs cB) trivial <| .nil) (by kernel_rfl) ?_
  refine pSeq ?_
  refine wSeq ?_
  refine wSeq ?_
  refine rg (cp (oMv tm) (s1 rfl) <| cp (oLenL u39 tm) (s1 rfl) <| cp (oMv tm) (s1 rfl) <| cp (oLenL u39 tm) (s1 rfl) <| cp (oNe rfl tm tm) (s2 rfl rfl) <| .nil) (by kernel_rfl) ?_
  refine pSeq ?_
  rcases ic h with ⟨hp1, h⟩ | ⟨hp1, h⟩
  · refine wNT hp1 tm (s1 rfl) ?_
    refine wSkip ?_
    refine pSeq ?_
    refine wSeq ?_
    refine wSeq ?_
    refine rg (cp (oMv tm) (s1 rfl) <| cp (oLenL u39 tm) (s1 rfl) <| cp (oMv (cI (by decide))) trivial <| .nil) (by kernel_rfl) ?_
    refine pSeq ?_
    obtain ⟨o1, h, hk1⟩ := bd h
    refine wK0 (.inr () = o1) ([]) ([]) ?_ ?_
    · refine wBlock (wLoop ?_)
      refine lW (pc1 o1 (fun v10 => [(0, .d ((kL (kR f_api_Instr)).sig a0)), (1, .d ((kL (kR f_api_Instr)).sig a1)), (12, .d ((kI .i64).sig (a0.length : Int))), (13, .d ((kI .i64).sig v10))]) (fun v10 => []) (reticentref08_Same.l0.partial_correctness a0 a1) ?_ _ h) ⟨rfl, rfl, rfl, rfl, trivial⟩ rfl
      clear h
      intro f' ih v10 h
      refine wSeq ?_
      refine rg (cp (oLt rfl tm tm) (s2 rfl rfl) <| .nil) (by kernel_rfl) ?_
      refine pSeq ?_
      refine wSeq ?_
      rcases ic h with ⟨hp11, h⟩ | ⟨hp11, h⟩
      · refine wCT hp11 tm (s1 rfl) ?_
        refine wSkip ?_
        refine pSeq ?_
        refine wSeq ?_
        refine wBlock ?_
        refine wSeq ?_
        refine rg (cp (oMv tm) (s1 rfl) <| cp (oAs tm) (s1 rfl) <| .nil) (by kernel_rfl) ?_
        refine pSeq ?_
        refine wSeq ?_
        obtain ⟨y12, hy12, h⟩ := bd h
        obtain ⟨y13, hy13, h⟩ := bd h
        refine rgD hm (cp (oMv tm) (s1 rfl) <| cp (oMv tm) (s1 rfl) <| cp (oIdx u39 z78 hy12 tm tm) (s2 rfl rfl) <| cp (oLd t78 tm) (s1 rfl) <| cp (oMv tm) (s1 rfl) <| cp (oMv tm) (s1 rfl) <| cp (oIdx u39 z78 hy13 tm tm) (s2 rfl rfl) <| cp (oLd t78 tm) (s1 rfl) <| cp (oRNe eqk78 rfl eg78 rfl tm tm) (s2 rfl rfl) <| .nil) (by kernel_rfl) (by kernel_rfl) ?_
        refine pSeq ?_
        rcases ic h with ⟨hp14, h⟩ | ⟨hp14, h⟩
        · refine wNT hp14 tm (s1 rfl) ?_
          refine wSkip ?_
          refine pBlkN ?_
          refine pSeq ?_
          refine rg (cp (oAdd tm (cI (by decide))) (s1 rfl) <| cp (oMv tm) (s1 rfl) <| .nil) (by kernel_rfl) ?_
          exact pLoop (lW (ih _ h) ⟨rfl, rfl, rfl, rfl, trivial⟩ rfl)
        · refine wNF hp14 tm (s1 rfl) ?_
          refine wSeq ?_
          refine rg (cp (oAs cB) trivial <| .nil) (by kernel_rfl) ?_
          refine pSeq ?_
          refine wRet ?_
          refine pBlkR ?_
          refine pThenR ?_
          refine pThenR ?_
          refine pBlkR ?_
          refine pThenR ?_
          obtain rfl := so h
          replace h := hk1
          refine pThenR ?_
          obtain rfl := so h
          exact pR1 (.inl rfl) rfl (.tmp rfl <| .nil)
      · refine wCF hp11 tm (s1 rfl) ?_
        refine wExit ?_
        refine pThenX ?_
        refine pThenX ?_
        refine pBlkX ?_
        exact pJ0 (so h) trivial rfl
    · rintro rfl
      replace h := hk1
      refine pSeq ?_
      refine wSeq ?_
      refine rg (cp (oAs cB) trivial <| .nil) (by kernel_rfl) ?_
      refine pSeq ?_
      refine wRet ?_
      obtain rfl := so h
      exact pR1 (.inl rfl) rfl (.tmp rfl <| .nil)
  · refine wNF hp1 tm (s1 rfl) ?_
    refine wSeq ?_
    refine rg (cp (oAs cB) trivial <| .nil) (by kernel_rfl) ?_
    refine pSeq ?_
    refine wRet ?_
    refine pThenR ?_
    obtain rfl := so h
    exact pR1 (.inl rfl) rfl (.tmp rfl <| .nil)

theorem lex_while.ok {a0 : Str} {a1 : Int → Option Bool} {r : Int} (h : lex_while.f a0 a1 = some r) : FnA Tryd.prog 119 [kS.sig a0, (sFun Tryd.prog (rl1 (kI .u8) kB a1))] ((kI .i64).sig r) := by
  refine fnIntro Tryd.func119 rfl (by kernel_rfl) fun H0 w0 => ?_
  unfold lex_while.f at h
  refine wSeq ?_
  refine rg (cp (oAs (cI (by decide))) trivial <| .nil) (by kernel_rfl) ?_
  refine pSeq ?_
  refine wSeq ?_
  refine rg (cp (oAs (cI (by decide))) trivial <| .nil) (by kernel_rfl) ?_
  refine pSeq ?_
  obtain ⟨o1, h, hk1⟩ := bd h
  refine wJ1 (fun x18 => x18 = o1) (fun x18 => [(5, .d ((kI .i64).sig x18))]) (fun x18 => []) ?_ ?_
  · refine wBlock (wLoop ?_)
    refine lW (pc1 o1 (fun v17 => [(0, .d (kS.sig a0)), (1, .d ((sFun Tryd.prog (rl1 (kI .u8) kB a1)))), (5, .d ((kI .i64).sig v17))]) (fun v17 => []) (lex_while.l0.partial_correctness a0 a1) ?_ _ h) ⟨rfl, rfl, rfl, trivial⟩ rfl
    clear h
    intro f' ih v17 h
    refine wSeq ?_
    obtain ⟨o2, h, hk2⟩ := bd h
    refine wJ1 (fun x22 => x22 = o2) (fun x22 => [(0, .d (kS.sig a0)), (1, .d ((sFun Tryd.prog (rl1 (kI .u8) kB a1)))), (5, .d ((kI .i64).sig v17)), (16, .d (kB.sig x22))]) (fun x22 => []) ?_ ?_
    · rcases ic h with ⟨hp23, h⟩ | ⟨hp23, h⟩
      · obtain ⟨hc24, h⟩ := ib h
        obtain ⟨y25, hy25, h⟩ := bd h
        refine rg (cp (oMv tm) (s1 rfl) <| cp (oMv tm) (s1 rfl) <| cp (oLenS u9 tm) (s1 rfl) <| cp (oLt rfl tm tm) (s2 rfl rfl) <| cp (oMv tm) (s1 rfl) <| cgB (decide_eq_true hp23) rfl rfl (oMv tm) (s1 rfl) <| cgB (decide_eq_true hp23) rfl rfl (oMv tm) (s1 rfl) <| cgB (decide_eq_true hp23) rfl rfl (oMv tm) (s1 rfl) <| cgB (decide_eq_true hp23) rfl rfl (oIdxS u9 hc24.1 hc24.2 tm tm) (s2 rfl rfl) <| cgB (decide_eq_true hp23) rfl rfl (oCallV rfl (rl1i hy25) tm (opds_cons tm opds_nil)) (s2 rfl rfl) <| cp (oPkT (decide_eq_true hp23) tm tm) (s2 rfl rfl) <| .nil) (by kernel_rfl) ?_
        exact pJ1 _ (so h) ⟨rfl, rfl, rfl, rfl, trivial⟩ rfl
      · refine rg (cp (oMv tm) (s1 rfl) <| cp (oMv tm) (s1 rfl) <| cp (oLenS u9 tm) (s1 rfl) <| cp (oLt rfl tm tm) (s2 rfl rfl) <| cp (oMv tm) (s1 rfl) <| csB (decide_eq_false hp23) rfl rfl <| csB (decide_eq_false hp23) rfl rfl <| csB (decide_eq_false hp23) rfl rfl <| csB (decide_eq_false hp23) rfl rfl <| csB (decide_eq_false hp23) rfl rfl <| cp (oPkF (decide_eq_false hp23) tm cB) (s1 rfl) <| .nil) (by kernel_rfl) ?_
        exact pJ1 _ (so h) ⟨rfl, rfl, rfl, rfl, trivial⟩ rfl
    · rintro x22 rfl
      replace h := hk2
      rcases ic h with ⟨hp26, h⟩ | ⟨hp26, h⟩
      · refine wBT hp26 tm (s1 rfl) ?_
        refine wSkip ?_
        refine pSeq ?_
        refine wBlock ?_
        refine rg (cp (oMv tm) (s1 rfl) <| cp (oAdd tm (cI (by decide))) (s1 rfl) <| cp (oAs tm) (s1 rfl) <| .nil) (by kernel_rfl) ?_
        refine pBlkN ?_
        exact pLoop (lW (ih _ h) ⟨rfl, rfl, rfl, trivial⟩ rfl)
      · refine wBF hp26 tm (s1 rfl) ?_
        refine wExit ?_
        refine pThenX ?_
        refine pThenX ?_
        refine pBlkX ?_
        exact pJ1 _ (so h) ⟨rfl, trivial⟩ rfl
  · rintro x18 rfl
    replace h := hk1
    refine wSeq ?_
    refine rg (cp (oMv tm) (s1 rfl) <| cp (oAs tm) (s1 rfl) <| .nil) (by kernel_rfl) ?_
    refine pSeq ?_
    refine wRet ?_
    obtain rfl := so h
    exact pR1 (.inl rfl) rfl (.tmp rfl <| .nil)

theorem lex_token_1.ok {a0 : Int} {r : Bool} (h : lex_token_1.f a0 = some r) : FnA Tryd.prog 120 [(kI .u8).sig a0] (kB.sig r) := by
  refine fnIntro Tryd.func120 rfl (by kernel_rfl) fun H0 w0 => ?_
  unfold lex_token_1.f at h
  refine wSeq ?_
  refine rg (cp (oAs cB) trivial <| .nil) (by kernel_rfl) ?_
  refine pSeq ?_
  refine wSeq ?_
  refine rg (cp (oMv tm) (s1 rfl) <| cp (oNe rfl tm (cI (by decide))) (s1 rfl) <| cp (oAs tm) (s1 rfl) <| .nil) (by kernel_rfl) ?_
  refine pSeq ?_
  refine wRet ?_
  obtain rfl := so h
  exact pR1 (.inl rfl) rfl (.tmp rfl <| .nil)

theorem lex_letter.ok {a0 : Int} {r : Bool} (h : lex_letter.f a0 = some r) : FnA Tryd.prog 121 [(kI .u8).sig a0] (kB.sig r) := by
  refine fnIntro Tryd.func121 rfl (by kernel_rfl) fun H0 w0 => ?_
  unfold lex_letter.f at h
  refine wSeq ?_
  refine rg (cp (oAs cB) trivial <| .nil) (by kernel_rfl) ?_
  refine pSeq ?_
  obtain ⟨o1, h, hk1⟩ := bd h
  refine wJ1 (fun x2 => x2 = o1) (fun x2 => [(2, .d (kB.sig x2))]) (fun x2 => []) ?_ ?_
  · rcases ic h with ⟨hp3, h⟩ | ⟨hp3, h⟩
    · refine rg (cp (oMv tm) (s1 rfl) <| cp (oGe rfl tm (cI (by decide))) (s1 rfl) <| cp (oMv tm) (s1 rfl) <| cgB (decide_eq_true hp3) rfl rfl (oMv tm) (s1 rfl) <| cgB (decide_eq_true hp3) rfl rfl (oLe rfl tm (cI (by decide))) (s1 rfl) <| cp (oPkT (decide_eq_true hp3) tm tm) (s2 rfl rfl) <| cp (oAs tm) (s1 rfl) <| .nil) (by kernel_rfl) ?_
      exact pJ1 _ (so h) ⟨rfl, trivial⟩ rfl
    · refine rg (cp (oMv tm) (s1 rfl) <| cp (oGe rfl tm (cI (by decide))) (s1 rfl) <| cp (oMv tm) (s1 rfl) <| csB (decide_eq_false hp3) rfl rfl <| csB (decide_eq_false hp3) rfl rfl <| cp (oPkF (decide_eq_false hp3) tm cB) (s1 rfl) <| cp (oAs tm) (s1 rfl) <| .nil) (by kernel_rfl) ?_
      exact pJ1 _ (so h) ⟨rfl, trivial⟩ rfl
  · rintro x2 rfl
    replace h := hk1
    refine wRet ?_
    obtain rfl := so h
    exact pR1 (.inl rfl) rfl (.tmp rfl <| .nil)

theorem lex_digit.ok {a0 : Int} {r : Bool} (h : lex_digit.f a0 = some r) : FnA Tryd.prog 122 [(kI .u8).sig a0] (kB.sig r) := by
  refine fnIntro Tryd.func122 rfl (by kernel_rfl) fun H0 w0 => ?_
  unfold lex_digit.f at h
  refine wSeq ?_
  refine rg (cp (oAs cB) trivial <| .nil) (by kernel_rfl) ?_
  refine pSeq ?_
  obtain ⟨o1, h, hk1⟩ := bd h
  refine wJ1 (fun x2 => x2 = o1) (fun x2 => [(2, .d (kB.sig x2))]) (fun x2 => []) ?_ ?_
  · rcases ic h with ⟨hp3, h⟩ | ⟨hp3, h⟩
    · refine rg (cp (oMv tm) (s1 rfl) <| cp (oGe rfl tm (cI (by decide))) (s1 rfl) <| cp (oMv tm) (s1 rfl) <| cgB (decide_eq_true hp3) rfl rfl (oMv tm) (s1 rfl) <| cgB (decide_eq_true hp3) rfl rfl (oLe rfl tm (cI (by decide))) (s1 rfl) <| cp (oPkT (decide_eq_true hp3) tm tm) (s2 rfl rfl) <| cp (oAs tm) (s1 rfl) <| .nil) (by kernel_rfl) ?_
      exact pJ1 _ (so h) ⟨rfl, trivial⟩ rfl
    · refine rg (cp (oMv tm) (s1 rfl) <| cp (oGe rfl tm (cI (by decide))) (s1 rfl) <| cp (oMv tm) (s1 rfl) <| csB (decide_eq_false hp3) rfl rfl <| csB (decide_eq_false hp3) rfl rfl <| cp (oPkF (decide_eq_false hp3) tm cB) (s1 rfl) <| cp (oAs tm) (s1 rfl) <| .nil) (by kernel_rfl) ?_
      exact pJ1 _ (so h) ⟨rfl, trivial⟩ rfl
  · rintro x2 rfl
    replace h := hk1
    refine wRet ?_
    obtain rfl := so h
    exact pR1 (.inl rfl) rfl (.tmp rfl <| .nil)

theorem stringslite_HasPrefix.ok {a0 : Str} {a1 : Str} {r : Bool} (h : stringslite_HasPrefix.f a0 a1 = some r) : FnA Tryd.prog 143 [kS.sig a0, kS.sig a1] (kB.sig r) := by
  refine fnIntro Tryd.func143 rfl (by kernel_rfl) fun H0 w0 => ?_
  unfold stringslite_HasPrefix.f at h
  refine wSeq ?_
  refine rg (cp (oAs cB) trivial <| .nil) (by kernel_rfl) ?_
  refine pSeq ?_
  obtain ⟨o1, h, hk1⟩ := bd h
  refine wJ1 (fun x3 => x3 = o1) (fun x3 => [(4, .d (kB.sig x3))]) (fun x3 => []) ?_ ?_
  · rcases ic h with ⟨hp4, h⟩ | ⟨hp4, h⟩
    · obtain ⟨hc5, h⟩ := ib h
      refine rg (cp (oMv tm) (s1 rfl) <| cp (oLenS u9 tm) (s1 rfl) <| cp (oMv tm) (s1 rfl) <| cp (oLenS u9 tm) (s1 rfl) <| cp (oGe rfl tm tm) (s2 rfl rfl) <| cp (oMv tm) (s1 rfl) <| cgB (decide_eq_true hp4) rfl rfl (oMv tm) (s1 rfl) <| cgB (decide_eq_true hp4) rfl rfl (oMv tm) (s1 rfl) <| cgB (decide_eq_true hp4) rfl rfl (oLenS u9 tm) (s1 rfl) <| cgB (decide_eq_true hp4) rfl rfl (oCutSH u9 hc5.1 hc5.2 tm tm) (s2 rfl rfl) <| cgB (decide_eq_true hp4) rfl rfl (oMv tm) (s1 rfl) <| cgB (decide_eq_true hp4) rfl rfl (oSEq rfl tm tm) (s2 rfl rfl) <| cp (oPkT (decide_eq_true hp4) tm tm) (s2 rfl rfl) <| cp (oAs tm) (s1 rfl) <| .nil) (by kernel_rfl) ?_
      exact pJ1 _ (so h) ⟨rfl, trivial⟩ rfl
    · refine rg (cp (oMv tm) (s1 rfl) <| cp (oLenS u9 tm) (s1 rfl) <| cp (oMv tm) (s1 rfl) <| cp (oLenS u9 tm) (s1 rfl) <| cp (oGe rfl tm tm) (s2 rfl rfl) <| cp (oMv tm) (s1 rfl) <| csB (decide_eq_false hp4) rfl rfl <| csB (decide_eq_false hp4) rfl rfl <| csB (decide_eq_false hp4) rfl rfl <| csB (decide_eq_false hp4) rfl rfl <| csB (decide_eq_false hp4) rfl rfl <| csB (decide_eq_false hp4) rfl rfl <| cp (oPkF (decide_eq_false hp4) tm cB) (s1 rfl) <| cp (oAs tm) (s1 rfl) <| .nil) (by kernel_rfl) ?_
      exact pJ1 _ (so h) ⟨rfl, trivial⟩ rfl
  · rintro x3 rfl
    replace h := hk1
    refine wRet ?_
    obtain rfl := so h
    exact pR1 (.inl rfl) rfl (.tmp rfl <| .nil)

theorem strings_HasPrefix.ok {a0 : Str} {a1 : Str} {r : Bool} (h : strings_HasPrefix.f a0 a1 = some r) : FnA Tryd.prog 123 [kS.sig a0, kS.sig a1] (kB.sig r) := by
  refine fnIntro Tryd.func123 rfl (by kernel_rfl) fun H0 w0 => ?_
  unfold strings_HasPrefix.f at h
  refine wSeq ?_
  refine rg (cp (oAs cB) trivial <| .nil) (by kernel_rfl) ?_
  refine pSeq ?_
  refine wSeq ?_
  obtain ⟨y1, hy1, h⟩ := bd h
  refine rg (cp (oMv tm) (s1 rfl) <| cp (oMv tm) (s1 rfl) <| cp (oCall rfl (stringslite_HasPrefix.ok hy1) b143 (opds_cons tm (opds_cons tm opds_nil))) (s2 rfl rfl) <| cp (oAs tm) (s1 rfl) <| .nil) (by kernel_rfl) ?_
  refine pSeq ?_
  refine wRet ?_
  obtain rfl := so h
  exact pR1 (.inl rfl) rfl (.tmp rfl <| .nil)

theorem lex_token.ok {a0 : Str} {r : Int × Int} (h : lex_token.f a0 = some r) : FnA Tryd.prog 87 [kS.sig a0] (tup [(kI .i64).sig r.1, (kI .i64).sig r.2]) := by
  refine fnIntro Tryd.func87 rfl (by kernel_rfl) fun H0 w0 => ?_
  unfold lex_token.f at h
  refine wSeq ?_
  refine rg (cp (oAs (cI (by decide))) trivial <| cp (oAs (cI (by decide))) trivial <| .nil) (by kernel_rfl) ?_
  refine pSeq ?_
  refine wSeq ?_
  obtain ⟨hc1, h⟩ := ib h
  refine rg (cp (oMv tm) (s1 rfl) <| cp (oIdxS u9 hc1.1 hc1.2 tm (cI (by decide))) (s1 rfl) <| cp (oAs tm) (s1 rfl) <| .nil) (by kernel_rfl) ?_
  refine pSeq ?_
  refine wSeq ?_
  refine wBlock ?_
  obtain ⟨o1, h, hk1⟩ := bd h
  refine wJ1 (fun x4 => x4 = o1) (fun x4 => [(0, .d (kS.sig a0)), (4, .d ((kI .u8).sig (sAt a0 0))), (7, .d (kB.sig x4))]) (fun x4 => []) ?_ ?_
  · rcases ic h with ⟨hp5, h⟩ | ⟨hp5, h⟩
    · refine rg (cp (oMv tm) (s1 rfl) <| cp (oEq rfl tm (cI (by decide))) (s1 rfl) <| cp (oMv tm) (s1 rfl) <| csB (decide_eq_true hp5) rfl rfl <| csB (decide_eq_true hp5) rfl rfl <| cp (oPkT (decide_eq_true hp5) tm cB) (s1 rfl) <| cp (oMv tm) (s1 rfl) <| csB rfl rfl rfl <| csB rfl rfl rfl <| cp (oPkT rfl tm cB) (s1 rfl) <| cp (oAs tm) (s1 rfl) <| .nil) (by kernel_rfl) ?_
      exact pJ1 _ (so h) ⟨rfl, rfl, rfl, trivial⟩ rfl
    · rcases ic h with ⟨hp6, h⟩ | ⟨hp6, h⟩
      · refine rg (cp (oMv tm) (s1 rfl) <| cp (oEq rfl tm (cI (by decide))) (s1 rfl) <| cp (oMv tm) (s1 rfl) <| cgB (decide_eq_false hp5) rfl rfl (oMv tm) (s1 rfl) <| cgB (decide_eq_false hp5) rfl rfl (oEq rfl tm (cI (by decide))) (s1 rfl) <| cp (oPkF (decide_eq_false hp5) tm tm) (s2 rfl rfl) <| cp (oMv tm) (s1 rfl) <| csB (decide_eq_true hp6) rfl rfl <| csB (decide_eq_true hp6) rfl rfl <| cp (oPkT (decide_eq_true hp6) tm cB) (s1 rfl) <| cp (oAs tm) (s1 rfl) <| .nil) (by kernel_rfl) ?_
        exact pJ1 _ (so h) ⟨rfl, rfl, rfl, trivial⟩ rfl
      · refine rg (cp (oMv tm) (s1 rfl) <| cp (oEq rfl tm (cI (by decide))) (s1 rfl) <| cp (oMv tm) (s1 rfl) <| cgB (decide_eq_false hp5) rfl rfl (oMv tm) (s1 rfl) <| cgB (decide_eq_false hp5) rfl rfl (oEq rfl tm (cI (by decide))) (s1 rfl) <| cp (oPkF (decide_eq_false hp5) tm tm) (s2 rfl rfl) <| cp (oMv tm) (s1 rfl) <| cgB (decide_eq_false hp6) rfl rfl (oMv tm) (s1 rfl) <| cgB (decide_eq_false hp6) rfl rfl (oEq rfl tm (cI (by decide))) (s1 rfl) <| cp (oPkF (decide_eq_false hp6) tm tm) (s2 rfl rfl) <| cp (oAs tm) (s1 rfl) <| .nil) (by kernel_rfl) ?_
        exact pJ1 _ (so h) ⟨rfl, rfl, rfl, trivial⟩ rfl
  · rintro x4 rfl
    replace h := hk1
    rcases ic h with ⟨hp7, h⟩ | ⟨hp7, h⟩
    · refine wBT hp7 tm (s1 rfl) ?_
      refine wSeq ?_
      refine rg (cp (oAs (cI (by decide))) trivial <| cp (oAs (cI (by decide))) trivial <| .nil) (by kernel_rfl) ?_
      refine pSeq ?_
      refine wRet ?_
      refine pBlkR ?_
      refine pThenR ?_
      obtain rfl := so h
      exact pRn (.inl rfl) rfl rfl (.tmp rfl <| .tmp rfl <| .nil)
    · refine wBF hp7 tm (s1 rfl) ?_
      refine wSeq ?_
      refine rg (cp (oMv tm) (s1 rfl) <| cp (oEq rfl tm (cI (by decide))) (s1 rfl) <| cp (oAs tm) (s1 rfl) <| .nil) (by kernel_rfl) ?_
      refine pSeq ?_
      rcases ic h with ⟨hp8, h⟩ | ⟨hp8, h⟩
      · refine wCT hp8 tm (s1 rfl) ?_
        refine wSeq ?_
        obtain ⟨y9, hy9, h⟩ := bd h
        refine rg (cp (oMv tm) (s1 rfl) <| cp (oCall rfl (lex_while.ok hy9) b119 (opds_cons tm (opds_cons (oFn b120 (rl1n lex_token_1.ok)) opds_nil))) (s1 rfl) <| cp (oAs (cI (by decide))) trivial <| cp (oAs tm) (s1 rfl) <| .nil) (by kernel_rfl) ?_
        refine pSeq ?_
        refine wRet ?_
        refine pBlkR ?_
        refine pThenR ?_
        obtain rfl := so h
        exact pRn (.inl rfl) rfl rfl (.tmp rfl <| .tmp rfl <| .nil)
      · refine wCF hp8 tm (s1 rfl) ?_
        refine wSeq ?_
        obtain ⟨y10, hy10, h⟩ := bd h
        refine rg (cp (oMv tm) (s1 rfl) <| cp (oCall rfl (lex_letter.ok hy10) b121 (opds_cons tm opds_nil)) (s1 rfl) <| cp (oAs tm) (s1 rfl) <| .nil) (by kernel_rfl) ?_
        refine pSeq ?_
        rcases ic h with ⟨hp11, h⟩ | ⟨hp11, h⟩
        · refine wBT hp11 tm (s1 rfl) ?_
          refine wSeq ?_
          obtain ⟨y12, hy12, h⟩ := bd h
          refine rg (cp (oMv tm) (s1 rfl) <| cp (oCall rfl (lex_while.ok hy12) b119 (opds_cons tm (opds_cons (oFn b121 (rl1n lex_letter.ok)) opds_nil))) (s1 rfl) <| cp (oAs (cI (by decide))) trivial <| cp (oAs tm) (s1 rfl) <| .nil) (by kernel_rfl) ?_
          refine pSeq ?_
          refine wRet ?_
          refine pBlkR ?_
          refine pThenR ?_
          obtain rfl := so h
          exact pRn (.inl rfl) rfl rfl (.tmp rfl <| .tmp rfl <| .nil)
        · refine wBF hp11 tm (s1 rfl) ?_
          refine wSeq ?_
          obtain ⟨y13, hy13, h⟩ := bd h
          refine rg (cp (oMv tm) (s1 rfl) <| cp (oCall rfl (lex_digit.ok hy13) b122 (opds_cons tm opds_nil)) (s1 rfl) <| cp (oAs tm) (s1 rfl) <| .nil) (by kernel_rfl) ?_
          refine pSeq ?_
          rcases ic h with ⟨hp14, h⟩ | ⟨hp14, h⟩
          · refine wBT hp14 tm (s1 rfl) ?_
            refine wSeq ?_
            obtain ⟨y15, hy15, h⟩ := bd h
            refine rg (cp (oMv tm) (s1 rfl) <| cp (oCall rfl (lex_while.ok hy15) b119 (opds_cons tm (opds_cons (oFn b122 (rl1n lex_digit.ok)) opds_nil))) (s1 rfl) <| cp (oAs (cI (by decide))) trivial <| cp (oAs tm) (s1 rfl) <| .nil) (by kernel_rfl) ?_
            refine pSeq ?_
            refine wRet ?_
            refine pBlkR ?_
            refine pThenR ?_
            obtain rfl := so h
            exact pRn (.inl rfl) rfl rfl (.tmp rfl <| .tmp rfl <| .nil)
          · refine wBF hp14 tm (s1 rfl) ?_
            refine wSeq ?_
            obtain ⟨y16, hy16, h⟩ := bd h
            refine rg (cp (oMv tm) (s1 rfl) <| cp (oCall rfl (strings_HasPrefix.ok hy16) b123 (opds_cons tm (opds_cons (cS (by decide)) opds_nil))) (s1 rfl) <| cp (oAs tm) (s1 rfl) <| .nil) (by kernel_rfl) ?_
            refine pSeq ?_
            rcases ic h with ⟨hp17, h⟩ | ⟨hp17, h⟩
            · refine wBT hp17 tm (s1 rfl) ?_
              refine wSeq ?_
              refine rg (cp (oAs (cI (by decide))) trivial <| cp (oAs (cI (by decide))) trivial <| .nil) (by kernel_rfl) ?_
              refine pSeq ?_
              refine wRet ?_
              refine pBlkR ?_
              refine pThenR ?_
              obtain rfl := so h
              exact pRn (.inl rfl) rfl rfl (.tmp rfl <| .tmp rfl <| .nil)
            · refine wBF hp17 tm (s1 rfl) ?_
              refine wSeq ?_
              obtain ⟨y18, hy18, h⟩ := bd h
              refine rg (cp (oMv tm) (s1 rfl) <| cp (oCall rfl (libIndexByte Tryd.strings_IndexByte hy18) b124 (opds_cons (cS (by decide)) (opds_cons tm opds_nil))) (s1 rfl) <| cp (oGe rfl tm (cI (by decide))) (s1 rfl) <| cp (oAs tm) (s1 rfl) <| .nil) (by kernel_rfl) ?_
              refine pSeq ?_
              rcases ic h with ⟨hp19, h⟩ | ⟨hp19, h⟩
              · refine wCT hp19 tm (s1 rfl) ?_
                refine wSeq ?_
                refine rg (cp (oAs (cI (by decide))) trivial <| cp (oAs (cI (by decide))) trivial <| .nil) (by kernel_rfl) ?_
                refine pSeq ?_
                refine wRet ?_
                refine pBlkR ?_
                refine pThenR ?_
                obtain rfl := so h
                exact pRn (.inl rfl) rfl rfl (.tmp rfl <| .tmp rfl <| .nil)
              · refine wCF hp19 tm (s1 rfl) ?_
                refine wSkip ?_
                refine pBlkN ?_
                refine pSeq ?_
                refine wSeq ?_
                refine rg (cp (oAs (cI (by decide))) trivial <| cp (oAs (cI (by decide))) trivial <| .nil) (by kernel_rfl) ?_
                refine pSeq ?_
                refine wRet ?_
                obtain rfl := so h
                exact pRn (.inl rfl) rfl rfl (.tmp rfl <| .tmp rfl <| .nil)

theorem lex_Lex.ok {a0 : Str} {r : (List api_Tok) × Int × Int} (h : lex_Lex.f a0 = some r) : FnA Tryd.prog 55 [kS.sig a0] (tup [(kL (kR f_api_Tok)).sig r.1, (kI .i64).sig r.2.1, (kI .i64).sig r.2.2]) := by
  refine fnIntro Tryd.func55 rfl (by kernel_rfl) fun H0 w0 => ?_
  unfold lex_Lex.f at h
  refine wSeq ?_
  refine rg (cp (oAs cV) trivial <| cp (oAs (cI (by decide))) trivial <| cp (oAs (cI (by decide))) trivial <| .nil) (by kernel_rfl) ?_
  refine pSeq ?_
  refine wSeq ?_
  refine wSeq ?_
  refine rg (cp (oMv tm) (s1 rfl) <| cp (oLenS u9 tm) (s1 rfl) <| cp (oGt rfl tm (cI (by decide))) (s1 rfl) <| .nil) (by kernel_rfl) ?_
  refine pSeq ?_
  rcases ic h with ⟨hp1, h⟩ | ⟨hp1, h⟩
  · refine wCT hp1 tm (s1 rfl) ?_
    refine wSeq ?_
    refine rg (cp (oAs cV) trivial <| cp (oAs (cI (by decide))) trivial <| cp (oAs (cI (by decide))) trivial <| .nil) (by kernel_rfl) ?_
    refine pSeq ?_
    refine wNil (kR f_api_Tok) 93 9002 2 rfl rfl ?_
    refine wFrzR (n := 0) (id := 9002) [2] rfl rfl ⟨rfl, trivial⟩ ?_
    refine wRet ?_
    refine pThenR ?_
    obtain rfl := so h
    exact pRn (.inl rfl) rfl rfl (.tmp rfl <| .tmp rfl <| .tmp rfl <| .nil)
  · refine wCF hp1 tm (s1 rfl) ?_
    refine wSkip ?_
    refine pSeq ?_
    refine wSeq ?_
    refine rg (cp (oAs cV) trivial <| .nil) (by kernel_rfl) ?_
    refine pSeq ?_
    refine wSeq ?_
    refine wSeq ?_
    refine rg (cp (oAs (cI (by decide))) trivial <| .nil) (by kernel_rfl) ?_
    refine pSeq ?_
    refine wNil (kR f_api_Tok) 93 1005 5 rfl rfl ?_
    obtain ⟨o1, h, hk1⟩ := bd h
    refine wK1 (fun x34 => .inr x34 = o1) (fun x34 => [(0, .d (kS.sig a0)), (5, .v 1005)]) (fun x34 => [.row 1005 93 (kR f_api_Tok) x34]) ?_ ?_
    · refine wBlock (wLoop ?_)
      refine lW (pc2 o1 (fun v32 v33 => [(0, .d (kS.sig a0)), (5, .v 1005), (6, .d ((kI .i64).sig v33))]) (fun v32 v33 => [.row 1005 93 (kR f_api_Tok) v32]) (lex_Lex.l0.partial_correctness a0) ?_ _ _ h) ⟨rfl, rfl, rfl, trivial⟩ rfl
      clear h
      intro f' ih v32 v33 h
      refine wSeq ?_
      refine wSeq ?_
      refine rg (cp (oMv tm) (s1 rfl) <| cp (oMv tm) (s1 rfl) <| cp (oLenS u9 tm) (s1 rfl) <| cp (oLt rfl tm tm) (s2 rfl rfl) <| .nil) (by kernel_rfl) ?_
      refine pSeq ?_
      rcases ic h with ⟨hp35, h⟩ | ⟨hp35, h⟩
      · refine wCT hp35 tm (s1 rfl) ?_
        refine wSkip ?_
        refine pSeq ?_
        obtain ⟨o2, h, hk2⟩ := bd h
        refine wK2 (fun x42 x43 => .inr (x42, x43) = o2) (fun x42 x43 => [(0, .d (kS.sig a0)), (5, .v 1005), (6, .d ((kI .i64).sig x43))]) (fun x42 x43 => [.row 1005 93 (kR f_api_Tok) x42]) ?_ ?_
        · refine wBlock ?_
          refine wSeq ?_
          obtain ⟨hc44, h⟩ := ib h
          obtain ⟨y45, hy45, h⟩ := bd h
          refine rg (cp (oMv tm) (s1 rfl) <| cp (oMv tm) (s1 rfl) <| cp (oCutSL u9 hc44.1 hc44.2 tm tm) (s2 rfl rfl) <| cp (oCall rfl (lex_token.ok hy45) b87 (opds_cons tm opds_nil)) (s1 rfl) <| cp (oMv tm) (s1 rfl) <| cp (oExt (k := 0) rfl tm) (s1 rfl) <| cp (oExt (k := 1) rfl tm) (s1 rfl) <| cp (oAs tm) (s1 rfl) <| cp (oAs tm) (s1 rfl) <| .nil) (by kernel_rfl) ?_
          refine pSeq ?_
          refine wSeq ?_
          refine wSeq ?_
          refine rg (cp (oMv tm) (s1 rfl) <| cp (oEq rfl tm (cI (by decide))) (s1 rfl) <| .nil) (by kernel_rfl) ?_
          refine pSeq ?_
          rcases ic h with ⟨hp46, h⟩ | ⟨hp46, h⟩
          · refine wCT hp46 tm (s1 rfl) ?_
            refine wSeq ?_
            refine rg (cp (oMv tm) (s1 rfl) <| cp (oAs cV) trivial <| cp (oAs tm) (s1 rfl) <| cp (oAs (cI (by decide))) trivial <| .nil) (by kernel_rfl) ?_
            refine pSeq ?_
            refine wNil (kR f_api_Tok) 93 9002 2 rfl rfl ?_
            refine wFrzR (n := 0) (id := 9002) [2] rfl rfl ⟨rfl, trivial⟩ ?_
            refine wRet ?_
            refine pThenR ?_
            refine pBlkR ?_
            refine pThenR ?_
            obtain rfl := so h
            replace h := hk2
            refine pThenR ?_
            refine pBlkR ?_
            refine pThenR ?_
            obtain rfl := so h
            replace h := hk1
            refine pThenR ?_
            obtain rfl := so h
            exact pRn (.inl rfl) rfl rfl (.tmp rfl <| .tmp rfl <| .tmp rfl <| .nil)
          · refine wCF hp46 tm (s1 rfl) ?_
            refine wSkip ?_
            refine pSeq ?_
            refine wSeq ?_
            refine wSeq ?_
            refine rg (cp (oMv tm) (s1 rfl) <| cp (oNe rfl tm (cI (by decide))) (s1 rfl) <| .nil) (by kernel_rfl) ?_
            refine pSeq ?_
            rcases ic h with ⟨hp47, h⟩ | ⟨hp47, h⟩
            · refine wNT hp47 tm (s1 rfl) ?_
              refine wSkip ?_
              refine pSeq ?_
              refine rg (cp (oMv tm) (s1 rfl) <| cp (oMv tm) (s1 rfl) <| cp (oAdd tm tm) (s2 rfl rfl) <| cp (oAs tm) (s1 rfl) <| .nil) (by kernel_rfl) ?_
              refine pBlkN ?_
              exact pJ2 _ _ (so h) ⟨rfl, rfl, rfl, trivial⟩ rfl
            · refine wNF hp47 tm (s1 rfl) ?_
              obtain ⟨hc48, h⟩ := ib h
              obtain ⟨hc49, h⟩ := ib h
              refine rg (cp (oMv tm) (s1 rfl) <| cp (oMv tm) (s1 rfl) <| cp (oMv tm) (s1 rfl) <| cp (oMv tm) (s1 rfl) <| cp (oMv tm) (s1 rfl) <| cp (oMv tm) (s1 rfl) <| cp (oAdd tm tm) (s2 rfl rfl) <| cp (oCutS u9 hc48.1 hc48.2.1 hc48.2.2 tm tm tm) (s3 rfl rfl rfl) <| cp (oMv tm) (s1 rfl) <| cp (oBuild (fs := f_api_Tok) (u := ⟨y45.1, sCut a0 v33 (IntKind.i64.wrap (v33 + y45.2)), v33⟩) rfl ze93 pl93 po93 (.op (zc := [(.int .i64 0)]) tm rfl (.op (zc := [(.string ⟨⟨[]⟩⟩)]) tm rfl (.op (zc := [(.int .i64 0)]) tm rfl .nil)))) (s3 rfl rfl rfl) <| cp (oLit (d := (kR f_api_Tok)) el88 (by decide) rfl rfl rfl (e1 tm e0)) (s1 rfl) <| cw (oApp (n := 0) (id' := 39) el88 (by decide) rfl (by decide) hc49 tm tm) (s2 rfl rfl) <| cp (oAs tm) (s1 rfl) <| .nil) (by kernel_rfl) ?_
              refine pSeq ?_
              refine rg (cp (oMv tm) (s1 rfl) <| cp (oMv tm) (s1 rfl) <| cp (oAdd tm tm) (s2 rfl rfl) <| cp (oAs tm) (s1 rfl) <| .nil) (by kernel_rfl) ?_
              refine pBlkN ?_
              refine pSub (Γ' := [(0, .d (kS.sig a0)), (5, .v 39), (6, .d ((kI .i64).sig (IntKind.i64.wrap (v33 + y45.2))))]) ⟨rfl, rfl, rfl, trivial⟩ ?_
              refine pRen 39 1005 rfl ?_
              exact pJ2 _ _ (so h) ⟨rfl, rfl, rfl, trivial⟩ rfl
        · rintro x42 x43 rfl
          replace h := hk2
          exact pLoop (lW (ih _ _ h) ⟨rfl, rfl, rfl, trivial⟩ rfl)
      · refine wCF hp35 tm (s1 rfl) ?_
        refine wExit ?_
        refine pThenX ?_
        refine pThenX ?_
        refine pBlkX ?_
        exact pJ1 _ (so h) ⟨rfl, rfl, trivial⟩ rfl
    · rintro x34 rfl
      replace h := hk1
      refine pSeq ?_
      refine wSeq ?_
      obtain ⟨hc50, h⟩ := ib h
      refine rg (cp (oMv tm) (s1 rfl) <| cp (oMv tm) (s1 rfl) <| cp (oLenS u9 tm) (s1 rfl) <| cp (oBuild (fs := f_api_Tok) (u := ⟨0, [], (a0.length : Int)⟩) rfl ze93 pl93 po93 (.ze (zc := [(.int .i64 0)]) zI_i64 (.ze (zc := [(.string ⟨⟨[]⟩⟩)]) zS (.op (zc := [(.int .i64 0)]) tm rfl .nil)))) (s1 rfl) <| cp (oLit (d := (kR f_api_Tok)) el88 (by decide) rfl rfl rfl (e1 tm e0)) (s1 rfl) <| cw (oApp (n := 0) (id' := 48) el88 (by decide) rfl (by decide) hc50 tm tm) (s2 rfl rfl) <| cp (oAs tm) (s1 rfl) <| .nil) (by kernel_rfl) ?_
      refine pSeq ?_
      refine wSeq ?_
      refine wSeq ?_
      refine rg (cp (oMv tm) (s1 rfl) <| cr (oLenR (n := 0) u88 rfl tm) (s1 rfl) <| cp (oGt rfl tm (cI (by decide))) (s1 rfl) <| .nil) (by kernel_rfl) ?_
      refine pSeq ?_
      rcases ic h with ⟨hp51, h⟩ | ⟨hp51, h⟩
      · refine wCT hp51 tm (s1 rfl) ?_
        refine wSeq ?_
        refine rg (cp (oAs cV) trivial <| cp (oAs (cI (by decide))) trivial <| cp (oAs (cI (by decide))) trivial <| .nil) (by kernel_rfl) ?_
        refine pSeq ?_
        refine wNil (kR f_api_Tok) 93 9002 2 rfl rfl ?_
        refine wFrzR (n := 0) (id := 9002) [2] rfl rfl ⟨rfl, trivial⟩ ?_
        refine wRet ?_
        refine pThenR ?_
        obtain rfl := so h
        exact pRn (.inl rfl) rfl rfl (.tmp rfl <| .tmp rfl <| .tmp rfl <| .nil)
      · refine wCF hp51 tm (s1 rfl) ?_
        refine wSkip ?_
        refine pSeq ?_
        refine wSeq ?_
        refine rg (cp (oMv tm) (s1 rfl) <| cp (oAs tm) (s1 rfl) <| cp (oAs (cI (by decide))) trivial <| cp (oAs (cI (by decide))) trivial <| .nil) (by kernel_rfl) ?_
        refine pSeq ?_
        refine wFrzR (n := 0) (id := 48) [2] rfl rfl ⟨rfl, trivial⟩ ?_
        refine wRet ?_
        obtain rfl := so h
        exact pRn (.inl rfl) rfl rfl (.tmp rfl <| .tmp rfl <| .tmp rfl <| .nil)

theorem code_reader_tok.ok {a0 : code_reader} {r : code_reader × api_Tok} (h : code_reader_tok.f a0 = some r) : FnS Tryd.prog 89 [.p 70000 0] [.box 70000 138 [.d (kL kS) a0.l_.Names, .d (kL (kI .u32)) a0.l_.Up, .d (kL (kR f_api_Tok)) a0.toks_, .d (kI .i64) a0.i_, .d (kI .i64) a0.bad_]] [70000] (.d ((kR f_api_Tok).sig r.2)) [.box 70000 138 [.d (kL kS) r.1.l_.Names, .d (kL (kI .u32)) r.1.l_.Up, .d (kL (kR f_api_Tok)) r.1.toks_, .d (kI .i64) r.1.i_, .d (kI .i64) r.1.bad_]] := by
  refine fnIntroS Tryd.func89 rfl (by kernel_rfl) fun X H0 w0 pv => ?_
  unfold code_reader_tok.f at h
  refine wSeq ?_
  refine rg (cw (oAlloc (id := 2) (ls := [.d (kI .i64) 0, .d kS [], .d (kI .i64) 0]) ze93 (fun g => ⟨[(.int .i64 0)], _, rfl, zI_i64 g.H, ⟨[(.string ⟨⟨[]⟩⟩)], _, rfl, zS g.H, ⟨[(.int .i64 0)], _, rfl, zI_i64 g.H, rfl⟩⟩⟩)) trivial <| .nil) (by kernel_rfl) ?_
  refine pSeq ?_
  refine wSeq ?_
  obtain ⟨y1, hy1, h⟩ := bd h
  refine rgD hm (cp (oMv tm) (s1 rfl) <| cp (oNilP tm) (s1 rfl) <| cp (oFldP o138_1 tm) (s1 rfl) <| cr (oLdB (n := 1) (k := 2) rfl rfl rfl t88 tm) (s1 rfl) <| cp (oMv tm) (s1 rfl) <| cp (oNilP tm) (s1 rfl) <| cp (oFldP o138_2 tm) (s1 rfl) <| cr (oLdB (n := 1) (k := 3) rfl rfl rfl t3 tm) (s1 rfl) <| cp (oIdx u88 z93 hy1 tm tm) (s2 rfl rfl) <| cp (oLd t93 tm) (s1 rfl) <| cwn (oStA (n := 0) (fs := f_api_Tok) rfl rfl z93 tm tm) (s2 rfl rfl) <| .nil) (by kernel_rfl) (by kernel_rfl) ?_
  refine pSeq ?_
  refine wRet ?_
  obtain rfl := so h
  exact pS1 [1] rfl rfl (.inl rfl) rfl (.box (n := 0) (fs := f_api_Tok) (u := ⟨y1.Kind, y1.Text, y1.At⟩) rfl rfl ⟨rfl, rfl, rfl, trivial⟩ t93 <| .nil)

theorem code_instruction.ok {a0 : api_Tok} {r : Int} (h : code_instruction.f a0 = some r) : FnA Tryd.prog 88 [(kR f_api_Tok).sig a0] ((kI .i64).sig r) := by
  refine fnIntro Tryd.func88 rfl (by kernel_rfl) fun H0 w0 => ?_
  unfold code_instruction.f at h
  refine wSeq ?_
  refine rg (cp (oBox tm) (s1 rfl) <| cp (oAs (cI (by decide))) trivial <| .nil) (by kernel_rfl) ?_
  refine pSeq ?_
  refine wSeq ?_
  refine wSeq ?_
  refine rg (cp (oMv (cI (by decide))) trivial <| .nil) (by kernel_rfl) ?_
  refine pSeq ?_
  obtain ⟨o1, h, hk1⟩ := bd h
  refine wK0 (.inr () = o1) ([]) ([]) ?_ ?_
  · refine wBlock (wLoop ?_)
    refine lW (pc1 o1 (fun v13 => [(1, .d (sP (kR f_api_Tok) a0)), (6, .d ((kI .i64).sig v13))]) (fun v13 => []) (code_instruction.l0.partial_correctness a0) ?_ _ h) ⟨rfl, rfl, trivial⟩ rfl
    clear h
    intro f' ih v13 h
    refine wSeq ?_
    refine rg (cp (oLt rfl tm (cI (by decide))) (s1 rfl) <| .nil) (by kernel_rfl) ?_
    refine pSeq ?_
    refine wSeq ?_
    rcases ic h with ⟨hp14, h⟩ | ⟨hp14, h⟩
    · refine wCT hp14 tm (s1 rfl) ?_
      refine wSkip ?_
      refine pSeq ?_
      refine wSeq ?_
      refine wBlock ?_
      refine wSeq ?_
      refine rg (cp (oMv tm) (s1 rfl) <| cp (oAs tm) (s1 rfl) <| .nil) (by kernel_rfl) ?_
      refine pSeq ?_
      refine wSeq ?_
      obtain ⟨y15, hy15, h⟩ := bd h
      refine rg (cp (oMv tm) (s1 rfl) <| cp (oCall rfl (table_Name.ok hy15) b40 (opds_cons tm opds_nil)) (s1 rfl) <| cp (oMv tm) (s1 rfl) <| cp (oExt (k := 0) rfl tm) (s1 rfl) <| cp (oExt (k := 1) rfl tm) (s1 rfl) <| cp (oAs tm) (s1 rfl) <| cp (oAs tm) (s1 rfl) <| .nil) (by kernel_rfl) ?_
      refine pSeq ?_
      obtain ⟨o2, h, hk2⟩ := bd h
      refine wJ1 (fun x17 => x17 = o2) (fun x17 => [(1, .d (sP (kR f_api_Tok) a0)), (3, .d ((kI .i64).sig v13)), (6, .d ((kI .i64).sig v13)), (22, .d (kB.sig x17))]) (fun x17 => []) ?_ ?_
      · rcases ic h with ⟨hp18, h⟩ | ⟨hp18, h⟩
        · refine rg (cp (oFld (fs := f_api_Tok) (k := 0) rfl o93_0 tm) (s1 rfl) <| cp (oLd t3 tm) (s1 rfl) <| cp (oEq rfl tm (cI (by decide))) (s1 rfl) <| cp (oMv tm) (s1 rfl) <| cgB (decide_eq_true hp18) rfl rfl (oMv tm) (s1 rfl) <| cgB (decide_eq_true hp18) rfl rfl (oFld (fs := f_api_Tok) (k := 1) rfl o93_1 tm) (s1 rfl) <| cgB (decide_eq_true hp18) rfl rfl (oLd t9 tm) (s1 rfl) <| cgB (decide_eq_true hp18) rfl rfl (oSEq rfl tm tm) (s2 rfl rfl) <| cp (oPkT (decide_eq_true hp18) tm tm) (s2 rfl rfl) <| .nil) (by kernel_rfl) ?_
          exact pJ1 _ (so h) ⟨rfl, rfl, rfl, rfl, trivial⟩ rfl
        · refine rg (cp (oFld (fs := f_api_Tok) (k := 0) rfl o93_0 tm) (s1 rfl) <| cp (oLd t3 tm) (s1 rfl) <| cp (oEq rfl tm (cI (by decide))) (s1 rfl) <| cp (oMv tm) (s1 rfl) <| csB (decide_eq_false hp18) rfl rfl <| csB (decide_eq_false hp18) rfl rfl <| csB (decide_eq_false hp18) rfl rfl <| csB (decide_eq_false hp18) rfl rfl <| cp (oPkF (decide_eq_false hp18) tm cB) (s1 rfl) <| .nil) (by kernel_rfl) ?_
          exact pJ1 _ (so h) ⟨rfl, rfl, rfl, rfl, trivial⟩ rfl
      · rintro x17 rfl
        replace h := hk2
        rcases ic h with ⟨hp19, h⟩ | ⟨hp19, h⟩
        · refine wBT hp19 tm (s1 rfl) ?_
          refine wSeq ?_
          refine rg (cp (oMv tm) (s1 rfl) <| cp (oAs tm) (s1 rfl) <| .nil) (by kernel_rfl) ?_
          refine pSeq ?_
          refine wRet ?_
          refine pBlkR ?_
          refine pThenR ?_
          refine pThenR ?_
          refine pBlkR ?_
          refine pThenR ?_
          obtain rfl := so h
          replace h := hk1
          refine pThenR ?_
          obtain rfl := so h
          exact pR1 (.inl rfl) rfl (.tmp rfl <| .nil)
        · refine wBF hp19 tm (s1 rfl) ?_
          refine wSkip ?_
          refine pBlkN ?_
          refine pSeq ?_
          refine rg (cp (oAdd tm (cI (by decide))) (s1 rfl) <| cp (oMv tm) (s1 rfl) <| .nil) (by kernel_rfl) ?_
          exact pLoop (lW (ih _ h) ⟨rfl, rfl, trivial⟩ rfl)
    · refine wCF hp14 tm (s1 rfl) ?_
      refine wExit ?_
      refine pThenX ?_
      refine pThenX ?_
      refine pBlkX ?_
      exact pJ0 (so h) trivial rfl
  · rintro rfl
    replace h := hk1
    refine pSeq ?_
    refine wSeq ?_
    refine rg (cp (oAs (cI (by decide))) trivial <| .nil) (by kernel_rfl) ?_
    refine pSeq ?_
    refine wRet ?_
    obtain rfl := so h
    exact pR1 (.inl rfl) rfl (.tmp rfl <| .nil)

theorem code_reader_fail.ok {a0 : code_reader} {a1 : Int} {r : code_reader} (h : code_reader_fail.f a0 a1 = some r) : FnS Tryd.prog 90 [.p 70000 0, .d ((kI .i64).sig a1)] [.box 70000 138 [.d (kL kS) a0.l_.Names, .d (kL (kI .u32)) a0.l_.Up, .d (kL (kR f_api_Tok)) a0.toks_, .d (kI .i64) a0.i_, .d (kI .i64) a0.bad_]] [70000] (.d (tup [])) [.box 70000 138 [.d (kL kS) r.l_.Names, .d (kL (kI .u32)) r.l_.Up, .d (kL (kR f_api_Tok)) r.toks_, .d (kI .i64) r.i_, .d (kI .i64) r.bad_]] := by
  refine fnIntroS Tryd.func90 rfl (by kernel_rfl) fun X H0 w0 pv => ?_
  unfold code_reader_fail.f at h
  refine wSeq ?_
  refine rg (cp (oMv tm) (s1 rfl) <| cp (oNilP tm) (s1 rfl) <| cp (oFldP o138_3 tm) (s1 rfl) <| cr (oLdB (n := 0) (k := 4) rfl rfl rfl t27 tm) (s1 rfl) <| cp (oEq rfl tm (cI (by decide))) (s1 rfl) <| .nil) (by kernel_rfl) ?_
  refine pSeq ?_
  rcases ic h with ⟨hp1, h⟩ | ⟨hp1, h⟩
  · refine wCT hp1 tm (s1 rfl) ?_
    refine rg (cp (oMv tm) (s1 rfl) <| cp (oMv tm) (s1 rfl) <| cp (oNilP tm) (s1 rfl) <| cp (oFldP o138_3 tm) (s1 rfl) <| cwn (oSt (n := 0) (k := 4) rfl rfl rfl rfl z27 tm tm) (s2 rfl rfl) <| .nil) (by kernel_rfl) ?_
    obtain rfl := so h
    exact pSn [0] rfl rfl (.inr rfl) rfl rfl (.nil)
  · refine wCF hp1 tm (s1 rfl) ?_
    refine wSkip ?_
    obtain rfl := so h
    exact pSn [0] rfl rfl (.inr rfl) rfl rfl (.nil)

theorem code_reader_number.ok {a0 : code_reader} {r : code_reader × Int} (h : code_reader_number.f a0 = some r) : FnS Tryd.prog 125 [.p 70000 0] [.box 70000 138 [.d (kL kS) a0.l_.Names, .d (kL (kI .u32)) a0.l_.Up, .d (kL (kR f_api_Tok)) a0.toks_, .d (kI .i64) a0.i_, .d (kI .i64) a0.bad_]] [70000] (.d ((kI .i64).sig r.2)) [.box 70000 138 [.d (kL kS) r.1.l_.Names, .d (kL (kI .u32)) r.1.l_.Up, .d (kL (kR f_api_Tok)) r.1.toks_, .d (kI .i64) r.1.i_, .d (kI .i64) r.1.bad_]] := by
  refine fnIntroS Tryd.func125 rfl (by kernel_rfl) fun X H0 w0 pv => ?_
  unfold code_reader_number.f at h
  refine wSeq ?_
  refine rg (cp (oAs (cI (by decide))) trivial <| .nil) (by kernel_rfl) ?_
  refine pSeq ?_
  refine wSeq ?_
  refine rg (cp (oAs (cI (by decide))) trivial <| .nil) (by kernel_rfl) ?_
  refine pSeq ?_
  refine wSeq ?_
  refine wSeq ?_
  obtain ⟨y1, hy1, h⟩ := bd h
  refine rg (cp (oMv tm) (s1 rfl) <| cm (oCallS (rest := []) (R' := [.box 70000 138 [.d (kL kS) y1.1.l_.Names, .d (kL (kI .u32)) y1.1.l_.Up, .d (kL (kR f_api_Tok)) y1.1.toks_, .d (kI .i64) y1.1.i_, .d (kI .i64) y1.1.bad_]]) (out' := .d ((kR f_api_Tok).sig y1.2)) [(70000, 70000)] [] [0] [] [0] rfl (code_reader_tok.ok hy1) b89 (oE1 tm oE0) rfl rfl rfl rfl rfl rfl rfl rfl) (s1 rfl) <| cw (oAlloc (id := 4) (ls := [.d (kI .i64) 0, .d kS [], .d (kI .i64) 0]) ze93 (fun g => ⟨[(.int .i64 0)], _, rfl, zI_i64 g.H, ⟨[(.string ⟨⟨[]⟩⟩)], _, rfl, zS g.H, ⟨[(.int .i64 0)], _, rfl, zI_i64 g.H, rfl⟩⟩⟩)) trivial <| cwn (oStA (n := 0) (fs := f_api_Tok) rfl rfl z93 tm tm) (s2 rfl rfl) <| .nil) (by kernel_rfl) ?_
  refine pSeq ?_
  obtain ⟨o1, h, hk1⟩ := bd h
  refine wJ1 (fun x3 => x3 = o1) (fun x3 => [(0, .p 70000 0), (3, .d ((kI .i64).sig 1)), (17, .d (kB.sig x3))]) (fun x3 => [.box 4 93 [.d (kI .i64) y1.2.Kind, .d kS y1.2.Text, .d (kI .i64) y1.2.At], .box 70000 138 [.d (kL kS) y1.1.l_.Names, .d (kL (kI .u32)) y1.1.l_.Up, .d (kL (kR f_api_Tok)) y1.1.toks_, .d (kI .i64) y1.1.i_, .d (kI .i64) y1.1.bad_]]) ?_ ?_
  · rcases ic h with ⟨hp4, h⟩ | ⟨hp4, h⟩
    · refine rg (cp (oFldP o93_0 tm) (s1 rfl) <| cr (oLdB (n := 0) (k := 0) rfl rfl rfl t3 tm) (s1 rfl) <| cp (oEq rfl tm (cI (by decide))) (s1 rfl) <| cp (oMv tm) (s1 rfl) <| cgB (decide_eq_true hp4) rfl rfl (oFldP o93_1 tm) (s1 rfl) <| crgB (decide_eq_true hp4) rfl rfl (oLdB (n := 0) (k := 1) rfl rfl rfl t9 tm) (s1 rfl) <| cgB (decide_eq_true hp4) rfl rfl (oSEq rfl tm (cS (by decide))) (s1 rfl) <| cp (oPkT (decide_eq_true hp4) tm tm) (s2 rfl rfl) <| .nil) (by kernel_rfl) ?_
      exact pJ1 _ (so h) ⟨rfl, rfl, rfl, trivial⟩ rfl
    · refine rg (cp (oFldP o93_0 tm) (s1 rfl) <| cr (oLdB (n := 0) (k := 0) rfl rfl rfl t3 tm) (s1 rfl) <| cp (oEq rfl tm (cI (by decide))) (s1 rfl) <| cp (oMv tm) (s1 rfl) <| csB (decide_eq_false hp4) rfl rfl <| csB (decide_eq_false hp4) rfl rfl <| csB (decide_eq_false hp4) rfl rfl <| cp (oPkF (decide_eq_false hp4) tm cB) (s1 rfl) <| .nil) (by kernel_rfl) ?_
      exact pJ1 _ (so h) ⟨rfl, rfl, rfl, trivial⟩ rfl
  · rintro x3 rfl
    replace h := hk1
    rcases ic h with ⟨hp5, h⟩ | ⟨hp5, h⟩
    · refine wBT hp5 tm (s1 rfl) ?_
      refine wSeq ?_
      refine rg (cp (oAs (cI (by decide))) trivial <| .nil) (by kernel_rfl) ?_
      refine pSeq ?_
      refine rg (cp (oMv tm) (s1 rfl) <| cp (oNilP tm) (s1 rfl) <| cp (oFldP o138_2 tm) (s1 rfl) <| cr (oLdB (n := 1) (k := 3) rfl rfl rfl t3 tm) (s1 rfl) <| cp (oAdd tm (cI (by decide))) (s1 rfl) <| cp (oNilP tm) (s1 rfl) <| cp (oFldP o138_2 tm) (s1 rfl) <| cwn (oSt (n := 1) (k := 3) rfl rfl rfl rfl z3 tm tm) (s2 rfl rfl) <| .nil) (by kernel_rfl) ?_
      refine pSeq ?_
      refine wSeq ?_
      obtain ⟨y6, hy6, h⟩ := bd h
      refine rg (cp (oMv tm) (s1 rfl) <| cm (oCallS (rest := [.box 4 93 [.d (kI .i64) y1.2.Kind, .d kS y1.2.Text, .d (kI .i64) y1.2.At]]) (R' := [.box 4 93 [.d (kI .i64) y1.2.Kind, .d kS y1.2.Text, .d (kI .i64) y1.2.At], .box 70000 138 [.d (kL kS) y6.1.l_.Names, .d (kL (kI .u32)) y6.1.l_.Up, .d (kL (kR f_api_Tok)) y6.1.toks_, .d (kI .i64) y6.1.i_, .d (kI .i64) y6.1.bad_]]) (out' := .d ((kR f_api_Tok).sig y6.2)) [(70000, 70000)] [] [1] [0] [1, 0] rfl (code_reader_tok.ok hy6) b89 (oE1 tm oE0) rfl rfl rfl rfl rfl rfl rfl rfl) (s1 rfl) <| cw (oAlloc (id := 5) (ls := [.d (kI .i64) 0, .d kS [], .d (kI .i64) 0]) ze93 (fun g => ⟨[(.int .i64 0)], _, rfl, zI_i64 g.H, ⟨[(.string ⟨⟨[]⟩⟩)], _, rfl, zS g.H, ⟨[(.int .i64 0)], _, rfl, zI_i64 g.H, rfl⟩⟩⟩)) trivial <| cwn (oStA (n := 0) (fs := f_api_Tok) rfl rfl z93 tm tm) (s2 rfl rfl) <| .nil) (by kernel_rfl) ?_
      refine pSeq ?_
      refine wSeq ?_
      obtain ⟨o1, h, hk1⟩ := bd h
      refine wJ1 (fun x8 => x8 = o1) (fun x8 => [(0, .p 70000 0), (3, .d ((kI .i64).sig (-1))), (5, .p 5 0), (35, .d (kB.sig x8))]) (fun x8 => [.box 5 93 [.d (kI .i64) y6.2.Kind, .d kS y6.2.Text, .d (kI .i64) y6.2.At], .box 4 93 [.d (kI .i64) y1.2.Kind, .d kS y1.2.Text, .d (kI .i64) y1.2.At], .box 70000 138 [.d (kL kS) y6.1.l_.Names, .d (kL (kI .u32)) y6.1.l_.Up, .d (kL (kR f_api_Tok)) y6.1.toks_, .d (kI .i64) y6.1.i_, .d (kI .i64) y6.1.bad_]]) ?_ ?_
      · rcases ic h with ⟨hp9, h⟩ | ⟨hp9, h⟩
        · refine rg (cp (oFldP o93_0 tm) (s1 rfl) <| cr (oLdB (n := 0) (k := 0) rfl rfl rfl t3 tm) (s1 rfl) <| cp (oNe rfl tm (cI (by decide))) (s1 rfl) <| cp (oMv tm) (s1 rfl) <| cgB (nf hp9) rfl rfl (oFldP o93_1 tm) (s1 rfl) <| crgB (nf hp9) rfl rfl (oLdB (n := 0) (k := 1) rfl rfl rfl t9 tm) (s1 rfl) <| cgB (nf hp9) rfl rfl (oLenS u9 tm) (s1 rfl) <| cgB (nf hp9) rfl rfl (oGt rfl tm (cI (by decide))) (s1 rfl) <| cp (oPkF (nf hp9) tm tm) (s2 rfl rfl) <| .nil) (by kernel_rfl) ?_
          exact pJ1 _ (so h) ⟨rfl, rfl, rfl, rfl, trivial⟩ rfl
        · refine rg (cp (oFldP o93_0 tm) (s1 rfl) <| cr (oLdB (n := 0) (k := 0) rfl rfl rfl t3 tm) (s1 rfl) <| cp (oNe rfl tm (cI (by decide))) (s1 rfl) <| cp (oMv tm) (s1 rfl) <| csB (nt hp9) rfl rfl <| csB (nt hp9) rfl rfl <| csB (nt hp9) rfl rfl <| csB (nt hp9) rfl rfl <| cp (oPkT (nt hp9) tm cB) (s1 rfl) <| .nil) (by kernel_rfl) ?_
          exact pJ1 _ (so h) ⟨rfl, rfl, rfl, rfl, trivial⟩ rfl
      · rintro x8 rfl
        replace h := hk1
        rcases ic h with ⟨hp10, h⟩ | ⟨hp10, h⟩
        · refine wBT hp10 tm (s1 rfl) ?_
          refine wSeq ?_
          obtain ⟨y11, hy11, h⟩ := bd h
          refine rg (cp (oMv tm) (s1 rfl) <| cm (oCallS (rest := [.box 5 93 [.d (kI .i64) y6.2.Kind, .d kS y6.2.Text, .d (kI .i64) y6.2.At], .box 4 93 [.d (kI .i64) y1.2.Kind, .d kS y1.2.Text, .d (kI .i64) y1.2.At]]) (R' := [.box 5 93 [.d (kI .i64) y6.2.Kind, .d kS y6.2.Text, .d (kI .i64) y6.2.At], .box 4 93 [.d (kI .i64) y1.2.Kind, .d kS y1.2.Text, .d (kI .i64) y1.2.At], .box 70000 138 [.d (kL kS) y11.l_.Names, .d (kL (kI .u32)) y11.l_.Up, .d (kL (kR f_api_Tok)) y11.toks_, .d (kI .i64) y11.i_, .d (kI .i64) y11.bad_]]) (out' := .d (tup [])) [(70000, 70000)] [] [2] [0, 1] [1, 2, 0] rfl (code_reader_fail.ok hy11) b90 (oE1 tm (oE1 (cI (by decide)) oE0)) rfl rfl rfl rfl rfl rfl rfl rfl) (s1 rfl) <| .nil) (by kernel_rfl) ?_
          refine pSeq ?_
          refine wSeq ?_
          refine rg (cp (oAs (cI (by decide))) trivial <| .nil) (by kernel_rfl) ?_
          refine pSeq ?_
          refine wRet ?_
          refine pThenR ?_
          obtain rfl := so h
          exact pS1 [2] rfl rfl (.inl rfl) rfl (.tmp rfl <| .nil)
        · refine wBF hp10 tm (s1 rfl) ?_
          refine wSkip ?_
          refine pSeq ?_
          refine wSeq ?_
          refine rg (cp (oAs (cI (by decide))) trivial <| .nil) (by kernel_rfl) ?_
          refine pSeq ?_
          refine wSeq ?_
          refine wSeq ?_
          refine rg (cp (oFldP o93_1 tm) (s1 rfl) <| cr (oLdB (n := 0) (k := 1) rfl rfl rfl t9 tm) (s1 rfl) <| cp (oLenS u9 tm) (s1 rfl) <| cp (oMv (cI (by decide))) trivial <| .nil) (by kernel_rfl) ?_
          refine pSeq ?_
          obtain ⟨o1, h, hk1⟩ := bd h
          refine wK1 (fun x18 => x18 = o1) (fun x18 => [(0, .p 70000 0), (3, .d ((kI .i64).sig (-1))), (6, .d ((kI .i64).sig x18))]) (fun x18 => [.box 5 93 [.d (kI .i64) y6.2.Kind, .d kS y6.2.Text, .d (kI .i64) y6.2.At], .box 4 93 [.d (kI .i64) y1.2.Kind, .d kS y1.2.Text, .d (kI .i64) y1.2.At], .box 70000 138 [.d (kL kS) y6.1.l_.Names, .d (kL (kI .u32)) y6.1.l_.Up, .d (kL (kR f_api_Tok)) y6.1.toks_, .d (kI .i64) y6.1.i_, .d (kI .i64) y6.1.bad_]]) ?_ ?_
          · refine wBlock (wLoop ?_)
            refine lW (pc2 o1 (fun v16 v17 => [(0, .p 70000 0), (3, .d ((kI .i64).sig (-1))), (5, .p 5 0), (6, .d ((kI .i64).sig v17)), (40, .d ((kI .i64).sig (y6.2.Text.length : Int))), (41, .d ((kI .i64).sig v16))]) (fun v16 v17 => [.box 5 93 [.d (kI .i64) y6.2.Kind, .d kS y6.2.Text, .d (kI .i64) y6.2.At], .box 4 93 [.d (kI .i64) y1.2.Kind, .d kS y1.2.Text, .d (kI .i64) y1.2.At], .box 70000 138 [.d (kL kS) y6.1.l_.Names, .d (kL (kI .u32)) y6.1.l_.Up, .d (kL (kR f_api_Tok)) y6.1.toks_, .d (kI .i64) y6.1.i_, .d (kI .i64) y6.1.bad_]]) (code_reader_number.l0.partial_correctness y6) ?_ _ _ h) ⟨rfl, rfl, rfl, rfl, rfl, rfl, trivial⟩ rfl
            clear h
            intro f' ih v16 v17 h
            refine wSeq ?_
            refine rg (cp (oLt rfl tm tm) (s2 rfl rfl) <| .nil) (by kernel_rfl) ?_
            refine pSeq ?_
            refine wSeq ?_
            rcases ic h with ⟨hp19, h⟩ | ⟨hp19, h⟩
            · refine wCT hp19 tm (s1 rfl) ?_
              refine wSkip ?_
              refine pSeq ?_
              refine wSeq ?_
              refine wBlock ?_
              refine wSeq ?_
              refine rg (cp (oMv tm) (s1 rfl) <| cp (oAs tm) (s1 rfl) <| .nil) (by kernel_rfl) ?_
              refine pSeq ?_
              obtain ⟨hc20, h⟩ := ib h
              refine rg (cp (oMv tm) (s1 rfl) <| cp (oMul (cI (by decide)) tm) (s1 rfl) <| cp (oFldP o93_1 tm) (s1 rfl) <| cr (oLdB (n := 0) (k := 1) rfl rfl rfl t9 tm) (s1 rfl) <| cp (oMv tm) (s1 rfl) <| cp (oIdxS u9 hc20.1 hc20.2 tm tm) (s2 rfl rfl) <| cp (oAnd tm (cI (by decide))) (s1 rfl) <| cp (oConv u5 u3 tm) (s1 rfl) <| cp (oAdd tm tm) (s2 rfl rfl) <| cp (oAs tm) (s1 rfl) <| .nil) (by kernel_rfl) ?_
              refine pBlkN ?_
              refine pSeq ?_
              refine rg (cp (oAdd tm (cI (by decide))) (s1 rfl) <| cp (oMv tm) (s1 rfl) <| .nil) (by kernel_rfl) ?_
              exact pLoop (lW (ih _ _ h) ⟨rfl, rfl, rfl, rfl, rfl, rfl, trivial⟩ rfl)
            · refine wCF hp19 tm (s1 rfl) ?_
              refine wExit ?_
              refine pThenX ?_
              refine pThenX ?_
              refine pBlkX ?_
              exact pJ1 _ (so h) ⟨rfl, rfl, rfl, trivial⟩ rfl
          · rintro x18 rfl
            replace h := hk1
            refine pSeq ?_
            refine wSeq ?_
            refine rg (cp (oMv tm) (s1 rfl) <| cp (oNilP tm) (s1 rfl) <| cp (oFldP o138_2 tm) (s1 rfl) <| cr (oLdB (n := 2) (k := 3) rfl rfl rfl t3 tm) (s1 rfl) <| cp (oAdd tm (cI (by decide))) (s1 rfl) <| cp (oNilP tm) (s1 rfl) <| cp (oFldP o138_2 tm) (s1 rfl) <| cwn (oSt (n := 2) (k := 3) rfl rfl rfl rfl z3 tm tm) (s2 rfl rfl) <| .nil) (by kernel_rfl) ?_
            refine pSeq ?_
            refine wSeq ?_
            refine rg (cp (oMv tm) (s1 rfl) <| cp (oMv tm) (s1 rfl) <| cp (oMul tm tm) (s2 rfl rfl) <| cp (oAs tm) (s1 rfl) <| .nil) (by kernel_rfl) ?_
            refine pSeq ?_
            refine wRet ?_
            obtain rfl := so h
            exact pS1 [2] rfl rfl (.inl rfl) rfl (.tmp rfl <| .nil)
    · refine wBF hp5 tm (s1 rfl) ?_
      refine wSkip ?_
      refine pSeq ?_
      refine wSeq ?_
      obtain ⟨y21, hy21, h⟩ := bd h
      refine rg (cp (oMv tm) (s1 rfl) <| cm (oCallS (rest := [.box 4 93 [.d (kI .i64) y1.2.Kind, .d kS y1.2.Text, .d (kI .i64) y1.2.At]]) (R' := [.box 4 93 [.d (kI .i64) y1.2.Kind, .d kS y1.2.Text, .d (kI .i64) y1.2.At], .box 70000 138 [.d (kL kS) y21.1.l_.Names, .d (kL (kI .u32)) y21.1.l_.Up, .d (kL (kR f_api_Tok)) y21.1.toks_, .d (kI .i64) y21.1.i_, .d (kI .i64) y21.1.bad_]]) (out' := .d ((kR f_api_Tok).sig y21.2)) [(70000, 70000)] [] [1] [0] [1, 0] rfl (code_reader_tok.ok hy21) b89 (oE1 tm oE0) rfl rfl rfl rfl rfl rfl rfl rfl) (s1 rfl) <| cw (oAlloc (id := 5) (ls := [.d (kI .i64) 0, .d kS [], .d (kI .i64) 0]) ze93 (fun g => ⟨[(.int .i64 0)], _, rfl, zI_i64 g.H, ⟨[(.string ⟨⟨[]⟩⟩)], _, rfl, zS g.H, ⟨[(.int .i64 0)], _, rfl, zI_i64 g.H, rfl⟩⟩⟩)) trivial <| cwn (oStA (n := 0) (fs := f_api_Tok) rfl rfl z93 tm tm) (s2 rfl rfl) <| .nil) (by kernel_rfl) ?_
      refine pSeq ?_
      refine wSeq ?_
      obtain ⟨o1, h, hk1⟩ := bd h
      refine wJ1 (fun x23 => x23 = o1) (fun x23 => [(0, .p 70000 0), (3, .d ((kI .i64).sig 1)), (5, .p 5 0), (35, .d (kB.sig x23))]) (fun x23 => [.box 5 93 [.d (kI .i64) y21.2.Kind, .d kS y21.2.Text, .d (kI .i64) y21.2.At], .box 4 93 [.d (kI .i64) y1.2.Kind, .d kS y1.2.Text, .d (kI .i64) y1.2.At], .box 70000 138 [.d (kL kS) y21.1.l_.Names, .d (kL (kI .u32)) y21.1.l_.Up, .d (kL (kR f_api_Tok)) y21.1.toks_, .d (kI .i64) y21.1.i_, .d (kI .i64) y21.1.bad_]]) ?_ ?_
      · rcases ic h with ⟨hp24, h⟩ | ⟨hp24, h⟩
        · refine rg (cp (oFldP o93_0 tm) (s1 rfl) <| cr (oLdB (n := 0) (k := 0) rfl rfl rfl t3 tm) (s1 rfl) <| cp (oNe rfl tm (cI (by decide))) (s1 rfl) <| cp (oMv tm) (s1 rfl) <| cgB (nf hp24) rfl rfl (oFldP o93_1 tm) (s1 rfl) <| crgB (nf hp24) rfl rfl (oLdB (n := 0) (k := 1) rfl rfl rfl t9 tm) (s1 rfl) <| cgB (nf hp24) rfl rfl (oLenS u9 tm) (s1 rfl) <| cgB (nf hp24) rfl rfl (oGt rfl tm (cI (by decide))) (s1 rfl) <| cp (oPkF (nf hp24) tm tm) (s2 rfl rfl) <| .nil) (by kernel_rfl) ?_
          exact pJ1 _ (so h) ⟨rfl, rfl, rfl, rfl, trivial⟩ rfl
        · refine rg (cp (oFldP o93_0 tm) (s1 rfl) <| cr (oLdB (n := 0) (k := 0) rfl rfl rfl t3 tm) (s1 rfl) <| cp (oNe rfl tm (cI (by decide))) (s1 rfl) <| cp (oMv tm) (s1 rfl) <| csB (nt hp24) rfl rfl <| csB (nt hp24) rfl rfl <| csB (nt hp24) rfl rfl <| csB (nt hp24) rfl rfl <| cp (oPkT (nt hp24) tm cB) (s1 rfl) <| .nil) (by kernel_rfl) ?_
          exact pJ1 _ (so h) ⟨rfl, rfl, rfl, rfl, trivial⟩ rfl
      · rintro x23 rfl
        replace h := hk1
        rcases ic h with ⟨hp25, h⟩ | ⟨hp25, h⟩
        · refine wBT hp25 tm (s1 rfl) ?_
          refine wSeq ?_
          obtain ⟨y26, hy26, h⟩ := bd h
          refine rg (cp (oMv tm) (s1 rfl) <| cm (oCallS (rest := [.box 5 93 [.d (kI .i64) y21.2.Kind, .d kS y21.2.Text, .d (kI .i64) y21.2.At], .box 4 93 [.d (kI .i64) y1.2.Kind, .d kS y1.2.Text, .d (kI .i64) y1.2.At]]) (R' := [.box 5 93 [.d (kI .i64) y21.2.Kind, .d kS y21.2.Text, .d (kI .i64) y21.2.At], .box 4 93 [.d (kI .i64) y1.2.Kind, .d kS y1.2.Text, .d (kI .i64) y1.2.At], .box 70000 138 [.d (kL kS) y26.l_.Names, .d (kL (kI .u32)) y26.l_.Up, .d (kL (kR f_api_Tok)) y26.toks_, .d (kI .i64) y26.i_, .d (kI .i64) y26.bad_]]) (out' := .d (tup [])) [(70000, 70000)] [] [2] [0, 1] [1, 2, 0] rfl (code_reader_fail.ok hy26) b90 (oE1 tm (oE1 (cI (by decide)) oE0)) rfl rfl rfl rfl rfl rfl rfl rfl) (s1 rfl) <| .nil) (by kernel_rfl) ?_
          refine pSeq ?_
          refine wSeq ?_
          refine rg (cp (oAs (cI (by decide))) trivial <| .nil) (by kernel_rfl) ?_
          refine pSeq ?_
          refine wRet ?_
          refine pThenR ?_
          obtain rfl := so h
          exact pS1 [2] rfl rfl (.inl rfl) rfl (.tmp rfl <| .nil)
        · refine wBF hp25 tm (s1 rfl) ?_
          refine wSkip ?_
          refine pSeq ?_
          refine wSeq ?_
          refine rg (cp (oAs (cI (by decide))) trivial <| .nil) (by kernel_rfl) ?_
          refine pSeq ?_
          refine wSeq ?_
          refine wSeq ?_
          refine rg (cp (oFldP o93_1 tm) (s1 rfl) <| cr (oLdB (n := 0) (k := 1) rfl rfl rfl t9 tm) (s1 rfl) <| cp (oLenS u9 tm) (s1 rfl) <| cp (oMv (cI (by decide))) trivial <| .nil) (by kernel_rfl) ?_
          refine pSeq ?_
          obtain ⟨o1, h, hk1⟩ := bd h
          refine wK1 (fun x33 => x33 = o1) (fun x33 => [(0, .p 70000 0), (3, .d ((kI .i64).sig 1)), (6, .d ((kI .i64).sig x33))]) (fun x33 => [.box 5 93 [.d (kI .i64) y21.2.Kind, .d kS y21.2.Text, .d (kI .i64) y21.2.At], .box 4 93 [.d (kI .i64) y1.2.Kind, .d kS y1.2.Text, .d (kI .i64) y1.2.At], .box 70000 138 [.d (kL kS) y21.1.l_.Names, .d (kL (kI .u32)) y21.1.l_.Up, .d (kL (kR f_api_Tok)) y21.1.toks_, .d (kI .i64) y21.1.i_, .d (kI .i64) y21.1.bad_]]) ?_ ?_
          · refine wBlock (wLoop ?_)
            refine lW (pc2 o1 (fun v31 v32 => [(0, .p 70000 0), (3, .d ((kI .i64).sig 1)), (5, .p 5 0), (6, .d ((kI .i64).sig v32)), (40, .d ((kI .i64).sig (y21.2.Text.length : Int))), (41, .d ((kI .i64).sig v31))]) (fun v31 v32 => [.box 5 93 [.d (kI .i64) y21.2.Kind, .d kS y21.2.Text, .d (kI .i64) y21.2.At], .box 4 93 [.d (kI .i64) y1.2.Kind, .d kS y1.2.Text, .d (kI .i64) y1.2.At], .box 70000 138 [.d (kL kS) y21.1.l_.Names, .d (kL (kI .u32)) y21.1.l_.Up, .d (kL (kR f_api_Tok)) y21.1.toks_, .d (kI .i64) y21.1.i_, .d (kI .i64) y21.1.bad_]]) (code_reader_number.l1.partial_correctness y21) ?_ _ _ h) ⟨rfl, rfl, rfl, rfl, rfl, rfl, trivial⟩ rfl
            clear h
            intro f' ih v31 v32 h
            refine wSeq ?_
            refine rg (cp (oLt rfl tm tm) (s2 rfl rfl) <| .nil) (by kernel_rfl) ?_
            refine pSeq ?_
            refine wSeq ?_
            rcases ic h with ⟨hp34, h⟩ | ⟨hp34, h⟩
            · refine wCT hp34 tm (s1 rfl) ?_
              refine wSkip ?_
              refine pSeq ?_
              refine wSeq ?_
              refine wBlock ?_
              refine wSeq ?_
              refine rg (cp (oMv tm) (s1 rfl) <| cp (oAs tm) (s1 rfl) <| .nil) (by kernel_rfl) ?_
              refine pSeq ?_
              obtain ⟨hc35, h⟩ := ib h
              refine rg (cp (oMv tm) (s1 rfl) <| cp (oMul (cI (by decide)) tm) (s1 rfl) <| cp (oFldP o93_1 tm) (s1 rfl) <| cr (oLdB (n := 0) (k := 1) rfl rfl rfl t9 tm) (s1 rfl) <| cp (oMv tm) (s1 rfl) <| cp (oIdxS u9 hc35.1 hc35.2 tm tm) (s2 rfl rfl) <| cp (oAnd tm (cI (by decide))) (s1 rfl) <| cp (oConv u5 u3 tm) (s1 rfl) <| cp (oAdd tm tm) (s2 rfl rfl) <| cp (oAs tm) (s1 rfl) <| .nil) (by kernel_rfl) ?_
              refine pBlkN ?_
              refine pSeq ?_
              refine rg (cp (oAdd tm (cI (by decide))) (s1 rfl) <| cp (oMv tm) (s1 rfl) <| .nil) (by kernel_rfl) ?_
              exact pLoop (lW (ih _ _ h) ⟨rfl, rfl, rfl, rfl, rfl, rfl, trivial⟩ rfl)
            · refine wCF hp34 tm (s1 rfl) ?_
              refine wExit ?_
              refine pThenX ?_
              refine pThenX ?_
              refine pBlkX ?_
              exact pJ1 _ (so h) ⟨rfl, rfl, rfl, trivial⟩ rfl
          · rintro x33 rfl
            replace h := hk1
            refine pSeq ?_
            refine wSeq ?_
            refine rg (cp (oMv tm) (s1 rfl) <| cp (oNilP tm) (s1 rfl) <| cp (oFldP o138_2 tm) (s1 rfl) <| cr (oLdB (n := 2) (k := 3) rfl rfl rfl t3 tm) (s1 rfl) <| cp (oAdd tm (cI (by decide))) (s1 rfl) <| cp (oNilP tm) (s1 rfl) <| cp (oFldP o138_2 tm) (s1 rfl) <| cwn (oSt (n := 2) (k := 3) rfl rfl rfl rfl z3 tm tm) (s2 rfl rfl) <| .nil) (by kernel_rfl) ?_
            refine pSeq ?_
            refine wSeq ?_
            refine rg (cp (oMv tm) (s1 rfl) <| cp (oMv tm) (s1 rfl) <| cp (oMul tm tm) (s2 rfl rfl) <| cp (oAs tm) (s1 rfl) <| .nil) (by kernel_rfl) ?_
            refine pSeq ?_
            refine wRet ?_
            obtain rfl := so h
            exact pS1 [2] rfl rfl (.inl rfl) rfl (.tmp rfl <| .nil)

theorem code_reader_mark.ok {a0 : code_reader} {a1 : Str} {r : code_reader} (h : code_reader_mark.f a0 a1 = some r) : FnS Tryd.prog 127 [.p 70000 0, .d (kS.sig a1)] [.box 70000 138 [.d (kL kS) a0.l_.Names, .d (kL (kI .u32)) a0.l_.Up, .d (kL (kR f_api_Tok)) a0.toks_, .d (kI .i64) a0.i_, .d (kI .i64) a0.bad_]] [70000] (.d (tup [])) [.box 70000 138 [.d (kL kS) r.l_.Names, .d (kL (kI .u32)) r.l_.Up, .d (kL (kR f_api_Tok)) r.toks_, .d (kI .i64) r.i_, .d (kI .i64) r.bad_]] := by
  refine fnIntroS Tryd.func127 rfl (by kernel_rfl) fun X H0 w0 pv => ?_
  unfold code_reader_mark.f at h
  refine wSeq ?_
  obtain ⟨y1, hy1, h⟩ := bd h
  refine rg (cp (oMv tm) (s1 rfl) <| cm (oCallS (rest := []) (R' := [.box 70000 138 [.d (kL kS) y1.1.l_.Names, .d (kL (kI .u32)) y1.1.l_.Up, .d (kL (kR f_api_Tok)) y1.1.toks_, .d (kI .i64) y1.1.i_, .d (kI .i64) y1.1.bad_]]) (out' := .d ((kR f_api_Tok).sig y1.2)) [(70000, 70000)] [] [0] [] [0] rfl (code_reader_tok.ok hy1) b89 (oE1 tm oE0) rfl rfl rfl rfl rfl rfl rfl rfl) (s1 rfl) <| cw (oAlloc (id := 4) (ls := [.d (kI .i64) 0, .d kS [], .d (kI .i64) 0]) ze93 (fun g => ⟨[(.int .i64 0)], _, rfl, zI_i64 g.H, ⟨[(.string ⟨⟨[]⟩⟩)], _, rfl, zS g.H, ⟨[(.int .i64 0)], _, rfl, zI_i64 g.H, rfl⟩⟩⟩)) trivial <| cwn (oStA (n := 0) (fs := f_api_Tok) rfl rfl z93 tm tm) (s2 rfl rfl) <| .nil) (by kernel_rfl) ?_
  refine pSeq ?_
  obtain ⟨o1, h, hk1⟩ := bd h
  refine wK5 (fun x8 x9 x10 x11 x12 => (x8, x9, x10, x11, x12) = o1) (fun x8 x9 x10 x11 x12 => []) (fun x8 x9 x10 x11 x12 => [.box 4 93 [.d (kI .i64) y1.2.Kind, .d kS y1.2.Text, .d (kI .i64) y1.2.At], .box 70000 138 [.d (kL kS) x8, .d (kL (kI .u32)) x9, .d (kL (kR f_api_Tok)) x10, .d (kI .i64) x11, .d (kI .i64) x12]]) ?_ ?_
  · refine wBlock ?_
    refine wSeq ?_
    refine rg (cp (oMv tm) (s1 rfl) <| cp (oNilP tm) (s1 rfl) <| cp (oFldP o138_3 tm) (s1 rfl) <| cr (oLdB (n := 1) (k := 4) rfl rfl rfl t27 tm) (s1 rfl) <| cp (oNe rfl tm (cI (by decide))) (s1 rfl) <| cp (oAs tm) (s1 rfl) <| .nil) (by kernel_rfl) ?_
    refine pSeq ?_
    rcases ic h with ⟨hp13, h⟩ | ⟨hp13, h⟩
    · refine wNT hp13 tm (s1 rfl) ?_
      obtain ⟨o2, h, hk2⟩ := bd h
      refine wJ1 (fun x15 => x15 = o2) (fun x15 => [(0, .p 70000 0), (20, .d (kB.sig x15))]) (fun x15 => [.box 4 93 [.d (kI .i64) y1.2.Kind, .d kS y1.2.Text, .d (kI .i64) y1.2.At], .box 70000 138 [.d (kL kS) y1.1.l_.Names, .d (kL (kI .u32)) y1.1.l_.Up, .d (kL (kR f_api_Tok)) y1.1.toks_, .d (kI .i64) y1.1.i_, .d (kI .i64) y1.1.bad_]]) ?_ ?_
      · rcases ic h with ⟨hp16, h⟩ | ⟨hp16, h⟩
        · refine rg (cp (oFldP o93_0 tm) (s1 rfl) <| cr (oLdB (n := 0) (k := 0) rfl rfl rfl t3 tm) (s1 rfl) <| cp (oNe rfl tm (cI (by decide))) (s1 rfl) <| cp (oMv tm) (s1 rfl) <| cgB (nf hp16) rfl rfl (oFldP o93_1 tm) (s1 rfl) <| crgB (nf hp16) rfl rfl (oLdB (n := 0) (k := 1) rfl rfl rfl t9 tm) (s1 rfl) <| cgB (nf hp16) rfl rfl (oMv tm) (s1 rfl) <| cgB (nf hp16) rfl rfl (oSNe rfl tm tm) (s2 rfl rfl) <| cp (oPkF (nf hp16) tm tm) (s2 rfl rfl) <| cp (oAs tm) (s1 rfl) <| .nil) (by kernel_rfl) ?_
          exact pJ1 _ (so h) ⟨rfl, rfl, trivial⟩ rfl
        · refine rg (cp (oFldP o93_0 tm) (s1 rfl) <| cr (oLdB (n := 0) (k := 0) rfl rfl rfl t3 tm) (s1 rfl) <| cp (oNe rfl tm (cI (by decide))) (s1 rfl) <| cp (oMv tm) (s1 rfl) <| csB (nt hp16) rfl rfl <| csB (nt hp16) rfl rfl <| csB (nt hp16) rfl rfl <| csB (nt hp16) rfl rfl <| cp (oPkT (nt hp16) tm cB) (s1 rfl) <| cp (oAs tm) (s1 rfl) <| .nil) (by kernel_rfl) ?_
          exact pJ1 _ (so h) ⟨rfl, rfl, trivial⟩ rfl
      · rintro x15 rfl
        replace h := hk2
        rcases ic h with ⟨hp17, h⟩ | ⟨hp17, h⟩
        · refine wBT hp17 tm (s1 rfl) ?_
          obtain ⟨y18, hy18, h⟩ := bd h
          refine rg (cp (oMv tm) (s1 rfl) <| cm (oCallS (rest := [.box 4 93 [.d (kI .i64) y1.2.Kind, .d kS y1.2.Text, .d (kI .i64) y1.2.At]]) (R' := [.box 4 93 [.d (kI .i64) y1.2.Kind, .d kS y1.2.Text, .d (kI .i64) y1.2.At], .box 70000 138 [.d (kL kS) y18.l_.Names, .d (kL (kI .u32)) y18.l_.Up, .d (kL (kR f_api_Tok)) y18.toks_, .d (kI .i64) y18.i_, .d (kI .i64) y18.bad_]]) (out' := .d (tup [])) [(70000, 70000)] [] [1] [0] [1, 0] rfl (code_reader_fail.ok hy18) b90 (oE1 tm (oE1 (cI (by decide)) oE0)) rfl rfl rfl rfl rfl rfl rfl rfl) (s1 rfl) <| .nil) (by kernel_rfl) ?_
          refine pBlkN ?_
          exact pJ5 _ _ _ _ _ (so h) trivial rfl
        · refine wBF hp17 tm (s1 rfl) ?_
          refine rg (cp (oMv tm) (s1 rfl) <| cp (oNilP tm) (s1 rfl) <| cp (oFldP o138_2 tm) (s1 rfl) <| cr (oLdB (n := 1) (k := 3) rfl rfl rfl t3 tm) (s1 rfl) <| cp (oAdd tm (cI (by decide))) (s1 rfl) <| cp (oNilP tm) (s1 rfl) <| cp (oFldP o138_2 tm) (s1 rfl) <| cwn (oSt (n := 1) (k := 3) rfl rfl rfl rfl z3 tm tm) (s2 rfl rfl) <| .nil) (by kernel_rfl) ?_
          refine pBlkN ?_
          exact pJ5 _ _ _ _ _ (so h) trivial rfl
    · refine wNF hp13 tm (s1 rfl) ?_
      refine wSkip ?_
      refine pBlkN ?_
      exact pJ5 _ _ _ _ _ (so h) trivial rfl
  · rintro x8 x9 x10 x11 x12 rfl
    replace h := hk1
    obtain rfl := so h
    exact pSn [1] rfl rfl (.inr rfl) rfl rfl (.nil)

theorem order_Find.ok {a0 : api_Lattice} {a1 : Str} {r : Int × Int} (h : order_Find.f a0 a1 = some r) : FnA Tryd.prog 145 [(kR f_api_Lattice).sig a0, kS.sig a1] (tup [(kI .i64).sig r.1, (kI .i64).sig r.2]) := by
  refine fnIntro Tryd.func145 rfl (by kernel_rfl) fun H0 w0 => ?_
  unfold order_Find.f at h
  refine wSeq ?_
  refine rg (cp (oBox tm) (s1 rfl) <| cp (oAs (cI (by decide))) trivial <| cp (oAs (cI (by decide))) trivial <| .nil) (by kernel_rfl) ?_
  refine pSeq ?_
  refine wSeq ?_
  refine wSeq ?_
  obtain ⟨y1, hy1, h⟩ := bd h
  refine rg (cp (oLd t38 tm) (s1 rfl) <| cp (oCall rfl (lattice_Check.ok hy1) b39 (opds_cons tm opds_nil)) (s1 rfl) <| cp (oAs tm) (s1 rfl) <| .nil) (by kernel_rfl) ?_
  refine pSeq ?_
  refine wSeq ?_
  refine rg (cp (oMv tm) (s1 rfl) <| cp (oNe rfl tm (cI (by decide))) (s1 rfl) <| .nil) (by kernel_rfl) ?_
  refine pSeq ?_
  rcases ic h with ⟨hp2, h⟩ | ⟨hp2, h⟩
  · refine wNT hp2 tm (s1 rfl) ?_
    refine wSkip ?_
    refine pSeq ?_
    refine wSeq ?_
    obtain ⟨y3, hy3, h⟩ := bd h
    refine rg (cp (oFld (fs := f_api_Lattice) (k := 0) rfl o38_0 tm) (s1 rfl) <| cp (oLd t35 tm) (s1 rfl) <| cp (oMv tm) (s1 rfl) <| cp (oCall rfl (slices_Index_string_string.ok hy3) b65 (opds_cons tm (opds_cons tm opds_nil))) (s2 rfl rfl) <| cp (oAs tm) (s1 rfl) <| .nil) (by kernel_rfl) ?_
    refine pSeq ?_
    refine wSeq ?_
    refine wSeq ?_
    refine rg (cp (oMv tm) (s1 rfl) <| cp (oLt rfl tm (cI (by decide))) (s1 rfl) <| .nil) (by kernel_rfl) ?_
    refine pSeq ?_
    rcases ic h with ⟨hp4, h⟩ | ⟨hp4, h⟩
    · refine wCT hp4 tm (s1 rfl) ?_
      refine wSeq ?_
      refine rg (cp (oAs (cI (by decide))) trivial <| cp (oAs (cI (by decide))) trivial <| .nil) (by kernel_rfl) ?_
      refine pSeq ?_
      refine wRet ?_
      refine pThenR ?_
      obtain rfl := so h
      exact pRn (.inl rfl) rfl rfl (.tmp rfl <| .tmp rfl <| .nil)
    · refine wCF hp4 tm (s1 rfl) ?_
      refine wSkip ?_
      refine pSeq ?_
      refine wSeq ?_
      refine rg (cp (oMv tm) (s1 rfl) <| cp (oAs tm) (s1 rfl) <| cp (oAs (cI (by decide))) trivial <| .nil) (by kernel_rfl) ?_
      refine pSeq ?_
      refine wRet ?_
      obtain rfl := so h
      exact pRn (.inl rfl) rfl rfl (.tmp rfl <| .tmp rfl <| .nil)
  · refine wNF hp2 tm (s1 rfl) ?_
    refine wSeq ?_
    refine rg (cp (oMv tm) (s1 rfl) <| cp (oAs (cI (by decide))) trivial <| cp (oAs tm) (s1 rfl) <| .nil) (by kernel_rfl) ?_
    refine pSeq ?_
    refine wRet ?_
    refine pThenR ?_
    obtain rfl := so h
    exact pRn (.inl rfl) rfl rfl (.tmp rfl <| .tmp rfl <| .nil)

theorem code_reader_label.ok {a0 : code_reader} {r : code_reader × Int} (h : code_reader_label.f a0 = some r) : FnS Tryd.prog 126 [.p 70000 0] [.box 70000 138 [.d (kL kS) a0.l_.Names, .d (kL (kI .u32)) a0.l_.Up, .d (kL (kR f_api_Tok)) a0.toks_, .d (kI .i64) a0.i_, .d (kI .i64) a0.bad_]] [70000] (.d ((kI .i64).sig r.2)) [.box 70000 138 [.d (kL kS) r.1.l_.Names, .d (kL (kI .u32)) r.1.l_.Up, .d (kL (kR f_api_Tok)) r.1.toks_, .d (kI .i64) r.1.i_, .d (kI .i64) r.1.bad_]] := by
  refine fnIntroS Tryd.func126 rfl (by kernel_rfl) fun X H0 w0 pv => ?_
  unfold code_reader_label.f at h
  refine wSeq ?_
  refine rg (cp (oAs (cI (by decide))) trivial <| .nil) (by kernel_rfl) ?_
  refine pSeq ?_
  refine wSeq ?_
  obtain ⟨y1, hy1, h⟩ := bd h
  refine rg (cp (oMv tm) (s1 rfl) <| cm (oCallS (rest := []) (R' := [.box 70000 138 [.d (kL kS) y1.l_.Names, .d (kL (kI .u32)) y1.l_.Up, .d (kL (kR f_api_Tok)) y1.toks_, .d (kI .i64) y1.i_, .d (kI .i64) y1.bad_]]) (out' := .d (tup [])) [(70000, 70000)] [] [0] [] [0] rfl (code_reader_mark.ok hy1) b127 (oE1 tm (oE1 (cS (by decide)) oE0)) rfl rfl rfl rfl rfl rfl rfl rfl) (s1 rfl) <| .nil) (by kernel_rfl) ?_
  refine pSeq ?_
  refine wSeq ?_
  obtain ⟨y2, hy2, h⟩ := bd h
  refine rg (cp (oMv tm) (s1 rfl) <| cm (oCallS (rest := []) (R' := [.box 70000 138 [.d (kL kS) y2.1.l_.Names, .d (kL (kI .u32)) y2.1.l_.Up, .d (kL (kR f_api_Tok)) y2.1.toks_, .d (kI .i64) y2.1.i_, .d (kI .i64) y2.1.bad_]]) (out' := .d ((kR f_api_Tok).sig y2.2)) [(70000, 70000)] [] [0] [] [0] rfl (code_reader_tok.ok hy2) b89 (oE1 tm oE0) rfl rfl rfl rfl rfl rfl rfl rfl) (s1 rfl) <| cw (oAlloc (id := 3) (ls := [.d (kI .i64) 0, .d kS [], .d (kI .i64) 0]) ze93 (fun g => ⟨[(.int .i64 0)], _, rfl, zI_i64 g.H, ⟨[(.string ⟨⟨[]⟩⟩)], _, rfl, zS g.H, ⟨[(.int .i64 0)], _, rfl, zI_i64 g.H, rfl⟩⟩⟩)) trivial <| cwn (oStA (n := 0) (fs := f_api_Tok) rfl rfl z93 tm tm) (s2 rfl rfl) <| .nil) (by kernel_rfl) ?_
  refine pSeq ?_
  refine wSeq ?_
  refine wBlock ?_
  refine wSeq ?_
  refine rg (cp (oMv tm) (s1 rfl) <| cp (oNilP tm) (s1 rfl) <| cp (oFldP o138_3 tm) (s1 rfl) <| cr (oLdB (n := 1) (k := 4) rfl rfl rfl t27 tm) (s1 rfl) <| cp (oNe rfl tm (cI (by decide))) (s1 rfl) <| cp (oAs tm) (s1 rfl) <| .nil) (by kernel_rfl) ?_
  refine pSeq ?_
  rcases ic h with ⟨hp3, h⟩ | ⟨hp3, h⟩
  · refine wNT hp3 tm (s1 rfl) ?_
    refine wSeq ?_
    refine rg (cp (oFldP o93_0 tm) (s1 rfl) <| cr (oLdB (n := 0) (k := 0) rfl rfl rfl t3 tm) (s1 rfl) <| cp (oNe rfl tm (cI (by decide))) (s1 rfl) <| cp (oAs tm) (s1 rfl) <| .nil) (by kernel_rfl) ?_
    refine pSeq ?_
    rcases ic h with ⟨hp4, h⟩ | ⟨hp4, h⟩
    · refine wNT hp4 tm (s1 rfl) ?_
      refine wSkip ?_
      refine pBlkN ?_
      refine pSeq ?_
      refine wSeq ?_
      obtain ⟨y5, hy5, h⟩ := bd h
      refine rgD hm (cp (oMv tm) (s1 rfl) <| cp (oNilP tm) (s1 rfl) <| cp (oFldP o138_0 tm) (s1 rfl) <| cr (oLdP (n := 1) (k := 0) (m := 2) (d := (kR f_api_Lattice)) (u := y2.1.l_) (lfS (lfC lf1 (lfC lf1 lfN))) rfl rfl rfl t38 tm) (s1 rfl) <| cp (oFldP o93_1 tm) (s1 rfl) <| cr (oLdB (n := 0) (k := 1) rfl rfl rfl t9 tm) (s1 rfl) <| cp (oCall rfl (order_Find.ok hy5) b145 (opds_cons tm (opds_cons tm opds_nil))) (s2 rfl rfl) <| cp (oMv tm) (s1 rfl) <| cp (oExt (k := 0) rfl tm) (s1 rfl) <| cp (oExt (k := 1) rfl tm) (s1 rfl) <| cp (oAs tm) (s1 rfl) <| cp (oAs tm) (s1 rfl) <| .nil) (by kernel_rfl) (by kernel_rfl) ?_
      refine pSeq ?_
      refine wSeq ?_
      refine wSeq ?_
      refine rg (cp (oMv tm) (s1 rfl) <| cp (oNe rfl tm (cI (by decide))) (s1 rfl) <| .nil) (by kernel_rfl) ?_
      refine pSeq ?_
      rcases ic h with ⟨hp6, h⟩ | ⟨hp6, h⟩
      · refine wNT hp6 tm (s1 rfl) ?_
        refine wSkip ?_
        refine pSeq ?_
        refine wSeq ?_
        refine rg (cp (oMv tm) (s1 rfl) <| cp (oNilP tm) (s1 rfl) <| cp (oFldP o138_2 tm) (s1 rfl) <| cr (oLdB (n := 1) (k := 3) rfl rfl rfl t3 tm) (s1 rfl) <| cp (oAdd tm (cI (by decide))) (s1 rfl) <| cp (oNilP tm) (s1 rfl) <| cp (oFldP o138_2 tm) (s1 rfl) <| cwn (oSt (n := 1) (k := 3) rfl rfl rfl rfl z3 tm tm) (s2 rfl rfl) <| .nil) (by kernel_rfl) ?_
        refine pSeq ?_
        refine wSeq ?_
        refine rg (cp (oMv tm) (s1 rfl) <| cp (oAs tm) (s1 rfl) <| .nil) (by kernel_rfl) ?_
        refine pSeq ?_
        refine wRet ?_
        obtain rfl := so h
        exact pS1 [1] rfl rfl (.inl rfl) rfl (.tmp rfl <| .nil)
      · refine wNF hp6 tm (s1 rfl) ?_
        refine wSeq ?_
        obtain ⟨y7, hy7, h⟩ := bd h
        refine rg (cp (oMv tm) (s1 rfl) <| cm (oCallS (rest := [.box 3 93 [.d (kI .i64) y2.2.Kind, .d kS y2.2.Text, .d (kI .i64) y2.2.At]]) (R' := [.box 3 93 [.d (kI .i64) y2.2.Kind, .d kS y2.2.Text, .d (kI .i64) y2.2.At], .box 70000 138 [.d (kL kS) y7.l_.Names, .d (kL (kI .u32)) y7.l_.Up, .d (kL (kR f_api_Tok)) y7.toks_, .d (kI .i64) y7.i_, .d (kI .i64) y7.bad_]]) (out' := .d (tup [])) [(70000, 70000)] [] [1] [0] [1, 0] rfl (code_reader_fail.ok hy7) b90 (oE1 tm (oE1 (cI (by decide)) oE0)) rfl rfl rfl rfl rfl rfl rfl rfl) (s1 rfl) <| .nil) (by kernel_rfl) ?_
        refine pSeq ?_
        refine wSeq ?_
        refine rg (cp (oAs (cI (by decide))) trivial <| .nil) (by kernel_rfl) ?_
        refine pSeq ?_
        refine wRet ?_
        refine pThenR ?_
        obtain rfl := so h
        exact pS1 [1] rfl rfl (.inl rfl) rfl (.tmp rfl <| .nil)
    · refine wNF hp4 tm (s1 rfl) ?_
      refine wSeq ?_
      obtain ⟨y8, hy8, h⟩ := bd h
      refine rg (cp (oMv tm) (s1 rfl) <| cm (oCallS (rest := [.box 3 93 [.d (kI .i64) y2.2.Kind, .d kS y2.2.Text, .d (kI .i64) y2.2.At]]) (R' := [.box 3 93 [.d (kI .i64) y2.2.Kind, .d kS y2.2.Text, .d (kI .i64) y2.2.At], .box 70000 138 [.d (kL kS) y8.l_.Names, .d (kL (kI .u32)) y8.l_.Up, .d (kL (kR f_api_Tok)) y8.toks_, .d (kI .i64) y8.i_, .d (kI .i64) y8.bad_]]) (out' := .d (tup [])) [(70000, 70000)] [] [1] [0] [1, 0] rfl (code_reader_fail.ok hy8) b90 (oE1 tm (oE1 (cI (by decide)) oE0)) rfl rfl rfl rfl rfl rfl rfl rfl) (s1 rfl) <| .nil) (by kernel_rfl) ?_
      refine pSeq ?_
      refine wSeq ?_
      refine rg (cp (oAs (cI (by decide))) trivial <| .nil) (by kernel_rfl) ?_
      refine pSeq ?_
      refine wRet ?_
      refine pBlkR ?_
      refine pThenR ?_
      obtain rfl := so h
      exact pS1 [1] rfl rfl (.inl rfl) rfl (.tmp rfl <| .nil)
  · refine wNF hp3 tm (s1 rfl) ?_
    refine wSeq ?_
    refine rg (cp (oAs (cI (by decide))) trivial <| .nil) (by kernel_rfl) ?_
    refine pSeq ?_
    refine wRet ?_
    refine pBlkR ?_
    refine pThenR ?_
    obtain rfl := so h
    exact pS1 [1] rfl rfl (.inl rfl) rfl (.tmp rfl <| .nil)

theorem code_reader_one.ok {a0 : code_reader} {a1 : Int} {r : code_reader × api_Instr} (h : code_reader_one.f a0 a1 = some r) : FnS Tryd.prog 91 [.p 70000 0, .d ((kI .i64).sig a1)] [.box 70000 138 [.d (kL kS) a0.l_.Names, .d (kL (kI .u32)) a0.l_.Up, .d (kL (kR f_api_Tok)) a0.toks_, .d (kI .i64) a0.i_, .d (kI .i64) a0.bad_]] [70000] (.d ((kR f_api_Instr).sig r.2)) [.box 70000 138 [.d (kL kS) r.1.l_.Names, .d (kL (kI .u32)) r.1.l_.Up, .d (kL (kR f_api_Tok)) r.1.toks_, .d (kI .i64) r.1.i_, .d (kI .i64) r.1.bad_]] := by
  refine fnIntroS Tryd.func91 rfl (by kernel_rfl) fun X H0 w0 pv => ?_
  unfold code_reader_one.f at h
  refine wSeq ?_
  refine rg (cw (oAlloc (id := 4) (ls := [.d (kI .i64) 0, .d (kI .i64) 0, .d (kI .i64) 0]) ze78 (fun g => ⟨[(.int .i64 0)], _, rfl, zI_i64 g.H, ⟨[(.int .i64 0)], _, rfl, zI_i64 g.H, ⟨[(.int .i64 0)], _, rfl, zI_i64 g.H, rfl⟩⟩⟩)) trivial <| .nil) (by kernel_rfl) ?_
  refine pSeq ?_
  refine wSeq ?_
  refine rg (cp (oMv tm) (s1 rfl) <| cp (oNilP tm) (s1 rfl) <| cp (oFldP o138_2 tm) (s1 rfl) <| cr (oLdB (n := 1) (k := 3) rfl rfl rfl t3 tm) (s1 rfl) <| cp (oAs tm) (s1 rfl) <| .nil) (by kernel_rfl) ?_
  refine pSeq ?_
  refine wSeq ?_
  refine rg (cp (oMv tm) (s1 rfl) <| cp (oBuild (fs := f_api_Instr) (u := ⟨a1, 0, 0⟩) rfl ze78 pl78 po78 (.op (zc := [(.int .i64 0)]) tm rfl (.ze (zc := [(.int .i64 0)]) zI_i64 (.ze (zc := [(.int .i64 0)]) zI_i64 .nil)))) (s1 rfl) <| cw (oAlloc (id := 6) (ls := [.d (kI .i64) 0, .d (kI .i64) 0, .d (kI .i64) 0]) ze78 (fun g => ⟨[(.int .i64 0)], _, rfl, zI_i64 g.H, ⟨[(.int .i64 0)], _, rfl, zI_i64 g.H, ⟨[(.int .i64 0)], _, rfl, zI_i64 g.H, rfl⟩⟩⟩)) trivial <| cwn (oStA (n := 0) (fs := f_api_Instr) rfl rfl z78 tm tm) (s2 rfl rfl) <| .nil) (by kernel_rfl) ?_
  refine pSeq ?_
  refine wSeq ?_
  refine wSeq ?_
  refine rg (cp (oMv tm) (s1 rfl) <| cp (oNilP tm) (s1 rfl) <| cp (oFldP o138_2 tm) (s1 rfl) <| cr (oLdB (n := 2) (k := 3) rfl rfl rfl t3 tm) (s1 rfl) <| cp (oAdd tm (cI (by decide))) (s1 rfl) <| cp (oNilP tm) (s1 rfl) <| cp (oFldP o138_2 tm) (s1 rfl) <| cwn (oSt (n := 2) (k := 3) rfl rfl rfl rfl z3 tm tm) (s2 rfl rfl) <| .nil) (by kernel_rfl) ?_
  refine pSeq ?_
  refine wSeq ?_
  obtain ⟨y1, hy1, h⟩ := bd h
  refine rg (cp (oMv tm) (s1 rfl) <| cp (oCall rfl (code_number.ok hy1) b41 (opds_cons tm opds_nil)) (s1 rfl) <| .nil) (by kernel_rfl) ?_
  refine pSeq ?_
  rcases ic h with ⟨hp2, h⟩ | ⟨hp2, h⟩
  · refine wBT hp2 tm (s1 rfl) ?_
    obtain ⟨y3, hy3, h⟩ := bd h
    refine rg (cp (oMv tm) (s1 rfl) <| cm (oCallS (rest := [.box 6 78 [.d (kI .i64) a1, .d (kI .i64) 0, .d (kI .i64) 0], .box 4 78 [.d (kI .i64) 0, .d (kI .i64) 0, .d (kI .i64) 0]]) (R' := [.box 6 78 [.d (kI .i64) a1, .d (kI .i64) 0, .d (kI .i64) 0], .box 4 78 [.d (kI .i64) 0, .d (kI .i64) 0, .d (kI .i64) 0], .box 70000 138 [.d (kL kS) y3.1.l_.Names, .d (kL (kI .u32)) y3.1.l_.Up, .d (kL (kR f_api_Tok)) y3.1.toks_, .d (kI .i64) y3.1.i_, .d (kI .i64) y3.1.bad_]]) (out' := .d ((kI .i64).sig y3.2)) [(70000, 70000)] [] [2] [0, 1] [1, 2, 0] rfl (code_reader_number.ok hy3) b125 (oE1 tm oE0) rfl rfl rfl rfl rfl rfl rfl rfl) (s1 rfl) <| cp (oFldP o78_1 tm) (s1 rfl) <| cwn (oSt (n := 0) (k := 1) rfl rfl rfl rfl z3 tm tm) (s2 rfl rfl) <| .nil) (by kernel_rfl) ?_
    refine pSeq ?_
    refine wSeq ?_
    obtain ⟨o1, h, hk1⟩ := bd h
    refine wJ1 (fun x5 => x5 = o1) (fun x5 => [(0, .p 70000 0), (4, .p 4 0), (5, .d ((kI .i64).sig a0.i_)), (6, .p 6 0), (33, .d (kB.sig x5))]) (fun x5 => [.box 6 78 [.d (kI .i64) a1, .d (kI .i64) y3.2, .d (kI .i64) 0], .box 4 78 [.d (kI .i64) 0, .d (kI .i64) 0, .d (kI .i64) 0], .box 70000 138 [.d (kL kS) y3.1.l_.Names, .d (kL (kI .u32)) y3.1.l_.Up, .d (kL (kR f_api_Tok)) y3.1.toks_, .d (kI .i64) y3.1.i_, .d (kI .i64) y3.1.bad_]]) ?_ ?_
    · rcases ic h with ⟨hp6, h⟩ | ⟨hp6, h⟩
      · refine rg (cp (oMv tm) (s1 rfl) <| cp (oEq rfl tm (cI (by decide))) (s1 rfl) <| cp (oMv tm) (s1 rfl) <| cgB (decide_eq_true hp6) rfl rfl (oMv tm) (s1 rfl) <| cgB (decide_eq_true hp6) rfl rfl (oNilP tm) (s1 rfl) <| cgB (decide_eq_true hp6) rfl rfl (oFldP o138_3 tm) (s1 rfl) <| crgB (decide_eq_true hp6) rfl rfl (oLdB (n := 2) (k := 4) rfl rfl rfl t27 tm) (s1 rfl) <| cgB (decide_eq_true hp6) rfl rfl (oEq rfl tm (cI (by decide))) (s1 rfl) <| cp (oPkT (decide_eq_true hp6) tm tm) (s2 rfl rfl) <| .nil) (by kernel_rfl) ?_
        exact pJ1 _ (so h) ⟨rfl, rfl, rfl, rfl, rfl, trivial⟩ rfl
      · refine rg (cp (oMv tm) (s1 rfl) <| cp (oEq rfl tm (cI (by decide))) (s1 rfl) <| cp (oMv tm) (s1 rfl) <| csB (decide_eq_false hp6) rfl rfl <| csB (decide_eq_false hp6) rfl rfl <| csB (decide_eq_false hp6) rfl rfl <| csB (decide_eq_false hp6) rfl rfl <| csB (decide_eq_false hp6) rfl rfl <| cp (oPkF (decide_eq_false hp6) tm cB) (s1 rfl) <| .nil) (by kernel_rfl) ?_
        exact pJ1 _ (so h) ⟨rfl, rfl, rfl, rfl, rfl, trivial⟩ rfl
    · rintro x5 rfl
      replace h := hk1
      rcases ic h with ⟨hp7, h⟩ | ⟨hp7, h⟩
      · refine wBT hp7 tm (s1 rfl) ?_
        obtain ⟨y8, hy8, h⟩ := bd h
        refine rg (cp (oMv tm) (s1 rfl) <| cm (oCallS (rest := [.box 6 78 [.d (kI .i64) a1, .d (kI .i64) y3.2, .d (kI .i64) 0], .box 4 78 [.d (kI .i64) 0, .d (kI .i64) 0, .d (kI .i64) 0]]) (R' := [.box 6 78 [.d (kI .i64) a1, .d (kI .i64) y3.2, .d (kI .i64) 0], .box 4 78 [.d (kI .i64) 0, .d (kI .i64) 0, .d (kI .i64) 0], .box 70000 138 [.d (kL kS) y8.1.l_.Names, .d (kL (kI .u32)) y8.1.l_.Up, .d (kL (kR f_api_Tok)) y8.1.toks_, .d (kI .i64) y8.1.i_, .d (kI .i64) y8.1.bad_]]) (out' := .d ((kI .i64).sig y8.2)) [(70000, 70000)] [] [2] [0, 1] [1, 2, 0] rfl (code_reader_label.ok hy8) b126 (oE1 tm oE0) rfl rfl rfl rfl rfl rfl rfl rfl) (s1 rfl) <| cp (oFldP o78_2 tm) (s1 rfl) <| cwn (oSt (n := 0) (k := 2) rfl rfl rfl rfl z3 tm tm) (s2 rfl rfl) <| .nil) (by kernel_rfl) ?_
        refine pSeq ?_
        refine wSeq ?_
        obtain ⟨y9, hy9, h⟩ := bd h
        refine rg (cp (oMv tm) (s1 rfl) <| cm (oCallS (rest := [.box 6 78 [.d (kI .i64) a1, .d (kI .i64) y3.2, .d (kI .i64) y8.2], .box 4 78 [.d (kI .i64) 0, .d (kI .i64) 0, .d (kI .i64) 0]]) (R' := [.box 6 78 [.d (kI .i64) a1, .d (kI .i64) y3.2, .d (kI .i64) y8.2], .box 4 78 [.d (kI .i64) 0, .d (kI .i64) 0, .d (kI .i64) 0], .box 70000 138 [.d (kL kS) y9.l_.Names, .d (kL (kI .u32)) y9.l_.Up, .d (kL (kR f_api_Tok)) y9.toks_, .d (kI .i64) y9.i_, .d (kI .i64) y9.bad_]]) (out' := .d (tup [])) [(70000, 70000)] [] [2] [0, 1] [1, 2, 0] rfl (code_reader_mark.ok hy9) b127 (oE1 tm (oE1 (cS (by decide)) oE0)) rfl rfl rfl rfl rfl rfl rfl rfl) (s1 rfl) <| .nil) (by kernel_rfl) ?_
        refine pSeq ?_
        refine wSeq ?_
        obtain ⟨o1, h, hk1⟩ := bd h
        refine wJ1 (fun x12 => x12 = o1) (fun x12 => [(0, .p 70000 0), (4, .p 4 0), (5, .d ((kI .i64).sig a0.i_)), (6, .p 6 0), (54, .d (kB.sig x12))]) (fun x12 => [.box 6 78 [.d (kI .i64) a1, .d (kI .i64) y3.2, .d (kI .i64) y8.2], .box 4 78 [.d (kI .i64) 0, .d (kI .i64) 0, .d (kI .i64) 0], .box 70000 138 [.d (kL kS) y9.l_.Names, .d (kL (kI .u32)) y9.l_.Up, .d (kL (kR f_api_Tok)) y9.toks_, .d (kI .i64) y9.i_, .d (kI .i64) y9.bad_]]) ?_ ?_
        · rcases ic h with ⟨hp13, h⟩ | ⟨hp13, h⟩
          · obtain ⟨y14, hy14, h⟩ := bd h
            refine rgD hm (cp (oMv tm) (s1 rfl) <| cp (oNilP tm) (s1 rfl) <| cp (oFldP o138_3 tm) (s1 rfl) <| cr (oLdB (n := 2) (k := 4) rfl rfl rfl t27 tm) (s1 rfl) <| cp (oEq rfl tm (cI (by decide))) (s1 rfl) <| cp (oMv tm) (s1 rfl) <| cgB (decide_eq_true hp13) rfl rfl (oMv tm) (s1 rfl) <| cgB (decide_eq_true hp13) rfl rfl (oNilP tm) (s1 rfl) <| cgB (decide_eq_true hp13) rfl rfl (oFldP o138_0 tm) (s1 rfl) <| cgB (decide_eq_true hp13) rfl rfl (oFldP o38_1 tm) (s1 rfl) <| crgB (decide_eq_true hp13) rfl rfl (oLdB (n := 2) (k := 1) rfl rfl rfl t36 tm) (s1 rfl) <| cgB (decide_eq_true hp13) rfl rfl (oLenL u36 tm) (s1 rfl) <| crgB (decide_eq_true hp13) rfl rfl (oLdA (n := 0) (fs := f_api_Instr) (u := ⟨a1, y3.2, y8.2⟩) rfl ⟨rfl, rfl, rfl, trivial⟩ t78 tm) (s1 rfl) <| cgB (decide_eq_true hp13) rfl rfl (oCall rfl (code_right.ok hy14) b49 (opds_cons tm (opds_cons tm opds_nil))) (s2 rfl rfl) <| cgB (decide_eq_true hp13) rfl rfl (oNot tm) (s1 rfl) <| cp (oPkT (decide_eq_true hp13) tm tm) (s2 rfl rfl) <| .nil) (by kernel_rfl) (by kernel_rfl) ?_
            exact pJ1 _ (so h) ⟨rfl, rfl, rfl, rfl, rfl, trivial⟩ rfl
          · refine rgD hm (cp (oMv tm) (s1 rfl) <| cp (oNilP tm) (s1 rfl) <| cp (oFldP o138_3 tm) (s1 rfl) <| cr (oLdB (n := 2) (k := 4) rfl rfl rfl t27 tm) (s1 rfl) <| cp (oEq rfl tm (cI (by decide))) (s1 rfl) <| cp (oMv tm) (s1 rfl) <| csB (decide_eq_false hp13) rfl rfl <| csB (decide_eq_false hp13) rfl rfl <| csB (decide_eq_false hp13) rfl rfl <| csB (decide_eq_false hp13) rfl rfl <| csB (decide_eq_false hp13) rfl rfl <| csB (decide_eq_false hp13) rfl rfl <| csB (decide_eq_false hp13) rfl rfl <| csB (decide_eq_false hp13) rfl rfl <| csB (decide_eq_false hp13) rfl rfl <| cp (oPkF (decide_eq_false hp13) tm cB) (s1 rfl) <| .nil) (by kernel_rfl) (by kernel_rfl) ?_
            exact pJ1 _ (so h) ⟨rfl, rfl, rfl, rfl, rfl, trivial⟩ rfl
        · rintro x12 rfl
          replace h := hk1
          rcases ic h with ⟨hp15, h⟩ | ⟨hp15, h⟩
          · refine wBT hp15 tm (s1 rfl) ?_
            refine wSeq ?_
            refine rg (cp (oMv tm) (s1 rfl) <| cp (oMv tm) (s1 rfl) <| cp (oNilP tm) (s1 rfl) <| cp (oFldP o138_2 tm) (s1 rfl) <| cwn (oSt (n := 2) (k := 3) rfl rfl rfl rfl z3 tm tm) (s2 rfl rfl) <| .nil) (by kernel_rfl) ?_
            refine pSeq ?_
            obtain ⟨y16, hy16, h⟩ := bd h
            refine rg (cp (oMv tm) (s1 rfl) <| cm (oCallS (rest := [.box 6 78 [.d (kI .i64) a1, .d (kI .i64) y3.2, .d (kI .i64) y8.2], .box 4 78 [.d (kI .i64) 0, .d (kI .i64) 0, .d (kI .i64) 0]]) (R' := [.box 6 78 [.d (kI .i64) a1, .d (kI .i64) y3.2, .d (kI .i64) y8.2], .box 4 78 [.d (kI .i64) 0, .d (kI .i64) 0, .d (kI .i64) 0], .box 70000 138 [.d (kL kS) y16.l_.Names, .d (kL (kI .u32)) y16.l_.Up, .d (kL (kR f_api_Tok)) y16.toks_, .d (kI .i64) y16.i_, .d (kI .i64) y16.bad_]]) (out' := .d (tup [])) [(70000, 70000)] [] [2] [0, 1] [1, 2, 0] rfl (code_reader_fail.ok hy16) b90 (oE1 tm (oE1 (cI (by decide)) oE0)) rfl rfl rfl rfl rfl rfl rfl rfl) (s1 rfl) <| .nil) (by kernel_rfl) ?_
            refine pSeq ?_
            refine wSeq ?_
            refine rg (cr (oLdA (n := 0) (fs := f_api_Instr) (u := ⟨a1, y3.2, y8.2⟩) rfl ⟨rfl, rfl, rfl, trivial⟩ t78 tm) (s1 rfl) <| cwn (oStA (n := 1) (fs := f_api_Instr) rfl rfl z78 tm tm) (s2 rfl rfl) <| .nil) (by kernel_rfl) ?_
            refine pSeq ?_
            refine wRet ?_
            obtain rfl := so h
            exact pS1 [2] rfl rfl (.inl rfl) rfl (.box (n := 1) (fs := f_api_Instr) (u := ⟨a1, y3.2, y8.2⟩) rfl rfl ⟨rfl, rfl, rfl, trivial⟩ t78 <| .nil)
          · refine wBF hp15 tm (s1 rfl) ?_
            refine wSkip ?_
            refine pSeq ?_
            refine wSeq ?_
            refine rg (cr (oLdA (n := 0) (fs := f_api_Instr) (u := ⟨a1, y3.2, y8.2⟩) rfl ⟨rfl, rfl, rfl, trivial⟩ t78 tm) (s1 rfl) <| cwn (oStA (n := 1) (fs := f_api_Instr) rfl rfl z78 tm tm) (s2 rfl rfl) <| .nil) (by kernel_rfl) ?_
            refine pSeq ?_
            refine wRet ?_
            obtain rfl := so h
            exact pS1 [2] rfl rfl (.inl rfl) rfl (.box (n := 1) (fs := f_api_Instr) (u := ⟨a1, y3.2, y8.2⟩) rfl rfl ⟨rfl, rfl, rfl, trivial⟩ t78 <| .nil)
      · refine wBF hp7 tm (s1 rfl) ?_
        refine wSkip ?_
        refine pSeq ?_
        refine wSeq ?_
        obtain ⟨y17, hy17, h⟩ := bd h
        refine rg (cp (oMv tm) (s1 rfl) <| cm (oCallS (rest := [.box 6 78 [.d (kI .i64) a1, .d (kI .i64) y3.2, .d (kI .i64) 0], .box 4 78 [.d (kI .i64) 0, .d (kI .i64) 0, .d (kI .i64) 0]]) (R' := [.box 6 78 [.d (kI .i64) a1, .d (kI .i64) y3.2, .d (kI .i64) 0], .box 4 78 [.d (kI .i64) 0, .d (kI .i64) 0, .d (kI .i64) 0], .box 70000 138 [.d (kL kS) y17.l_.Names, .d (kL (kI .u32)) y17.l_.Up, .d (kL (kR f_api_Tok)) y17.toks_, .d (kI .i64) y17.i_, .d (kI .i64) y17.bad_]]) (out' := .d (tup [])) [(70000, 70000)] [] [2] [0, 1] [1, 2, 0] rfl (code_reader_mark.ok hy17) b127 (oE1 tm (oE1 (cS (by decide)) oE0)) rfl rfl rfl rfl rfl rfl rfl rfl) (s1 rfl) <| .nil) (by kernel_rfl) ?_
        refine pSeq ?_
        refine wSeq ?_
        obtain ⟨o1, h, hk1⟩ := bd h
        refine wJ1 (fun x20 => x20 = o1) (fun x20 => [(0, .p 70000 0), (4, .p 4 0), (5, .d ((kI .i64).sig a0.i_)), (6, .p 6 0), (54, .d (kB.sig x20))]) (fun x20 => [.box 6 78 [.d (kI .i64) a1, .d (kI .i64) y3.2, .d (kI .i64) 0], .box 4 78 [.d (kI .i64) 0, .d (kI .i64) 0, .d (kI .i64) 0], .box 70000 138 [.d (kL kS) y17.l_.Names, .d (kL (kI .u32)) y17.l_.Up, .d (kL (kR f_api_Tok)) y17.toks_, .d (kI .i64) y17.i_, .d (kI .i64) y17.bad_]]) ?_ ?_
        · rcases ic h with ⟨hp21, h⟩ | ⟨hp21, h⟩
          · obtain ⟨y22, hy22, h⟩ := bd h
            refine rgD hm (cp (oMv tm) (s1 rfl) <| cp (oNilP tm) (s1 rfl) <| cp (oFldP o138_3 tm) (s1 rfl) <| cr (oLdB (n := 2) (k := 4) rfl rfl rfl t27 tm) (s1 rfl) <| cp (oEq rfl tm (cI (by decide))) (s1 rfl) <| cp (oMv tm) (s1 rfl) <| cgB (decide_eq_true hp21) rfl rfl (oMv tm) (s1 rfl) <| cgB (decide_eq_true hp21) rfl rfl (oNilP tm) (s1 rfl) <| cgB (decide_eq_true hp21) rfl rfl (oFldP o138_0 tm) (s1 rfl) <| cgB (decide_eq_true hp21) rfl rfl (oFldP o38_1 tm) (s1 rfl) <| crgB (decide_eq_true hp21) rfl rfl (oLdB (n := 2) (k := 1) rfl rfl rfl t36 tm) (s1 rfl) <| cgB (decide_eq_true hp21) rfl rfl (oLenL u36 tm) (s1 rfl) <| crgB (decide_eq_true hp21) rfl rfl (oLdA (n := 0) (fs := f_api_Instr) (u := ⟨a1, y3.2, 0⟩) rfl ⟨rfl, rfl, rfl, trivial⟩ t78 tm) (s1 rfl) <| cgB (decide_eq_true hp21) rfl rfl (oCall rfl (code_right.ok hy22) b49 (opds_cons tm (opds_cons tm opds_nil))) (s2 rfl rfl) <| cgB (decide_eq_true hp21) rfl rfl (oNot tm) (s1 rfl) <| cp (oPkT (decide_eq_true hp21) tm tm) (s2 rfl rfl) <| .nil) (by kernel_rfl) (by kernel_rfl) ?_
            exact pJ1 _ (so h) ⟨rfl, rfl, rfl, rfl, rfl, trivial⟩ rfl
          · refine rgD hm (cp (oMv tm) (s1 rfl) <| cp (oNilP tm) (s1 rfl) <| cp (oFldP o138_3 tm) (s1 rfl) <| cr (oLdB (n := 2) (k := 4) rfl rfl rfl t27 tm) (s1 rfl) <| cp (oEq rfl tm (cI (by decide))) (s1 rfl) <| cp (oMv tm) (s1 rfl) <| csB (decide_eq_false hp21) rfl rfl <| csB (decide_eq_false hp21) rfl rfl <| csB (decide_eq_false hp21) rfl rfl <| csB (decide_eq_false hp21) rfl rfl <| csB (decide_eq_false hp21) rfl rfl <| csB (decide_eq_false hp21) rfl rfl <| csB (decide_eq_false hp21) rfl rfl <| csB (decide_eq_false hp21) rfl rfl <| csB (decide_eq_false hp21) rfl rfl <| cp (oPkF (decide_eq_false hp21) tm cB) (s1 rfl) <| .nil) (by kernel_rfl) (by kernel_rfl) ?_
            exact pJ1 _ (so h) ⟨rfl, rfl, rfl, rfl, rfl, trivial⟩ rfl
        · rintro x20 rfl
          replace h := hk1
          rcases ic h with ⟨hp23, h⟩ | ⟨hp23, h⟩
          · refine wBT hp23 tm (s1 rfl) ?_
            refine wSeq ?_
            refine rg (cp (oMv tm) (s1 rfl) <| cp (oMv tm) (s1 rfl) <| cp (oNilP tm) (s1 rfl) <| cp (oFldP o138_2 tm) (s1 rfl) <| cwn (oSt (n := 2) (k := 3) rfl rfl rfl rfl z3 tm tm) (s2 rfl rfl) <| .nil) (by kernel_rfl) ?_
            refine pSeq ?_
            obtain ⟨y24, hy24, h⟩ := bd h
            refine rg (cp (oMv tm) (s1 rfl) <| cm (oCallS (rest := [.box 6 78 [.d (kI .i64) a1, .d (kI .i64) y3.2, .d (kI .i64) 0], .box 4 78 [.d (kI .i64) 0, .d (kI .i64) 0, .d (kI .i64) 0]]) (R' := [.box 6 78 [.d (kI .i64) a1, .d (kI .i64) y3.2, .d (kI .i64) 0], .box 4 78 [.d (kI .i64) 0, .d (kI .i64) 0, .d (kI .i64) 0], .box 70000 138 [.d (kL kS) y24.l_.Names, .d (kL (kI .u32)) y24.l_.Up, .d (kL (kR f_api_Tok)) y24.toks_, .d (kI .i64) y24.i_, .d (kI .i64) y24.bad_]]) (out' := .d (tup [])) [(70000, 70000)] [] [2] [0, 1] [1, 2, 0] rfl (code_reader_fail.ok hy24) b90 (oE1 tm (oE1 (cI (by decide)) oE0)) rfl rfl rfl rfl rfl rfl rfl rfl) (s1 rfl) <| .nil) (by kernel_rfl) ?_
            refine pSeq ?_
            refine wSeq ?_
            refine rg (cr (oLdA (n := 0) (fs := f_api_Instr) (u := ⟨a1, y3.2, 0⟩) rfl ⟨rfl, rfl, rfl, trivial⟩ t78 tm) (s1 rfl) <| cwn (oStA (n := 1) (fs := f_api_Instr) rfl rfl z78 tm tm) (s2 rfl rfl) <| .nil) (by kernel_rfl) ?_
            refine pSeq ?_
            refine wRet ?_
            obtain rfl := so h
            exact pS1 [2] rfl rfl (.inl rfl) rfl (.box (n := 1) (fs := f_api_Instr) (u := ⟨a1, y3.2, 0⟩) rfl rfl ⟨rfl, rfl, rfl, trivial⟩ t78 <| .nil)
          · refine wBF hp23 tm (s1 rfl) ?_
            refine wSkip ?_
            refine pSeq ?_
            refine wSeq ?_
            refine rg (cr (oLdA (n := 0) (fs := f_api_Instr) (u := ⟨a1, y3.2, 0⟩) rfl ⟨rfl, rfl, rfl, trivial⟩ t78 tm) (s1 rfl) <| cwn (oStA (n := 1) (fs := f_api_Instr) rfl rfl z78 tm tm) (s2 rfl rfl) <| .nil) (by kernel_rfl) ?_
            refine pSeq ?_
            refine wRet ?_
            obtain rfl := so h
            exact pS1 [2] rfl rfl (.inl rfl) rfl (.box (n := 1) (fs := f_api_Instr) (u := ⟨a1, y3.2, 0⟩) rfl rfl ⟨rfl, rfl, rfl, trivial⟩ t78 <| .nil)
  · refine wBF hp2 tm (s1 rfl) ?_
    refine wSkip ?_
    refine pSeq ?_
    refine wSeq ?_
    obtain ⟨o1, h, hk1⟩ := bd h
    refine wJ1 (fun x26 => x26 = o1) (fun x26 => [(0, .p 70000 0), (4, .p 4 0), (5, .d ((kI .i64).sig a0.i_)), (6, .p 6 0), (33, .d (kB.sig x26))]) (fun x26 => [.box 6 78 [.d (kI .i64) a1, .d (kI .i64) 0, .d (kI .i64) 0], .box 4 78 [.d (kI .i64) 0, .d (kI .i64) 0, .d (kI .i64) 0], .box 70000 138 [.d (kL kS) a0.l_.Names, .d (kL (kI .u32)) a0.l_.Up, .d (kL (kR f_api_Tok)) a0.toks_, .d (kI .i64) (IntKind.i64.wrap (a0.i_ + 1)), .d (kI .i64) a0.bad_]]) ?_ ?_
    · rcases ic h with ⟨hp27, h⟩ | ⟨hp27, h⟩
      · refine rg (cp (oMv tm) (s1 rfl) <| cp (oEq rfl tm (cI (by decide))) (s1 rfl) <| cp (oMv tm) (s1 rfl) <| cgB (decide_eq_true hp27) rfl rfl (oMv tm) (s1 rfl) <| cgB (decide_eq_true hp27) rfl rfl (oNilP tm) (s1 rfl) <| cgB (decide_eq_true hp27) rfl rfl (oFldP o138_3 tm) (s1 rfl) <| crgB (decide_eq_true hp27) rfl rfl (oLdB (n := 2) (k := 4) rfl rfl rfl t27 tm) (s1 rfl) <| cgB (decide_eq_true hp27) rfl rfl (oEq rfl tm (cI (by decide))) (s1 rfl) <| cp (oPkT (decide_eq_true hp27) tm tm) (s2 rfl rfl) <| .nil) (by kernel_rfl) ?_
        exact pJ1 _ (so h) ⟨rfl, rfl, rfl, rfl, rfl, trivial⟩ rfl
      · refine rg (cp (oMv tm) (s1 rfl) <| cp (oEq rfl tm (cI (by decide))) (s1 rfl) <| cp (oMv tm) (s1 rfl) <| csB (decide_eq_false hp27) rfl rfl <| csB (decide_eq_false hp27) rfl rfl <| csB (decide_eq_false hp27) rfl rfl <| csB (decide_eq_false hp27) rfl rfl <| csB (decide_eq_false hp27) rfl rfl <| cp (oPkF (decide_eq_false hp27) tm cB) (s1 rfl) <| .nil) (by kernel_rfl) ?_
        exact pJ1 _ (so h) ⟨rfl, rfl, rfl, rfl, rfl, trivial⟩ rfl
    · rintro x26 rfl
      replace h := hk1
      rcases ic h with ⟨hp28, h⟩ | ⟨hp28, h⟩
      · refine wBT hp28 tm (s1 rfl) ?_
        obtain ⟨y29, hy29, h⟩ := bd h
        refine rg (cp (oMv tm) (s1 rfl) <| cm (oCallS (rest := [.box 6 78 [.d (kI .i64) a1, .d (kI .i64) 0, .d (kI .i64) 0], .box 4 78 [.d (kI .i64) 0, .d (kI .i64) 0, .d (kI .i64) 0]]) (R' := [.box 6 78 [.d (kI .i64) a1, .d (kI .i64) 0, .d (kI .i64) 0], .box 4 78 [.d (kI .i64) 0, .d (kI .i64) 0, .d (kI .i64) 0], .box 70000 138 [.d (kL kS) y29.1.l_.Names, .d (kL (kI .u32)) y29.1.l_.Up, .d (kL (kR f_api_Tok)) y29.1.toks_, .d (kI .i64) y29.1.i_, .d (kI .i64) y29.1.bad_]]) (out' := .d ((kI .i64).sig y29.2)) [(70000, 70000)] [] [2] [0, 1] [1, 2, 0] rfl (code_reader_label.ok hy29) b126 (oE1 tm oE0) rfl rfl rfl rfl rfl rfl rfl rfl) (s1 rfl) <| cp (oFldP o78_2 tm) (s1 rfl) <| cwn (oSt (n := 0) (k := 2) rfl rfl rfl rfl z3 tm tm) (s2 rfl rfl) <| .nil) (by kernel_rfl) ?_
        refine pSeq ?_
        refine wSeq ?_
        obtain ⟨y30, hy30, h⟩ := bd h
        refine rg (cp (oMv tm) (s1 rfl) <| cm (oCallS (rest := [.box 6 78 [.d (kI .i64) a1, .d (kI .i64) 0, .d (kI .i64) y29.2], .box 4 78 [.d (kI .i64) 0, .d (kI .i64) 0, .d (kI .i64) 0]]) (R' := [.box 6 78 [.d (kI .i64) a1, .d (kI .i64) 0, .d (kI .i64) y29.2], .box 4 78 [.d (kI .i64) 0, .d (kI .i64) 0, .d (kI .i64) 0], .box 70000 138 [.d (kL kS) y30.l_.Names, .d (kL (kI .u32)) y30.l_.Up, .d (kL (kR f_api_Tok)) y30.toks_, .d (kI .i64) y30.i_, .d (kI .i64) y30.bad_]]) (out' := .d (tup [])) [(70000, 70000)] [] [2] [0, 1] [1, 2, 0] rfl (code_reader_mark.ok hy30) b127 (oE1 tm (oE1 (cS (by decide)) oE0)) rfl rfl rfl rfl rfl rfl rfl rfl) (s1 rfl) <| .nil) (by kernel_rfl) ?_
        refine pSeq ?_
        refine wSeq ?_
        obtain ⟨o1, h, hk1⟩ := bd h
        refine wJ1 (fun x33 => x33 = o1) (fun x33 => [(0, .p 70000 0), (4, .p 4 0), (5, .d ((kI .i64).sig a0.i_)), (6, .p 6 0), (54, .d (kB.sig x33))]) (fun x33 => [.box 6 78 [.d (kI .i64) a1, .d (kI .i64) 0, .d (kI .i64) y29.2], .box 4 78 [.d (kI .i64) 0, .d (kI .i64) 0, .d (kI .i64) 0], .box 70000 138 [.d (kL kS) y30.l_.Names, .d (kL (kI .u32)) y30.l_.Up, .d (kL (kR f_api_Tok)) y30.toks_, .d (kI .i64) y30.i_, .d (kI .i64) y30.bad_]]) ?_ ?_
        · rcases ic h with ⟨hp34, h⟩ | ⟨hp34, h⟩
          · obtain ⟨y35, hy35, h⟩ := bd h
            refine rgD hm (cp (oMv tm) (s1 rfl) <| cp (oNilP tm) (s1 rfl) <| cp (oFldP o138_3 tm) (s1 rfl) <| cr (oLdB (n := 2) (k := 4) rfl rfl rfl t27 tm) (s1 rfl) <| cp (oEq rfl tm (cI (by decide))) (s1 rfl) <| cp (oMv tm) (s1 rfl) <| cgB (decide_eq_true hp34) rfl rfl (oMv tm) (s1 rfl) <| cgB (decide_eq_true hp34) rfl rfl (oNilP tm) (s1 rfl) <| cgB (decide_eq_true hp34) rfl rfl (oFldP o138_0 tm) (s1 rfl) <| cgB (decide_eq_true hp34) rfl rfl (oFldP o38_1 tm) (s1 rfl) <| crgB (decide_eq_true hp34) rfl rfl (oLdB (n := 2) (k := 1) rfl rfl rfl t36 tm) (s1 rfl) <| cgB (decide_eq_true hp34) rfl rfl (oLenL u36 tm) (s1 rfl) <| crgB (decide_eq_true hp34) rfl rfl (oLdA (n := 0) (fs := f_api_Instr) (u := ⟨a1, 0, y29.2⟩) rfl ⟨rfl, rfl, rfl, trivial⟩ t78 tm) (s1 rfl) <| cgB (decide_eq_true hp34) rfl rfl (oCall rfl (code_right.ok hy35) b49 (opds_cons tm (opds_cons tm opds_nil))) (s2 rfl rfl) <| cgB (decide_eq_true hp34) rfl rfl (oNot tm) (s1 rfl) <| cp (oPkT (decide_eq_true hp34) tm tm) (s2 rfl rfl) <| .nil) (by kernel_rfl) (by kernel_rfl) ?_
            exact pJ1 _ (so h) ⟨rfl, rfl, rfl, rfl, rfl, trivial⟩ rfl
          · refine rgD hm (cp (oMv tm) (s1 rfl) <| cp (oNilP tm) (s1 rfl) <| cp (oFldP o138_3 tm) (s1 rfl) <| cr (oLdB (n := 2) (k := 4) rfl rfl rfl t27 tm) (s1 rfl) <| cp (oEq rfl tm (cI (by decide))) (s1 rfl) <| cp (oMv tm) (s1 rfl) <| csB (decide_eq_false hp34) rfl rfl <| csB (decide_eq_false hp34) rfl rfl <| csB (decide_eq_false hp34) rfl rfl <| csB (decide_eq_false hp34) rfl rfl <| csB (decide_eq_false hp34) rfl rfl <| csB (decide_eq_false hp34) rfl rfl <| csB (decide_eq_false hp34) rfl rfl <| csB (decide_eq_false hp34) rfl rfl <| csB (decide_eq_false hp34) rfl rfl <| cp (oPkF (decide_eq_false hp34) tm cB) (s1 rfl) <| .nil) (by kernel_rfl) (by kernel_rfl) ?_
            exact pJ1 _ (so h) ⟨rfl, rfl, rfl, rfl, rfl, trivial⟩ rfl
        · rintro x33 rfl
          replace h := hk1
          rcases ic h with ⟨hp36, h⟩ | ⟨hp36, h⟩
          · refine wBT hp36 tm (s1 rfl) ?_
            refine wSeq ?_
            refine rg (cp (oMv tm) (s1 rfl) <| cp (oMv tm) (s1 rfl) <| cp (oNilP tm) (s1 rfl) <| cp (oFldP o138_2 tm) (s1 rfl) <| cwn (oSt (n := 2) (k := 3) rfl rfl rfl rfl z3 tm tm) (s2 rfl rfl) <| .nil) (by kernel_rfl) ?_
            refine pSeq ?_
            obtain ⟨y37, hy37, h⟩ := bd h
            refine rg (cp (oMv tm) (s1 rfl) <| cm (oCallS (rest := [.box 6 78 [.d (kI .i64) a1, .d (kI .i64) 0, .d (kI .i64) y29.2], .box 4 78 [.d (kI .i64) 0, .d (kI .i64) 0, .d (kI .i64) 0]]) (R' := [.box 6 78 [.d (kI .i64) a1, .d (kI .i64) 0, .d (kI .i64) y29.2], .box 4 78 [.d (kI .i64) 0, .d (kI .i64) 0, .d (kI .i64) 0], .box 70000 138 [.d (kL kS) y37.l_.Names, .d (kL (kI .u32)) y37.l_.Up, .d (kL (kR f_api_Tok)) y37.toks_, .d (kI .i64) y37.i_, .d (kI .i64) y37.bad_]]) (out' := .d (tup [])) [(70000, 70000)] [] [2] [0, 1] [1, 2, 0] rfl (code_reader_fail.ok hy37) b90 (oE1 tm (oE1 (cI (by decide)) oE0)) rfl rfl rfl rfl rfl rfl rfl rfl) (s1 rfl) <| .nil) (by kernel_rfl) ?_
            refine pSeq ?_
            refine wSeq ?_
            refine rg (cr (oLdA (n := 0) (fs := f_api_Instr) (u := ⟨a1, 0, y29.2⟩) rfl ⟨rfl, rfl, rfl, trivial⟩ t78 tm) (s1 rfl) <| cwn (oStA (n := 1) (fs := f_api_Instr) rfl rfl z78 tm tm) (s2 rfl rfl) <| .nil) (by kernel_rfl) ?_
            refine pSeq ?_
            refine wRet ?_
            obtain rfl := so h
            exact pS1 [2] rfl rfl (.inl rfl) rfl (.box (n := 1) (fs := f_api_Instr) (u := ⟨a1, 0, y29.2⟩) rfl rfl ⟨rfl, rfl, rfl, trivial⟩ t78 <| .nil)
          · refine wBF hp36 tm (s1 rfl) ?_
            refine wSkip ?_
            refine pSeq ?_
            refine wSeq ?_
            refine rg (cr (oLdA (n := 0) (fs := f_api_Instr) (u := ⟨a1, 0, y29.2⟩) rfl ⟨rfl, rfl, rfl, trivial⟩ t78 tm) (s1 rfl) <| cwn (oStA (n := 1) (fs := f_api_Instr) rfl rfl z78 tm tm) (s2 rfl rfl) <| .nil) (by kernel_rfl) ?_
            refine pSeq ?_
            refine wRet ?_
            obtain rfl := so h
            exact pS1 [2] rfl rfl (.inl rfl) rfl (.box (n := 1) (fs := f_api_Instr) (u := ⟨a1, 0, y29.2⟩) rfl rfl ⟨rfl, rfl, rfl, trivial⟩ t78 <| .nil)
      · refine wBF hp28 tm (s1 rfl) ?_
        refine wSkip ?_
        refine pSeq ?_
        refine wSeq ?_
        obtain ⟨y38, hy38, h⟩ := bd h
        refine rg (cp (oMv tm) (s1 rfl) <| cm (oCallS (rest := [.box 6 78 [.d (kI .i64) a1, .d (kI .i64) 0, .d (kI .i64) 0], .box 4 78 [.d (kI .i64) 0, .d (kI .i64) 0, .d (kI .i64) 0]]) (R' := [.box 6 78 [.d (kI .i64) a1, .d (kI .i64) 0, .d (kI .i64) 0], .box 4 78 [.d (kI .i64) 0, .d (kI .i64) 0, .d (kI .i64) 0], .box 70000 138 [.d (kL kS) y38.l_.Names, .d (kL (kI .u32)) y38.l_.Up, .d (kL (kR f_api_Tok)) y38.toks_, .d (kI .i64) y38.i_, .d (kI .i64) y38.bad_]]) (out' := .d (tup [])) [(70000, 70000)] [] [2] [0, 1] [1, 2, 0] rfl (code_reader_mark.ok hy38) b127 (oE1 tm (oE1 (cS (by decide)) oE0)) rfl rfl rfl rfl rfl rfl rfl rfl) (s1 rfl) <| .nil) (by kernel_rfl) ?_
        refine pSeq ?_
        refine wSeq ?_
        obtain ⟨o1, h, hk1⟩ := bd h
        refine wJ1 (fun x41 => x41 = o1) (fun x41 => [(0, .p 70000 0), (4, .p 4 0), (5, .d ((kI .i64).sig a0.i_)), (6, .p 6 0), (54, .d (kB.sig x41))]) (fun x41 => [.box 6 78 [.d (kI .i64) a1, .d (kI .i64) 0, .d (kI .i64) 0], .box 4 78 [.d (kI .i64) 0, .d (kI .i64) 0, .d (kI .i64) 0], .box 70000 138 [.d (kL kS) y38.l_.Names, .d (kL (kI .u32)) y38.l_.Up, .d (kL (kR f_api_Tok)) y38.toks_, .d (kI .i64) y38.i_, .d (kI .i64) y38.bad_]]) ?_ ?_
        · rcases ic h with ⟨hp42, h⟩ | ⟨hp42, h⟩
          · obtain ⟨y43, hy43, h⟩ := bd h
            refine rgD hm (cp (oMv tm) (s1 rfl) <| cp (oNilP tm) (s1 rfl) <| cp (oFldP o138_3 tm) (s1 rfl) <| cr (oLdB (n := 2) (k := 4) rfl rfl rfl t27 tm) (s1 rfl) <| cp (oEq rfl tm (cI (by decide))) (s1 rfl) <| cp (oMv tm) (s1 rfl) <| cgB (decide_eq_true hp42) rfl rfl (oMv tm) (s1 rfl) <| cgB (decide_eq_true hp42) rfl rfl (oNilP tm) (s1 rfl) <| cgB (decide_eq_true hp42) rfl rfl (oFldP o138_0 tm) (s1 rfl) <| cgB (decide_eq_true hp42) rfl rfl (oFldP o38_1 tm) (s1 rfl) <| crgB (decide_eq_true hp42) rfl rfl (oLdB (n := 2) (k := 1) rfl rfl rfl t36 tm) (s1 rfl) <| cgB (decide_eq_true hp42) rfl rfl (oLenL u36 tm) (s1 rfl) <| crgB (decide_eq_true hp42) rfl rfl (oLdA (n := 0) (fs := f_api_Instr) (u := ⟨a1, 0, 0⟩) rfl ⟨rfl, rfl, rfl, trivial⟩ t78 tm) (s1 rfl) <| cgB (decide_eq_true hp42) rfl rfl (oCall rfl (code_right.ok hy43) b49 (opds_cons tm (opds_cons tm opds_nil))) (s2 rfl rfl) <| cgB (decide_eq_true hp42) rfl rfl (oNot tm) (s1 rfl) <| cp (oPkT (decide_eq_true hp42) tm tm) (s2 rfl rfl) <| .nil) (by kernel_rfl) (by kernel_rfl) ?_
            exact pJ1 _ (so h) ⟨rfl, rfl, rfl, rfl, rfl, trivial⟩ rfl
          · refine rgD hm (cp (oMv tm) (s1 rfl) <| cp (oNilP tm) (s1 rfl) <| cp (oFldP o138_3 tm) (s1 rfl) <| cr (oLdB (n := 2) (k := 4) rfl rfl rfl t27 tm) (s1 rfl) <| cp (oEq rfl tm (cI (by decide))) (s1 rfl) <| cp (oMv tm) (s1 rfl) <| csB (decide_eq_false hp42) rfl rfl <| csB (decide_eq_false hp42) rfl rfl <| csB (decide_eq_false hp42) rfl rfl <| csB (decide_eq_false hp42) rfl rfl <| csB (decide_eq_false hp42) rfl rfl <| csB (decide_eq_false hp42) rfl rfl <| csB (decide_eq_false hp42) rfl rfl <| csB (decide_eq_false hp42) rfl rfl <| csB (decide_eq_false hp42) rfl rfl <| cp (oPkF (decide_eq_false hp42) tm cB) (s1 rfl) <| .nil) (by kernel_rfl) (by kernel_rfl) ?_
            exact pJ1 _ (so h) ⟨rfl, rfl, rfl, rfl, rfl, trivial⟩ rfl
        · rintro x41 rfl
          replace h := hk1
          rcases ic h with ⟨hp44, h⟩ | ⟨hp44, h⟩
          · refine wBT hp44 tm (s1 rfl) ?_
            refine wSeq ?_
            refine rg (cp (oMv tm) (s1 rfl) <| cp (oMv tm) (s1 rfl) <| cp (oNilP tm) (s1 rfl) <| cp (oFldP o138_2 tm) (s1 rfl) <| cwn (oSt (n := 2) (k := 3) rfl rfl rfl rfl z3 tm tm) (s2 rfl rfl) <| .nil) (by kernel_rfl) ?_
            refine pSeq ?_
            obtain ⟨y45, hy45, h⟩ := bd h
            refine rg (cp (oMv tm) (s1 rfl) <| cm (oCallS (rest := [.box 6 78 [.d (kI .i64) a1, .d (kI .i64) 0, .d (kI .i64) 0], .box 4 78 [.d (kI .i64) 0, .d (kI .i64) 0, .d (kI .i64) 0]]) (R' := [.box 6 78 [.d (kI .i64) a1, .d (kI .i64) 0, .d (kI .i64) 0], .box 4 78 [.d (kI .i64) 0, .d (kI .i64) 0, .d (kI .i64) 0], .box 70000 138 [.d (kL kS) y45.l_.Names, .d (kL (kI .u32)) y45.l_.Up, .d (kL (kR f_api_Tok)) y45.toks_, .d (kI .i64) y45.i_, .d (kI .i64) y45.bad_]]) (out' := .d (tup [])) [(70000, 70000)] [] [2] [0, 1] [1, 2, 0] rfl (code_reader_fail.ok hy45) b90 (oE1 tm (oE1 (cI (by decide)) oE0)) rfl rfl rfl rfl rfl rfl rfl rfl) (s1 rfl) <| .nil) (by kernel_rfl) ?_
            refine pSeq ?_
            refine wSeq ?_
            refine rg (cr (oLdA (n := 0) (fs := f_api_Instr) (u := ⟨a1, 0, 0⟩) rfl ⟨rfl, rfl, rfl, trivial⟩ t78 tm) (s1 rfl) <| cwn (oStA (n := 1) (fs := f_api_Instr) rfl rfl z78 tm tm) (s2 rfl rfl) <| .nil) (by kernel_rfl) ?_
            refine pSeq ?_
            refine wRet ?_
            obtain rfl := so h
            exact pS1 [2] rfl rfl (.inl rfl) rfl (.box (n := 1) (fs := f_api_Instr) (u := ⟨a1, 0, 0⟩) rfl rfl ⟨rfl, rfl, rfl, trivial⟩ t78 <| .nil)
          · refine wBF hp44 tm (s1 rfl) ?_
            refine wSkip ?_
            refine pSeq ?_
            refine wSeq ?_
            refine rg (cr (oLdA (n := 0) (fs := f_api_Instr) (u := ⟨a1, 0, 0⟩) rfl ⟨rfl, rfl, rfl, trivial⟩ t78 tm) (s1 rfl) <| cwn (oStA (n := 1) (fs := f_api_Instr) rfl rfl z78 tm tm) (s2 rfl rfl) <| .nil) (by kernel_rfl) ?_
            refine pSeq ?_
            refine wRet ?_
            obtain rfl := so h
            exact pS1 [2] rfl rfl (.inl rfl) rfl (.box (n := 1) (fs := f_api_Instr) (u := ⟨a1, 0, 0⟩) rfl rfl ⟨rfl, rfl, rfl, trivial⟩ t78 <| .nil)

theorem code_From.ok {a0 : api_Lattice} {a1 : List api_Tok} {a2 : Int} {r : (List api_Instr) × Int × Int} (h : code_From.f a0 a1 a2 = some r) : FnA Tryd.prog 56 [(kR f_api_Lattice).sig a0, (kL (kR f_api_Tok)).sig a1, (kI .i64).sig a2] (tup [(kL (kR f_api_Instr)).sig r.1, (kI .i64).sig r.2.1, (kI .i64).sig r.2.2]) := by
  refine fnIntro Tryd.func56 rfl (by kernel_rfl) fun H0 w0 => ?_
  unfold code_From.f at h
  refine wSeq ?_
  refine rg (cp (oBox tm) (s1 rfl) <| cp (oAs cV) trivial <| cp (oAs (cI (by decide))) trivial <| cp (oAs (cI (by decide))) trivial <| .nil) (by kernel_rfl) ?_
  refine pSeq ?_
  refine wSeq ?_
  refine wSeq ?_
  obtain ⟨y1, hy1, h⟩ := bd h
  refine rg (cp (oLd t38 tm) (s1 rfl) <| cp (oCall rfl (lattice_Check.ok hy1) b39 (opds_cons tm opds_nil)) (s1 rfl) <| cp (oAs tm) (s1 rfl) <| .nil) (by kernel_rfl) ?_
  refine pSeq ?_
  refine wSeq ?_
  refine rg (cp (oMv tm) (s1 rfl) <| cp (oNe rfl tm (cI (by decide))) (s1 rfl) <| .nil) (by kernel_rfl) ?_
  refine pSeq ?_
  rcases ic h with ⟨hp2, h⟩ | ⟨hp2, h⟩
  · refine wNT hp2 tm (s1 rfl) ?_
    refine wSkip ?_
    refine pSeq ?_
    refine wSeq ?_
    obtain ⟨o1, h, hk1⟩ := bd h
    refine wJ1 (fun x6 => x6 = o1) (fun x6 => [(1, .d ((kL (kR f_api_Tok)).sig a1)), (2, .d ((kI .i64).sig a2)), (3, .d (sP (kR f_api_Lattice) a0)), (35, .d (kB.sig x6))]) (fun x6 => []) ?_ ?_
    · rcases ic h with ⟨hp7, h⟩ | ⟨hp7, h⟩
      · refine rg (cp (oMv tm) (s1 rfl) <| cp (oLt rfl tm (cI (by decide))) (s1 rfl) <| cp (oMv tm) (s1 rfl) <| csB (decide_eq_true hp7) rfl rfl <| csB (decide_eq_true hp7) rfl rfl <| csB (decide_eq_true hp7) rfl rfl <| csB (decide_eq_true hp7) rfl rfl <| cp (oPkT (decide_eq_true hp7) tm cB) (s1 rfl) <| cp (oMv tm) (s1 rfl) <| csB rfl rfl rfl <| csB rfl rfl rfl <| csB rfl rfl rfl <| csB rfl rfl rfl <| csB rfl rfl rfl <| csB rfl rfl rfl <| csB rfl rfl rfl <| csB rfl rfl rfl <| cp (oPkT rfl tm cB) (s1 rfl) <| .nil) (by kernel_rfl) ?_
        exact pJ1 _ (so h) ⟨rfl, rfl, rfl, rfl, trivial⟩ rfl
      · rcases ic h with ⟨hp8, h⟩ | ⟨hp8, h⟩
        · refine rg (cp (oMv tm) (s1 rfl) <| cp (oLt rfl tm (cI (by decide))) (s1 rfl) <| cp (oMv tm) (s1 rfl) <| cgB (decide_eq_false hp7) rfl rfl (oMv tm) (s1 rfl) <| cgB (decide_eq_false hp7) rfl rfl (oMv tm) (s1 rfl) <| cgB (decide_eq_false hp7) rfl rfl (oLenL u88 tm) (s1 rfl) <| cgB (decide_eq_false hp7) rfl rfl (oGe rfl tm tm) (s2 rfl rfl) <| cp (oPkF (decide_eq_false hp7) tm tm) (s2 rfl rfl) <| cp (oMv tm) (s1 rfl) <| csB (decide_eq_true hp8) rfl rfl <| csB (decide_eq_true hp8) rfl rfl <| csB (decide_eq_true hp8) rfl rfl <| csB (decide_eq_true hp8) rfl rfl <| csB (decide_eq_true hp8) rfl rfl <| csB (decide_eq_true hp8) rfl rfl <| csB (decide_eq_true hp8) rfl rfl <| csB (decide_eq_true hp8) rfl rfl <| cp (oPkT (decide_eq_true hp8) tm cB) (s1 rfl) <| .nil) (by kernel_rfl) ?_
          exact pJ1 _ (so h) ⟨rfl, rfl, rfl, rfl, trivial⟩ rfl
        · obtain ⟨y9, hy9, h⟩ := bd h
          refine rg (cp (oMv tm) (s1 rfl) <| cp (oLt rfl tm (cI (by decide))) (s1 rfl) <| cp (oMv tm) (s1 rfl) <| cgB (decide_eq_false hp7) rfl rfl (oMv tm) (s1 rfl) <| cgB (decide_eq_false hp7) rfl rfl (oMv tm) (s1 rfl) <| cgB (decide_eq_false hp7) rfl rfl (oLenL u88 tm) (s1 rfl) <| cgB (decide_eq_false hp7) rfl rfl (oGe rfl tm tm) (s2 rfl rfl) <| cp (oPkF (decide_eq_false hp7) tm tm) (s2 rfl rfl) <| cp (oMv tm) (s1 rfl) <| cgB (decide_eq_false hp8) rfl rfl (oMv tm) (s1 rfl) <| cgB (decide_eq_false hp8) rfl rfl (oMv tm) (s1 rfl) <| cgB (decide_eq_false hp8) rfl rfl (oLenL u88 tm) (s1 rfl) <| cgB (decide_eq_false hp8) rfl rfl (oSub tm (cI (by decide))) (s1 rfl) <| cgB (decide_eq_false hp8) rfl rfl (oIdx u88 z93 hy9 tm tm) (s2 rfl rfl) <| cgB (decide_eq_false hp8) rfl rfl (oFld (fs := f_api_Tok) (k := 0) rfl o93_0 tm) (s1 rfl) <| cgB (decide_eq_false hp8) rfl rfl (oLd t3 tm) (s1 rfl) <| cgB (decide_eq_false hp8) rfl rfl (oNe rfl tm (cI (by decide))) (s1 rfl) <| cp (oPkF (decide_eq_false hp8) tm tm) (s2 rfl rfl) <| .nil) (by kernel_rfl) ?_
          exact pJ1 _ (so h) ⟨rfl, rfl, rfl, rfl, trivial⟩ rfl
    · rintro x6 rfl
      replace h := hk1
      rcases ic h with ⟨hp10, h⟩ | ⟨hp10, h⟩
      · refine wBT hp10 tm (s1 rfl) ?_
        refine wSeq ?_
        refine rg (cp (oAs cV) trivial <| cp (oAs (cI (by decide))) trivial <| cp (oAs (cI (by decide))) trivial <| .nil) (by kernel_rfl) ?_
        refine pSeq ?_
        refine wNil (kR f_api_Instr) 78 9006 6 rfl rfl ?_
        refine wFrzR (n := 0) (id := 9006) [6] rfl rfl ⟨rfl, trivial⟩ ?_
        refine wRet ?_
        refine pThenR ?_
        obtain rfl := so h
        exact pRn (.inl rfl) rfl rfl (.tmp rfl <| .tmp rfl <| .tmp rfl <| .nil)
      · refine wBF hp10 tm (s1 rfl) ?_
        refine wSkip ?_
        refine pSeq ?_
        refine wSeq ?_
        refine rg (cp (oLd t38 tm) (s1 rfl) <| cp (oMv tm) (s1 rfl) <| cp (oMv tm) (s1 rfl) <| cp (oBuild (fs := f_code_reader) (u := ⟨a0, a1, a2, 0⟩) rfl ze138 pl138 po138 (.op (zc := [(.slice none 0 0), (.slice none 0 0)]) tm rfl (.op (zc := [(.slice none 0 0)]) tm rfl (.op (zc := [(.int .i64 0)]) tm rfl (.ze (zc := [(.int .i64 0)]) zI_i64 .nil))))) (s3 rfl rfl rfl) <| cw (oBoxP (id := 40) (d := (kR f_code_reader)) (ls := [.d (kL kS) a0.Names, .d (kL (kI .u32)) a0.Up, .d (kL (kR f_api_Tok)) a1, .d (kI .i64) a2, .d (kI .i64) 0]) (lfS (lfC (lfS (lfC lf1 (lfC lf1 lfN))) (lfC lf1 (lfC lf1 (lfC lf1 lfN))))) rfl tm) (s1 rfl) <| cp (oAs tm) (s1 rfl) <| .nil) (by kernel_rfl) ?_
        refine pSeq ?_
        refine wSeq ?_
        refine rg (cp (oAs cV) trivial <| .nil) (by kernel_rfl) ?_
        refine pSeq ?_
        refine wNil (kR f_api_Instr) 78 1011 11 rfl rfl ?_
        obtain ⟨o1, h, hk1⟩ := bd h
        refine wJ6 (fun x33 x34 x35 x36 x37 x38 => .inr (x33, x34, x35, x36, x37, x38) = o1) (fun x33 x34 x35 x36 x37 x38 => [(10, .p 40 0)]) (fun x33 x34 x35 x36 x37 x38 => [.row 1011 78 (kR f_api_Instr) x38, .box 40 138 [.d (kL kS) x33, .d (kL (kI .u32)) x34, .d (kL (kR f_api_Tok)) x35, .d (kI .i64) x36, .d (kI .i64) x37]]) ?_ ?_
        · refine wBlock (wLoop ?_)
          refine lW (pc6 o1 (fun v27 v28 v29 v30 v31 v32 => [(10, .p 40 0), (11, .v 1011)]) (fun v27 v28 v29 v30 v31 v32 => [.row 1011 78 (kR f_api_Instr) v32, .box 40 138 [.d (kL kS) v27, .d (kL (kI .u32)) v28, .d (kL (kR f_api_Tok)) v29, .d (kI .i64) v30, .d (kI .i64) v31]]) (code_From.l0.partial_correctness) ?_ _ _ _ _ _ _ h) ⟨rfl, rfl, trivial⟩ rfl
          clear h
          intro f' ih v27 v28 v29 v30 v31 v32 h
          refine wSeq ?_
          refine wSeq ?_
          refine rg (cp (oMv tm) (s1 rfl) <| cp (oNilP tm) (s1 rfl) <| cp (oFldP o138_3 tm) (s1 rfl) <| cr (oLdB (n := 1) (k := 4) rfl rfl rfl t27 tm) (s1 rfl) <| cp (oEq rfl tm (cI (by decide))) (s1 rfl) <| .nil) (by kernel_rfl) ?_
          refine pSeq ?_
          rcases ic h with ⟨hp39, h⟩ | ⟨hp39, h⟩
          · refine wCT hp39 tm (s1 rfl) ?_
            refine wSkip ?_
            refine pSeq ?_
            refine wBlock ?_
            refine wSeq ?_
            obtain ⟨y40, hy40, h⟩ := bd h
            obtain ⟨y41, hy41, h⟩ := bd h
            refine rg (cp (oMv tm) (s1 rfl) <| cm (oCallS (rest := [.row 1011 78 (kR f_api_Instr) v32]) (R' := [.row 1011 78 (kR f_api_Instr) v32, .box 40 138 [.d (kL kS) y40.1.l_.Names, .d (kL (kI .u32)) y40.1.l_.Up, .d (kL (kR f_api_Tok)) y40.1.toks_, .d (kI .i64) y40.1.i_, .d (kI .i64) y40.1.bad_]]) (out' := .d ((kR f_api_Tok).sig y40.2)) [(70000, 40)] [] [1] [0] [1, 0] rfl (code_reader_tok.ok hy40) b89 (oE1 tm oE0) rfl rfl rfl rfl rfl rfl rfl rfl) (s1 rfl) <| cp (oCall rfl (code_instruction.ok hy41) b88 (opds_cons tm opds_nil)) (s1 rfl) <| cp (oAs tm) (s1 rfl) <| .nil) (by kernel_rfl) ?_
            refine pSeq ?_
            refine wSeq ?_
            refine wSeq ?_
            refine rg (cp (oMv tm) (s1 rfl) <| cp (oLt rfl tm (cI (by decide))) (s1 rfl) <| .nil) (by kernel_rfl) ?_
            refine pSeq ?_
            rcases ic h with ⟨hp42, h⟩ | ⟨hp42, h⟩
            · refine wCT hp42 tm (s1 rfl) ?_
              refine wSeq ?_
              refine rgD hm (cp (oMv tm) (s1 rfl) <| cp (oMv tm) (s1 rfl) <| cp (oNilP tm) (s1 rfl) <| cp (oFldP o138_2 tm) (s1 rfl) <| cr (oLdB (n := 1) (k := 3) rfl rfl rfl t3 tm) (s1 rfl) <| cp (oAs tm) (s1 rfl) <| cp (oAs tm) (s1 rfl) <| cp (oAs (cI (by decide))) trivial <| .nil) (by kernel_rfl) (by kernel_rfl) ?_
              refine pSeq ?_
              refine wFrzR (n := 0) (id := 1011) [6] rfl rfl ⟨rfl, trivial⟩ ?_
              refine wRet ?_
              refine pThenR ?_
              refine pBlkR ?_
              refine pThenR ?_
              refine pBlkR ?_
              refine pThenR ?_
              obtain rfl := so h
              replace h := hk1
              obtain rfl := so h
              exact pRn (.inl rfl) rfl rfl (.tmp rfl <| .tmp rfl <| .tmp rfl <| .nil)
            · refine wCF hp42 tm (s1 rfl) ?_
              refine wSkip ?_
              refine pSeq ?_
              refine wSeq ?_
              refine wSeq ?_
              refine rg (cp (oMv tm) (s1 rfl) <| cr (oLenR (n := 0) u39 rfl tm) (s1 rfl) <| cp (oEq rfl tm (cI (by decide))) (s1 rfl) <| .nil) (by kernel_rfl) ?_
              refine pSeq ?_
              rcases ic h with ⟨hp43, h⟩ | ⟨hp43, h⟩
              · refine wCT hp43 tm (s1 rfl) ?_
                refine wSeq ?_
                obtain ⟨y44, hy44, h⟩ := bd h
                refine rg (cp (oMv tm) (s1 rfl) <| cm (oCallS (rest := [.row 1011 78 (kR f_api_Instr) v32]) (R' := [.row 1011 78 (kR f_api_Instr) v32, .box 40 138 [.d (kL kS) y44.l_.Names, .d (kL (kI .u32)) y44.l_.Up, .d (kL (kR f_api_Tok)) y44.toks_, .d (kI .i64) y44.i_, .d (kI .i64) y44.bad_]]) (out' := .d (tup [])) [(70000, 40)] [] [1] [0] [1, 0] rfl (code_reader_fail.ok hy44) b90 (oE1 tm (oE1 (cI (by decide)) oE0)) rfl rfl rfl rfl rfl rfl rfl rfl) (s1 rfl) <| .nil) (by kernel_rfl) ?_
                refine pSeq ?_
                refine wExit ?_
                refine pThenX ?_
                refine pBlkO rfl ?_
                refine pThenX ?_
                refine pBlkX ?_
                exact pJ6 _ _ _ _ _ _ (so h) ⟨rfl, trivial⟩ rfl
              · refine wCF hp43 tm (s1 rfl) ?_
                refine wSkip ?_
                refine pSeq ?_
                obtain ⟨y45, hy45, h⟩ := bd h
                obtain ⟨hc46, h⟩ := ib h
                refine rg (cp (oMv tm) (s1 rfl) <| cp (oMv tm) (s1 rfl) <| cp (oMv tm) (s1 rfl) <| cm (oCallS (rest := [.row 1011 78 (kR f_api_Instr) v32]) (R' := [.row 1011 78 (kR f_api_Instr) v32, .box 40 138 [.d (kL kS) y45.1.l_.Names, .d (kL (kI .u32)) y45.1.l_.Up, .d (kL (kR f_api_Tok)) y45.1.toks_, .d (kI .i64) y45.1.i_, .d (kI .i64) y45.1.bad_]]) (out' := .d ((kR f_api_Instr).sig y45.2)) [(70000, 40)] [] [1] [0] [1, 0] rfl (code_reader_one.ok hy45) b91 (oE1 tm (oE1 tm oE0)) rfl rfl rfl rfl rfl rfl rfl rfl) (s2 rfl rfl) <| cp (oLit (d := (kR f_api_Instr)) el39 (by decide) rfl rfl rfl (e1 tm e0)) (s1 rfl) <| cw (oApp (n := 0) (id' := 66) el39 (by decide) rfl (by decide) hc46 tm tm) (s2 rfl rfl) <| cp (oAs tm) (s1 rfl) <| .nil) (by kernel_rfl) ?_
                refine pBlkN ?_
                refine pSub (Γ' := [(10, .p 40 0), (11, .v 66)]) ⟨rfl, rfl, trivial⟩ ?_
                refine pRen 66 1011 rfl ?_
                exact pLoop (lW (ih _ _ _ _ _ _ h) ⟨rfl, rfl, trivial⟩ rfl)
          · refine wCF hp39 tm (s1 rfl) ?_
            refine wExit ?_
            refine pThenX ?_
            refine pThenX ?_
            refine pBlkX ?_
            exact pJ6 _ _ _ _ _ _ (so h) ⟨rfl, trivial⟩ rfl
        · rintro x33 x34 x35 x36 x37 x38 rfl
          replace h := hk1
          refine wSeq ?_
          refine rgD hm (cp (oMv tm) (s1 rfl) <| cp (oNilP tm) (s1 rfl) <| cp (oFldP o138_2 tm) (s1 rfl) <| cr (oLdB (n := 1) (k := 3) rfl rfl rfl t3 tm) (s1 rfl) <| cp (oMv tm) (s1 rfl) <| cp (oNilP tm) (s1 rfl) <| cp (oFldP o138_3 tm) (s1 rfl) <| cr (oLdB (n := 1) (k := 4) rfl rfl rfl t27 tm) (s1 rfl) <| cp (oAs cV) trivial <| cp (oAs tm) (s1 rfl) <| cp (oAs tm) (s1 rfl) <| .nil) (by kernel_rfl) (by kernel_rfl) ?_
          refine pSeq ?_
          refine wNil (kR f_api_Instr) 78 9006 6 rfl rfl ?_
          refine wFrzR (n := 0) (id := 9006) [6] rfl rfl ⟨rfl, trivial⟩ ?_
          refine wRet ?_
          obtain rfl := so h
          exact pRn (.inl rfl) rfl rfl (.tmp rfl <| .tmp rfl <| .tmp rfl <| .nil)
  · refine wNF hp2 tm (s1 rfl) ?_
    refine wSeq ?_
    refine rg (cp (oMv tm) (s1 rfl) <| cp (oAs cV) trivial <| cp (oAs (cI (by decide))) trivial <| cp (oAs tm) (s1 rfl) <| .nil) (by kernel_rfl) ?_
    refine pSeq ?_
    refine wNil (kR f_api_Instr) 78 9006 6 rfl rfl ?_
    refine wFrzR (n := 0) (id := 9006) [6] rfl rfl ⟨rfl, trivial⟩ ?_
    refine wRet ?_
    refine pThenR ?_
    obtain rfl := so h
    exact pRn (.inl rfl) rfl rfl (.tmp rfl <| .tmp rfl <| .tmp rfl <| .nil)

theorem code_Parse.ok {a0 : api_Lattice} {a1 : Str} {r : (List api_Instr) × Int × Int} (h : code_Parse.f a0 a1 = some r) : FnA Tryd.prog 21 [(kR f_api_Lattice).sig a0, kS.sig a1] (tup [(kL (kR f_api_Instr)).sig r.1, (kI .i64).sig r.2.1, (kI .i64).sig r.2.2]) := by
  refine fnIntro Tryd.func21 rfl (by kernel_rfl) fun H0 w0 => ?_
  unfold code_Parse.f at h
  refine wSeq ?_
  refine rg (cp (oBox tm) (s1 rfl) <| cp (oAs cV) trivial <| cp (oAs (cI (by decide))) trivial <| cp (oAs (cI (by decide))) trivial <| .nil) (by kernel_rfl) ?_
  refine pSeq ?_
  refine wSeq ?_
  refine wSeq ?_
  obtain ⟨y1, hy1, h⟩ := bd h
  refine rg (cp (oLd t38 tm) (s1 rfl) <| cp (oCall rfl (lattice_Check.ok hy1) b39 (opds_cons tm opds_nil)) (s1 rfl) <| cp (oAs tm) (s1 rfl) <| .nil) (by kernel_rfl) ?_
  refine pSeq ?_
  refine wSeq ?_
  refine rg (cp (oMv tm) (s1 rfl) <| cp (oNe rfl tm (cI (by decide))) (s1 rfl) <| .nil) (by kernel_rfl) ?_
  refine pSeq ?_
  rcases ic h with ⟨hp2, h⟩ | ⟨hp2, h⟩
  · refine wNT hp2 tm (s1 rfl) ?_
    refine wSkip ?_
    refine pSeq ?_
    refine wSeq ?_
    obtain ⟨y3, hy3, h⟩ := bd h
    refine rg (cp (oMv tm) (s1 rfl) <| cp (oCall rfl (lex_Lex.ok hy3) b55 (opds_cons tm opds_nil)) (s1 rfl) <| cp (oMv tm) (s1 rfl) <| cp (oExt (k := 0) rfl tm) (s1 rfl) <| cp (oExt (k := 1) rfl tm) (s1 rfl) <| cp (oExt (k := 2) rfl tm) (s1 rfl) <| cp (oAs tm) (s1 rfl) <| cp (oAs tm) (s1 rfl) <| cp (oAs tm) (s1 rfl) <| .nil) (by kernel_rfl) ?_
    refine pSeq ?_
    refine wSeq ?_
    refine wSeq ?_
    refine rg (cp (oMv tm) (s1 rfl) <| cp (oNe rfl tm (cI (by decide))) (s1 rfl) <| .nil) (by kernel_rfl) ?_
    refine pSeq ?_
    rcases ic h with ⟨hp4, h⟩ | ⟨hp4, h⟩
    · refine wNT hp4 tm (s1 rfl) ?_
      refine wSkip ?_
      refine pSeq ?_
      refine wSeq ?_
      obtain ⟨y5, hy5, h⟩ := bd h
      refine rg (cp (oLd t38 tm) (s1 rfl) <| cp (oMv tm) (s1 rfl) <| cp (oCall rfl (code_From.ok hy5) b56 (opds_cons tm (opds_cons tm (opds_cons (cI (by decide)) opds_nil)))) (s2 rfl rfl) <| cp (oMv tm) (s1 rfl) <| cp (oExt (k := 0) rfl tm) (s1 rfl) <| cp (oExt (k := 1) rfl tm) (s1 rfl) <| cp (oExt (k := 2) rfl tm) (s1 rfl) <| cp (oAs tm) (s1 rfl) <| cp (oAs tm) (s1 rfl) <| cp (oAs tm) (s1 rfl) <| .nil) (by kernel_rfl) ?_
      refine pSeq ?_
      refine wSeq ?_
      refine wBlock ?_
      refine wSeq ?_
      refine rg (cp (oMv tm) (s1 rfl) <| cp (oNe rfl tm (cI (by decide))) (s1 rfl) <| cp (oAs tm) (s1 rfl) <| .nil) (by kernel_rfl) ?_
      refine pSeq ?_
      rcases ic h with ⟨hp6, h⟩ | ⟨hp6, h⟩
      · refine wNT hp6 tm (s1 rfl) ?_
        refine wSeq ?_
        obtain ⟨y7, hy7, h⟩ := bd h
        refine rg (cp (oMv tm) (s1 rfl) <| cp (oMv tm) (s1 rfl) <| cp (oIdx u88 z93 hy7 tm tm) (s2 rfl rfl) <| cp (oFld (fs := f_api_Tok) (k := 0) rfl o93_0 tm) (s1 rfl) <| cp (oLd t3 tm) (s1 rfl) <| cp (oNe rfl tm (cI (by decide))) (s1 rfl) <| cp (oAs tm) (s1 rfl) <| .nil) (by kernel_rfl) ?_
        refine pSeq ?_
        rcases ic h with ⟨hp8, h⟩ | ⟨hp8, h⟩
        · refine wNT hp8 tm (s1 rfl) ?_
          refine wSkip ?_
          refine pBlkN ?_
          refine pSeq ?_
          refine wSeq ?_
          refine rg (cp (oMv tm) (s1 rfl) <| cp (oAs tm) (s1 rfl) <| cp (oAs (cI (by decide))) trivial <| cp (oAs (cI (by decide))) trivial <| .nil) (by kernel_rfl) ?_
          refine pSeq ?_
          refine wRet ?_
          obtain rfl := so h
          exact pRn (.inl rfl) rfl rfl (.tmp rfl <| .tmp rfl <| .tmp rfl <| .nil)
        · refine wNF hp8 tm (s1 rfl) ?_
          refine wSeq ?_
          obtain ⟨y9, hy9, h⟩ := bd h
          refine rgD hm (cp (oMv tm) (s1 rfl) <| cp (oMv tm) (s1 rfl) <| cp (oIdx u88 z93 hy9 tm tm) (s2 rfl rfl) <| cp (oFld (fs := f_api_Tok) (k := 2) rfl o93_2 tm) (s1 rfl) <| cp (oLd t3 tm) (s1 rfl) <| cp (oAs cV) trivial <| cp (oAs tm) (s1 rfl) <| cp (oAs (cI (by decide))) trivial <| .nil) (by kernel_rfl) (by kernel_rfl) ?_
          refine pSeq ?_
          refine wNil (kR f_api_Instr) 78 9004 4 rfl rfl ?_
          refine wFrzR (n := 0) (id := 9004) [4] rfl rfl ⟨rfl, trivial⟩ ?_
          refine wRet ?_
          refine pBlkR ?_
          refine pThenR ?_
          obtain rfl := so h
          exact pRn (.inl rfl) rfl rfl (.tmp rfl <| .tmp rfl <| .tmp rfl <| .nil)
      · refine wNF hp6 tm (s1 rfl) ?_
        refine wSeq ?_
        obtain ⟨y10, hy10, h⟩ := bd h
        refine rgD hm (cp (oMv tm) (s1 rfl) <| cp (oMv tm) (s1 rfl) <| cp (oIdx u88 z93 hy10 tm tm) (s2 rfl rfl) <| cp (oFld (fs := f_api_Tok) (k := 2) rfl o93_2 tm) (s1 rfl) <| cp (oLd t3 tm) (s1 rfl) <| cp (oMv tm) (s1 rfl) <| cp (oAs cV) trivial <| cp (oAs tm) (s1 rfl) <| cp (oAs tm) (s1 rfl) <| .nil) (by kernel_rfl) (by kernel_rfl) ?_
        refine pSeq ?_
        refine wNil (kR f_api_Instr) 78 9004 4 rfl rfl ?_
        refine wFrzR (n := 0) (id := 9004) [4] rfl rfl ⟨rfl, trivial⟩ ?_
        refine wRet ?_
        refine pBlkR ?_
        refine pThenR ?_
        obtain rfl := so h
        exact pRn (.inl rfl) rfl rfl (.tmp rfl <| .tmp rfl <| .tmp rfl <| .nil)
    · refine wNF hp4 tm (s1 rfl) ?_
      refine wSeq ?_
      refine rg (cp (oMv tm) (s1 rfl) <| cp (oMv tm) (s1 rfl) <| cp (oAs cV) trivial <| cp (oAs tm) (s1 rfl) <| cp (oAs tm) (s1 rfl) <| .nil) (by kernel_rfl) ?_
      refine pSeq ?_
      refine wNil (kR f_api_Instr) 78 9004 4 rfl rfl ?_
      refine wFrzR (n := 0) (id := 9004) [4] rfl rfl ⟨rfl, trivial⟩ ?_
      refine wRet ?_
      refine pThenR ?_
      obtain rfl := so h
      exact pRn (.inl rfl) rfl rfl (.tmp rfl <| .tmp rfl <| .tmp rfl <| .nil)
  · refine wNF hp2 tm (s1 rfl) ?_
    refine wSeq ?_
    refine rg (cp (oMv tm) (s1 rfl) <| cp (oAs cV) trivial <| cp (oAs (cI (by decide))) trivial <| cp (oAs tm) (s1 rfl) <| .nil) (by kernel_rfl) ?_
    refine pSeq ?_
    refine wNil (kR f_api_Instr) 78 9004 4 rfl rfl ?_
    refine wFrzR (n := 0) (id := 9004) [4] rfl rfl ⟨rfl, trivial⟩ ?_
    refine wRet ?_
    refine pThenR ?_
    obtain rfl := so h
    exact pRn (.inl rfl) rfl rfl (.tmp rfl <| .tmp rfl <| .tmp rfl <| .nil)

theorem reticentlaw08_alive.ok {r : Bool} (h : reticentlaw08_alive.f = some r) : FnA Tryd.prog 19 [] (kB.sig r) := by
  refine fnIntro Tryd.func19 rfl (by kernel_rfl) fun H0 w0 => ?_
  unfold reticentlaw08_alive.f at h
  refine wSeq ?_
  refine rg (cp (oAs cB) trivial <| .nil) (by kernel_rfl) ?_
  refine pSeq ?_
  refine wSeq ?_
  refine rg (cp (oLit (d := kS) el35 (by decide) rfl rfl rfl (e1 (cS (by decide)) (e1 (cS (by decide)) e0))) trivial <| cp (oLit (d := (kI .u32)) el36 (by decide) rfl rfl rfl (e1 (cI (by decide)) (e1 (cI (by decide)) e0))) trivial <| cp (oBuild (fs := f_api_Lattice) (u := ⟨([([97] : Str), ([98] : Str)] : List Str), ([3, 2] : List Int)⟩) rfl ze38 pl38 po38 (.op (zc := [(.slice none 0 0)]) tm rfl (.op (zc := [(.slice none 0 0)]) tm rfl .nil))) (s2 rfl rfl) <| cw (oAlloc (id := 1) (ls := [.d (kL kS) [], .d (kL (kI .u32)) []]) ze38 (fun g => ⟨[(.slice none 0 0)], _, rfl, zL g.H, ⟨[(.slice none 0 0)], _, rfl, zL g.H, rfl⟩⟩)) trivial <| cwn (oStA (n := 0) (fs := f_api_Lattice) rfl rfl z38 tm tm) (s2 rfl rfl) <| .nil) (by kernel_rfl) ?_
  refine pSeq ?_
  refine wSeq ?_
  obtain ⟨y1, hy1, h⟩ := bd h
  refine rg (cr (oLdA (n := 0) (fs := f_api_Lattice) (u := ⟨([([97] : Str), ([98] : Str)] : List Str), ([3, 2] : List Int)⟩) rfl ⟨rfl, rfl, trivial⟩ t38 tm) (s1 rfl) <| cp (oCall rfl (code_Parse.ok hy1) b21 (opds_cons tm (opds_cons (cS (by decide)) opds_nil))) (s1 rfl) <| cp (oMv tm) (s1 rfl) <| cp (oExt (k := 0) rfl tm) (s1 rfl) <| cp (oExt (k := 1) rfl tm) (s1 rfl) <| cp (oExt (k := 2) rfl tm) (s1 rfl) <| cp (oAs tm) (s1 rfl) <| cp (oAs tm) (s1 rfl) <| cp (oAs tm) (s1 rfl) <| .nil) (by kernel_rfl) ?_
  refine pSeq ?_
  obtain ⟨o1, h, hk1⟩ := bd h
  refine wJ1 (fun x7 => x7 = o1) (fun x7 => [(0, .d (kB.sig x7))]) (fun x7 => [.box 1 38 [.d (kL kS) ([([97] : Str), ([98] : Str)] : List Str), .d (kL (kI .u32)) ([3, 2] : List Int)]]) ?_ ?_
  · rcases ic h with ⟨hp8, h⟩ | ⟨hp8, h⟩
    · rcases ic h with ⟨hp9, h⟩ | ⟨hp9, h⟩
      · obtain ⟨y10, hy10, h⟩ := bd h
        rcases ic h with ⟨hp11, h⟩ | ⟨hp11, h⟩
        · obtain ⟨y12, hy12, h⟩ := bd h
          refine rg (cp (oMv tm) (s1 rfl) <| cp (oEq rfl tm (cI (by decide))) (s1 rfl) <| cp (oMv tm) (s1 rfl) <| cgB (decide_eq_true hp8) rfl rfl (oMv tm) (s1 rfl) <| cgB (decide_eq_true hp8) rfl rfl (oLenL u39 tm) (s1 rfl) <| cgB (decide_eq_true hp8) rfl rfl (oEq rfl tm (cI (by decide))) (s1 rfl) <| cp (oPkT (decide_eq_true hp8) tm tm) (s2 rfl rfl) <| cp (oMv tm) (s1 rfl) <| cgB (decide_eq_true hp9) rfl rfl (oMv tm) (s1 rfl) <| cgB (decide_eq_true hp9) rfl rfl (oIdx u39 z78 hy10 tm (cI (by decide))) (s1 rfl) <| cgB (decide_eq_true hp9) rfl rfl (oLd t78 tm) (s1 rfl) <| cgB (decide_eq_true hp9) rfl rfl (oBuild (fs := f_api_Instr) (u := ⟨1, (-3), 1⟩) rfl ze78 pl78 po78 (.op (zc := [(.int .i64 0)]) (cI (by decide)) rfl (.op (zc := [(.int .i64 0)]) (cI (by decide)) rfl (.op (zc := [(.int .i64 0)]) (cI (by decide)) rfl .nil)))) trivial <| cgB (decide_eq_true hp9) rfl rfl (oREq eqk78 rfl eg78 rfl tm tm) (s2 rfl rfl) <| cp (oPkT (decide_eq_true hp9) tm tm) (s2 rfl rfl) <| cp (oMv tm) (s1 rfl) <| crgB (decide_eq_true hp11) rfl rfl (oLdA (n := 0) (fs := f_api_Lattice) (u := ⟨([([97] : Str), ([98] : Str)] : List Str), ([3, 2] : List Int)⟩) rfl ⟨rfl, rfl, trivial⟩ t38 tm) (s1 rfl) <| cgB (decide_eq_true hp11) rfl rfl (oMv tm) (s1 rfl) <| cgB (decide_eq_true hp11) rfl rfl (oCall rfl (code_Right.ok hy12) b16 (opds_cons tm (opds_cons tm opds_nil))) (s2 rfl rfl) <| cp (oPkT (decide_eq_true hp11) tm tm) (s2 rfl rfl) <| cp (oAs tm) (s1 rfl) <| .nil) (by kernel_rfl) ?_
          exact pJ1 _ (so h) ⟨rfl, trivial⟩ rfl
        · refine rg (cp (oMv tm) (s1 rfl) <| cp (oEq rfl tm (cI (by decide))) (s1 rfl) <| cp (oMv tm) (s1 rfl) <| cgB (decide_eq_true hp8) rfl rfl (oMv tm) (s1 rfl) <| cgB (decide_eq_true hp8) rfl rfl (oLenL u39 tm) (s1 rfl) <| cgB (decide_eq_true hp8) rfl rfl (oEq rfl tm (cI (by decide))) (s1 rfl) <| cp (oPkT (decide_eq_true hp8) tm tm) (s2 rfl rfl) <| cp (oMv tm) (s1 rfl) <| cgB (decide_eq_true hp9) rfl rfl (oMv tm) (s1 rfl) <| cgB (decide_eq_true hp9) rfl rfl (oIdx u39 z78 hy10 tm (cI (by decide))) (s1 rfl) <| cgB (decide_eq_true hp9) rfl rfl (oLd t78 tm) (s1 rfl) <| cgB (decide_eq_true hp9) rfl rfl (oBuild (fs := f_api_Instr) (u := ⟨1, (-3), 1⟩) rfl ze78 pl78 po78 (.op (zc := [(.int .i64 0)]) (cI (by decide)) rfl (.op (zc := [(.int .i64 0)]) (cI (by decide)) rfl (.op (zc := [(.int .i64 0)]) (cI (by decide)) rfl .nil)))) trivial <| cgB (decide_eq_true hp9) rfl rfl (oREq eqk78 rfl eg78 rfl tm tm) (s2 rfl rfl) <| cp (oPkT (decide_eq_true hp9) tm tm) (s2 rfl rfl) <| cp (oMv tm) (s1 rfl) <| csB (decide_eq_false hp11) rfl rfl <| csB (decide_eq_false hp11) rfl rfl <| csB (decide_eq_false hp11) rfl rfl <| cp (oPkF (decide_eq_false hp11) tm cB) (s1 rfl) <| cp (oAs tm) (s1 rfl) <| .nil) (by kernel_rfl) ?_
          exact pJ1 _ (so h) ⟨rfl, trivial⟩ rfl
      · refine rg (cp (oMv tm) (s1 rfl) <| cp (oEq rfl tm (cI (by decide))) (s1 rfl) <| cp (oMv tm) (s1 rfl) <| cgB (decide_eq_true hp8) rfl rfl (oMv tm) (s1 rfl) <| cgB (decide_eq_true hp8) rfl rfl (oLenL u39 tm) (s1 rfl) <| cgB (decide_eq_true hp8) rfl rfl (oEq rfl tm (cI (by decide))) (s1 rfl) <| cp (oPkT (decide_eq_true hp8) tm tm) (s2 rfl rfl) <| cp (oMv tm) (s1 rfl) <| csB (decide_eq_false hp9) rfl rfl <| csB (decide_eq_false hp9) rfl rfl <| csB (decide_eq_false hp9) rfl rfl <| csB (decide_eq_false hp9) rfl rfl <| csB (decide_eq_false hp9) rfl rfl <| cp (oPkF (decide_eq_false hp9) tm cB) (s1 rfl) <| cp (oMv tm) (s1 rfl) <| csB rfl rfl rfl <| csB rfl rfl rfl <| csB rfl rfl rfl <| cp (oPkF rfl tm cB) (s1 rfl) <| cp (oAs tm) (s1 rfl) <| .nil) (by kernel_rfl) ?_
        exact pJ1 _ (so h) ⟨rfl, trivial⟩ rfl
    · refine rg (cp (oMv tm) (s1 rfl) <| cp (oEq rfl tm (cI (by decide))) (s1 rfl) <| cp (oMv tm) (s1 rfl) <| csB (decide_eq_false hp8) rfl rfl <| csB (decide_eq_false hp8) rfl rfl <| csB (decide_eq_false hp8) rfl rfl <| cp (oPkF (decide_eq_false hp8) tm cB) (s1 rfl) <| cp (oMv tm) (s1 rfl) <| csB rfl rfl rfl <| csB rfl rfl rfl <| csB rfl rfl rfl <| csB rfl rfl rfl <| csB rfl rfl rfl <| cp (oPkF rfl tm cB) (s1 rfl) <| cp (oMv tm) (s1 rfl) <| csB rfl rfl rfl <| csB rfl rfl rfl <| csB rfl rfl rfl <| cp (oPkF rfl tm cB) (s1 rfl) <| cp (oAs tm) (s1 rfl) <| .nil) (by kernel_rfl) ?_
      exact pJ1 _ (so h) ⟨rfl, trivial⟩ rfl
  · rintro x7 rfl
    replace h := hk1
    refine wRet ?_
    obtain rfl := so h
    exact pR1 (.inl rfl) rfl (.tmp rfl <| .nil)

theorem reticentref06_Word.ok {a0 : Int} {r : Str} (h : reticentref06_Word.f a0 = some r) : FnA Tryd.prog 52 [(kI .i64).sig a0] (kS.sig r) := by
  refine fnIntro Tryd.func52 rfl (by kernel_rfl) fun H0 w0 => ?_
  unfold reticentref06_Word.f at h
  refine wSeq ?_
  refine rg (cp (oAs (cS (by decide))) trivial <| .nil) (by kernel_rfl) ?_
  refine pSeq ?_
  refine wSeq ?_
  obtain ⟨y1, hy1, h⟩ := bd h
  refine rg (cp (oLit (d := kS) el35 (by decide) rfl rfl rfl (e1 (cS (by decide)) (e1 (cS (by decide)) (e1 (cS (by decide)) (e1 (cS (by decide)) (e1 (cS (by decide)) (e1 (cS (by decide)) (e1 (cS (by decide)) (e1 (cS (by decide)) (e1 (cS (by decide)) (e1 (cS (by decide)) (e1 (cS (by decide)) (e1 (cS (by decide)) (e1 (cS (by decide)) e0)))))))))))))) trivial <| cp (oMv tm) (s1 rfl) <| cp (oIdx u35 z9 hy1 tm tm) (s2 rfl rfl) <| cp (oLd t9 tm) (s1 rfl) <| cp (oAs tm) (s1 rfl) <| .nil) (by kernel_rfl) ?_
  refine pSeq ?_
  refine wRet ?_
  obtain rfl := so h
  exact pR1 (.inl rfl) rfl (.tmp rfl <| .nil)

theorem reticentref08_Number.ok {a0 : Int} {r : Bool} (h : reticentref08_Number.f a0 = some r) : FnA Tryd.prog 53 [(kI .i64).sig a0] (kB.sig r) := by
  refine fnIntro Tryd.func53 rfl (by kernel_rfl) fun H0 w0 => ?_
  unfold reticentref08_Number.f at h
  refine wSeq ?_
  refine rg (cp (oAs cB) trivial <| .nil) (by kernel_rfl) ?_
  refine pSeq ?_
  obtain ⟨o1, h, hk1⟩ := bd h
  refine wJ1 (fun x4 => x4 = o1) (fun x4 => [(2, .d (kB.sig x4))]) (fun x4 => []) ?_ ?_
  · rcases ic h with ⟨hp5, h⟩ | ⟨hp5, h⟩
    · refine rg (cp (oMv tm) (s1 rfl) <| cp (oEq rfl tm (cI (by decide))) (s1 rfl) <| cp (oMv tm) (s1 rfl) <| csB (decide_eq_true hp5) rfl rfl <| csB (decide_eq_true hp5) rfl rfl <| cp (oPkT (decide_eq_true hp5) tm cB) (s1 rfl) <| cp (oMv tm) (s1 rfl) <| csB rfl rfl rfl <| csB rfl rfl rfl <| cp (oPkT rfl tm cB) (s1 rfl) <| cp (oMv tm) (s1 rfl) <| csB rfl rfl rfl <| csB rfl rfl rfl <| cp (oPkT rfl tm cB) (s1 rfl) <| cp (oAs tm) (s1 rfl) <| .nil) (by kernel_rfl) ?_
      exact pJ1 _ (so h) ⟨rfl, trivial⟩ rfl
    · rcases ic h with ⟨hp6, h⟩ | ⟨hp6, h⟩
      · refine rg (cp (oMv tm) (s1 rfl) <| cp (oEq rfl tm (cI (by decide))) (s1 rfl) <| cp (oMv tm) (s1 rfl) <| cgB (decide_eq_false hp5) rfl rfl (oMv tm) (s1 rfl) <| cgB (decide_eq_false hp5) rfl rfl (oEq rfl tm (cI (by decide))) (s1 rfl) <| cp (oPkF (decide_eq_false hp5) tm tm) (s2 rfl rfl) <| cp (oMv tm) (s1 rfl) <| csB (decide_eq_true hp6) rfl rfl <| csB (decide_eq_true hp6) rfl rfl <| cp (oPkT (decide_eq_true hp6) tm cB) (s1 rfl) <| cp (oMv tm) (s1 rfl) <| csB rfl rfl rfl <| csB rfl rfl rfl <| cp (oPkT rfl tm cB) (s1 rfl) <| cp (oAs tm) (s1 rfl) <| .nil) (by kernel_rfl) ?_
        exact pJ1 _ (so h) ⟨rfl, trivial⟩ rfl
      · rcases ic h with ⟨hp7, h⟩ | ⟨hp7, h⟩
        · refine rg (cp (oMv tm) (s1 rfl) <| cp (oEq rfl tm (cI (by decide))) (s1 rfl) <| cp (oMv tm) (s1 rfl) <| cgB (decide_eq_false hp5) rfl rfl (oMv tm) (s1 rfl) <| cgB (decide_eq_false hp5) rfl rfl (oEq rfl tm (cI (by decide))) (s1 rfl) <| cp (oPkF (decide_eq_false hp5) tm tm) (s2 rfl rfl) <| cp (oMv tm) (s1 rfl) <| cgB (decide_eq_false hp6) rfl rfl (oMv tm) (s1 rfl) <| cgB (decide_eq_false hp6) rfl rfl (oEq rfl tm (cI (by decide))) (s1 rfl) <| cp (oPkF (decide_eq_false hp6) tm tm) (s2 rfl rfl) <| cp (oMv tm) (s1 rfl) <| csB (decide_eq_true hp7) rfl rfl <| csB (decide_eq_true hp7) rfl rfl <| cp (oPkT (decide_eq_true hp7) tm cB) (s1 rfl) <| cp (oAs tm) (s1 rfl) <| .nil) (by kernel_rfl) ?_
          exact pJ1 _ (so h) ⟨rfl, trivial⟩ rfl
        · refine rg (cp (oMv tm) (s1 rfl) <| cp (oEq rfl tm (cI (by decide))) (s1 rfl) <| cp (oMv tm) (s1 rfl) <| cgB (decide_eq_false hp5) rfl rfl (oMv tm) (s1 rfl) <| cgB (decide_eq_false hp5) rfl rfl (oEq rfl tm (cI (by decide))) (s1 rfl) <| cp (oPkF (decide_eq_false hp5) tm tm) (s2 rfl rfl) <| cp (oMv tm) (s1 rfl) <| cgB (decide_eq_false hp6) rfl rfl (oMv tm) (s1 rfl) <| cgB (decide_eq_false hp6) rfl rfl (oEq rfl tm (cI (by decide))) (s1 rfl) <| cp (oPkF (decide_eq_false hp6) tm tm) (s2 rfl rfl) <| cp (oMv tm) (s1 rfl) <| cgB (decide_eq_false hp7) rfl rfl (oMv tm) (s1 rfl) <| cgB (decide_eq_false hp7) rfl rfl (oEq rfl tm (cI (by decide))) (s1 rfl) <| cp (oPkF (decide_eq_false hp7) tm tm) (s2 rfl rfl) <| cp (oAs tm) (s1 rfl) <| .nil) (by kernel_rfl) ?_
          exact pJ1 _ (so h) ⟨rfl, trivial⟩ rfl
  · rintro x4 rfl
    replace h := hk1
    refine wRet ?_
    obtain rfl := so h
    exact pR1 (.inl rfl) rfl (.tmp rfl <| .nil)

theorem reticentref08_Signed.ok {a0 : Int} {r : Str} (h : reticentref08_Signed.f a0 = some r) : FnA Tryd.prog 54 [(kI .i64).sig a0] (kS.sig r) := by
  refine fnIntro Tryd.func54 rfl (by kernel_rfl) fun H0 w0 => ?_
  unfold reticentref08_Signed.f at h
  refine wSeq ?_
  refine rg (cp (oAs (cS (by decide))) trivial <| .nil) (by kernel_rfl) ?_
  refine pSeq ?_
  refine wSeq ?_
  refine wSeq ?_
  refine rg (cp (oMv tm) (s1 rfl) <| cp (oLt rfl tm (cI (by decide))) (s1 rfl) <| .nil) (by kernel_rfl) ?_
  refine pSeq ?_
  rcases ic h with ⟨hp1, h⟩ | ⟨hp1, h⟩
  · refine wCT hp1 tm (s1 rfl) ?_
    refine wSeq ?_
    obtain ⟨y2, hy2, h⟩ := bd h
    obtain ⟨hc3, h⟩ := ib h
    refine rg (cp (oMv tm) (s1 rfl) <| cp (oSub (cI (by decide)) tm) (s1 rfl) <| cp (oCall rfl (libItoa Tryd.strconv_Itoa_small hy2) b82 (opds_cons tm opds_nil)) (s1 rfl) <| cp (oSAdd hc3 (cS (by decide)) tm) (s1 rfl) <| cp (oAs tm) (s1 rfl) <| .nil) (by kernel_rfl) ?_
    refine pSeq ?_
    refine wRet ?_
    refine pThenR ?_
    obtain rfl := so h
    exact pR1 (.inl rfl) rfl (.tmp rfl <| .nil)
  · refine wCF hp1 tm (s1 rfl) ?_
    refine wSkip ?_
    refine pSeq ?_
    refine wSeq ?_
    obtain ⟨y4, hy4, h⟩ := bd h
    refine rg (cp (oMv tm) (s1 rfl) <| cp (oCall rfl (libItoa Tryd.strconv_Itoa_small hy4) b82 (opds_cons tm opds_nil)) (s1 rfl) <| cp (oAs tm) (s1 rfl) <| .nil) (by kernel_rfl) ?_
    refine pSeq ?_
    refine wRet ?_
    obtain rfl := so h
    exact pR1 (.inl rfl) rfl (.tmp rfl <| .nil)

theorem reticentref08_Text.ok {a0 : api_Lattice} {a1 : List api_Instr} {r : Str} (h : reticentref08_Text.f a0 a1 = some r) : FnA Tryd.prog 20 [(kR f_api_Lattice).sig a0, (kL (kR f_api_Instr)).sig a1] (kS.sig r) := by
  refine fnIntro Tryd.func20 rfl (by kernel_rfl) fun H0 w0 => ?_
  unfold reticentref08_Text.f at h
  refine wSeq ?_
  refine rg (cp (oBox tm) (s1 rfl) <| cp (oAs (cS (by decide))) trivial <| .nil) (by kernel_rfl) ?_
  refine pSeq ?_
  refine wSeq ?_
  refine rg (cp (oAs (cS (by decide))) trivial <| .nil) (by kernel_rfl) ?_
  refine pSeq ?_
  refine wSeq ?_
  refine wSeq ?_
  refine rg (cp (oMv tm) (s1 rfl) <| cp (oLenL u39 tm) (s1 rfl) <| cp (oMv (cI (by decide))) trivial <| .nil) (by kernel_rfl) ?_
  refine pSeq ?_
  obtain ⟨o1, h, hk1⟩ := bd h
  refine wK1 (fun x171 => x171 = o1) (fun x171 => [(5, .d (kS.sig x171))]) (fun x171 => []) ?_ ?_
  · refine wBlock (wLoop ?_)
    refine lW (pc2 o1 (fun v169 v170 => [(2, .d (sP (kR f_api_Lattice) a0)), (5, .d (kS.sig v170)), (8, .d ((kL (kR f_api_Instr)).sig a1)), (9, .d ((kI .i64).sig (a1.length : Int))), (10, .d ((kI .i64).sig v169))]) (fun v169 v170 => []) (reticentref08_Text.l0.partial_correctness a0 a1) ?_ _ _ h) ⟨rfl, rfl, rfl, rfl, rfl, trivial⟩ rfl
    clear h
    intro f' ih v169 v170 h
    refine wSeq ?_
    refine rg (cp (oLt rfl tm tm) (s2 rfl rfl) <| .nil) (by kernel_rfl) ?_
    refine pSeq ?_
    refine wSeq ?_
    rcases ic h with ⟨hp172, h⟩ | ⟨hp172, h⟩
    · refine wCT hp172 tm (s1 rfl) ?_
      refine wSkip ?_
      refine pSeq ?_
      obtain ⟨o2, h, hk2⟩ := bd h
      refine wJ1 (fun x214 => x214 = o2) (fun x214 => [(2, .d (sP (kR f_api_Lattice) a0)), (5, .d (kS.sig x214)), (8, .d ((kL (kR f_api_Instr)).sig a1)), (9, .d ((kI .i64).sig (a1.length : Int))), (10, .d ((kI .i64).sig v169))]) (fun x214 => []) ?_ ?_
      · refine wBlock ?_
        refine wSeq ?_
        obtain ⟨y215, hy215, h⟩ := bd h
        refine rg (cp (oMv tm) (s1 rfl) <| cp (oIdx u39 z78 hy215 tm tm) (s2 rfl rfl) <| cp (oLd t78 tm) (s1 rfl) <| cw (oAlloc (id := 7) (ls := [.d (kI .i64) 0, .d (kI .i64) 0, .d (kI .i64) 0]) ze78 (fun g => ⟨[(.int .i64 0)], _, rfl, zI_i64 g.H, ⟨[(.int .i64 0)], _, rfl, zI_i64 g.H, ⟨[(.int .i64 0)], _, rfl, zI_i64 g.H, rfl⟩⟩⟩)) trivial <| cp (oAs tm) (s1 rfl) <| cwn (oStA (n := 0) (fs := f_api_Instr) rfl rfl z78 tm tm) (s2 rfl rfl) <| .nil) (by kernel_rfl) ?_
        refine pSeq ?_
        refine wSeq ?_
        refine wSeq ?_
        refine rg (cp (oMv tm) (s1 rfl) <| cp (oGt rfl tm (cI (by decide))) (s1 rfl) <| .nil) (by kernel_rfl) ?_
        refine pSeq ?_
        rcases ic h with ⟨hp216, h⟩ | ⟨hp216, h⟩
        · refine wCT hp216 tm (s1 rfl) ?_
          obtain ⟨hc217, h⟩ := ib h
          refine rg (cp (oMv tm) (s1 rfl) <| cp (oSAdd hc217 tm (cS (by decide))) (s1 rfl) <| cp (oAs tm) (s1 rfl) <| .nil) (by kernel_rfl) ?_
          refine pSeq ?_
          refine wSeq ?_
          obtain ⟨y218, hy218, h⟩ := bd h
          obtain ⟨hc219, h⟩ := ib h
          refine rg (cp (oMv tm) (s1 rfl) <| cp (oFldP o78_0 tm) (s1 rfl) <| cr (oLdB (n := 0) (k := 0) rfl rfl rfl t3 tm) (s1 rfl) <| cp (oCall rfl (reticentref06_Word.ok hy218) b52 (opds_cons tm opds_nil)) (s1 rfl) <| cp (oSAdd hc219 tm tm) (s2 rfl rfl) <| cp (oAs tm) (s1 rfl) <| .nil) (by kernel_rfl) ?_
          refine pSeq ?_
          refine wSeq ?_
          refine wSeq ?_
          obtain ⟨y220, hy220, h⟩ := bd h
          refine rg (cp (oFldP o78_0 tm) (s1 rfl) <| cr (oLdB (n := 0) (k := 0) rfl rfl rfl t3 tm) (s1 rfl) <| cp (oCall rfl (reticentref08_Number.ok hy220) b53 (opds_cons tm opds_nil)) (s1 rfl) <| .nil) (by kernel_rfl) ?_
          refine pSeq ?_
          rcases ic h with ⟨hp221, h⟩ | ⟨hp221, h⟩
          · refine wBT hp221 tm (s1 rfl) ?_
            obtain ⟨hc222, h⟩ := ib h
            obtain ⟨y223, hy223, h⟩ := bd h
            obtain ⟨hc224, h⟩ := ib h
            refine rg (cp (oMv tm) (s1 rfl) <| cp (oSAdd hc222 tm (cS (by decide))) (s1 rfl) <| cp (oFldP o78_1 tm) (s1 rfl) <| cr (oLdB (n := 0) (k := 1) rfl rfl rfl t3 tm) (s1 rfl) <| cp (oCall rfl (reticentref08_Signed.ok hy223) b54 (opds_cons tm opds_nil)) (s1 rfl) <| cp (oSAdd hc224 tm tm) (s2 rfl rfl) <| cp (oAs tm) (s1 rfl) <| .nil) (by kernel_rfl) ?_
            refine pSeq ?_
            refine wSeq ?_
            refine wSeq ?_
            refine rg (cp (oFldP o78_0 tm) (s1 rfl) <| cr (oLdB (n := 0) (k := 0) rfl rfl rfl t3 tm) (s1 rfl) <| cp (oEq rfl tm (cI (by decide))) (s1 rfl) <| .nil) (by kernel_rfl) ?_
            refine pSeq ?_
            rcases ic h with ⟨hp225, h⟩ | ⟨hp225, h⟩
            · refine wCT hp225 tm (s1 rfl) ?_
              obtain ⟨hc226, h⟩ := ib h
              obtain ⟨y227, hy227, h⟩ := bd h
              obtain ⟨hc228, h⟩ := ib h
              refine rg (cp (oMv tm) (s1 rfl) <| cp (oSAdd hc226 tm (cS (by decide))) (s1 rfl) <| cp (oFld (fs := f_api_Lattice) (k := 0) rfl o38_0 tm) (s1 rfl) <| cp (oLd t35 tm) (s1 rfl) <| cp (oFldP o78_2 tm) (s1 rfl) <| cr (oLdB (n := 0) (k := 2) rfl rfl rfl t3 tm) (s1 rfl) <| cp (oIdx u35 z9 hy227 tm tm) (s2 rfl rfl) <| cp (oLd t9 tm) (s1 rfl) <| cp (oSAdd hc228 tm tm) (s2 rfl rfl) <| cp (oAs tm) (s1 rfl) <| .nil) (by kernel_rfl) ?_
              refine pSeq ?_
              obtain ⟨hc229, h⟩ := ib h
              refine rg (cp (oMv tm) (s1 rfl) <| cp (oSAdd hc229 tm (cS (by decide))) (s1 rfl) <| cp (oAs tm) (s1 rfl) <| .nil) (by kernel_rfl) ?_
              refine pBlkN ?_
              refine pDrop (.cons _ .slnil) ?_
              exact pJ1 _ (so h) ⟨rfl, rfl, rfl, rfl, rfl, trivial⟩ rfl
            · refine wCF hp225 tm (s1 rfl) ?_
              refine wSkip ?_
              refine pSeq ?_
              obtain ⟨hc230, h⟩ := ib h
              refine rg (cp (oMv tm) (s1 rfl) <| cp (oSAdd hc230 tm (cS (by decide))) (s1 rfl) <| cp (oAs tm) (s1 rfl) <| .nil) (by kernel_rfl) ?_
              refine pBlkN ?_
              refine pDrop (.cons _ .slnil) ?_
              exact pJ1 _ (so h) ⟨rfl, rfl, rfl, rfl, rfl, trivial⟩ rfl
          · refine wBF hp221 tm (s1 rfl) ?_
            refine wSkip ?_
            refine pSeq ?_
            refine wSeq ?_
            refine wSeq ?_
            refine rg (cp (oFldP o78_0 tm) (s1 rfl) <| cr (oLdB (n := 0) (k := 0) rfl rfl rfl t3 tm) (s1 rfl) <| cp (oEq rfl tm (cI (by decide))) (s1 rfl) <| .nil) (by kernel_rfl) ?_
            refine pSeq ?_
            rcases ic h with ⟨hp231, h⟩ | ⟨hp231, h⟩
            · refine wCT hp231 tm (s1 rfl) ?_
              obtain ⟨hc232, h⟩ := ib h
              obtain ⟨y233, hy233, h⟩ := bd h
              obtain ⟨hc234, h⟩ := ib h
              refine rg (cp (oMv tm) (s1 rfl) <| cp (oSAdd hc232 tm (cS (by decide))) (s1 rfl) <| cp (oFld (fs := f_api_Lattice) (k := 0) rfl o38_0 tm) (s1 rfl) <| cp (oLd t35 tm) (s1 rfl) <| cp (oFldP o78_2 tm) (s1 rfl) <| cr (oLdB (n := 0) (k := 2) rfl rfl rfl t3 tm) (s1 rfl) <| cp (oIdx u35 z9 hy233 tm tm) (s2 rfl rfl) <| cp (oLd t9 tm) (s1 rfl) <| cp (oSAdd hc234 tm tm) (s2 rfl rfl) <| cp (oAs tm) (s1 rfl) <| .nil) (by kernel_rfl) ?_
              refine pSeq ?_
              obtain ⟨hc235, h⟩ := ib h
              refine rg (cp (oMv tm) (s1 rfl) <| cp (oSAdd hc235 tm (cS (by decide))) (s1 rfl) <| cp (oAs tm) (s1 rfl) <| .nil) (by kernel_rfl) ?_
              refine pBlkN ?_
              refine pDrop (.cons _ .slnil) ?_
              exact pJ1 _ (so h) ⟨rfl, rfl, rfl, rfl, rfl, trivial⟩ rfl
            · refine wCF hp231 tm (s1 rfl) ?_
              refine wSkip ?_
              refine pSeq ?_
              obtain ⟨hc236, h⟩ := ib h
              refine rg (cp (oMv tm) (s1 rfl) <| cp (oSAdd hc236 tm (cS (by decide))) (s1 rfl) <| cp (oAs tm) (s1 rfl) <| .nil) (by kernel_rfl) ?_
              refine pBlkN ?_
              refine pDrop (.cons _ .slnil) ?_
              exact pJ1 _ (so h) ⟨rfl, rfl, rfl, rfl, rfl, trivial⟩ rfl
        · refine wCF hp216 tm (s1 rfl) ?_
          refine wSkip ?_
          refine pSeq ?_
          refine wSeq ?_
          obtain ⟨y237, hy237, h⟩ := bd h
          obtain ⟨hc238, h⟩ := ib h
          refine rg (cp (oMv tm) (s1 rfl) <| cp (oFldP o78_0 tm) (s1 rfl) <| cr (oLdB (n := 0) (k := 0) rfl rfl rfl t3 tm) (s1 rfl) <| cp (oCall rfl (reticentref06_Word.ok hy237) b52 (opds_cons tm opds_nil)) (s1 rfl) <| cp (oSAdd hc238 tm tm) (s2 rfl rfl) <| cp (oAs tm) (s1 rfl) <| .nil) (by kernel_rfl) ?_
          refine pSeq ?_
          refine wSeq ?_
          refine wSeq ?_
          obtain ⟨y239, hy239, h⟩ := bd h
          refine rg (cp (oFldP o78_0 tm) (s1 rfl) <| cr (oLdB (n := 0) (k := 0) rfl rfl rfl t3 tm) (s1 rfl) <| cp (oCall rfl (reticentref08_Number.ok hy239) b53 (opds_cons tm opds_nil)) (s1 rfl) <| .nil) (by kernel_rfl) ?_
          refine pSeq ?_
          rcases ic h with ⟨hp240, h⟩ | ⟨hp240, h⟩
          · refine wBT hp240 tm (s1 rfl) ?_
            obtain ⟨hc241, h⟩ := ib h
            obtain ⟨y242, hy242, h⟩ := bd h
            obtain ⟨hc243, h⟩ := ib h
            refine rg (cp (oMv tm) (s1 rfl) <| cp (oSAdd hc241 tm (cS (by decide))) (s1 rfl) <| cp (oFldP o78_1 tm) (s1 rfl) <| cr (oLdB (n := 0) (k := 1) rfl rfl rfl t3 tm) (s1 rfl) <| cp (oCall rfl (reticentref08_Signed.ok hy242) b54 (opds_cons tm opds_nil)) (s1 rfl) <| cp (oSAdd hc243 tm tm) (s2 rfl rfl) <| cp (oAs tm) (s1 rfl) <| .nil) (by kernel_rfl) ?_
            refine pSeq ?_
            refine wSeq ?_
            refine wSeq ?_
            refine rg (cp (oFldP o78_0 tm) (s1 rfl) <| cr (oLdB (n := 0) (k := 0) rfl rfl rfl t3 tm) (s1 rfl) <| cp (oEq rfl tm (cI (by decide))) (s1 rfl) <| .nil) (by kernel_rfl) ?_
            refine pSeq ?_
            rcases ic h with ⟨hp244, h⟩ | ⟨hp244, h⟩
            · refine wCT hp244 tm (s1 rfl) ?_
              obtain ⟨hc245, h⟩ := ib h
              obtain ⟨y246, hy246, h⟩ := bd h
              obtain ⟨hc247, h⟩ := ib h
              refine rg (cp (oMv tm) (s1 rfl) <| cp (oSAdd hc245 tm (cS (by decide))) (s1 rfl) <| cp (oFld (fs := f_api_Lattice) (k := 0) rfl o38_0 tm) (s1 rfl) <| cp (oLd t35 tm) (s1 rfl) <| cp (oFldP o78_2 tm) (s1 rfl) <| cr (oLdB (n := 0) (k := 2) rfl rfl rfl t3 tm) (s1 rfl) <| cp (oIdx u35 z9 hy246 tm tm) (s2 rfl rfl) <| cp (oLd t9 tm) (s1 rfl) <| cp (oSAdd hc247 tm tm) (s2 rfl rfl) <| cp (oAs tm) (s1 rfl) <| .nil) (by kernel_rfl) ?_
              refine pSeq ?_
              obtain ⟨hc248, h⟩ := ib h
              refine rg (cp (oMv tm) (s1 rfl) <| cp (oSAdd hc248 tm (cS (by decide))) (s1 rfl) <| cp (oAs tm) (s1 rfl) <| .nil) (by kernel_rfl) ?_
              refine pBlkN ?_
              refine pDrop (.cons _ .slnil) ?_
              exact pJ1 _ (so h) ⟨rfl, rfl, rfl, rfl, rfl, trivial⟩ rfl
            · refine wCF hp244 tm (s1 rfl) ?_
              refine wSkip ?_
              refine pSeq ?_
              obtain ⟨hc249, h⟩ := ib h
              refine rg (cp (oMv tm) (s1 rfl) <| cp (oSAdd hc249 tm (cS (by decide))) (s1 rfl) <| cp (oAs tm) (s1 rfl) <| .nil) (by kernel_rfl) ?_
              refine pBlkN ?_
              refine pDrop (.cons _ .slnil) ?_
              exact pJ1 _ (so h) ⟨rfl, rfl, rfl, rfl, rfl, trivial⟩ rfl
          · refine wBF hp240 tm (s1 rfl) ?_
            refine wSkip ?_
            refine pSeq ?_
            refine wSeq ?_
            refine wSeq ?_
            refine rg (cp (oFldP o78_0 tm) (s1 rfl) <| cr (oLdB (n := 0) (k := 0) rfl rfl rfl t3 tm) (s1 rfl) <| cp (oEq rfl tm (cI (by decide))) (s1 rfl) <| .nil) (by kernel_rfl) ?_
            refine pSeq ?_
            rcases ic h with ⟨hp250, h⟩ | ⟨hp250, h⟩
            · refine wCT hp250 tm (s1 rfl) ?_
              obtain ⟨hc251, h⟩ := ib h
              obtain ⟨y252, hy252, h⟩ := bd h
              obtain ⟨hc253, h⟩ := ib h
              refine rg (cp (oMv tm) (s1 rfl) <| cp (oSAdd hc251 tm (cS (by decide))) (s1 rfl) <| cp (oFld (fs := f_api_Lattice) (k := 0) rfl o38_0 tm) (s1 rfl) <| cp (oLd t35 tm) (s1 rfl) <| cp (oFldP o78_2 tm) (s1 rfl) <| cr (oLdB (n := 0) (k := 2) rfl rfl rfl t3 tm) (s1 rfl) <| cp (oIdx u35 z9 hy252 tm tm) (s2 rfl rfl) <| cp (oLd t9 tm) (s1 rfl) <| cp (oSAdd hc253 tm tm) (s2 rfl rfl) <| cp (oAs tm) (s1 rfl) <| .nil) (by kernel_rfl) ?_
              refine pSeq ?_
              obtain ⟨hc254, h⟩ := ib h
              refine rg (cp (oMv tm) (s1 rfl) <| cp (oSAdd hc254 tm (cS (by decide))) (s1 rfl) <| cp (oAs tm) (s1 rfl) <| .nil) (by kernel_rfl) ?_
              refine pBlkN ?_
              refine pDrop (.cons _ .slnil) ?_
              exact pJ1 _ (so h) ⟨rfl, rfl, rfl, rfl, rfl, trivial⟩ rfl
            · refine wCF hp250 tm (s1 rfl) ?_
              refine wSkip ?_
              refine pSeq ?_
              obtain ⟨hc255, h⟩ := ib h
              refine rg (cp (oMv tm) (s1 rfl) <| cp (oSAdd hc255 tm (cS (by decide))) (s1 rfl) <| cp (oAs tm) (s1 rfl) <| .nil) (by kernel_rfl) ?_
              refine pBlkN ?_
              refine pDrop (.cons _ .slnil) ?_
              exact pJ1 _ (so h) ⟨rfl, rfl, rfl, rfl, rfl, trivial⟩ rfl
      · rintro x214 rfl
        replace h := hk2
        refine rg (cp (oAdd tm (cI (by decide))) (s1 rfl) <| cp (oMv tm) (s1 rfl) <| .nil) (by kernel_rfl) ?_
        exact pLoop (lW (ih _ _ h) ⟨rfl, rfl, rfl, rfl, rfl, trivial⟩ rfl)
    · refine wCF hp172 tm (s1 rfl) ?_
      refine wExit ?_
      refine pThenX ?_
      refine pThenX ?_
      refine pBlkX ?_
      exact pJ1 _ (so h) ⟨rfl, trivial⟩ rfl
  · rintro x171 rfl
    replace h := hk1
    refine pSeq ?_
    refine wSeq ?_
    refine rg (cp (oMv tm) (s1 rfl) <| cp (oAs tm) (s1 rfl) <| .nil) (by kernel_rfl) ?_
    refine pSeq ?_
    refine wRet ?_
    obtain rfl := so h
    exact pR1 (.inl rfl) rfl (.tmp rfl <| .nil)

theorem reticentlaw08_CodeRight.ok {a0 : api_Lattice} {a1 : List api_Instr} {a2 : List api_Instr} {r : Bool} (h : reticentlaw08_CodeRight.f a0 a1 a2 = some r) : FnA Tryd.prog 4 [(kR f_api_Lattice).sig a0, (kL (kR f_api_Instr)).sig a1, (kL (kR f_api_Instr)).sig a2] (kB.sig r) := by
  refine fnIntro Tryd.func4 rfl (by kernel_rfl) fun H0 w0 => ?_
  unfold reticentlaw08_CodeRight.f at h
  refine wSeq ?_
  refine rg (cw (oBoxS (id := 3) (fs := f_api_Lattice) tm) (s1 rfl) <| cp (oAs cB) trivial <| .nil) (by kernel_rfl) ?_
  refine pSeq ?_
  refine wSeq ?_
  obtain ⟨y1, hy1, h⟩ := bd h
  obtain ⟨hc2, h⟩ := ib h
  obtain ⟨hc3, h⟩ := ib h
  refine rgD hm (cr (oLdA (n := 0) (fs := f_api_Lattice) (u := ⟨a0.Names, a0.Up⟩) rfl ⟨rfl, rfl, trivial⟩ t38 tm) (s1 rfl) <| cp (oCall rfl (reticentlaw08_few.ok hy1) b12 (opds_cons tm opds_nil)) (s1 rfl) <| cp (oMv tm) (s1 rfl) <| cp (oMv tm) (s1 rfl) <| cp (oLenL u39 tm) (s1 rfl) <| cp (oMin tm (cI (by decide))) (s1 rfl) <| cp (oCutHi u39 z78 hc2.1 hc2.2 tm tm) (s2 rfl rfl) <| cp (oMv tm) (s1 rfl) <| cp (oMv tm) (s1 rfl) <| cp (oLenL u39 tm) (s1 rfl) <| cp (oMin tm (cI (by decide))) (s1 rfl) <| cp (oCutHi u39 z78 hc3.1 hc3.2 tm tm) (s2 rfl rfl) <| cwn (oStA (n := 0) (fs := f_api_Lattice) rfl rfl z38 tm tm) (s2 rfl rfl) <| cp (oAs tm) (s1 rfl) <| cp (oAs tm) (s1 rfl) <| .nil) (by kernel_rfl) (by kernel_rfl) ?_
  refine pSeq ?_
  refine wSeq ?_
  obtain ⟨y4, hy4, h⟩ := bd h
  refine rg (cr (oLdA (n := 0) (fs := f_api_Lattice) (u := ⟨y1.Names, y1.Up⟩) rfl ⟨rfl, rfl, trivial⟩ t38 tm) (s1 rfl) <| cp (oMv tm) (s1 rfl) <| cp (oCall rfl (code_Text.ok hy4) b13 (opds_cons tm (opds_cons tm opds_nil))) (s2 rfl rfl) <| cp (oMv tm) (s1 rfl) <| cp (oExt (k := 0) rfl tm) (s1 rfl) <| cp (oExt (k := 1) rfl tm) (s1 rfl) <| cp (oAs tm) (s1 rfl) <| cp (oAs tm) (s1 rfl) <| .nil) (by kernel_rfl) ?_
  refine pSeq ?_
  refine wSeq ?_
  obtain ⟨y5, hy5, h⟩ := bd h
  refine rg (cr (oLdA (n := 0) (fs := f_api_Lattice) (u := ⟨y1.Names, y1.Up⟩) rfl ⟨rfl, rfl, trivial⟩ t38 tm) (s1 rfl) <| cp (oCall rfl (reticentref01_Check.ok hy5) b14 (opds_cons tm opds_nil)) (s1 rfl) <| cp (oAs tm) (s1 rfl) <| .nil) (by kernel_rfl) ?_
  refine pSeq ?_
  obtain ⟨o1, h, hk1⟩ := bd h
  refine wJ1 (fun x8 => x8 = o1) (fun x8 => [(1, .d ((kL (kR f_api_Instr)).sig (lCut a1 0 (if 15 < (a1.length : Int) then 15 else (a1.length : Int))))), (2, .d ((kL (kR f_api_Instr)).sig (lCut a2 0 (if 15 < (a2.length : Int) then 15 else (a2.length : Int))))), (3, .p 3 0), (7, .d (kS.sig y4.1)), (8, .d ((kI .i64).sig y4.2)), (9, .d ((kI .i64).sig y5)), (10, .d (kB.sig x8))]) (fun x8 => [.box 3 38 [.d (kL kS) y1.Names, .d (kL (kI .u32)) y1.Up]]) ?_ ?_
  · rcases ic h with ⟨hp9, h⟩ | ⟨hp9, h⟩
    · obtain ⟨y10, hy10, h⟩ := bd h
      refine rg (cp (oMv tm) (s1 rfl) <| cp (oEq rfl tm (cI (by decide))) (s1 rfl) <| cp (oMv tm) (s1 rfl) <| crgB (decide_eq_true hp9) rfl rfl (oLdA (n := 0) (fs := f_api_Lattice) (u := ⟨y1.Names, y1.Up⟩) rfl ⟨rfl, rfl, trivial⟩ t38 tm) (s1 rfl) <| cgB (decide_eq_true hp9) rfl rfl (oMv tm) (s1 rfl) <| cgB (decide_eq_true hp9) rfl rfl (oCall rfl (reticentref08_Right.ok hy10) b15 (opds_cons tm (opds_cons tm opds_nil))) (s2 rfl rfl) <| cp (oPkT (decide_eq_true hp9) tm tm) (s2 rfl rfl) <| cp (oAs tm) (s1 rfl) <| .nil) (by kernel_rfl) ?_
      exact pJ1 _ (so h) ⟨rfl, rfl, rfl, rfl, rfl, rfl, rfl, trivial⟩ rfl
    · refine rg (cp (oMv tm) (s1 rfl) <| cp (oEq rfl tm (cI (by decide))) (s1 rfl) <| cp (oMv tm) (s1 rfl) <| csB (decide_eq_false hp9) rfl rfl <| csB (decide_eq_false hp9) rfl rfl <| csB (decide_eq_false hp9) rfl rfl <| cp (oPkF (decide_eq_false hp9) tm cB) (s1 rfl) <| cp (oAs tm) (s1 rfl) <| .nil) (by kernel_rfl) ?_
      exact pJ1 _ (so h) ⟨rfl, rfl, rfl, rfl, rfl, rfl, rfl, trivial⟩ rfl
  · rintro x8 rfl
    replace h := hk1
    refine wSeq ?_
    obtain ⟨o1, h, hk1⟩ := bd h
    refine wJ1 (fun x19 => x19 = o1) (fun x19 => [(1, .d ((kL (kR f_api_Instr)).sig (lCut a1 0 (if 15 < (a1.length : Int) then 15 else (a1.length : Int))))), (3, .p 3 0), (7, .d (kS.sig y4.1)), (8, .d ((kI .i64).sig y4.2)), (9, .d ((kI .i64).sig y5)), (10, .d (kB.sig x8)), (61, .d (kB.sig x19))]) (fun x19 => [.box 3 38 [.d (kL kS) y1.Names, .d (kL (kI .u32)) y1.Up]]) ?_ ?_
    · obtain ⟨y20, hy20, h⟩ := bd h
      rcases ic h with ⟨hp21, h⟩ | ⟨hp21, h⟩
      · obtain ⟨y22, hy22, h⟩ := bd h
        obtain ⟨y23, hy23, h⟩ := bd h
        rcases ic h with ⟨hp24, h⟩ | ⟨hp24, h⟩
        · obtain ⟨y25, hy25, h⟩ := bd h
          rcases ic h with ⟨hp26, h⟩ | ⟨hp26, h⟩
          · refine rg (cr (oLdA (n := 0) (fs := f_api_Lattice) (u := ⟨y1.Names, y1.Up⟩) rfl ⟨rfl, rfl, trivial⟩ t38 tm) (s1 rfl) <| cp (oMv tm) (s1 rfl) <| cp (oCall rfl (code_Right.ok hy20) b16 (opds_cons tm (opds_cons tm opds_nil))) (s2 rfl rfl) <| cp (oMv tm) (s1 rfl) <| cp (oBNe u4 rfl tm tm) (s2 rfl rfl) <| cp (oMv tm) (s1 rfl) <| cgB (nf hp21) rfl rfl (oMv tm) (s1 rfl) <| cgB (nf hp21) rfl rfl (oMv tm) (s1 rfl) <| cgB (nf hp21) rfl rfl (oCall rfl (code_Like.ok hy22) b17 (opds_cons tm (opds_cons tm opds_nil))) (s2 rfl rfl) <| cgB (nf hp21) rfl rfl (oMv tm) (s1 rfl) <| cgB (nf hp21) rfl rfl (oMv tm) (s1 rfl) <| cgB (nf hp21) rfl rfl (oCall rfl (reticentref08_Same.ok hy23) b18 (opds_cons tm (opds_cons tm opds_nil))) (s2 rfl rfl) <| cgB (nf hp21) rfl rfl (oBNe u4 rfl tm tm) (s2 rfl rfl) <| cp (oPkF (nf hp21) tm tm) (s2 rfl rfl) <| cp (oMv tm) (s1 rfl) <| cgB (nf hp24) rfl rfl (oMv tm) (s1 rfl) <| cgB (nf hp24) rfl rfl (oMv tm) (s1 rfl) <| cgB (nf hp24) rfl rfl (oCall rfl (code_Like.ok hy25) b17 (opds_cons tm (opds_cons tm opds_nil))) (s2 rfl rfl) <| cgB (nf hp24) rfl rfl (oNot tm) (s1 rfl) <| cp (oPkF (nf hp24) tm tm) (s2 rfl rfl) <| cp (oMv tm) (s1 rfl) <| csB hp26 rfl rfl <| csB hp26 rfl rfl <| cp (oPkT hp26 tm cB) (s1 rfl) <| .nil) (by kernel_rfl) ?_
            exact pJ1 _ (so h) ⟨rfl, rfl, rfl, rfl, rfl, rfl, rfl, trivial⟩ rfl
          · obtain ⟨y27, hy27, h⟩ := bd h
            refine rg (cr (oLdA (n := 0) (fs := f_api_Lattice) (u := ⟨y1.Names, y1.Up⟩) rfl ⟨rfl, rfl, trivial⟩ t38 tm) (s1 rfl) <| cp (oMv tm) (s1 rfl) <| cp (oCall rfl (code_Right.ok hy20) b16 (opds_cons tm (opds_cons tm opds_nil))) (s2 rfl rfl) <| cp (oMv tm) (s1 rfl) <| cp (oBNe u4 rfl tm tm) (s2 rfl rfl) <| cp (oMv tm) (s1 rfl) <| cgB (nf hp21) rfl rfl (oMv tm) (s1 rfl) <| cgB (nf hp21) rfl rfl (oMv tm) (s1 rfl) <| cgB (nf hp21) rfl rfl (oCall rfl (code_Like.ok hy22) b17 (opds_cons tm (opds_cons tm opds_nil))) (s2 rfl rfl) <| cgB (nf hp21) rfl rfl (oMv tm) (s1 rfl) <| cgB (nf hp21) rfl rfl (oMv tm) (s1 rfl) <| cgB (nf hp21) rfl rfl (oCall rfl (reticentref08_Same.ok hy23) b18 (opds_cons tm (opds_cons tm opds_nil))) (s2 rfl rfl) <| cgB (nf hp21) rfl rfl (oBNe u4 rfl tm tm) (s2 rfl rfl) <| cp (oPkF (nf hp21) tm tm) (s2 rfl rfl) <| cp (oMv tm) (s1 rfl) <| cgB (nf hp24) rfl rfl (oMv tm) (s1 rfl) <| cgB (nf hp24) rfl rfl (oMv tm) (s1 rfl) <| cgB (nf hp24) rfl rfl (oCall rfl (code_Like.ok hy25) b17 (opds_cons tm (opds_cons tm opds_nil))) (s2 rfl rfl) <| cgB (nf hp24) rfl rfl (oNot tm) (s1 rfl) <| cp (oPkF (nf hp24) tm tm) (s2 rfl rfl) <| cp (oMv tm) (s1 rfl) <| cgB (nb hp26) rfl rfl (oCall rfl (reticentlaw08_alive.ok hy27) b19 opds_nil) trivial <| cgB (nb hp26) rfl rfl (oNot tm) (s1 rfl) <| cp (oPkF (nb hp26) tm tm) (s2 rfl rfl) <| .nil) (by kernel_rfl) ?_
            exact pJ1 _ (so h) ⟨rfl, rfl, rfl, rfl, rfl, rfl, rfl, trivial⟩ rfl
        · refine rg (cr (oLdA (n := 0) (fs := f_api_Lattice) (u := ⟨y1.Names, y1.Up⟩) rfl ⟨rfl, rfl, trivial⟩ t38 tm) (s1 rfl) <| cp (oMv tm) (s1 rfl) <| cp (oCall rfl (code_Right.ok hy20) b16 (opds_cons tm (opds_cons tm opds_nil))) (s2 rfl rfl) <| cp (oMv tm) (s1 rfl) <| cp (oBNe u4 rfl tm tm) (s2 rfl rfl) <| cp (oMv tm) (s1 rfl) <| cgB (nf hp21) rfl rfl (oMv tm) (s1 rfl) <| cgB (nf hp21) rfl rfl (oMv tm) (s1 rfl) <| cgB (nf hp21) rfl rfl (oCall rfl (code_Like.ok hy22) b17 (opds_cons tm (opds_cons tm opds_nil))) (s2 rfl rfl) <| cgB (nf hp21) rfl rfl (oMv tm) (s1 rfl) <| cgB (nf hp21) rfl rfl (oMv tm) (s1 rfl) <| cgB (nf hp21) rfl rfl (oCall rfl (reticentref08_Same.ok hy23) b18 (opds_cons tm (opds_cons tm opds_nil))) (s2 rfl rfl) <| cgB (nf hp21) rfl rfl (oBNe u4 rfl tm tm) (s2 rfl rfl) <| cp (oPkF (nf hp21) tm tm) (s2 rfl rfl) <| cp (oMv tm) (s1 rfl) <| csB (nt hp24) rfl rfl <| csB (nt hp24) rfl rfl <| csB (nt hp24) rfl rfl <| csB (nt hp24) rfl rfl <| cp (oPkT (nt hp24) tm cB) (s1 rfl) <| cp (oMv tm) (s1 rfl) <| csB rfl rfl rfl <| csB rfl rfl rfl <| cp (oPkT rfl tm cB) (s1 rfl) <| .nil) (by kernel_rfl) ?_
          exact pJ1 _ (so h) ⟨rfl, rfl, rfl, rfl, rfl, rfl, rfl, trivial⟩ rfl
      · refine rg (cr (oLdA (n := 0) (fs := f_api_Lattice) (u := ⟨y1.Names, y1.Up⟩) rfl ⟨rfl, rfl, trivial⟩ t38 tm) (s1 rfl) <| cp (oMv tm) (s1 rfl) <| cp (oCall rfl (code_Right.ok hy20) b16 (opds_cons tm (opds_cons tm opds_nil))) (s2 rfl rfl) <| cp (oMv tm) (s1 rfl) <| cp (oBNe u4 rfl tm tm) (s2 rfl rfl) <| cp (oMv tm) (s1 rfl) <| csB (nt hp21) rfl rfl <| csB (nt hp21) rfl rfl <| csB (nt hp21) rfl rfl <| csB (nt hp21) rfl rfl <| csB (nt hp21) rfl rfl <| csB (nt hp21) rfl rfl <| csB (nt hp21) rfl rfl <| cp (oPkT (nt hp21) tm cB) (s1 rfl) <| cp (oMv tm) (s1 rfl) <| csB rfl rfl rfl <| csB rfl rfl rfl <| csB rfl rfl rfl <| csB rfl rfl rfl <| cp (oPkT rfl tm cB) (s1 rfl) <| cp (oMv tm) (s1 rfl) <| csB rfl rfl rfl <| csB rfl rfl rfl <| cp (oPkT rfl tm cB) (s1 rfl) <| .nil) (by kernel_rfl) ?_
        exact pJ1 _ (so h) ⟨rfl, rfl, rfl, rfl, rfl, rfl, rfl, trivial⟩ rfl
    · rintro x19 rfl
      replace h := hk1
      rcases ic h with ⟨hp28, h⟩ | ⟨hp28, h⟩
      · refine wBT hp28 tm (s1 rfl) ?_
        refine wSeq ?_
        refine rg (cp (oAs cB) trivial <| .nil) (by kernel_rfl) ?_
        refine pSeq ?_
        refine wRet ?_
        refine pThenR ?_
        obtain rfl := so h
        exact pR1 (.inl rfl) rfl (.tmp rfl <| .nil)
      · refine wBF hp28 tm (s1 rfl) ?_
        refine wSkip ?_
        refine pSeq ?_
        refine wSeq ?_
        refine wBlock ?_
        refine wSeq ?_
        refine rg (cp (oMv tm) (s1 rfl) <| cp (oNe rfl tm (cI (by decide))) (s1 rfl) <| cp (oAs tm) (s1 rfl) <| .nil) (by kernel_rfl) ?_
        refine pSeq ?_
        rcases ic h with ⟨hp29, h⟩ | ⟨hp29, h⟩
        · refine wNT hp29 tm (s1 rfl) ?_
          refine wSeq ?_
          refine rg (cp (oMv tm) (s1 rfl) <| cp (oNot tm) (s1 rfl) <| cp (oAs tm) (s1 rfl) <| .nil) (by kernel_rfl) ?_
          refine pSeq ?_
          rcases ic h with ⟨hp30, h⟩ | ⟨hp30, h⟩
          · refine wBT hp30 tm (s1 rfl) ?_
            obtain ⟨o1, h, hk1⟩ := bd h
            refine wJ1 (fun x32 => x32 = o1) (fun x32 => [(6, .d (kB.sig x32))]) (fun x32 => [.box 3 38 [.d (kL kS) y1.Names, .d (kL (kI .u32)) y1.Up]]) ?_ ?_
            · rcases ic h with ⟨hp33, h⟩ | ⟨hp33, h⟩
              · refine rg (cp (oMv tm) (s1 rfl) <| cp (oEq rfl tm (cI (by decide))) (s1 rfl) <| cp (oMv tm) (s1 rfl) <| cgB (decide_eq_true hp33) rfl rfl (oMv tm) (s1 rfl) <| cgB (decide_eq_true hp33) rfl rfl (oSEq rfl tm (cS (by decide))) (s1 rfl) <| cp (oPkT (decide_eq_true hp33) tm tm) (s2 rfl rfl) <| cp (oAs tm) (s1 rfl) <| .nil) (by kernel_rfl) ?_
                exact pJ1 _ (so h) ⟨rfl, trivial⟩ rfl
              · refine rg (cp (oMv tm) (s1 rfl) <| cp (oEq rfl tm (cI (by decide))) (s1 rfl) <| cp (oMv tm) (s1 rfl) <| csB (decide_eq_false hp33) rfl rfl <| csB (decide_eq_false hp33) rfl rfl <| cp (oPkF (decide_eq_false hp33) tm cB) (s1 rfl) <| cp (oAs tm) (s1 rfl) <| .nil) (by kernel_rfl) ?_
                exact pJ1 _ (so h) ⟨rfl, trivial⟩ rfl
            · rintro x32 rfl
              replace h := hk1
              refine wRet ?_
              refine pBlkR ?_
              refine pThenR ?_
              obtain rfl := so h
              exact pR1 (.inl rfl) rfl (.tmp rfl <| .nil)
          · refine wBF hp30 tm (s1 rfl) ?_
            refine wSkip ?_
            refine pBlkN ?_
            refine pSeq ?_
            obtain ⟨o1, h, hk1⟩ := bd h
            refine wJ1 (fun x36 => x36 = o1) (fun x36 => [(6, .d (kB.sig x36))]) (fun x36 => [.box 3 38 [.d (kL kS) y1.Names, .d (kL (kI .u32)) y1.Up]]) ?_ ?_
            · rcases ic h with ⟨hp37, h⟩ | ⟨hp37, h⟩
              · obtain ⟨y38, hy38, h⟩ := bd h
                refine rg (cp (oMv tm) (s1 rfl) <| cp (oEq rfl tm (cI (by decide))) (s1 rfl) <| cp (oMv tm) (s1 rfl) <| cgB (decide_eq_true hp37) rfl rfl (oMv tm) (s1 rfl) <| crgB (decide_eq_true hp37) rfl rfl (oLdA (n := 0) (fs := f_api_Lattice) (u := ⟨y1.Names, y1.Up⟩) rfl ⟨rfl, rfl, trivial⟩ t38 tm) (s1 rfl) <| cgB (decide_eq_true hp37) rfl rfl (oMv tm) (s1 rfl) <| cgB (decide_eq_true hp37) rfl rfl (oCall rfl (reticentref08_Text.ok hy38) b20 (opds_cons tm (opds_cons tm opds_nil))) (s2 rfl rfl) <| cgB (decide_eq_true hp37) rfl rfl (oSEq rfl tm tm) (s2 rfl rfl) <| cp (oPkT (decide_eq_true hp37) tm tm) (s2 rfl rfl) <| cp (oAs tm) (s1 rfl) <| .nil) (by kernel_rfl) ?_
                exact pJ1 _ (so h) ⟨rfl, trivial⟩ rfl
              · refine rg (cp (oMv tm) (s1 rfl) <| cp (oEq rfl tm (cI (by decide))) (s1 rfl) <| cp (oMv tm) (s1 rfl) <| csB (decide_eq_false hp37) rfl rfl <| csB (decide_eq_false hp37) rfl rfl <| csB (decide_eq_false hp37) rfl rfl <| csB (decide_eq_false hp37) rfl rfl <| csB (decide_eq_false hp37) rfl rfl <| cp (oPkF (decide_eq_false hp37) tm cB) (s1 rfl) <| cp (oAs tm) (s1 rfl) <| .nil) (by kernel_rfl) ?_
                exact pJ1 _ (so h) ⟨rfl, trivial⟩ rfl
            · rintro x36 rfl
              replace h := hk1
              refine wRet ?_
              obtain rfl := so h
              exact pR1 (.inl rfl) rfl (.tmp rfl <| .nil)
        · refine wNF hp29 tm (s1 rfl) ?_
          obtain ⟨o1, h, hk1⟩ := bd h
          refine wJ1 (fun x40 => x40 = o1) (fun x40 => [(6, .d (kB.sig x40))]) (fun x40 => [.box 3 38 [.d (kL kS) y1.Names, .d (kL (kI .u32)) y1.Up]]) ?_ ?_
          · rcases ic h with ⟨hp41, h⟩ | ⟨hp41, h⟩
            · refine rg (cp (oMv tm) (s1 rfl) <| cp (oMv tm) (s1 rfl) <| cp (oEq rfl tm tm) (s2 rfl rfl) <| cp (oMv tm) (s1 rfl) <| cgB (decide_eq_true hp41) rfl rfl (oMv tm) (s1 rfl) <| cgB (decide_eq_true hp41) rfl rfl (oSEq rfl tm (cS (by decide))) (s1 rfl) <| cp (oPkT (decide_eq_true hp41) tm tm) (s2 rfl rfl) <| cp (oAs tm) (s1 rfl) <| .nil) (by kernel_rfl) ?_
              exact pJ1 _ (so h) ⟨rfl, trivial⟩ rfl
            · refine rg (cp (oMv tm) (s1 rfl) <| cp (oMv tm) (s1 rfl) <| cp (oEq rfl tm tm) (s2 rfl rfl) <| cp (oMv tm) (s1 rfl) <| csB (decide_eq_false hp41) rfl rfl <| csB (decide_eq_false hp41) rfl rfl <| cp (oPkF (decide_eq_false hp41) tm cB) (s1 rfl) <| cp (oAs tm) (s1 rfl) <| .nil) (by kernel_rfl) ?_
              exact pJ1 _ (so h) ⟨rfl, trivial⟩ rfl
          · rintro x40 rfl
            replace h := hk1
            refine wRet ?_
            refine pBlkR ?_
            refine pThenR ?_
            obtain rfl := so h
            exact pR1 (.inl rfl) rfl (.tmp rfl <| .nil)

end Go.Proofs.YtkmobcaobmchpaaDoor.CG
