import Derived.Test.YtkcpghpglhamfaaGreatDoorShelf
import Derived.Test.YtkcpghpglhamfaaGreatDoorWSKp1
import Derived.Test.YtkcpghpglhamfaaGreatDoorProg
set_option linter.unusedVariables false
set_option maxRecDepth 10000
set_option maxHeartbeats 2000000
namespace Go.Proofs.YtkcpghpglhamfaaGreatDoor.SK
open Go Go.Proofs.YtkcpghpglhamfaaGreatDoor.Ab

theorem stringslite_HasPrefix.ok {a0 : Str} {a1 : Str} {r : Bool} (h : stringslite_HasPrefix.f a0 a1 = some r) : FnA Tryz.prog 107 [kS.sig a0, kS.sig a1] (kB.sig r) := by
  refine fnIntro Tryz.func107 rfl (by kernel_rfl) fun H0 w0 => ?_
  unfold stringslite_HasPrefix.f at h
  refine wSeq ?_
  refine rg (cp (oAs cB) trivial <| .nil) (by kernel_rfl) ?_
  refine pSeq ?_
  obtain ⟨o1, h, hk1⟩ := bd h
  refine wJ1 (fun x3 => x3 = o1) (fun x3 => [(4, .d (kB.sig x3))]) (fun x3 => []) ?_ ?_
  · rcases ic h with ⟨hp4, h⟩ | ⟨hp4, h⟩
    · obtain ⟨hc5, h⟩ := ib h
      refine rg (cp (oMv tm) (s1 rfl) <| cp (oLenS u9 tm) (s1 rfl) <| cp (oMv tm) (s1 rfl) <| cp (oLenS u9 tm) (s1 rfl) <| cp (oGe rfl tm tm) (s2 rfl rfl) <| cp (oMv tm) (s1 rfl) <| cgB (decide_eq_true hp4) rfl rfl (oMv tm) (s1 rfl) <| cgB (decide_eq_true hp4) rfl rfl (oMv tm) (s1 rfl) <| cgB (decide_eq_true hp4) rfl rfl (oLenS u9 tm) (s1 rfl) <| cgB (decide_eq_true hp4) rfl rfl (oCutSH u9 hc5.1 hc5.2 tm tm) (s2 rfl rfl) <| cgB (decide_eq_true hp4) rfl rfl (oMv tm) (s1 rfl) <| cgB (decide_eq_true hp4) rfl rfl (oSEq rfl tm tm) (s2 rfl rfl) <| cp (oPkT (decide_eq_true hp4) tm tm) (s2 rfl rfl) <| cp (oAs tm) (s1 rfl) <| .nil) (by kernel_rfl) ?_
      exact pJ1 _ (so h) ⟨rfl, trivial⟩ rfl
    · refine rg (cp (oMv tm) (s1 rfl) <| cp (oLenS u9 tm) (s1 rfl) <| cp (oMv tm) (s1 rfl) <| cp (oLenS u9 tm) (s1 rfl) <| cp (oGe rfl tm tm) (s2 rfl rfl) <| cp (oMv tm) (s1 rfl) <| csB (decide_eq_false hp4) rfl rfl <| csB (decide_eq_false hp4) rfl rfl <| csB (decide_eq_false hp4) rfl rfl <| csB (decide_eq_false hp4) rfl rfl <| csB (decide_eq_false hp4) rfl rfl <| csB (decide_eq_false hp4) rfl rfl <| cp (oPkF (decide_eq_false hp4) tm cB) (s1 rfl) <| cp (oAs tm) (s1 rfl) <| .nil) (by kernel_rfl) ?_
      exact pJ1 _ (so h) ⟨rfl, trivial⟩ rfl
  · rintro x3 rfl
    replace h := hk1
    refine wRet ?_
    obtain rfl := so h
    exact pR1 (.inl rfl) rfl (.tmp rfl <| .nil)

theorem strings_HasPrefix.ok {a0 : Str} {a1 : Str} {r : Bool} (h : strings_HasPrefix.f a0 a1 = some r) : FnA Tryz.prog 93 [kS.sig a0, kS.sig a1] (kB.sig r) := by
  refine fnIntro Tryz.func93 rfl (by kernel_rfl) fun H0 w0 => ?_
  unfold strings_HasPrefix.f at h
  refine wSeq ?_
  refine rg (cp (oAs cB) trivial <| .nil) (by kernel_rfl) ?_
  refine pSeq ?_
  refine wSeq ?_
  obtain ⟨y1, hy1, h⟩ := bd h
  refine rg (cp (oMv tm) (s1 rfl) <| cp (oMv tm) (s1 rfl) <| cp (oCall rfl (stringslite_HasPrefix.ok hy1) b107 (opds_cons tm (opds_cons tm opds_nil))) (s2 rfl rfl) <| cp (oAs tm) (s1 rfl) <| .nil) (by kernel_rfl) ?_
  refine pSeq ?_
  refine wRet ?_
  obtain rfl := so h
  exact pR1 (.inl rfl) rfl (.tmp rfl <| .nil)

theorem lex_token.ok {a0 : Str} {r : Int × Int} (h : lex_token.f a0 = some r) : FnA Tryz.prog 57 [kS.sig a0] (tup [(kI .i64).sig r.1, (kI .i64).sig r.2]) := by
  refine fnIntro Tryz.func57 rfl (by kernel_rfl) fun H0 w0 => ?_
  unfold lex_token.f at h
  refine wSeq ?_
  refine rg (cp (oAs (cI (by decide))) trivial <| cp (oAs (cI (by decide))) trivial <| .nil) (by kernel_rfl) ?_
  refine pSeq ?_
  refine wSeq ?_
  obtain ⟨hc1, h⟩ := ib h
  refine rg (cp (oMv tm) (s1 rfl) <| cp (oIdxS u9 hc1.1 hc1.2 tm (cI (by decide))) (s1 rfl) <| cp (oAs tm) (s1 rfl) <| .nil) (by kernel_rfl) ?_
  refine pSeq ?_
  refine wSeq ?_
  refine wBlock ?_
  obtain ⟨o1, h, hk1⟩ := bd h
  refine wJ1 (fun x4 => x4 = o1) (fun x4 => [(0, .d (kS.sig a0)), (4, .d ((kI .u8).sig (sAt a0 0))), (7, .d (kB.sig x4))]) (fun x4 => []) ?_ ?_
  · rcases ic h with ⟨hp5, h⟩ | ⟨hp5, h⟩
    · refine rg (cp (oMv tm) (s1 rfl) <| cp (oEq rfl tm (cI (by decide))) (s1 rfl) <| cp (oMv tm) (s1 rfl) <| csB (decide_eq_true hp5) rfl rfl <| csB (decide_eq_true hp5) rfl rfl <| cp (oPkT (decide_eq_true hp5) tm cB) (s1 rfl) <| cp (oMv tm) (s1 rfl) <| csB rfl rfl rfl <| csB rfl rfl rfl <| cp (oPkT rfl tm cB) (s1 rfl) <| cp (oAs tm) (s1 rfl) <| .nil) (by kernel_rfl) ?_
      exact pJ1 _ (so h) ⟨rfl, rfl, rfl, trivial⟩ rfl
    · rcases ic h with ⟨hp6, h⟩ | ⟨hp6, h⟩
      · refine rg (cp (oMv tm) (s1 rfl) <| cp (oEq rfl tm (cI (by decide))) (s1 rfl) <| cp (oMv tm) (s1 rfl) <| cgB (decide_eq_false hp5) rfl rfl (oMv tm) (s1 rfl) <| cgB (decide_eq_false hp5) rfl rfl (oEq rfl tm (cI (by decide))) (s1 rfl) <| cp (oPkF (decide_eq_false hp5) tm tm) (s2 rfl rfl) <| cp (oMv tm) (s1 rfl) <| csB (decide_eq_true hp6) rfl rfl <| csB (decide_eq_true hp6) rfl rfl <| cp (oPkT (decide_eq_true hp6) tm cB) (s1 rfl) <| cp (oAs tm) (s1 rfl) <| .nil) (by kernel_rfl) ?_
        exact pJ1 _ (so h) ⟨rfl, rfl, rfl, trivial⟩ rfl
      · refine rg (cp (oMv tm) (s1 rfl) <| cp (oEq rfl tm (cI (by decide))) (s1 rfl) <| cp (oMv tm) (s1 rfl) <| cgB (decide_eq_false hp5) rfl rfl (oMv tm) (s1 rfl) <| cgB (decide_eq_false hp5) rfl rfl (oEq rfl tm (cI (by decide))) (s1 rfl) <| cp (oPkF (decide_eq_false hp5) tm tm) (s2 rfl rfl) <| cp (oMv tm) (s1 rfl) <| cgB (decide_eq_false hp6) rfl rfl (oMv tm) (s1 rfl) <| cgB (decide_eq_false hp6) rfl rfl (oEq rfl tm (cI (by decide))) (s1 rfl) <| cp (oPkF (decide_eq_false hp6) tm tm) (s2 rfl rfl) <| cp (oAs tm) (s1 rfl) <| .nil) (by kernel_rfl) ?_
        exact pJ1 _ (so h) ⟨rfl, rfl, rfl, trivial⟩ rfl
  · rintro x4 rfl
    replace h := hk1
    rcases ic h with ⟨hp7, h⟩ | ⟨hp7, h⟩
    · refine wBT hp7 tm (s1 rfl) ?_
      refine wSeq ?_
      refine rg (cp (oAs (cI (by decide))) trivial <| cp (oAs (cI (by decide))) trivial <| .nil) (by kernel_rfl) ?_
      refine pSeq ?_
      refine wRet ?_
      refine pBlkR ?_
      refine pThenR ?_
      obtain rfl := so h
      exact pRn (.inl rfl) rfl rfl (.tmp rfl <| .tmp rfl <| .nil)
    · refine wBF hp7 tm (s1 rfl) ?_
      refine wSeq ?_
      refine rg (cp (oMv tm) (s1 rfl) <| cp (oEq rfl tm (cI (by decide))) (s1 rfl) <| cp (oAs tm) (s1 rfl) <| .nil) (by kernel_rfl) ?_
      refine pSeq ?_
      rcases ic h with ⟨hp8, h⟩ | ⟨hp8, h⟩
      · refine wCT hp8 tm (s1 rfl) ?_
        refine wSeq ?_
        obtain ⟨y9, hy9, h⟩ := bd h
        refine rg (cp (oMv tm) (s1 rfl) <| cp (oCall rfl (lex_while.ok hy9) b89 (opds_cons tm (opds_cons (oFn b90 (rl1n lex_token_1.ok)) opds_nil))) (s1 rfl) <| cp (oAs (cI (by decide))) trivial <| cp (oAs tm) (s1 rfl) <| .nil) (by kernel_rfl) ?_
        refine pSeq ?_
        refine wRet ?_
        refine pBlkR ?_
        refine pThenR ?_
        obtain rfl := so h
        exact pRn (.inl rfl) rfl rfl (.tmp rfl <| .tmp rfl <| .nil)
      · refine wCF hp8 tm (s1 rfl) ?_
        refine wSeq ?_
        obtain ⟨y10, hy10, h⟩ := bd h
        refine rg (cp (oMv tm) (s1 rfl) <| cp (oCall rfl (lex_letter.ok hy10) b91 (opds_cons tm opds_nil)) (s1 rfl) <| cp (oAs tm) (s1 rfl) <| .nil) (by kernel_rfl) ?_
        refine pSeq ?_
        rcases ic h with ⟨hp11, h⟩ | ⟨hp11, h⟩
        · refine wBT hp11 tm (s1 rfl) ?_
          refine wSeq ?_
          obtain ⟨y12, hy12, h⟩ := bd h
          refine rg (cp (oMv tm) (s1 rfl) <| cp (oCall rfl (lex_while.ok hy12) b89 (opds_cons tm (opds_cons (oFn b91 (rl1n lex_letter.ok)) opds_nil))) (s1 rfl) <| cp (oAs (cI (by decide))) trivial <| cp (oAs tm) (s1 rfl) <| .nil) (by kernel_rfl) ?_
          refine pSeq ?_
          refine wRet ?_
          refine pBlkR ?_
          refine pThenR ?_
          obtain rfl := so h
          exact pRn (.inl rfl) rfl rfl (.tmp rfl <| .tmp rfl <| .nil)
        · refine wBF hp11 tm (s1 rfl) ?_
          refine wSeq ?_
          obtain ⟨y13, hy13, h⟩ := bd h
          refine rg (cp (oMv tm) (s1 rfl) <| cp (oCall rfl (lex_digit.ok hy13) b92 (opds_cons tm opds_nil)) (s1 rfl) <| cp (oAs tm) (s1 rfl) <| .nil) (by kernel_rfl) ?_
          refine pSeq ?_
          rcases ic h with ⟨hp14, h⟩ | ⟨hp14, h⟩
          · refine wBT hp14 tm (s1 rfl) ?_
            refine wSeq ?_
            obtain ⟨y15, hy15, h⟩ := bd h
            refine rg (cp (oMv tm) (s1 rfl) <| cp (oCall rfl (lex_while.ok hy15) b89 (opds_cons tm (opds_cons (oFn b92 (rl1n lex_digit.ok)) opds_nil))) (s1 rfl) <| cp (oAs (cI (by decide))) trivial <| cp (oAs tm) (s1 rfl) <| .nil) (by kernel_rfl) ?_
            refine pSeq ?_
            refine wRet ?_
            refine pBlkR ?_
            refine pThenR ?_
            obtain rfl := so h
            exact pRn (.inl rfl) rfl rfl (.tmp rfl <| .tmp rfl <| .nil)
          · refine wBF hp14 tm (s1 rfl) ?_
            refine wSeq ?_
            obtain ⟨y16, hy16, h⟩ := bd h
            refine rg (cp (oMv tm) (s1 rfl) <| cp (oCall rfl (strings_HasPrefix.ok hy16) b93 (opds_cons tm (opds_cons (cS (by decide)) opds_nil))) (s1 rfl) <| cp (oAs tm) (s1 rfl) <| .nil) (by kernel_rfl) ?_
            refine pSeq ?_
            rcases ic h with ⟨hp17, h⟩ | ⟨hp17, h⟩
            · refine wBT hp17 tm (s1 rfl) ?_
              refine wSeq ?_
              refine rg (cp (oAs (cI (by decide))) trivial <| cp (oAs (cI (by decide))) trivial <| .nil) (by kernel_rfl) ?_
              refine pSeq ?_
              refine wRet ?_
              refine pBlkR ?_
              refine pThenR ?_
              obtain rfl := so h
              exact pRn (.inl rfl) rfl rfl (.tmp rfl <| .tmp rfl <| .nil)
            · refine wBF hp17 tm (s1 rfl) ?_
              refine wSeq ?_
              obtain ⟨y18, hy18, h⟩ := bd h
              refine rg (cp (oMv tm) (s1 rfl) <| cp (oCall rfl (libIndexByte Tryz.strings_IndexByte hy18) b94 (opds_cons (cS (by decide)) (opds_cons tm opds_nil))) (s1 rfl) <| cp (oGe rfl tm (cI (by decide))) (s1 rfl) <| cp (oAs tm) (s1 rfl) <| .nil) (by kernel_rfl) ?_
              refine pSeq ?_
              rcases ic h with ⟨hp19, h⟩ | ⟨hp19, h⟩
              · refine wCT hp19 tm (s1 rfl) ?_
                refine wSeq ?_
                refine rg (cp (oAs (cI (by decide))) trivial <| cp (oAs (cI (by decide))) trivial <| .nil) (by kernel_rfl) ?_
                refine pSeq ?_
                refine wRet ?_
                refine pBlkR ?_
                refine pThenR ?_
                obtain rfl := so h
                exact pRn (.inl rfl) rfl rfl (.tmp rfl <| .tmp rfl <| .nil)
              · refine wCF hp19 tm (s1 rfl) ?_
                refine wSkip ?_
                refine pBlkN ?_
                refine pSeq ?_
                refine wSeq ?_
                refine rg (cp (oAs (cI (by decide))) trivial <| cp (oAs (cI (by decide))) trivial <| .nil) (by kernel_rfl) ?_
                refine pSeq ?_
                refine wRet ?_
                obtain rfl := so h
                exact pRn (.inl rfl) rfl rfl (.tmp rfl <| .tmp rfl <| .nil)

theorem lex_Lex.ok {a0 : Str} {r : (List api_Tok) × Int × Int} (h : lex_Lex.f a0 = some r) : FnA Tryz.prog 21 [kS.sig a0] (tup [(kL (kR f_api_Tok)).sig r.1, (kI .i64).sig r.2.1, (kI .i64).sig r.2.2]) := by
  refine fnIntro Tryz.func21 rfl (by kernel_rfl) fun H0 w0 => ?_
  unfold lex_Lex.f at h
  refine wSeq ?_
  refine rg (cp (oAs cV) trivial <| cp (oAs (cI (by decide))) trivial <| cp (oAs (cI (by decide))) trivial <| .nil) (by kernel_rfl) ?_
  refine pSeq ?_
  refine wSeq ?_
  refine wSeq ?_
  refine rg (cp (oMv tm) (s1 rfl) <| cp (oLenS u9 tm) (s1 rfl) <| cp (oGt rfl tm (cI (by decide))) (s1 rfl) <| .nil) (by kernel_rfl) ?_
  refine pSeq ?_
  rcases ic h with ⟨hp1, h⟩ | ⟨hp1, h⟩
  · refine wCT hp1 tm (s1 rfl) ?_
    refine wSeq ?_
    refine rg (cp (oAs cV) trivial <| cp (oAs (cI (by decide))) trivial <| cp (oAs (cI (by decide))) trivial <| .nil) (by kernel_rfl) ?_
    refine pSeq ?_
    refine wNil (kR f_api_Tok) 58 9002 2 rfl rfl ?_
    refine wFrzR (n := 0) (id := 9002) [2] rfl rfl ⟨rfl, trivial⟩ ?_
    refine wRet ?_
    refine pThenR ?_
    obtain rfl := so h
    exact pRn (.inl rfl) rfl rfl (.tmp rfl <| .tmp rfl <| .tmp rfl <| .nil)
  · refine wCF hp1 tm (s1 rfl) ?_
    refine wSkip ?_
    refine pSeq ?_
    refine wSeq ?_
    refine rg (cp (oAs cV) trivial <| .nil) (by kernel_rfl) ?_
    refine pSeq ?_
    refine wSeq ?_
    refine wSeq ?_
    refine rg (cp (oAs (cI (by decide))) trivial <| .nil) (by kernel_rfl) ?_
    refine pSeq ?_
    refine wNil (kR f_api_Tok) 58 1005 5 rfl rfl ?_
    obtain ⟨o1, h, hk1⟩ := bd h
    refine wK1 (fun x34 => .inr x34 = o1) (fun x34 => [(0, .d (kS.sig a0)), (5, .v 1005)]) (fun x34 => [.row 1005 58 (kR f_api_Tok) x34]) ?_ ?_
    · refine wBlock (wLoop ?_)
      refine lW (pc2 o1 (fun v32 v33 => [(0, .d (kS.sig a0)), (5, .v 1005), (6, .d ((kI .i64).sig v33))]) (fun v32 v33 => [.row 1005 58 (kR f_api_Tok) v32]) (lex_Lex.l0.partial_correctness a0) ?_ _ _ h) ⟨rfl, rfl, rfl, trivial⟩ rfl
      clear h
      intro f' ih v32 v33 h
      refine wSeq ?_
      refine wSeq ?_
      refine rg (cp (oMv tm) (s1 rfl) <| cp (oMv tm) (s1 rfl) <| cp (oLenS u9 tm) (s1 rfl) <| cp (oLt rfl tm tm) (s2 rfl rfl) <| .nil) (by kernel_rfl) ?_
      refine pSeq ?_
      rcases ic h with ⟨hp35, h⟩ | ⟨hp35, h⟩
      · refine wCT hp35 tm (s1 rfl) ?_
        refine wSkip ?_
        refine pSeq ?_
        obtain ⟨o2, h, hk2⟩ := bd h
        refine wK2 (fun x42 x43 => .inr (x42, x43) = o2) (fun x42 x43 => [(0, .d (kS.sig a0)), (5, .v 1005), (6, .d ((kI .i64).sig x43))]) (fun x42 x43 => [.row 1005 58 (kR f_api_Tok) x42]) ?_ ?_
        · refine wBlock ?_
          refine wSeq ?_
          obtain ⟨hc44, h⟩ := ib h
          obtain ⟨y45, hy45, h⟩ := bd h
          refine rg (cp (oMv tm) (s1 rfl) <| cp (oMv tm) (s1 rfl) <| cp (oCutSL u9 hc44.1 hc44.2 tm tm) (s2 rfl rfl) <| cp (oCall rfl (lex_token.ok hy45) b57 (opds_cons tm opds_nil)) (s1 rfl) <| cp (oMv tm) (s1 rfl) <| cp (oExt (k := 0) rfl tm) (s1 rfl) <| cp (oExt (k := 1) rfl tm) (s1 rfl) <| cp (oAs tm) (s1 rfl) <| cp (oAs tm) (s1 rfl) <| .nil) (by kernel_rfl) ?_
          refine pSeq ?_
          refine wSeq ?_
          refine wSeq ?_
          refine rg (cp (oMv tm) (s1 rfl) <| cp (oEq rfl tm (cI (by decide))) (s1 rfl) <| .nil) (by kernel_rfl) ?_
          refine pSeq ?_
          rcases ic h with ⟨hp46, h⟩ | ⟨hp46, h⟩
          · refine wCT hp46 tm (s1 rfl) ?_
            refine wSeq ?_
            refine rg (cp (oMv tm) (s1 rfl) <| cp (oAs cV) trivial <| cp (oAs tm) (s1 rfl) <| cp (oAs (cI (by decide))) trivial <| .nil) (by kernel_rfl) ?_
            refine pSeq ?_
            refine wNil (kR f_api_Tok) 58 9002 2 rfl rfl ?_
            refine wFrzR (n := 0) (id := 9002) [2] rfl rfl ⟨rfl, trivial⟩ ?_
            refine wRet ?_
            refine pThenR ?_
            refine pBlkR ?_
            refine pThenR ?_
            obtain rfl := so h
            replace h := hk2
            refine pThenR ?_
            refine pBlkR ?_
            refine pThenR ?_
            obtain rfl := so h
            replace h := hk1
            refine pThenR ?_
            obtain rfl := so h
            exact pRn (.inl rfl) rfl rfl (.tmp rfl <| .tmp rfl <| .tmp rfl <| .nil)
          · refine wCF hp46 tm (s1 rfl) ?_
            refine wSkip ?_
            refine pSeq ?_
            refine wSeq ?_
            refine wSeq ?_
            refine rg (cp (oMv tm) (s1 rfl) <| cp (oNe rfl tm (cI (by decide))) (s1 rfl) <| .nil) (by kernel_rfl) ?_
            refine pSeq ?_
            rcases ic h with ⟨hp47, h⟩ | ⟨hp47, h⟩
            · refine wNT hp47 tm (s1 rfl) ?_
              refine wSkip ?_
              refine pSeq ?_
              refine rg (cp (oMv tm) (s1 rfl) <| cp (oMv tm) (s1 rfl) <| cp (oAdd tm tm) (s2 rfl rfl) <| cp (oAs tm) (s1 rfl) <| .nil) (by kernel_rfl) ?_
              refine pBlkN ?_
              exact pJ2 _ _ (so h) ⟨rfl, rfl, rfl, trivial⟩ rfl
            · refine wNF hp47 tm (s1 rfl) ?_
              obtain ⟨hc48, h⟩ := ib h
              obtain ⟨hc49, h⟩ := ib h
              refine rg (cp (oMv tm) (s1 rfl) <| cp (oMv tm) (s1 rfl) <| cp (oMv tm) (s1 rfl) <| cp (oMv tm) (s1 rfl) <| cp (oMv tm) (s1 rfl) <| cp (oMv tm) (s1 rfl) <| cp (oAdd tm tm) (s2 rfl rfl) <| cp (oCutS u9 hc48.1 hc48.2.1 hc48.2.2 tm tm tm) (s3 rfl rfl rfl) <| cp (oMv tm) (s1 rfl) <| cp (oBuild (fs := f_api_Tok) (u := ⟨y45.1, sCut a0 v33 (IntKind.i64.wrap (v33 + y45.2)), v33⟩) rfl ze58 pl58 po58 (.op (zc := [(.int .i64 0)]) tm rfl (.op (zc := [(.string ⟨⟨[]⟩⟩)]) tm rfl (.op (zc := [(.int .i64 0)]) tm rfl .nil)))) (s3 rfl rfl rfl) <| cp (oLit (d := (kR f_api_Tok)) el53 (by decide) rfl rfl rfl (e1 tm e0)) (s1 rfl) <| cw (oApp (n := 0) (id' := 39) el53 (by decide) rfl (by decide) hc49 tm tm) (s2 rfl rfl) <| cp (oAs tm) (s1 rfl) <| .nil) (by kernel_rfl) ?_
              refine pSeq ?_
              refine rg (cp (oMv tm) (s1 rfl) <| cp (oMv tm) (s1 rfl) <| cp (oAdd tm tm) (s2 rfl rfl) <| cp (oAs tm) (s1 rfl) <| .nil) (by kernel_rfl) ?_
              refine pBlkN ?_
              refine pSub (Γ' := [(0, .d (kS.sig a0)), (5, .v 39), (6, .d ((kI .i64).sig (IntKind.i64.wrap (v33 + y45.2))))]) ⟨rfl, rfl, rfl, trivial⟩ ?_
              refine pRen 39 1005 rfl ?_
              exact pJ2 _ _ (so h) ⟨rfl, rfl, rfl, trivial⟩ rfl
        · rintro x42 x43 rfl
          replace h := hk2
          exact pLoop (lW (ih _ _ h) ⟨rfl, rfl, rfl, trivial⟩ rfl)
      · refine wCF hp35 tm (s1 rfl) ?_
        refine wExit ?_
        refine pThenX ?_
        refine pThenX ?_
        refine pBlkX ?_
        exact pJ1 _ (so h) ⟨rfl, rfl, trivial⟩ rfl
    · rintro x34 rfl
      replace h := hk1
      refine pSeq ?_
      refine wSeq ?_
      obtain ⟨hc50, h⟩ := ib h
      refine rg (cp (oMv tm) (s1 rfl) <| cp (oMv tm) (s1 rfl) <| cp (oLenS u9 tm) (s1 rfl) <| cp (oBuild (fs := f_api_Tok) (u := ⟨0, [], (a0.length : Int)⟩) rfl ze58 pl58 po58 (.ze (zc := [(.int .i64 0)]) zI_i64 (.ze (zc := [(.string ⟨⟨[]⟩⟩)]) zS (.op (zc := [(.int .i64 0)]) tm rfl .nil)))) (s1 rfl) <| cp (oLit (d := (kR f_api_Tok)) el53 (by decide) rfl rfl rfl (e1 tm e0)) (s1 rfl) <| cw (oApp (n := 0) (id' := 48) el53 (by decide) rfl (by decide) hc50 tm tm) (s2 rfl rfl) <| cp (oAs tm) (s1 rfl) <| .nil) (by kernel_rfl) ?_
      refine pSeq ?_
      refine wSeq ?_
      refine wSeq ?_
      refine rg (cp (oMv tm) (s1 rfl) <| cr (oLenR (n := 0) u53 rfl tm) (s1 rfl) <| cp (oGt rfl tm (cI (by decide))) (s1 rfl) <| .nil) (by kernel_rfl) ?_
      refine pSeq ?_
      rcases ic h with ⟨hp51, h⟩ | ⟨hp51, h⟩
      · refine wCT hp51 tm (s1 rfl) ?_
        refine wSeq ?_
        refine rg (cp (oAs cV) trivial <| cp (oAs (cI (by decide))) trivial <| cp (oAs (cI (by decide))) trivial <| .nil) (by kernel_rfl) ?_
        refine pSeq ?_
        refine wNil (kR f_api_Tok) 58 9002 2 rfl rfl ?_
        refine wFrzR (n := 0) (id := 9002) [2] rfl rfl ⟨rfl, trivial⟩ ?_
        refine wRet ?_
        refine pThenR ?_
        obtain rfl := so h
        exact pRn (.inl rfl) rfl rfl (.tmp rfl <| .tmp rfl <| .tmp rfl <| .nil)
      · refine wCF hp51 tm (s1 rfl) ?_
        refine wSkip ?_
        refine pSeq ?_
        refine wSeq ?_
        refine rg (cp (oMv tm) (s1 rfl) <| cp (oAs tm) (s1 rfl) <| cp (oAs (cI (by decide))) trivial <| cp (oAs (cI (by decide))) trivial <| .nil) (by kernel_rfl) ?_
        refine pSeq ?_
        refine wFrzR (n := 0) (id := 48) [2] rfl rfl ⟨rfl, trivial⟩ ?_
        refine wRet ?_
        obtain rfl := so h
        exact pRn (.inl rfl) rfl rfl (.tmp rfl <| .tmp rfl <| .tmp rfl <| .nil)

theorem state_reader_is.ok {a0 : state_reader} {a1 : Int} {a2 : Str} {r : state_reader × Bool} (h : state_reader_is.f a0 a1 a2 = some r) : FnS Tryz.prog 95 [.p 70000 0, .d ((kI .i64).sig a1), .d (kS.sig a2)] [.box 70000 88 [.d (kL kS) a0.l_.Names, .d (kL (kI .u32)) a0.l_.Up, .d (kL (kR f_api_Tok)) a0.toks_, .d (kI .i64) a0.i_, .d (kI .i64) a0.bad_]] [70000] (.d (kB.sig r.2)) [.box 70000 88 [.d (kL kS) r.1.l_.Names, .d (kL (kI .u32)) r.1.l_.Up, .d (kL (kR f_api_Tok)) r.1.toks_, .d (kI .i64) r.1.i_, .d (kI .i64) r.1.bad_]] := by
  refine fnIntroS Tryz.func95 rfl (by kernel_rfl) fun X H0 w0 pv => ?_
  unfold state_reader_is.f at h
  refine wSeq ?_
  refine rg (cp (oAs cB) trivial <| .nil) (by kernel_rfl) ?_
  refine pSeq ?_
  refine wSeq ?_
  obtain ⟨y1, hy1, h⟩ := bd h
  refine rgL hm (cp (oMv tm) (s1 rfl) <| cp (oNilP tm) (s1 rfl) <| cp (oFldP o88_1 tm) (s1 rfl) <| cl [] rfl (oLdB (n := 0) (k := 2) rfl rfl rfl t53 tm) (s1 rfl) <| cp (oMv tm) (s1 rfl) <| cp (oNilP tm) (s1 rfl) <| cp (oFldP o88_2 tm) (s1 rfl) <| cl [] rfl (oLdB (n := 0) (k := 3) rfl rfl rfl t3 tm) (s1 rfl) <| cp (oIdx u53 z58 hy1 tm tm) (s2 rfl rfl) <| cp (oLd t58 tm) (s1 rfl) <| cn (oAlloc (id := 7) (ls := [.d (kI .i64) 0, .d kS [], .d (kI .i64) 0]) ze58 (fun g => ⟨[(.int .i64 0)], _, rfl, zI_i64 g.H, ⟨[(.string ⟨⟨[]⟩⟩)], _, rfl, zS g.H, ⟨[(.int .i64 0)], _, rfl, zI_i64 g.H, rfl⟩⟩⟩)) trivial <| cwn (oStA (n := 0) (fs := f_api_Tok) rfl rfl z58 tm tm) (s2 rfl rfl) <| .nil) (by kernel_rfl) (by kernel_rfl) (by kernel_rfl) ?_
  refine pSeq ?_
  obtain ⟨o1, h, hk1⟩ := bd h
  refine wJ1 (fun x4 => x4 = o1) (fun x4 => [(6, .d (kB.sig x4))]) (fun x4 => [.box 7 58 [.d (kI .i64) y1.Kind, .d kS y1.Text, .d (kI .i64) y1.At], .box 70000 88 [.d (kL kS) a0.l_.Names, .d (kL (kI .u32)) a0.l_.Up, .d (kL (kR f_api_Tok)) a0.toks_, .d (kI .i64) a0.i_, .d (kI .i64) a0.bad_]]) ?_ ?_
  · rcases ic h with ⟨hp5, h⟩ | ⟨hp5, h⟩
    · rcases ic h with ⟨hp6, h⟩ | ⟨hp6, h⟩
      · refine rg (cp (oMv tm) (s1 rfl) <| cp (oNilP tm) (s1 rfl) <| cp (oFldP o88_3 tm) (s1 rfl) <| cr (oLdB (n := 1) (k := 4) rfl rfl rfl t35 tm) (s1 rfl) <| cp (oEq rfl tm (cI (by decide))) (s1 rfl) <| cp (oMv tm) (s1 rfl) <| cgB (decide_eq_true hp5) rfl rfl (oFldP o58_0 tm) (s1 rfl) <| crgB (decide_eq_true hp5) rfl rfl (oLdB (n := 0) (k := 0) rfl rfl rfl t3 tm) (s1 rfl) <| cgB (decide_eq_true hp5) rfl rfl (oMv tm) (s1 rfl) <| cgB (decide_eq_true hp5) rfl rfl (oEq rfl tm tm) (s2 rfl rfl) <| cp (oPkT (decide_eq_true hp5) tm tm) (s2 rfl rfl) <| cp (oMv tm) (s1 rfl) <| cgB (decide_eq_true hp6) rfl rfl (oFldP o58_1 tm) (s1 rfl) <| crgB (decide_eq_true hp6) rfl rfl (oLdB (n := 0) (k := 1) rfl rfl rfl t9 tm) (s1 rfl) <| cgB (decide_eq_true hp6) rfl rfl (oMv tm) (s1 rfl) <| cgB (decide_eq_true hp6) rfl rfl (oSEq rfl tm tm) (s2 rfl rfl) <| cp (oPkT (decide_eq_true hp6) tm tm) (s2 rfl rfl) <| cp (oAs tm) (s1 rfl) <| .nil) (by kernel_rfl) ?_
        exact pJ1 _ (so h) ⟨rfl, trivial⟩ rfl
      · refine rg (cp (oMv tm) (s1 rfl) <| cp (oNilP tm) (s1 rfl) <| cp (oFldP o88_3 tm) (s1 rfl) <| cr (oLdB (n := 1) (k := 4) rfl rfl rfl t35 tm) (s1 rfl) <| cp (oEq rfl tm (cI (by decide))) (s1 rfl) <| cp (oMv tm) (s1 rfl) <| cgB (decide_eq_true hp5) rfl rfl (oFldP o58_0 tm) (s1 rfl) <| crgB (decide_eq_true hp5) rfl rfl (oLdB (n := 0) (k := 0) rfl rfl rfl t3 tm) (s1 rfl) <| cgB (decide_eq_true hp5) rfl rfl (oMv tm) (s1 rfl) <| cgB (decide_eq_true hp5) rfl rfl (oEq rfl tm tm) (s2 rfl rfl) <| cp (oPkT (decide_eq_true hp5) tm tm) (s2 rfl rfl) <| cp (oMv tm) (s1 rfl) <| csB (decide_eq_false hp6) rfl rfl <| csB (decide_eq_false hp6) rfl rfl <| csB (decide_eq_false hp6) rfl rfl <| csB (decide_eq_false hp6) rfl rfl <| cp (oPkF (decide_eq_false hp6) tm cB) (s1 rfl) <| cp (oAs tm) (s1 rfl) <| .nil) (by kernel_rfl) ?_
        exact pJ1 _ (so h) ⟨rfl, trivial⟩ rfl
    · refine rg (cp (oMv tm) (s1 rfl) <| cp (oNilP tm) (s1 rfl) <| cp (oFldP o88_3 tm) (s1 rfl) <| cr (oLdB (n := 1) (k := 4) rfl rfl rfl t35 tm) (s1 rfl) <| cp (oEq rfl tm (cI (by decide))) (s1 rfl) <| cp (oMv tm) (s1 rfl) <| csB (decide_eq_false hp5) rfl rfl <| csB (decide_eq_false hp5) rfl rfl <| csB (decide_eq_false hp5) rfl rfl <| csB (decide_eq_false hp5) rfl rfl <| cp (oPkF (decide_eq_false hp5) tm cB) (s1 rfl) <| cp (oMv tm) (s1 rfl) <| csB rfl rfl rfl <| csB rfl rfl rfl <| csB rfl rfl rfl <| csB rfl rfl rfl <| cp (oPkF rfl tm cB) (s1 rfl) <| cp (oAs tm) (s1 rfl) <| .nil) (by kernel_rfl) ?_
      exact pJ1 _ (so h) ⟨rfl, trivial⟩ rfl
  · rintro x4 rfl
    replace h := hk1
    refine wRet ?_
    obtain rfl := so h
    exact pS1 [1] rfl rfl (.inl rfl) rfl (.tmp rfl <| .nil)

theorem state_reader_fail.ok {a0 : state_reader} {a1 : Int} {r : state_reader} (h : state_reader_fail.f a0 a1 = some r) : FnS Tryz.prog 96 [.p 70000 0, .d ((kI .i64).sig a1)] [.box 70000 88 [.d (kL kS) a0.l_.Names, .d (kL (kI .u32)) a0.l_.Up, .d (kL (kR f_api_Tok)) a0.toks_, .d (kI .i64) a0.i_, .d (kI .i64) a0.bad_]] [70000] (.d (tup [])) [.box 70000 88 [.d (kL kS) r.l_.Names, .d (kL (kI .u32)) r.l_.Up, .d (kL (kR f_api_Tok)) r.toks_, .d (kI .i64) r.i_, .d (kI .i64) r.bad_]] := by
  refine fnIntroS Tryz.func96 rfl (by kernel_rfl) fun X H0 w0 pv => ?_
  unfold state_reader_fail.f at h
  refine wSeq ?_
  refine rg (cp (oMv tm) (s1 rfl) <| cp (oNilP tm) (s1 rfl) <| cp (oFldP o88_3 tm) (s1 rfl) <| cr (oLdB (n := 0) (k := 4) rfl rfl rfl t35 tm) (s1 rfl) <| cp (oEq rfl tm (cI (by decide))) (s1 rfl) <| .nil) (by kernel_rfl) ?_
  refine pSeq ?_
  rcases ic h with ⟨hp1, h⟩ | ⟨hp1, h⟩
  · refine wCT hp1 tm (s1 rfl) ?_
    refine rg (cp (oMv tm) (s1 rfl) <| cp (oMv tm) (s1 rfl) <| cp (oNilP tm) (s1 rfl) <| cp (oFldP o88_3 tm) (s1 rfl) <| cwn (oSt (n := 0) (k := 4) rfl rfl rfl rfl z35 tm tm) (s2 rfl rfl) <| .nil) (by kernel_rfl) ?_
    obtain rfl := so h
    exact pSn [0] rfl rfl (.inr rfl) rfl rfl (.nil)
  · refine wCF hp1 tm (s1 rfl) ?_
    refine wSkip ?_
    obtain rfl := so h
    exact pSn [0] rfl rfl (.inr rfl) rfl rfl (.nil)

theorem state_reader_must.ok {a0 : state_reader} {a1 : Int} {a2 : Str} {r : state_reader} (h : state_reader_must.f a0 a1 a2 = some r) : FnS Tryz.prog 58 [.p 70000 0, .d ((kI .i64).sig a1), .d (kS.sig a2)] [.box 70000 88 [.d (kL kS) a0.l_.Names, .d (kL (kI .u32)) a0.l_.Up, .d (kL (kR f_api_Tok)) a0.toks_, .d (kI .i64) a0.i_, .d (kI .i64) a0.bad_]] [70000] (.d (tup [])) [.box 70000 88 [.d (kL kS) r.l_.Names, .d (kL (kI .u32)) r.l_.Up, .d (kL (kR f_api_Tok)) r.toks_, .d (kI .i64) r.i_, .d (kI .i64) r.bad_]] := by
  refine fnIntroS Tryz.func58 rfl (by kernel_rfl) fun X H0 w0 pv => ?_
  unfold state_reader_must.f at h
  refine wSeq ?_
  refine wSeq ?_
  obtain ⟨y1, hy1, h⟩ := bd h
  refine rg (cp (oMv tm) (s1 rfl) <| cp (oMv tm) (s1 rfl) <| cp (oMv tm) (s1 rfl) <| cm (oCallS (rest := []) (R' := [.box 70000 88 [.d (kL kS) y1.1.l_.Names, .d (kL (kI .u32)) y1.1.l_.Up, .d (kL (kR f_api_Tok)) y1.1.toks_, .d (kI .i64) y1.1.i_, .d (kI .i64) y1.1.bad_]]) (out' := .d (kB.sig y1.2)) [(70000, 70000)] [] [0] [] [0] rfl (state_reader_is.ok hy1) b95 (oE1 tm (oE1 tm (oE1 tm oE0))) rfl rfl rfl rfl rfl rfl rfl rfl) (s3 rfl rfl rfl) <| .nil) (by kernel_rfl) ?_
  refine pSeq ?_
  rcases ic h with ⟨hp2, h⟩ | ⟨hp2, h⟩
  · refine wBT hp2 tm (s1 rfl) ?_
    refine wSeq ?_
    refine rg (cp (oMv tm) (s1 rfl) <| cp (oNilP tm) (s1 rfl) <| cp (oFldP o88_2 tm) (s1 rfl) <| cr (oLdB (n := 0) (k := 3) rfl rfl rfl t3 tm) (s1 rfl) <| cp (oAdd tm (cI (by decide))) (s1 rfl) <| cp (oNilP tm) (s1 rfl) <| cp (oFldP o88_2 tm) (s1 rfl) <| cwn (oSt (n := 0) (k := 3) rfl rfl rfl rfl z3 tm tm) (s2 rfl rfl) <| .nil) (by kernel_rfl) ?_
    refine pSeq ?_
    refine wRet ?_
    refine pThenR ?_
    obtain rfl := so h
    exact pSn [0] rfl rfl (.inl rfl) rfl rfl (.nil)
  · refine wBF hp2 tm (s1 rfl) ?_
    refine wSkip ?_
    refine pSeq ?_
    obtain ⟨y3, hy3, h⟩ := bd h
    refine rg (cp (oMv tm) (s1 rfl) <| cm (oCallS (rest := []) (R' := [.box 70000 88 [.d (kL kS) y3.l_.Names, .d (kL (kI .u32)) y3.l_.Up, .d (kL (kR f_api_Tok)) y3.toks_, .d (kI .i64) y3.i_, .d (kI .i64) y3.bad_]]) (out' := .d (tup [])) [(70000, 70000)] [] [0] [] [0] rfl (state_reader_fail.ok hy3) b96 (oE1 tm (oE1 (cI (by decide)) oE0)) rfl rfl rfl rfl rfl rfl rfl rfl) (s1 rfl) <| .nil) (by kernel_rfl) ?_
    obtain rfl := so h
    exact pSn [0] rfl rfl (.inr rfl) rfl rfl (.nil)

theorem state_reader_of.ok {a0 : state_reader} {a1 : Int} {r : state_reader × Str} (h : state_reader_of.f a0 a1 = some r) : FnS Tryz.prog 109 [.p 70000 0, .d ((kI .i64).sig a1)] [.box 70000 88 [.d (kL kS) a0.l_.Names, .d (kL (kI .u32)) a0.l_.Up, .d (kL (kR f_api_Tok)) a0.toks_, .d (kI .i64) a0.i_, .d (kI .i64) a0.bad_]] [70000] (.d (kS.sig r.2)) [.box 70000 88 [.d (kL kS) r.1.l_.Names, .d (kL (kI .u32)) r.1.l_.Up, .d (kL (kR f_api_Tok)) r.1.toks_, .d (kI .i64) r.1.i_, .d (kI .i64) r.1.bad_]] := by
  refine fnIntroS Tryz.func109 rfl (by kernel_rfl) fun X H0 w0 pv => ?_
  unfold state_reader_of.f at h
  refine wSeq ?_
  refine rg (cp (oAs (cS (by decide))) trivial <| .nil) (by kernel_rfl) ?_
  refine pSeq ?_
  refine wSeq ?_
  obtain ⟨y1, hy1, h⟩ := bd h
  refine rgL hm (cp (oMv tm) (s1 rfl) <| cp (oNilP tm) (s1 rfl) <| cp (oFldP o88_1 tm) (s1 rfl) <| cl [] rfl (oLdB (n := 0) (k := 2) rfl rfl rfl t53 tm) (s1 rfl) <| cp (oMv tm) (s1 rfl) <| cp (oNilP tm) (s1 rfl) <| cp (oFldP o88_2 tm) (s1 rfl) <| cl [] rfl (oLdB (n := 0) (k := 3) rfl rfl rfl t3 tm) (s1 rfl) <| cp (oIdx u53 z58 hy1 tm tm) (s2 rfl rfl) <| cp (oLd t58 tm) (s1 rfl) <| cn (oAlloc (id := 5) (ls := [.d (kI .i64) 0, .d kS [], .d (kI .i64) 0]) ze58 (fun g => ⟨[(.int .i64 0)], _, rfl, zI_i64 g.H, ⟨[(.string ⟨⟨[]⟩⟩)], _, rfl, zS g.H, ⟨[(.int .i64 0)], _, rfl, zI_i64 g.H, rfl⟩⟩⟩)) trivial <| cwn (oStA (n := 0) (fs := f_api_Tok) rfl rfl z58 tm tm) (s2 rfl rfl) <| .nil) (by kernel_rfl) (by kernel_rfl) (by kernel_rfl) ?_
  refine pSeq ?_
  refine wSeq ?_
  obtain ⟨o1, h, hk1⟩ := bd h
  refine wJ1 (fun x3 => x3 = o1) (fun x3 => [(0, .p 70000 0), (5, .p 5 0), (26, .d (kB.sig x3))]) (fun x3 => [.box 5 58 [.d (kI .i64) y1.Kind, .d kS y1.Text, .d (kI .i64) y1.At], .box 70000 88 [.d (kL kS) a0.l_.Names, .d (kL (kI .u32)) a0.l_.Up, .d (kL (kR f_api_Tok)) a0.toks_, .d (kI .i64) a0.i_, .d (kI .i64) a0.bad_]]) ?_ ?_
  · rcases ic h with ⟨hp4, h⟩ | ⟨hp4, h⟩
    · refine rg (cp (oMv tm) (s1 rfl) <| cp (oNilP tm) (s1 rfl) <| cp (oFldP o88_3 tm) (s1 rfl) <| cr (oLdB (n := 1) (k := 4) rfl rfl rfl t35 tm) (s1 rfl) <| cp (oNe rfl tm (cI (by decide))) (s1 rfl) <| cp (oMv tm) (s1 rfl) <| cgB (nf hp4) rfl rfl (oFldP o58_0 tm) (s1 rfl) <| crgB (nf hp4) rfl rfl (oLdB (n := 0) (k := 0) rfl rfl rfl t3 tm) (s1 rfl) <| cgB (nf hp4) rfl rfl (oMv tm) (s1 rfl) <| cgB (nf hp4) rfl rfl (oNe rfl tm tm) (s2 rfl rfl) <| cp (oPkF (nf hp4) tm tm) (s2 rfl rfl) <| .nil) (by kernel_rfl) ?_
      exact pJ1 _ (so h) ⟨rfl, rfl, rfl, trivial⟩ rfl
    · refine rg (cp (oMv tm) (s1 rfl) <| cp (oNilP tm) (s1 rfl) <| cp (oFldP o88_3 tm) (s1 rfl) <| cr (oLdB (n := 1) (k := 4) rfl rfl rfl t35 tm) (s1 rfl) <| cp (oNe rfl tm (cI (by decide))) (s1 rfl) <| cp (oMv tm) (s1 rfl) <| csB (nt hp4) rfl rfl <| csB (nt hp4) rfl rfl <| csB (nt hp4) rfl rfl <| csB (nt hp4) rfl rfl <| cp (oPkT (nt hp4) tm cB) (s1 rfl) <| .nil) (by kernel_rfl) ?_
      exact pJ1 _ (so h) ⟨rfl, rfl, rfl, trivial⟩ rfl
  · rintro x3 rfl
    replace h := hk1
    rcases ic h with ⟨hp5, h⟩ | ⟨hp5, h⟩
    · refine wBT hp5 tm (s1 rfl) ?_
      refine wSeq ?_
      obtain ⟨y6, hy6, h⟩ := bd h
      refine rg (cp (oMv tm) (s1 rfl) <| cm (oCallS (rest := [.box 5 58 [.d (kI .i64) y1.Kind, .d kS y1.Text, .d (kI .i64) y1.At]]) (R' := [.box 5 58 [.d (kI .i64) y1.Kind, .d kS y1.Text, .d (kI .i64) y1.At], .box 70000 88 [.d (kL kS) y6.l_.Names, .d (kL (kI .u32)) y6.l_.Up, .d (kL (kR f_api_Tok)) y6.toks_, .d (kI .i64) y6.i_, .d (kI .i64) y6.bad_]]) (out' := .d (tup [])) [(70000, 70000)] [] [1] [0] [1, 0] rfl (state_reader_fail.ok hy6) b96 (oE1 tm (oE1 (cI (by decide)) oE0)) rfl rfl rfl rfl rfl rfl rfl rfl) (s1 rfl) <| .nil) (by kernel_rfl) ?_
      refine pSeq ?_
      refine wSeq ?_
      refine rg (cp (oAs (cS (by decide))) trivial <| .nil) (by kernel_rfl) ?_
      refine pSeq ?_
      refine wRet ?_
      refine pThenR ?_
      obtain rfl := so h
      exact pS1 [1] rfl rfl (.inl rfl) rfl (.tmp rfl <| .nil)
    · refine wBF hp5 tm (s1 rfl) ?_
      refine wSkip ?_
      refine pSeq ?_
      refine wSeq ?_
      refine rg (cp (oMv tm) (s1 rfl) <| cp (oNilP tm) (s1 rfl) <| cp (oFldP o88_2 tm) (s1 rfl) <| cr (oLdB (n := 1) (k := 3) rfl rfl rfl t3 tm) (s1 rfl) <| cp (oAdd tm (cI (by decide))) (s1 rfl) <| cp (oNilP tm) (s1 rfl) <| cp (oFldP o88_2 tm) (s1 rfl) <| cwn (oSt (n := 1) (k := 3) rfl rfl rfl rfl z3 tm tm) (s2 rfl rfl) <| .nil) (by kernel_rfl) ?_
      refine pSeq ?_
      refine wSeq ?_
      refine rg (cp (oFldP o58_1 tm) (s1 rfl) <| cr (oLdB (n := 0) (k := 1) rfl rfl rfl t9 tm) (s1 rfl) <| cp (oAs tm) (s1 rfl) <| .nil) (by kernel_rfl) ?_
      refine pSeq ?_
      refine wRet ?_
      obtain rfl := so h
      exact pS1 [1] rfl rfl (.inl rfl) rfl (.tmp rfl <| .nil)

theorem state_reader_number.ok {a0 : state_reader} {r : state_reader × Int} (h : state_reader_number.f a0 = some r) : FnS Tryz.prog 97 [.p 70000 0] [.box 70000 88 [.d (kL kS) a0.l_.Names, .d (kL (kI .u32)) a0.l_.Up, .d (kL (kR f_api_Tok)) a0.toks_, .d (kI .i64) a0.i_, .d (kI .i64) a0.bad_]] [70000] (.d ((kI .i64).sig r.2)) [.box 70000 88 [.d (kL kS) r.1.l_.Names, .d (kL (kI .u32)) r.1.l_.Up, .d (kL (kR f_api_Tok)) r.1.toks_, .d (kI .i64) r.1.i_, .d (kI .i64) r.1.bad_]] := by
  refine fnIntroS Tryz.func97 rfl (by kernel_rfl) fun X H0 w0 pv => ?_
  unfold state_reader_number.f at h
  refine wSeq ?_
  refine rg (cp (oAs (cI (by decide))) trivial <| .nil) (by kernel_rfl) ?_
  refine pSeq ?_
  refine wSeq ?_
  refine rg (cp (oAs (cI (by decide))) trivial <| .nil) (by kernel_rfl) ?_
  refine pSeq ?_
  refine wSeq ?_
  refine wSeq ?_
  obtain ⟨y1, hy1, h⟩ := bd h
  refine rg (cp (oMv tm) (s1 rfl) <| cm (oCallS (rest := []) (R' := [.box 70000 88 [.d (kL kS) y1.1.l_.Names, .d (kL (kI .u32)) y1.1.l_.Up, .d (kL (kR f_api_Tok)) y1.1.toks_, .d (kI .i64) y1.1.i_, .d (kI .i64) y1.1.bad_]]) (out' := .d (kB.sig y1.2)) [(70000, 70000)] [] [0] [] [0] rfl (state_reader_is.ok hy1) b95 (oE1 tm (oE1 (cI (by decide)) (oE1 (cS (by decide)) oE0))) rfl rfl rfl rfl rfl rfl rfl rfl) (s1 rfl) <| .nil) (by kernel_rfl) ?_
  refine pSeq ?_
  rcases ic h with ⟨hp2, h⟩ | ⟨hp2, h⟩
  · refine wBT hp2 tm (s1 rfl) ?_
    refine wSeq ?_
    refine rg (cp (oAs (cI (by decide))) trivial <| .nil) (by kernel_rfl) ?_
    refine pSeq ?_
    refine rg (cp (oMv tm) (s1 rfl) <| cp (oNilP tm) (s1 rfl) <| cp (oFldP o88_2 tm) (s1 rfl) <| cr (oLdB (n := 0) (k := 3) rfl rfl rfl t3 tm) (s1 rfl) <| cp (oAdd tm (cI (by decide))) (s1 rfl) <| cp (oNilP tm) (s1 rfl) <| cp (oFldP o88_2 tm) (s1 rfl) <| cwn (oSt (n := 0) (k := 3) rfl rfl rfl rfl z3 tm tm) (s2 rfl rfl) <| .nil) (by kernel_rfl) ?_
    refine pSeq ?_
    refine wSeq ?_
    refine wSeq ?_
    obtain ⟨y3, hy3, h⟩ := bd h
    refine rgL hm (cp (oMv tm) (s1 rfl) <| cp (oNilP tm) (s1 rfl) <| cp (oFldP o88_1 tm) (s1 rfl) <| cl [] rfl (oLdB (n := 0) (k := 2) rfl rfl rfl t53 tm) (s1 rfl) <| cp (oMv tm) (s1 rfl) <| cp (oNilP tm) (s1 rfl) <| cp (oFldP o88_2 tm) (s1 rfl) <| cl [] rfl (oLdB (n := 0) (k := 3) rfl rfl rfl t3 tm) (s1 rfl) <| cp (oIdx u53 z58 hy3 tm tm) (s2 rfl rfl) <| cp (oLd t58 tm) (s1 rfl) <| cn (oAlloc (id := 4) (ls := [.d (kI .i64) 0, .d kS [], .d (kI .i64) 0]) ze58 (fun g => ⟨[(.int .i64 0)], _, rfl, zI_i64 g.H, ⟨[(.string ⟨⟨[]⟩⟩)], _, rfl, zS g.H, ⟨[(.int .i64 0)], _, rfl, zI_i64 g.H, rfl⟩⟩⟩)) trivial <| cwn (oStA (n := 0) (fs := f_api_Tok) rfl rfl z58 tm tm) (s2 rfl rfl) <| .nil) (by kernel_rfl) (by kernel_rfl) (by kernel_rfl) ?_
    refine pSeq ?_
    refine wSeq ?_
    refine rg (cp (oFldP o58_1 tm) (s1 rfl) <| cr (oLdB (n := 0) (k := 1) rfl rfl rfl t9 tm) (s1 rfl) <| cp (oLenS u9 tm) (s1 rfl) <| cp (oGt rfl tm (cI (by decide))) (s1 rfl) <| .nil) (by kernel_rfl) ?_
    refine pSeq ?_
    rcases ic h with ⟨hp4, h⟩ | ⟨hp4, h⟩
    · refine wCT hp4 tm (s1 rfl) ?_
      obtain ⟨y5, hy5, h⟩ := bd h
      refine rg (cp (oMv tm) (s1 rfl) <| cm (oCallS (rest := [.box 4 58 [.d (kI .i64) y3.Kind, .d kS y3.Text, .d (kI .i64) y3.At]]) (R' := [.box 4 58 [.d (kI .i64) y3.Kind, .d kS y3.Text, .d (kI .i64) y3.At], .box 70000 88 [.d (kL kS) y5.l_.Names, .d (kL (kI .u32)) y5.l_.Up, .d (kL (kR f_api_Tok)) y5.toks_, .d (kI .i64) y5.i_, .d (kI .i64) y5.bad_]]) (out' := .d (tup [])) [(70000, 70000)] [] [1] [0] [1, 0] rfl (state_reader_fail.ok hy5) b96 (oE1 tm (oE1 (cI (by decide)) oE0)) rfl rfl rfl rfl rfl rfl rfl rfl) (s1 rfl) <| .nil) (by kernel_rfl) ?_
      refine pSeq ?_
      refine wSeq ?_
      refine rg (cp (oAs (cI (by decide))) trivial <| .nil) (by kernel_rfl) ?_
      refine pSeq ?_
      refine wSeq ?_
      refine wSeq ?_
      obtain ⟨y6, hy6, h⟩ := bd h
      obtain ⟨hc7, h⟩ := ib h
      refine rg (cp (oMv tm) (s1 rfl) <| cm (oCallS (rest := [.box 4 58 [.d (kI .i64) y3.Kind, .d kS y3.Text, .d (kI .i64) y3.At]]) (R' := [.box 4 58 [.d (kI .i64) y3.Kind, .d kS y3.Text, .d (kI .i64) y3.At], .box 70000 88 [.d (kL kS) y6.1.l_.Names, .d (kL (kI .u32)) y6.1.l_.Up, .d (kL (kR f_api_Tok)) y6.1.toks_, .d (kI .i64) y6.1.i_, .d (kI .i64) y6.1.bad_]]) (out' := .d (kS.sig y6.2)) [(70000, 70000)] [] [1] [0] [1, 0] rfl (state_reader_of.ok hy6) b109 (oE1 tm (oE1 (cI (by decide)) oE0)) rfl rfl rfl rfl rfl rfl rfl rfl) (s1 rfl) <| cp (oS2B u9 u113 u5 hc7 tm) (s1 rfl) <| cp (oLenL u113 tm) (s1 rfl) <| cp (oMv (cI (by decide))) trivial <| .nil) (by kernel_rfl) ?_
      refine pSeq ?_
      obtain ⟨o1, h, hk1⟩ := bd h
      refine wK1 (fun x14 => x14 = o1) (fun x14 => [(3, .d ((kI .i64).sig (-1))), (5, .d ((kI .i64).sig x14))]) (fun x14 => [.box 4 58 [.d (kI .i64) y3.Kind, .d kS y3.Text, .d (kI .i64) y3.At], .box 70000 88 [.d (kL kS) y6.1.l_.Names, .d (kL (kI .u32)) y6.1.l_.Up, .d (kL (kR f_api_Tok)) y6.1.toks_, .d (kI .i64) y6.1.i_, .d (kI .i64) y6.1.bad_]]) ?_ ?_
      · refine wBlock (wLoop ?_)
        refine lW (pc2 o1 (fun v12 v13 => [(3, .d ((kI .i64).sig (-1))), (5, .d ((kI .i64).sig v13)), (35, .d ((kL (kI .u8)).sig (u8s y6.2))), (36, .d ((kI .i64).sig ((u8s y6.2).length : Int))), (37, .d ((kI .i64).sig v12))]) (fun v12 v13 => [.box 4 58 [.d (kI .i64) y3.Kind, .d kS y3.Text, .d (kI .i64) y3.At], .box 70000 88 [.d (kL kS) y6.1.l_.Names, .d (kL (kI .u32)) y6.1.l_.Up, .d (kL (kR f_api_Tok)) y6.1.toks_, .d (kI .i64) y6.1.i_, .d (kI .i64) y6.1.bad_]]) (state_reader_number.l0.partial_correctness y6) ?_ _ _ h) ⟨rfl, rfl, rfl, rfl, rfl, trivial⟩ rfl
        clear h
        intro f' ih v12 v13 h
        refine wSeq ?_
        refine rg (cp (oLt rfl tm tm) (s2 rfl rfl) <| .nil) (by kernel_rfl) ?_
        refine pSeq ?_
        refine wSeq ?_
        rcases ic h with ⟨hp15, h⟩ | ⟨hp15, h⟩
        · refine wCT hp15 tm (s1 rfl) ?_
          refine wSkip ?_
          refine pSeq ?_
          refine wSeq ?_
          refine wBlock ?_
          refine wSeq ?_
          obtain ⟨y16, hy16, h⟩ := bd h
          refine rg (cp (oIdx u113 z5 hy16 tm tm) (s2 rfl rfl) <| cp (oLd t5 tm) (s1 rfl) <| cp (oAs tm) (s1 rfl) <| .nil) (by kernel_rfl) ?_
          refine pSeq ?_
          refine rg (cp (oMv tm) (s1 rfl) <| cp (oMul (cI (by decide)) tm) (s1 rfl) <| cp (oMv tm) (s1 rfl) <| cp (oAnd tm (cI (by decide))) (s1 rfl) <| cp (oConv u5 u3 tm) (s1 rfl) <| cp (oAdd tm tm) (s2 rfl rfl) <| cp (oAs tm) (s1 rfl) <| .nil) (by kernel_rfl) ?_
          refine pBlkN ?_
          refine pSeq ?_
          refine rg (cp (oAdd tm (cI (by decide))) (s1 rfl) <| cp (oMv tm) (s1 rfl) <| .nil) (by kernel_rfl) ?_
          exact pLoop (lW (ih _ _ h) ⟨rfl, rfl, rfl, rfl, rfl, trivial⟩ rfl)
        · refine wCF hp15 tm (s1 rfl) ?_
          refine wExit ?_
          refine pThenX ?_
          refine pThenX ?_
          refine pBlkX ?_
          exact pJ1 _ (so h) ⟨rfl, rfl, trivial⟩ rfl
      · rintro x14 rfl
        replace h := hk1
        refine pSeq ?_
        refine wSeq ?_
        refine rg (cp (oMv tm) (s1 rfl) <| cp (oMv tm) (s1 rfl) <| cp (oMul tm tm) (s2 rfl rfl) <| cp (oAs tm) (s1 rfl) <| .nil) (by kernel_rfl) ?_
        refine pSeq ?_
        refine wRet ?_
        obtain rfl := so h
        exact pS1 [1] rfl rfl (.inl rfl) rfl (.tmp rfl <| .nil)
    · refine wCF hp4 tm (s1 rfl) ?_
      refine wSkip ?_
      refine pSeq ?_
      refine wSeq ?_
      refine rg (cp (oAs (cI (by decide))) trivial <| .nil) (by kernel_rfl) ?_
      refine pSeq ?_
      refine wSeq ?_
      refine wSeq ?_
      obtain ⟨y17, hy17, h⟩ := bd h
      obtain ⟨hc18, h⟩ := ib h
      refine rg (cp (oMv tm) (s1 rfl) <| cm (oCallS (rest := [.box 4 58 [.d (kI .i64) y3.Kind, .d kS y3.Text, .d (kI .i64) y3.At]]) (R' := [.box 4 58 [.d (kI .i64) y3.Kind, .d kS y3.Text, .d (kI .i64) y3.At], .box 70000 88 [.d (kL kS) y17.1.l_.Names, .d (kL (kI .u32)) y17.1.l_.Up, .d (kL (kR f_api_Tok)) y17.1.toks_, .d (kI .i64) y17.1.i_, .d (kI .i64) y17.1.bad_]]) (out' := .d (kS.sig y17.2)) [(70000, 70000)] [] [1] [0] [1, 0] rfl (state_reader_of.ok hy17) b109 (oE1 tm (oE1 (cI (by decide)) oE0)) rfl rfl rfl rfl rfl rfl rfl rfl) (s1 rfl) <| cp (oS2B u9 u113 u5 hc18 tm) (s1 rfl) <| cp (oLenL u113 tm) (s1 rfl) <| cp (oMv (cI (by decide))) trivial <| .nil) (by kernel_rfl) ?_
      refine pSeq ?_
      obtain ⟨o1, h, hk1⟩ := bd h
      refine wK1 (fun x25 => x25 = o1) (fun x25 => [(3, .d ((kI .i64).sig (-1))), (5, .d ((kI .i64).sig x25))]) (fun x25 => [.box 4 58 [.d (kI .i64) y3.Kind, .d kS y3.Text, .d (kI .i64) y3.At], .box 70000 88 [.d (kL kS) y17.1.l_.Names, .d (kL (kI .u32)) y17.1.l_.Up, .d (kL (kR f_api_Tok)) y17.1.toks_, .d (kI .i64) y17.1.i_, .d (kI .i64) y17.1.bad_]]) ?_ ?_
      · refine wBlock (wLoop ?_)
        refine lW (pc2 o1 (fun v23 v24 => [(3, .d ((kI .i64).sig (-1))), (5, .d ((kI .i64).sig v24)), (35, .d ((kL (kI .u8)).sig (u8s y17.2))), (36, .d ((kI .i64).sig ((u8s y17.2).length : Int))), (37, .d ((kI .i64).sig v23))]) (fun v23 v24 => [.box 4 58 [.d (kI .i64) y3.Kind, .d kS y3.Text, .d (kI .i64) y3.At], .box 70000 88 [.d (kL kS) y17.1.l_.Names, .d (kL (kI .u32)) y17.1.l_.Up, .d (kL (kR f_api_Tok)) y17.1.toks_, .d (kI .i64) y17.1.i_, .d (kI .i64) y17.1.bad_]]) (state_reader_number.l1.partial_correctness y17) ?_ _ _ h) ⟨rfl, rfl, rfl, rfl, rfl, trivial⟩ rfl
        clear h
        intro f' ih v23 v24 h
        refine wSeq ?_
        refine rg (cp (oLt rfl tm tm) (s2 rfl rfl) <| .nil) (by kernel_rfl) ?_
        refine pSeq ?_
        refine wSeq ?_
        rcases ic h with ⟨hp26, h⟩ | ⟨hp26, h⟩
        · refine wCT hp26 tm (s1 rfl) ?_
          refine wSkip ?_
          refine pSeq ?_
          refine wSeq ?_
          refine wBlock ?_
          refine wSeq ?_
          obtain ⟨y27, hy27, h⟩ := bd h
          refine rg (cp (oIdx u113 z5 hy27 tm tm) (s2 rfl rfl) <| cp (oLd t5 tm) (s1 rfl) <| cp (oAs tm) (s1 rfl) <| .nil) (by kernel_rfl) ?_
          refine pSeq ?_
          refine rg (cp (oMv tm) (s1 rfl) <| cp (oMul (cI (by decide)) tm) (s1 rfl) <| cp (oMv tm) (s1 rfl) <| cp (oAnd tm (cI (by decide))) (s1 rfl) <| cp (oConv u5 u3 tm) (s1 rfl) <| cp (oAdd tm tm) (s2 rfl rfl) <| cp (oAs tm) (s1 rfl) <| .nil) (by kernel_rfl) ?_
          refine pBlkN ?_
          refine pSeq ?_
          refine rg (cp (oAdd tm (cI (by decide))) (s1 rfl) <| cp (oMv tm) (s1 rfl) <| .nil) (by kernel_rfl) ?_
          exact pLoop (lW (ih _ _ h) ⟨rfl, rfl, rfl, rfl, rfl, trivial⟩ rfl)
        · refine wCF hp26 tm (s1 rfl) ?_
          refine wExit ?_
          refine pThenX ?_
          refine pThenX ?_
          refine pBlkX ?_
          exact pJ1 _ (so h) ⟨rfl, rfl, trivial⟩ rfl
      · rintro x25 rfl
        replace h := hk1
        refine pSeq ?_
        refine wSeq ?_
        refine rg (cp (oMv tm) (s1 rfl) <| cp (oMv tm) (s1 rfl) <| cp (oMul tm tm) (s2 rfl rfl) <| cp (oAs tm) (s1 rfl) <| .nil) (by kernel_rfl) ?_
        refine pSeq ?_
        refine wRet ?_
        obtain rfl := so h
        exact pS1 [1] rfl rfl (.inl rfl) rfl (.tmp rfl <| .nil)
  · refine wBF hp2 tm (s1 rfl) ?_
    refine wSkip ?_
    refine pSeq ?_
    refine wSeq ?_
    refine wSeq ?_
    obtain ⟨y28, hy28, h⟩ := bd h
    refine rgL hm (cp (oMv tm) (s1 rfl) <| cp (oNilP tm) (s1 rfl) <| cp (oFldP o88_1 tm) (s1 rfl) <| cl [] rfl (oLdB (n := 0) (k := 2) rfl rfl rfl t53 tm) (s1 rfl) <| cp (oMv tm) (s1 rfl) <| cp (oNilP tm) (s1 rfl) <| cp (oFldP o88_2 tm) (s1 rfl) <| cl [] rfl (oLdB (n := 0) (k := 3) rfl rfl rfl t3 tm) (s1 rfl) <| cp (oIdx u53 z58 hy28 tm tm) (s2 rfl rfl) <| cp (oLd t58 tm) (s1 rfl) <| cn (oAlloc (id := 4) (ls := [.d (kI .i64) 0, .d kS [], .d (kI .i64) 0]) ze58 (fun g => ⟨[(.int .i64 0)], _, rfl, zI_i64 g.H, ⟨[(.string ⟨⟨[]⟩⟩)], _, rfl, zS g.H, ⟨[(.int .i64 0)], _, rfl, zI_i64 g.H, rfl⟩⟩⟩)) trivial <| cwn (oStA (n := 0) (fs := f_api_Tok) rfl rfl z58 tm tm) (s2 rfl rfl) <| .nil) (by kernel_rfl) (by kernel_rfl) (by kernel_rfl) ?_
    refine pSeq ?_
    refine wSeq ?_
    refine rg (cp (oFldP o58_1 tm) (s1 rfl) <| cr (oLdB (n := 0) (k := 1) rfl rfl rfl t9 tm) (s1 rfl) <| cp (oLenS u9 tm) (s1 rfl) <| cp (oGt rfl tm (cI (by decide))) (s1 rfl) <| .nil) (by kernel_rfl) ?_
    refine pSeq ?_
    rcases ic h with ⟨hp29, h⟩ | ⟨hp29, h⟩
    · refine wCT hp29 tm (s1 rfl) ?_
      obtain ⟨y30, hy30, h⟩ := bd h
      refine rg (cp (oMv tm) (s1 rfl) <| cm (oCallS (rest := [.box 4 58 [.d (kI .i64) y28.Kind, .d kS y28.Text, .d (kI .i64) y28.At]]) (R' := [.box 4 58 [.d (kI .i64) y28.Kind, .d kS y28.Text, .d (kI .i64) y28.At], .box 70000 88 [.d (kL kS) y30.l_.Names, .d (kL (kI .u32)) y30.l_.Up, .d (kL (kR f_api_Tok)) y30.toks_, .d (kI .i64) y30.i_, .d (kI .i64) y30.bad_]]) (out' := .d (tup [])) [(70000, 70000)] [] [1] [0] [1, 0] rfl (state_reader_fail.ok hy30) b96 (oE1 tm (oE1 (cI (by decide)) oE0)) rfl rfl rfl rfl rfl rfl rfl rfl) (s1 rfl) <| .nil) (by kernel_rfl) ?_
      refine pSeq ?_
      refine wSeq ?_
      refine rg (cp (oAs (cI (by decide))) trivial <| .nil) (by kernel_rfl) ?_
      refine pSeq ?_
      refine wSeq ?_
      refine wSeq ?_
      obtain ⟨y31, hy31, h⟩ := bd h
      obtain ⟨hc32, h⟩ := ib h
      refine rg (cp (oMv tm) (s1 rfl) <| cm (oCallS (rest := [.box 4 58 [.d (kI .i64) y28.Kind, .d kS y28.Text, .d (kI .i64) y28.At]]) (R' := [.box 4 58 [.d (kI .i64) y28.Kind, .d kS y28.Text, .d (kI .i64) y28.At], .box 70000 88 [.d (kL kS) y31.1.l_.Names, .d (kL (kI .u32)) y31.1.l_.Up, .d (kL (kR f_api_Tok)) y31.1.toks_, .d (kI .i64) y31.1.i_, .d (kI .i64) y31.1.bad_]]) (out' := .d (kS.sig y31.2)) [(70000, 70000)] [] [1] [0] [1, 0] rfl (state_reader_of.ok hy31) b109 (oE1 tm (oE1 (cI (by decide)) oE0)) rfl rfl rfl rfl rfl rfl rfl rfl) (s1 rfl) <| cp (oS2B u9 u113 u5 hc32 tm) (s1 rfl) <| cp (oLenL u113 tm) (s1 rfl) <| cp (oMv (cI (by decide))) trivial <| .nil) (by kernel_rfl) ?_
      refine pSeq ?_
      obtain ⟨o1, h, hk1⟩ := bd h
      refine wK1 (fun x39 => x39 = o1) (fun x39 => [(3, .d ((kI .i64).sig 1)), (5, .d ((kI .i64).sig x39))]) (fun x39 => [.box 4 58 [.d (kI .i64) y28.Kind, .d kS y28.Text, .d (kI .i64) y28.At], .box 70000 88 [.d (kL kS) y31.1.l_.Names, .d (kL (kI .u32)) y31.1.l_.Up, .d (kL (kR f_api_Tok)) y31.1.toks_, .d (kI .i64) y31.1.i_, .d (kI .i64) y31.1.bad_]]) ?_ ?_
      · refine wBlock (wLoop ?_)
        refine lW (pc2 o1 (fun v37 v38 => [(3, .d ((kI .i64).sig 1)), (5, .d ((kI .i64).sig v38)), (35, .d ((kL (kI .u8)).sig (u8s y31.2))), (36, .d ((kI .i64).sig ((u8s y31.2).length : Int))), (37, .d ((kI .i64).sig v37))]) (fun v37 v38 => [.box 4 58 [.d (kI .i64) y28.Kind, .d kS y28.Text, .d (kI .i64) y28.At], .box 70000 88 [.d (kL kS) y31.1.l_.Names, .d (kL (kI .u32)) y31.1.l_.Up, .d (kL (kR f_api_Tok)) y31.1.toks_, .d (kI .i64) y31.1.i_, .d (kI .i64) y31.1.bad_]]) (state_reader_number.l2.partial_correctness y31) ?_ _ _ h) ⟨rfl, rfl, rfl, rfl, rfl, trivial⟩ rfl
        clear h
        intro f' ih v37 v38 h
        refine wSeq ?_
        refine rg (cp (oLt rfl tm tm) (s2 rfl rfl) <| .nil) (by kernel_rfl) ?_
        refine pSeq ?_
        refine wSeq ?_
        rcases ic h with ⟨hp40, h⟩ | ⟨hp40, h⟩
        · refine wCT hp40 tm (s1 rfl) ?_
          refine wSkip ?_
          refine pSeq ?_
          refine wSeq ?_
          refine wBlock ?_
          refine wSeq ?_
          obtain ⟨y41, hy41, h⟩ := bd h
          refine rg (cp (oIdx u113 z5 hy41 tm tm) (s2 rfl rfl) <| cp (oLd t5 tm) (s1 rfl) <| cp (oAs tm) (s1 rfl) <| .nil) (by kernel_rfl) ?_
          refine pSeq ?_
          refine rg (cp (oMv tm) (s1 rfl) <| cp (oMul (cI (by decide)) tm) (s1 rfl) <| cp (oMv tm) (s1 rfl) <| cp (oAnd tm (cI (by decide))) (s1 rfl) <| cp (oConv u5 u3 tm) (s1 rfl) <| cp (oAdd tm tm) (s2 rfl rfl) <| cp (oAs tm) (s1 rfl) <| .nil) (by kernel_rfl) ?_
          refine pBlkN ?_
          refine pSeq ?_
          refine rg (cp (oAdd tm (cI (by decide))) (s1 rfl) <| cp (oMv tm) (s1 rfl) <| .nil) (by kernel_rfl) ?_
          exact pLoop (lW (ih _ _ h) ⟨rfl, rfl, rfl, rfl, rfl, trivial⟩ rfl)
        · refine wCF hp40 tm (s1 rfl) ?_
          refine wExit ?_
          refine pThenX ?_
          refine pThenX ?_
          refine pBlkX ?_
          exact pJ1 _ (so h) ⟨rfl, rfl, trivial⟩ rfl
      · rintro x39 rfl
        replace h := hk1
        refine pSeq ?_
        refine wSeq ?_
        refine rg (cp (oMv tm) (s1 rfl) <| cp (oMv tm) (s1 rfl) <| cp (oMul tm tm) (s2 rfl rfl) <| cp (oAs tm) (s1 rfl) <| .nil) (by kernel_rfl) ?_
        refine pSeq ?_
        refine wRet ?_
        obtain rfl := so h
        exact pS1 [1] rfl rfl (.inl rfl) rfl (.tmp rfl <| .nil)
    · refine wCF hp29 tm (s1 rfl) ?_
      refine wSkip ?_
      refine pSeq ?_
      refine wSeq ?_
      refine rg (cp (oAs (cI (by decide))) trivial <| .nil) (by kernel_rfl) ?_
      refine pSeq ?_
      refine wSeq ?_
      refine wSeq ?_
      obtain ⟨y42, hy42, h⟩ := bd h
      obtain ⟨hc43, h⟩ := ib h
      refine rg (cp (oMv tm) (s1 rfl) <| cm (oCallS (rest := [.box 4 58 [.d (kI .i64) y28.Kind, .d kS y28.Text, .d (kI .i64) y28.At]]) (R' := [.box 4 58 [.d (kI .i64) y28.Kind, .d kS y28.Text, .d (kI .i64) y28.At], .box 70000 88 [.d (kL kS) y42.1.l_.Names, .d (kL (kI .u32)) y42.1.l_.Up, .d (kL (kR f_api_Tok)) y42.1.toks_, .d (kI .i64) y42.1.i_, .d (kI .i64) y42.1.bad_]]) (out' := .d (kS.sig y42.2)) [(70000, 70000)] [] [1] [0] [1, 0] rfl (state_reader_of.ok hy42) b109 (oE1 tm (oE1 (cI (by decide)) oE0)) rfl rfl rfl rfl rfl rfl rfl rfl) (s1 rfl) <| cp (oS2B u9 u113 u5 hc43 tm) (s1 rfl) <| cp (oLenL u113 tm) (s1 rfl) <| cp (oMv (cI (by decide))) trivial <| .nil) (by kernel_rfl) ?_
      refine pSeq ?_
      obtain ⟨o1, h, hk1⟩ := bd h
      refine wK1 (fun x50 => x50 = o1) (fun x50 => [(3, .d ((kI .i64).sig 1)), (5, .d ((kI .i64).sig x50))]) (fun x50 => [.box 4 58 [.d (kI .i64) y28.Kind, .d kS y28.Text, .d (kI .i64) y28.At], .box 70000 88 [.d (kL kS) y42.1.l_.Names, .d (kL (kI .u32)) y42.1.l_.Up, .d (kL (kR f_api_Tok)) y42.1.toks_, .d (kI .i64) y42.1.i_, .d (kI .i64) y42.1.bad_]]) ?_ ?_
      · refine wBlock (wLoop ?_)
        refine lW (pc2 o1 (fun v48 v49 => [(3, .d ((kI .i64).sig 1)), (5, .d ((kI .i64).sig v49)), (35, .d ((kL (kI .u8)).sig (u8s y42.2))), (36, .d ((kI .i64).sig ((u8s y42.2).length : Int))), (37, .d ((kI .i64).sig v48))]) (fun v48 v49 => [.box 4 58 [.d (kI .i64) y28.Kind, .d kS y28.Text, .d (kI .i64) y28.At], .box 70000 88 [.d (kL kS) y42.1.l_.Names, .d (kL (kI .u32)) y42.1.l_.Up, .d (kL (kR f_api_Tok)) y42.1.toks_, .d (kI .i64) y42.1.i_, .d (kI .i64) y42.1.bad_]]) (state_reader_number.l3.partial_correctness y42) ?_ _ _ h) ⟨rfl, rfl, rfl, rfl, rfl, trivial⟩ rfl
        clear h
        intro f' ih v48 v49 h
        refine wSeq ?_
        refine rg (cp (oLt rfl tm tm) (s2 rfl rfl) <| .nil) (by kernel_rfl) ?_
        refine pSeq ?_
        refine wSeq ?_
        rcases ic h with ⟨hp51, h⟩ | ⟨hp51, h⟩
        · refine wCT hp51 tm (s1 rfl) ?_
          refine wSkip ?_
          refine pSeq ?_
          refine wSeq ?_
          refine wBlock ?_
          refine wSeq ?_
          obtain ⟨y52, hy52, h⟩ := bd h
          refine rg (cp (oIdx u113 z5 hy52 tm tm) (s2 rfl rfl) <| cp (oLd t5 tm) (s1 rfl) <| cp (oAs tm) (s1 rfl) <| .nil) (by kernel_rfl) ?_
          refine pSeq ?_
          refine rg (cp (oMv tm) (s1 rfl) <| cp (oMul (cI (by decide)) tm) (s1 rfl) <| cp (oMv tm) (s1 rfl) <| cp (oAnd tm (cI (by decide))) (s1 rfl) <| cp (oConv u5 u3 tm) (s1 rfl) <| cp (oAdd tm tm) (s2 rfl rfl) <| cp (oAs tm) (s1 rfl) <| .nil) (by kernel_rfl) ?_
          refine pBlkN ?_
          refine pSeq ?_
          refine rg (cp (oAdd tm (cI (by decide))) (s1 rfl) <| cp (oMv tm) (s1 rfl) <| .nil) (by kernel_rfl) ?_
          exact pLoop (lW (ih _ _ h) ⟨rfl, rfl, rfl, rfl, rfl, trivial⟩ rfl)
        · refine wCF hp51 tm (s1 rfl) ?_
          refine wExit ?_
          refine pThenX ?_
          refine pThenX ?_
          refine pBlkX ?_
          exact pJ1 _ (so h) ⟨rfl, rfl, trivial⟩ rfl
      · rintro x50 rfl
        replace h := hk1
        refine pSeq ?_
        refine wSeq ?_
        refine rg (cp (oMv tm) (s1 rfl) <| cp (oMv tm) (s1 rfl) <| cp (oMul tm tm) (s2 rfl rfl) <| cp (oAs tm) (s1 rfl) <| .nil) (by kernel_rfl) ?_
        refine pSeq ?_
        refine wRet ?_
        obtain rfl := so h
        exact pS1 [1] rfl rfl (.inl rfl) rfl (.tmp rfl <| .nil)

theorem order_Find.ok {a0 : api_Lattice} {a1 : Str} {r : Int × Int} (h : order_Find.f a0 a1 = some r) : FnA Tryz.prog 98 [(kR f_api_Lattice).sig a0, kS.sig a1] (tup [(kI .i64).sig r.1, (kI .i64).sig r.2]) := by
  refine fnIntro Tryz.func98 rfl (by kernel_rfl) fun H0 w0 => ?_
  unfold order_Find.f at h
  refine wSeq ?_
  refine rg (cp (oBox tm) (s1 rfl) <| cp (oAs (cI (by decide))) trivial <| cp (oAs (cI (by decide))) trivial <| .nil) (by kernel_rfl) ?_
  refine pSeq ?_
  refine wSeq ?_
  refine wSeq ?_
  obtain ⟨y1, hy1, h⟩ := bd h
  refine rg (cp (oLd t25 tm) (s1 rfl) <| cp (oCall rfl (lattice_Check.ok hy1) b16 (opds_cons tm opds_nil)) (s1 rfl) <| cp (oAs tm) (s1 rfl) <| .nil) (by kernel_rfl) ?_
  refine pSeq ?_
  refine wSeq ?_
  refine rg (cp (oMv tm) (s1 rfl) <| cp (oNe rfl tm (cI (by decide))) (s1 rfl) <| .nil) (by kernel_rfl) ?_
  refine pSeq ?_
  rcases ic h with ⟨hp2, h⟩ | ⟨hp2, h⟩
  · refine wNT hp2 tm (s1 rfl) ?_
    refine wSkip ?_
    refine pSeq ?_
    refine wSeq ?_
    obtain ⟨y3, hy3, h⟩ := bd h
    refine rg (cp (oFld (fs := f_api_Lattice) (k := 0) rfl o25_0 tm) (s1 rfl) <| cp (oLd t22 tm) (s1 rfl) <| cp (oMv tm) (s1 rfl) <| cp (oCall rfl (slices_Index_string_string.ok hy3) b101 (opds_cons tm (opds_cons tm opds_nil))) (s2 rfl rfl) <| cp (oAs tm) (s1 rfl) <| .nil) (by kernel_rfl) ?_
    refine pSeq ?_
    refine wSeq ?_
    refine wSeq ?_
    refine rg (cp (oMv tm) (s1 rfl) <| cp (oLt rfl tm (cI (by decide))) (s1 rfl) <| .nil) (by kernel_rfl) ?_
    refine pSeq ?_
    rcases ic h with ⟨hp4, h⟩ | ⟨hp4, h⟩
    · refine wCT hp4 tm (s1 rfl) ?_
      refine wSeq ?_
      refine rg (cp (oAs (cI (by decide))) trivial <| cp (oAs (cI (by decide))) trivial <| .nil) (by kernel_rfl) ?_
      refine pSeq ?_
      refine wRet ?_
      refine pThenR ?_
      obtain rfl := so h
      exact pRn (.inl rfl) rfl rfl (.tmp rfl <| .tmp rfl <| .nil)
    · refine wCF hp4 tm (s1 rfl) ?_
      refine wSkip ?_
      refine pSeq ?_
      refine wSeq ?_
      refine rg (cp (oMv tm) (s1 rfl) <| cp (oAs tm) (s1 rfl) <| cp (oAs (cI (by decide))) trivial <| .nil) (by kernel_rfl) ?_
      refine pSeq ?_
      refine wRet ?_
      obtain rfl := so h
      exact pRn (.inl rfl) rfl rfl (.tmp rfl <| .tmp rfl <| .nil)
  · refine wNF hp2 tm (s1 rfl) ?_
    refine wSeq ?_
    refine rg (cp (oMv tm) (s1 rfl) <| cp (oAs (cI (by decide))) trivial <| cp (oAs tm) (s1 rfl) <| .nil) (by kernel_rfl) ?_
    refine pSeq ?_
    refine wRet ?_
    refine pThenR ?_
    obtain rfl := so h
    exact pRn (.inl rfl) rfl rfl (.tmp rfl <| .tmp rfl <| .nil)

theorem state_reader_atom.ok {a0 : state_reader} {r : state_reader × api_Atom} (h : state_reader_atom.f a0 = some r) : FnS Tryz.prog 59 [.p 70000 0] [.box 70000 88 [.d (kL kS) a0.l_.Names, .d (kL (kI .u32)) a0.l_.Up, .d (kL (kR f_api_Tok)) a0.toks_, .d (kI .i64) a0.i_, .d (kI .i64) a0.bad_]] [70000] (.d ((kR f_api_Atom).sig r.2)) [.box 70000 88 [.d (kL kS) r.1.l_.Names, .d (kL (kI .u32)) r.1.l_.Up, .d (kL (kR f_api_Tok)) r.1.toks_, .d (kI .i64) r.1.i_, .d (kI .i64) r.1.bad_]] := by
  refine fnIntroS Tryz.func59 rfl (by kernel_rfl) fun X H0 w0 pv => ?_
  unfold state_reader_atom.f at h
  refine wSeq ?_
  refine rg (cw (oAlloc (id := 2) (ls := [.d (kI .i64) 0, .d (kI .i64) 0]) ze27 (fun g => ⟨[(.int .i64 0)], _, rfl, zI_i64 g.H, ⟨[(.int .i64 0)], _, rfl, zI_i64 g.H, rfl⟩⟩)) trivial <| .nil) (by kernel_rfl) ?_
  refine pSeq ?_
  refine wSeq ?_
  obtain ⟨y1, hy1, h⟩ := bd h
  refine rg (cp (oMv tm) (s1 rfl) <| cm (oCallS (rest := [.box 2 27 [.d (kI .i64) 0, .d (kI .i64) 0]]) (R' := [.box 2 27 [.d (kI .i64) 0, .d (kI .i64) 0], .box 70000 88 [.d (kL kS) y1.1.l_.Names, .d (kL (kI .u32)) y1.1.l_.Up, .d (kL (kR f_api_Tok)) y1.1.toks_, .d (kI .i64) y1.1.i_, .d (kI .i64) y1.1.bad_]]) (out' := .d ((kI .i64).sig y1.2)) [(70000, 70000)] [] [1] [0] [1, 0] rfl (state_reader_number.ok hy1) b97 (oE1 tm oE0) rfl rfl rfl rfl rfl rfl rfl rfl) (s1 rfl) <| cp (oAs tm) (s1 rfl) <| .nil) (by kernel_rfl) ?_
  refine pSeq ?_
  refine wSeq ?_
  obtain ⟨y2, hy2, h⟩ := bd h
  refine rg (cp (oMv tm) (s1 rfl) <| cm (oCallS (rest := [.box 2 27 [.d (kI .i64) 0, .d (kI .i64) 0]]) (R' := [.box 2 27 [.d (kI .i64) 0, .d (kI .i64) 0], .box 70000 88 [.d (kL kS) y2.l_.Names, .d (kL (kI .u32)) y2.l_.Up, .d (kL (kR f_api_Tok)) y2.toks_, .d (kI .i64) y2.i_, .d (kI .i64) y2.bad_]]) (out' := .d (tup [])) [(70000, 70000)] [] [1] [0] [1, 0] rfl (state_reader_must.ok hy2) b58 (oE1 tm (oE1 (cI (by decide)) (oE1 (cS (by decide)) oE0))) rfl rfl rfl rfl rfl rfl rfl rfl) (s1 rfl) <| .nil) (by kernel_rfl) ?_
  refine pSeq ?_
  refine wSeq ?_
  obtain ⟨o1, h, hk1⟩ := bd h
  refine wJ1 (fun x5 => x5 = o1) (fun x5 => [(0, .p 70000 0), (2, .p 2 0), (3, .d ((kI .i64).sig y1.2)), (28, .d (kB.sig x5))]) (fun x5 => [.box 2 27 [.d (kI .i64) 0, .d (kI .i64) 0], .box 70000 88 [.d (kL kS) y2.l_.Names, .d (kL (kI .u32)) y2.l_.Up, .d (kL (kR f_api_Tok)) y2.toks_, .d (kI .i64) y2.i_, .d (kI .i64) y2.bad_]]) ?_ ?_
  · rcases ic h with ⟨hp6, h⟩ | ⟨hp6, h⟩
    · obtain ⟨y7, hy7, h⟩ := bd h
      refine rgD hm (cp (oMv tm) (s1 rfl) <| cp (oNilP tm) (s1 rfl) <| cp (oFldP o88_3 tm) (s1 rfl) <| cr (oLdB (n := 1) (k := 4) rfl rfl rfl t35 tm) (s1 rfl) <| cp (oNe rfl tm (cI (by decide))) (s1 rfl) <| cp (oMv tm) (s1 rfl) <| cgB (nf hp6) rfl rfl (oMv tm) (s1 rfl) <| cgB (nf hp6) rfl rfl (oNilP tm) (s1 rfl) <| cgB (nf hp6) rfl rfl (oFldP o88_1 tm) (s1 rfl) <| crgB (nf hp6) rfl rfl (oLdB (n := 1) (k := 2) rfl rfl rfl t53 tm) (s1 rfl) <| cgB (nf hp6) rfl rfl (oMv tm) (s1 rfl) <| cgB (nf hp6) rfl rfl (oNilP tm) (s1 rfl) <| cgB (nf hp6) rfl rfl (oFldP o88_2 tm) (s1 rfl) <| crgB (nf hp6) rfl rfl (oLdB (n := 1) (k := 3) rfl rfl rfl t3 tm) (s1 rfl) <| cgB (nf hp6) rfl rfl (oIdx u53 z58 hy7 tm tm) (s2 rfl rfl) <| cgB (nf hp6) rfl rfl (oFld (fs := f_api_Tok) (k := 0) rfl o58_0 tm) (s1 rfl) <| cgB (nf hp6) rfl rfl (oLd t3 tm) (s1 rfl) <| cgB (nf hp6) rfl rfl (oNe rfl tm (cI (by decide))) (s1 rfl) <| cp (oPkF (nf hp6) tm tm) (s2 rfl rfl) <| .nil) (by kernel_rfl) (by kernel_rfl) ?_
      exact pJ1 _ (so h) ⟨rfl, rfl, rfl, rfl, trivial⟩ rfl
    · refine rgD hm (cp (oMv tm) (s1 rfl) <| cp (oNilP tm) (s1 rfl) <| cp (oFldP o88_3 tm) (s1 rfl) <| cr (oLdB (n := 1) (k := 4) rfl rfl rfl t35 tm) (s1 rfl) <| cp (oNe rfl tm (cI (by decide))) (s1 rfl) <| cp (oMv tm) (s1 rfl) <| csB (nt hp6) rfl rfl <| csB (nt hp6) rfl rfl <| csB (nt hp6) rfl rfl <| csB (nt hp6) rfl rfl <| csB (nt hp6) rfl rfl <| csB (nt hp6) rfl rfl <| csB (nt hp6) rfl rfl <| csB (nt hp6) rfl rfl <| csB (nt hp6) rfl rfl <| csB (nt hp6) rfl rfl <| csB (nt hp6) rfl rfl <| csB (nt hp6) rfl rfl <| cp (oPkT (nt hp6) tm cB) (s1 rfl) <| .nil) (by kernel_rfl) (by kernel_rfl) ?_
      exact pJ1 _ (so h) ⟨rfl, rfl, rfl, rfl, trivial⟩ rfl
  · rintro x5 rfl
    replace h := hk1
    rcases ic h with ⟨hp8, h⟩ | ⟨hp8, h⟩
    · refine wBT hp8 tm (s1 rfl) ?_
      refine wSeq ?_
      obtain ⟨y9, hy9, h⟩ := bd h
      refine rg (cp (oMv tm) (s1 rfl) <| cm (oCallS (rest := [.box 2 27 [.d (kI .i64) 0, .d (kI .i64) 0]]) (R' := [.box 2 27 [.d (kI .i64) 0, .d (kI .i64) 0], .box 70000 88 [.d (kL kS) y9.l_.Names, .d (kL (kI .u32)) y9.l_.Up, .d (kL (kR f_api_Tok)) y9.toks_, .d (kI .i64) y9.i_, .d (kI .i64) y9.bad_]]) (out' := .d (tup [])) [(70000, 70000)] [] [1] [0] [1, 0] rfl (state_reader_fail.ok hy9) b96 (oE1 tm (oE1 (cI (by decide)) oE0)) rfl rfl rfl rfl rfl rfl rfl rfl) (s1 rfl) <| .nil) (by kernel_rfl) ?_
      refine pSeq ?_
      refine wSeq ?_
      refine rg (cp (oBuild (fs := f_api_Atom) (u := ⟨0, 0⟩) rfl ze27 pl27 po27 (.ze (zc := [(.int .i64 0)]) zI_i64 (.ze (zc := [(.int .i64 0)]) zI_i64 .nil))) trivial <| cwn (oStA (n := 0) (fs := f_api_Atom) rfl rfl z27 tm tm) (s2 rfl rfl) <| .nil) (by kernel_rfl) ?_
      refine pSeq ?_
      refine wRet ?_
      refine pThenR ?_
      obtain rfl := so h
      exact pS1 [1] rfl rfl (.inl rfl) rfl (.box (n := 0) (fs := f_api_Atom) (u := ⟨0, 0⟩) rfl rfl ⟨rfl, rfl, trivial⟩ t27 <| .nil)
    · refine wBF hp8 tm (s1 rfl) ?_
      refine wSkip ?_
      refine pSeq ?_
      refine wSeq ?_
      obtain ⟨y10, hy10, h⟩ := bd h
      obtain ⟨y11, hy11, h⟩ := bd h
      refine rgD hm (cp (oMv tm) (s1 rfl) <| cp (oNilP tm) (s1 rfl) <| cp (oFldP o88_0 tm) (s1 rfl) <| cr (oLdP (n := 1) (k := 0) (m := 2) (d := (kR f_api_Lattice)) (u := y2.l_) (lfS (lfC lf1 (lfC lf1 lfN))) rfl rfl rfl t25 tm) (s1 rfl) <| cp (oMv tm) (s1 rfl) <| cp (oNilP tm) (s1 rfl) <| cp (oFldP o88_1 tm) (s1 rfl) <| cr (oLdB (n := 1) (k := 2) rfl rfl rfl t53 tm) (s1 rfl) <| cp (oMv tm) (s1 rfl) <| cp (oNilP tm) (s1 rfl) <| cp (oFldP o88_2 tm) (s1 rfl) <| cr (oLdB (n := 1) (k := 3) rfl rfl rfl t3 tm) (s1 rfl) <| cp (oIdx u53 z58 hy10 tm tm) (s2 rfl rfl) <| cp (oFld (fs := f_api_Tok) (k := 1) rfl o58_1 tm) (s1 rfl) <| cp (oLd t9 tm) (s1 rfl) <| cp (oCall rfl (order_Find.ok hy11) b98 (opds_cons tm (opds_cons tm opds_nil))) (s2 rfl rfl) <| cp (oMv tm) (s1 rfl) <| cp (oExt (k := 0) rfl tm) (s1 rfl) <| cp (oExt (k := 1) rfl tm) (s1 rfl) <| cp (oAs tm) (s1 rfl) <| cp (oAs tm) (s1 rfl) <| .nil) (by kernel_rfl) (by kernel_rfl) ?_
      refine pSeq ?_
      refine wSeq ?_
      refine wSeq ?_
      refine rg (cp (oMv tm) (s1 rfl) <| cp (oNe rfl tm (cI (by decide))) (s1 rfl) <| .nil) (by kernel_rfl) ?_
      refine pSeq ?_
      rcases ic h with ⟨hp12, h⟩ | ⟨hp12, h⟩
      · refine wNT hp12 tm (s1 rfl) ?_
        refine wSkip ?_
        refine pSeq ?_
        refine wSeq ?_
        refine rg (cp (oMv tm) (s1 rfl) <| cp (oNilP tm) (s1 rfl) <| cp (oFldP o88_2 tm) (s1 rfl) <| cr (oLdB (n := 1) (k := 3) rfl rfl rfl t3 tm) (s1 rfl) <| cp (oAdd tm (cI (by decide))) (s1 rfl) <| cp (oNilP tm) (s1 rfl) <| cp (oFldP o88_2 tm) (s1 rfl) <| cwn (oSt (n := 1) (k := 3) rfl rfl rfl rfl z3 tm tm) (s2 rfl rfl) <| .nil) (by kernel_rfl) ?_
        refine pSeq ?_
        refine wSeq ?_
        refine rg (cp (oMv tm) (s1 rfl) <| cp (oMv tm) (s1 rfl) <| cp (oBuild (fs := f_api_Atom) (u := ⟨y1.2, y11.1⟩) rfl ze27 pl27 po27 (.op (zc := [(.int .i64 0)]) tm rfl (.op (zc := [(.int .i64 0)]) tm rfl .nil))) (s2 rfl rfl) <| cwn (oStA (n := 0) (fs := f_api_Atom) rfl rfl z27 tm tm) (s2 rfl rfl) <| .nil) (by kernel_rfl) ?_
        refine pSeq ?_
        refine wRet ?_
        obtain rfl := so h
        exact pS1 [1] rfl rfl (.inl rfl) rfl (.box (n := 0) (fs := f_api_Atom) (u := ⟨y1.2, y11.1⟩) rfl rfl ⟨rfl, rfl, trivial⟩ t27 <| .nil)
      · refine wNF hp12 tm (s1 rfl) ?_
        refine wSeq ?_
        obtain ⟨y13, hy13, h⟩ := bd h
        refine rg (cp (oMv tm) (s1 rfl) <| cm (oCallS (rest := [.box 2 27 [.d (kI .i64) 0, .d (kI .i64) 0]]) (R' := [.box 2 27 [.d (kI .i64) 0, .d (kI .i64) 0], .box 70000 88 [.d (kL kS) y13.l_.Names, .d (kL (kI .u32)) y13.l_.Up, .d (kL (kR f_api_Tok)) y13.toks_, .d (kI .i64) y13.i_, .d (kI .i64) y13.bad_]]) (out' := .d (tup [])) [(70000, 70000)] [] [1] [0] [1, 0] rfl (state_reader_fail.ok hy13) b96 (oE1 tm (oE1 (cI (by decide)) oE0)) rfl rfl rfl rfl rfl rfl rfl rfl) (s1 rfl) <| .nil) (by kernel_rfl) ?_
        refine pSeq ?_
        refine wSeq ?_
        refine rg (cp (oBuild (fs := f_api_Atom) (u := ⟨0, 0⟩) rfl ze27 pl27 po27 (.ze (zc := [(.int .i64 0)]) zI_i64 (.ze (zc := [(.int .i64 0)]) zI_i64 .nil))) trivial <| cwn (oStA (n := 0) (fs := f_api_Atom) rfl rfl z27 tm tm) (s2 rfl rfl) <| .nil) (by kernel_rfl) ?_
        refine pSeq ?_
        refine wRet ?_
        refine pThenR ?_
        obtain rfl := so h
        exact pS1 [1] rfl rfl (.inl rfl) rfl (.box (n := 0) (fs := f_api_Atom) (u := ⟨0, 0⟩) rfl rfl ⟨rfl, rfl, trivial⟩ t27 <| .nil)

theorem code_reader_tok.ok {a0 : code_reader} {r : code_reader × api_Tok} (h : code_reader_tok.f a0 = some r) : FnS Tryz.prog 111 [.p 70000 0] [.box 70000 140 [.d (kL kS) a0.l_.Names, .d (kL (kI .u32)) a0.l_.Up, .d (kL (kR f_api_Tok)) a0.toks_, .d (kI .i64) a0.i_, .d (kI .i64) a0.bad_]] [70000] (.d ((kR f_api_Tok).sig r.2)) [.box 70000 140 [.d (kL kS) r.1.l_.Names, .d (kL (kI .u32)) r.1.l_.Up, .d (kL (kR f_api_Tok)) r.1.toks_, .d (kI .i64) r.1.i_, .d (kI .i64) r.1.bad_]] := by
  refine fnIntroS Tryz.func111 rfl (by kernel_rfl) fun X H0 w0 pv => ?_
  unfold code_reader_tok.f at h
  refine wSeq ?_
  refine rg (cw (oAlloc (id := 2) (ls := [.d (kI .i64) 0, .d kS [], .d (kI .i64) 0]) ze58 (fun g => ⟨[(.int .i64 0)], _, rfl, zI_i64 g.H, ⟨[(.string ⟨⟨[]⟩⟩)], _, rfl, zS g.H, ⟨[(.int .i64 0)], _, rfl, zI_i64 g.H, rfl⟩⟩⟩)) trivial <| .nil) (by kernel_rfl) ?_
  refine pSeq ?_
  refine wSeq ?_
  obtain ⟨y1, hy1, h⟩ := bd h
  refine rgD hm (cp (oMv tm) (s1 rfl) <| cp (oNilP tm) (s1 rfl) <| cp (oFldP o140_1 tm) (s1 rfl) <| cr (oLdB (n := 1) (k := 2) rfl rfl rfl t53 tm) (s1 rfl) <| cp (oMv tm) (s1 rfl) <| cp (oNilP tm) (s1 rfl) <| cp (oFldP o140_2 tm) (s1 rfl) <| cr (oLdB (n := 1) (k := 3) rfl rfl rfl t3 tm) (s1 rfl) <| cp (oIdx u53 z58 hy1 tm tm) (s2 rfl rfl) <| cp (oLd t58 tm) (s1 rfl) <| cwn (oStA (n := 0) (fs := f_api_Tok) rfl rfl z58 tm tm) (s2 rfl rfl) <| .nil) (by kernel_rfl) (by kernel_rfl) ?_
  refine pSeq ?_
  refine wRet ?_
  obtain rfl := so h
  exact pS1 [1] rfl rfl (.inl rfl) rfl (.box (n := 0) (fs := f_api_Tok) (u := ⟨y1.Kind, y1.Text, y1.At⟩) rfl rfl ⟨rfl, rfl, rfl, trivial⟩ t58 <| .nil)

theorem code_instruction.ok {a0 : api_Tok} {r : Int} (h : code_instruction.f a0 = some r) : FnA Tryz.prog 110 [(kR f_api_Tok).sig a0] ((kI .i64).sig r) := by
  refine fnIntro Tryz.func110 rfl (by kernel_rfl) fun H0 w0 => ?_
  unfold code_instruction.f at h
  refine wSeq ?_
  refine rg (cp (oBox tm) (s1 rfl) <| cp (oAs (cI (by decide))) trivial <| .nil) (by kernel_rfl) ?_
  refine pSeq ?_
  refine wSeq ?_
  refine wSeq ?_
  refine rg (cp (oMv (cI (by decide))) trivial <| .nil) (by kernel_rfl) ?_
  refine pSeq ?_
  obtain ⟨o1, h, hk1⟩ := bd h
  refine wK0 (.inr () = o1) ([]) ([]) ?_ ?_
  · refine wBlock (wLoop ?_)
    refine lW (pc1 o1 (fun v13 => [(1, .d (sP (kR f_api_Tok) a0)), (6, .d ((kI .i64).sig v13))]) (fun v13 => []) (code_instruction.l0.partial_correctness a0) ?_ _ h) ⟨rfl, rfl, trivial⟩ rfl
    clear h
    intro f' ih v13 h
    refine wSeq ?_
    refine rg (cp (oLt rfl tm (cI (by decide))) (s1 rfl) <| .nil) (by kernel_rfl) ?_
    refine pSeq ?_
    refine wSeq ?_
    rcases ic h with ⟨hp14, h⟩ | ⟨hp14, h⟩
    · refine wCT hp14 tm (s1 rfl) ?_
      refine wSkip ?_
      refine pSeq ?_
      refine wSeq ?_
      refine wBlock ?_
      refine wSeq ?_
      refine rg (cp (oMv tm) (s1 rfl) <| cp (oAs tm) (s1 rfl) <| .nil) (by kernel_rfl) ?_
      refine pSeq ?_
      refine wSeq ?_
      obtain ⟨y15, hy15, h⟩ := bd h
      refine rg (cp (oMv tm) (s1 rfl) <| cp (oCall rfl (table_Name.ok hy15) b53 (opds_cons tm opds_nil)) (s1 rfl) <| cp (oMv tm) (s1 rfl) <| cp (oExt (k := 0) rfl tm) (s1 rfl) <| cp (oExt (k := 1) rfl tm) (s1 rfl) <| cp (oAs tm) (s1 rfl) <| cp (oAs tm) (s1 rfl) <| .nil) (by kernel_rfl) ?_
      refine pSeq ?_
      obtain ⟨o2, h, hk2⟩ := bd h
      refine wJ1 (fun x17 => x17 = o2) (fun x17 => [(1, .d (sP (kR f_api_Tok) a0)), (3, .d ((kI .i64).sig v13)), (6, .d ((kI .i64).sig v13)), (22, .d (kB.sig x17))]) (fun x17 => []) ?_ ?_
      · rcases ic h with ⟨hp18, h⟩ | ⟨hp18, h⟩
        · refine rg (cp (oFld (fs := f_api_Tok) (k := 0) rfl o58_0 tm) (s1 rfl) <| cp (oLd t3 tm) (s1 rfl) <| cp (oEq rfl tm (cI (by decide))) (s1 rfl) <| cp (oMv tm) (s1 rfl) <| cgB (decide_eq_true hp18) rfl rfl (oMv tm) (s1 rfl) <| cgB (decide_eq_true hp18) rfl rfl (oFld (fs := f_api_Tok) (k := 1) rfl o58_1 tm) (s1 rfl) <| cgB (decide_eq_true hp18) rfl rfl (oLd t9 tm) (s1 rfl) <| cgB (decide_eq_true hp18) rfl rfl (oSEq rfl tm tm) (s2 rfl rfl) <| cp (oPkT (decide_eq_true hp18) tm tm) (s2 rfl rfl) <| .nil) (by kernel_rfl) ?_
          exact pJ1 _ (so h) ⟨rfl, rfl, rfl, rfl, trivial⟩ rfl
        · refine rg (cp (oFld (fs := f_api_Tok) (k := 0) rfl o58_0 tm) (s1 rfl) <| cp (oLd t3 tm) (s1 rfl) <| cp (oEq rfl tm (cI (by decide))) (s1 rfl) <| cp (oMv tm) (s1 rfl) <| csB (decide_eq_false hp18) rfl rfl <| csB (decide_eq_false hp18) rfl rfl <| csB (decide_eq_false hp18) rfl rfl <| csB (decide_eq_false hp18) rfl rfl <| cp (oPkF (decide_eq_false hp18) tm cB) (s1 rfl) <| .nil) (by kernel_rfl) ?_
          exact pJ1 _ (so h) ⟨rfl, rfl, rfl, rfl, trivial⟩ rfl
      · rintro x17 rfl
        replace h := hk2
        rcases ic h with ⟨hp19, h⟩ | ⟨hp19, h⟩
        · refine wBT hp19 tm (s1 rfl) ?_
          refine wSeq ?_
          refine rg (cp (oMv tm) (s1 rfl) <| cp (oAs tm) (s1 rfl) <| .nil) (by kernel_rfl) ?_
          refine pSeq ?_
          refine wRet ?_
          refine pBlkR ?_
          refine pThenR ?_
          refine pThenR ?_
          refine pBlkR ?_
          refine pThenR ?_
          obtain rfl := so h
          replace h := hk1
          refine pThenR ?_
          obtain rfl := so h
          exact pR1 (.inl rfl) rfl (.tmp rfl <| .nil)
        · refine wBF hp19 tm (s1 rfl) ?_
          refine wSkip ?_
          refine pBlkN ?_
          refine pSeq ?_
          refine rg (cp (oAdd tm (cI (by decide))) (s1 rfl) <| cp (oMv tm) (s1 rfl) <| .nil) (by kernel_rfl) ?_
          exact pLoop (lW (ih _ h) ⟨rfl, rfl, trivial⟩ rfl)
    · refine wCF hp14 tm (s1 rfl) ?_
      refine wExit ?_
      refine pThenX ?_
      refine pThenX ?_
      refine pBlkX ?_
      exact pJ0 (so h) trivial rfl
  · rintro rfl
    replace h := hk1
    refine pSeq ?_
    refine wSeq ?_
    refine rg (cp (oAs (cI (by decide))) trivial <| .nil) (by kernel_rfl) ?_
    refine pSeq ?_
    refine wRet ?_
    obtain rfl := so h
    exact pR1 (.inl rfl) rfl (.tmp rfl <| .nil)

theorem code_reader_fail.ok {a0 : code_reader} {a1 : Int} {r : code_reader} (h : code_reader_fail.f a0 a1 = some r) : FnS Tryz.prog 112 [.p 70000 0, .d ((kI .i64).sig a1)] [.box 70000 140 [.d (kL kS) a0.l_.Names, .d (kL (kI .u32)) a0.l_.Up, .d (kL (kR f_api_Tok)) a0.toks_, .d (kI .i64) a0.i_, .d (kI .i64) a0.bad_]] [70000] (.d (tup [])) [.box 70000 140 [.d (kL kS) r.l_.Names, .d (kL (kI .u32)) r.l_.Up, .d (kL (kR f_api_Tok)) r.toks_, .d (kI .i64) r.i_, .d (kI .i64) r.bad_]] := by
  refine fnIntroS Tryz.func112 rfl (by kernel_rfl) fun X H0 w0 pv => ?_
  unfold code_reader_fail.f at h
  refine wSeq ?_
  refine rg (cp (oMv tm) (s1 rfl) <| cp (oNilP tm) (s1 rfl) <| cp (oFldP o140_3 tm) (s1 rfl) <| cr (oLdB (n := 0) (k := 4) rfl rfl rfl t35 tm) (s1 rfl) <| cp (oEq rfl tm (cI (by decide))) (s1 rfl) <| .nil) (by kernel_rfl) ?_
  refine pSeq ?_
  rcases ic h with ⟨hp1, h⟩ | ⟨hp1, h⟩
  · refine wCT hp1 tm (s1 rfl) ?_
    refine rg (cp (oMv tm) (s1 rfl) <| cp (oMv tm) (s1 rfl) <| cp (oNilP tm) (s1 rfl) <| cp (oFldP o140_3 tm) (s1 rfl) <| cwn (oSt (n := 0) (k := 4) rfl rfl rfl rfl z35 tm tm) (s2 rfl rfl) <| .nil) (by kernel_rfl) ?_
    obtain rfl := so h
    exact pSn [0] rfl rfl (.inr rfl) rfl rfl (.nil)
  · refine wCF hp1 tm (s1 rfl) ?_
    refine wSkip ?_
    obtain rfl := so h
    exact pSn [0] rfl rfl (.inr rfl) rfl rfl (.nil)

theorem code_reader_number.ok {a0 : code_reader} {r : code_reader × Int} (h : code_reader_number.f a0 = some r) : FnS Tryz.prog 121 [.p 70000 0] [.box 70000 140 [.d (kL kS) a0.l_.Names, .d (kL (kI .u32)) a0.l_.Up, .d (kL (kR f_api_Tok)) a0.toks_, .d (kI .i64) a0.i_, .d (kI .i64) a0.bad_]] [70000] (.d ((kI .i64).sig r.2)) [.box 70000 140 [.d (kL kS) r.1.l_.Names, .d (kL (kI .u32)) r.1.l_.Up, .d (kL (kR f_api_Tok)) r.1.toks_, .d (kI .i64) r.1.i_, .d (kI .i64) r.1.bad_]] := by
  refine fnIntroS Tryz.func121 rfl (by kernel_rfl) fun X H0 w0 pv => ?_
  unfold code_reader_number.f at h
  refine wSeq ?_
  refine rg (cp (oAs (cI (by decide))) trivial <| .nil) (by kernel_rfl) ?_
  refine pSeq ?_
  refine wSeq ?_
  refine rg (cp (oAs (cI (by decide))) trivial <| .nil) (by kernel_rfl) ?_
  refine pSeq ?_
  refine wSeq ?_
  refine wSeq ?_
  obtain ⟨y1, hy1, h⟩ := bd h
  refine rg (cp (oMv tm) (s1 rfl) <| cm (oCallS (rest := []) (R' := [.box 70000 140 [.d (kL kS) y1.1.l_.Names, .d (kL (kI .u32)) y1.1.l_.Up, .d (kL (kR f_api_Tok)) y1.1.toks_, .d (kI .i64) y1.1.i_, .d (kI .i64) y1.1.bad_]]) (out' := .d ((kR f_api_Tok).sig y1.2)) [(70000, 70000)] [] [0] [] [0] rfl (code_reader_tok.ok hy1) b111 (oE1 tm oE0) rfl rfl rfl rfl rfl rfl rfl rfl) (s1 rfl) <| cw (oAlloc (id := 4) (ls := [.d (kI .i64) 0, .d kS [], .d (kI .i64) 0]) ze58 (fun g => ⟨[(.int .i64 0)], _, rfl, zI_i64 g.H, ⟨[(.string ⟨⟨[]⟩⟩)], _, rfl, zS g.H, ⟨[(.int .i64 0)], _, rfl, zI_i64 g.H, rfl⟩⟩⟩)) trivial <| cwn (oStA (n := 0) (fs := f_api_Tok) rfl rfl z58 tm tm) (s2 rfl rfl) <| .nil) (by kernel_rfl) ?_
  refine pSeq ?_
  obtain ⟨o1, h, hk1⟩ := bd h
  refine wJ1 (fun x3 => x3 = o1) (fun x3 => [(0, .p 70000 0), (3, .d ((kI .i64).sig 1)), (17, .d (kB.sig x3))]) (fun x3 => [.box 4 58 [.d (kI .i64) y1.2.Kind, .d kS y1.2.Text, .d (kI .i64) y1.2.At], .box 70000 140 [.d (kL kS) y1.1.l_.Names, .d (kL (kI .u32)) y1.1.l_.Up, .d (kL (kR f_api_Tok)) y1.1.toks_, .d (kI .i64) y1.1.i_, .d (kI .i64) y1.1.bad_]]) ?_ ?_
  · rcases ic h with ⟨hp4, h⟩ | ⟨hp4, h⟩
    · refine rg (cp (oFldP o58_0 tm) (s1 rfl) <| cr (oLdB (n := 0) (k := 0) rfl rfl rfl t3 tm) (s1 rfl) <| cp (oEq rfl tm (cI (by decide))) (s1 rfl) <| cp (oMv tm) (s1 rfl) <| cgB (decide_eq_true hp4) rfl rfl (oFldP o58_1 tm) (s1 rfl) <| crgB (decide_eq_true hp4) rfl rfl (oLdB (n := 0) (k := 1) rfl rfl rfl t9 tm) (s1 rfl) <| cgB (decide_eq_true hp4) rfl rfl (oSEq rfl tm (cS (by decide))) (s1 rfl) <| cp (oPkT (decide_eq_true hp4) tm tm) (s2 rfl rfl) <| .nil) (by kernel_rfl) ?_
      exact pJ1 _ (so h) ⟨rfl, rfl, rfl, trivial⟩ rfl
    · refine rg (cp (oFldP o58_0 tm) (s1 rfl) <| cr (oLdB (n := 0) (k := 0) rfl rfl rfl t3 tm) (s1 rfl) <| cp (oEq rfl tm (cI (by decide))) (s1 rfl) <| cp (oMv tm) (s1 rfl) <| csB (decide_eq_false hp4) rfl rfl <| csB (decide_eq_false hp4) rfl rfl <| csB (decide_eq_false hp4) rfl rfl <| cp (oPkF (decide_eq_false hp4) tm cB) (s1 rfl) <| .nil) (by kernel_rfl) ?_
      exact pJ1 _ (so h) ⟨rfl, rfl, rfl, trivial⟩ rfl
  · rintro x3 rfl
    replace h := hk1
    rcases ic h with ⟨hp5, h⟩ | ⟨hp5, h⟩
    · refine wBT hp5 tm (s1 rfl) ?_
      refine wSeq ?_
      refine rg (cp (oAs (cI (by decide))) trivial <| .nil) (by kernel_rfl) ?_
      refine pSeq ?_
      refine rg (cp (oMv tm) (s1 rfl) <| cp (oNilP tm) (s1 rfl) <| cp (oFldP o140_2 tm) (s1 rfl) <| cr (oLdB (n := 1) (k := 3) rfl rfl rfl t3 tm) (s1 rfl) <| cp (oAdd tm (cI (by decide))) (s1 rfl) <| cp (oNilP tm) (s1 rfl) <| cp (oFldP o140_2 tm) (s1 rfl) <| cwn (oSt (n := 1) (k := 3) rfl rfl rfl rfl z3 tm tm) (s2 rfl rfl) <| .nil) (by kernel_rfl) ?_
      refine pSeq ?_
      refine wSeq ?_
      obtain ⟨y6, hy6, h⟩ := bd h
      refine rg (cp (oMv tm) (s1 rfl) <| cm (oCallS (rest := [.box 4 58 [.d (kI .i64) y1.2.Kind, .d kS y1.2.Text, .d (kI .i64) y1.2.At]]) (R' := [.box 4 58 [.d (kI .i64) y1.2.Kind, .d kS y1.2.Text, .d (kI .i64) y1.2.At], .box 70000 140 [.d (kL kS) y6.1.l_.Names, .d (kL (kI .u32)) y6.1.l_.Up, .d (kL (kR f_api_Tok)) y6.1.toks_, .d (kI .i64) y6.1.i_, .d (kI .i64) y6.1.bad_]]) (out' := .d ((kR f_api_Tok).sig y6.2)) [(70000, 70000)] [] [1] [0] [1, 0] rfl (code_reader_tok.ok hy6) b111 (oE1 tm oE0) rfl rfl rfl rfl rfl rfl rfl rfl) (s1 rfl) <| cw (oAlloc (id := 5) (ls := [.d (kI .i64) 0, .d kS [], .d (kI .i64) 0]) ze58 (fun g => ⟨[(.int .i64 0)], _, rfl, zI_i64 g.H, ⟨[(.string ⟨⟨[]⟩⟩)], _, rfl, zS g.H, ⟨[(.int .i64 0)], _, rfl, zI_i64 g.H, rfl⟩⟩⟩)) trivial <| cwn (oStA (n := 0) (fs := f_api_Tok) rfl rfl z58 tm tm) (s2 rfl rfl) <| .nil) (by kernel_rfl) ?_
      refine pSeq ?_
      refine wSeq ?_
      obtain ⟨o1, h, hk1⟩ := bd h
      refine wJ1 (fun x8 => x8 = o1) (fun x8 => [(0, .p 70000 0), (3, .d ((kI .i64).sig (-1))), (5, .p 5 0), (35, .d (kB.sig x8))]) (fun x8 => [.box 5 58 [.d (kI .i64) y6.2.Kind, .d kS y6.2.Text, .d (kI .i64) y6.2.At], .box 4 58 [.d (kI .i64) y1.2.Kind, .d kS y1.2.Text, .d (kI .i64) y1.2.At], .box 70000 140 [.d (kL kS) y6.1.l_.Names, .d (kL (kI .u32)) y6.1.l_.Up, .d (kL (kR f_api_Tok)) y6.1.toks_, .d (kI .i64) y6.1.i_, .d (kI .i64) y6.1.bad_]]) ?_ ?_
      · rcases ic h with ⟨hp9, h⟩ | ⟨hp9, h⟩
        · refine rg (cp (oFldP o58_0 tm) (s1 rfl) <| cr (oLdB (n := 0) (k := 0) rfl rfl rfl t3 tm) (s1 rfl) <| cp (oNe rfl tm (cI (by decide))) (s1 rfl) <| cp (oMv tm) (s1 rfl) <| cgB (nf hp9) rfl rfl (oFldP o58_1 tm) (s1 rfl) <| crgB (nf hp9) rfl rfl (oLdB (n := 0) (k := 1) rfl rfl rfl t9 tm) (s1 rfl) <| cgB (nf hp9) rfl rfl (oLenS u9 tm) (s1 rfl) <| cgB (nf hp9) rfl rfl (oGt rfl tm (cI (by decide))) (s1 rfl) <| cp (oPkF (nf hp9) tm tm) (s2 rfl rfl) <| .nil) (by kernel_rfl) ?_
          exact pJ1 _ (so h) ⟨rfl, rfl, rfl, rfl, trivial⟩ rfl
        · refine rg (cp (oFldP o58_0 tm) (s1 rfl) <| cr (oLdB (n := 0) (k := 0) rfl rfl rfl t3 tm) (s1 rfl) <| cp (oNe rfl tm (cI (by decide))) (s1 rfl) <| cp (oMv tm) (s1 rfl) <| csB (nt hp9) rfl rfl <| csB (nt hp9) rfl rfl <| csB (nt hp9) rfl rfl <| csB (nt hp9) rfl rfl <| cp (oPkT (nt hp9) tm cB) (s1 rfl) <| .nil) (by kernel_rfl) ?_
          exact pJ1 _ (so h) ⟨rfl, rfl, rfl, rfl, trivial⟩ rfl
      · rintro x8 rfl
        replace h := hk1
        rcases ic h with ⟨hp10, h⟩ | ⟨hp10, h⟩
        · refine wBT hp10 tm (s1 rfl) ?_
          refine wSeq ?_
          obtain ⟨y11, hy11, h⟩ := bd h
          refine rg (cp (oMv tm) (s1 rfl) <| cm (oCallS (rest := [.box 5 58 [.d (kI .i64) y6.2.Kind, .d kS y6.2.Text, .d (kI .i64) y6.2.At], .box 4 58 [.d (kI .i64) y1.2.Kind, .d kS y1.2.Text, .d (kI .i64) y1.2.At]]) (R' := [.box 5 58 [.d (kI .i64) y6.2.Kind, .d kS y6.2.Text, .d (kI .i64) y6.2.At], .box 4 58 [.d (kI .i64) y1.2.Kind, .d kS y1.2.Text, .d (kI .i64) y1.2.At], .box 70000 140 [.d (kL kS) y11.l_.Names, .d (kL (kI .u32)) y11.l_.Up, .d (kL (kR f_api_Tok)) y11.toks_, .d (kI .i64) y11.i_, .d (kI .i64) y11.bad_]]) (out' := .d (tup [])) [(70000, 70000)] [] [2] [0, 1] [1, 2, 0] rfl (code_reader_fail.ok hy11) b112 (oE1 tm (oE1 (cI (by decide)) oE0)) rfl rfl rfl rfl rfl rfl rfl rfl) (s1 rfl) <| .nil) (by kernel_rfl) ?_
          refine pSeq ?_
          refine wSeq ?_
          refine rg (cp (oAs (cI (by decide))) trivial <| .nil) (by kernel_rfl) ?_
          refine pSeq ?_
          refine wRet ?_
          refine pThenR ?_
          obtain rfl := so h
          exact pS1 [2] rfl rfl (.inl rfl) rfl (.tmp rfl <| .nil)
        · refine wBF hp10 tm (s1 rfl) ?_
          refine wSkip ?_
          refine pSeq ?_
          refine wSeq ?_
          refine rg (cp (oAs (cI (by decide))) trivial <| .nil) (by kernel_rfl) ?_
          refine pSeq ?_
          refine wSeq ?_
          refine wSeq ?_
          refine rg (cp (oFldP o58_1 tm) (s1 rfl) <| cr (oLdB (n := 0) (k := 1) rfl rfl rfl t9 tm) (s1 rfl) <| cp (oLenS u9 tm) (s1 rfl) <| cp (oMv (cI (by decide))) trivial <| .nil) (by kernel_rfl) ?_
          refine pSeq ?_
          obtain ⟨o1, h, hk1⟩ := bd h
          refine wK1 (fun x18 => x18 = o1) (fun x18 => [(0, .p 70000 0), (3, .d ((kI .i64).sig (-1))), (6, .d ((kI .i64).sig x18))]) (fun x18 => [.box 5 58 [.d (kI .i64) y6.2.Kind, .d kS y6.2.Text, .d (kI .i64) y6.2.At], .box 4 58 [.d (kI .i64) y1.2.Kind, .d kS y1.2.Text, .d (kI .i64) y1.2.At], .box 70000 140 [.d (kL kS) y6.1.l_.Names, .d (kL (kI .u32)) y6.1.l_.Up, .d (kL (kR f_api_Tok)) y6.1.toks_, .d (kI .i64) y6.1.i_, .d (kI .i64) y6.1.bad_]]) ?_ ?_
          · refine wBlock (wLoop ?_)
            refine lW (pc2 o1 (fun v16 v17 => [(0, .p 70000 0), (3, .d ((kI .i64).sig (-1))), (5, .p 5 0), (6, .d ((kI .i64).sig v17)), (40, .d ((kI .i64).sig (y6.2.Text.length : Int))), (41, .d ((kI .i64).sig v16))]) (fun v16 v17 => [.box 5 58 [.d (kI .i64) y6.2.Kind, .d kS y6.2.Text, .d (kI .i64) y6.2.At], .box 4 58 [.d (kI .i64) y1.2.Kind, .d kS y1.2.Text, .d (kI .i64) y1.2.At], .box 70000 140 [.d (kL kS) y6.1.l_.Names, .d (kL (kI .u32)) y6.1.l_.Up, .d (kL (kR f_api_Tok)) y6.1.toks_, .d (kI .i64) y6.1.i_, .d (kI .i64) y6.1.bad_]]) (code_reader_number.l0.partial_correctness y6) ?_ _ _ h) ⟨rfl, rfl, rfl, rfl, rfl, rfl, trivial⟩ rfl
            clear h
            intro f' ih v16 v17 h
            refine wSeq ?_
            refine rg (cp (oLt rfl tm tm) (s2 rfl rfl) <| .nil) (by kernel_rfl) ?_
            refine pSeq ?_
            refine wSeq ?_
            rcases ic h with ⟨hp19, h⟩ | ⟨hp19, h⟩
            · refine wCT hp19 tm (s1 rfl) ?_
              refine wSkip ?_
              refine pSeq ?_
              refine wSeq ?_
              refine wBlock ?_
              refine wSeq ?_
              refine rg (cp (oMv tm) (s1 rfl) <| cp (oAs tm) (s1 rfl) <| .nil) (by kernel_rfl) ?_
              refine pSeq ?_
              obtain ⟨hc20, h⟩ := ib h
              refine rg (cp (oMv tm) (s1 rfl) <| cp (oMul (cI (by decide)) tm) (s1 rfl) <| cp (oFldP o58_1 tm) (s1 rfl) <| cr (oLdB (n := 0) (k := 1) rfl rfl rfl t9 tm) (s1 rfl) <| cp (oMv tm) (s1 rfl) <| cp (oIdxS u9 hc20.1 hc20.2 tm tm) (s2 rfl rfl) <| cp (oAnd tm (cI (by decide))) (s1 rfl) <| cp (oConv u5 u3 tm) (s1 rfl) <| cp (oAdd tm tm) (s2 rfl rfl) <| cp (oAs tm) (s1 rfl) <| .nil) (by kernel_rfl) ?_
              refine pBlkN ?_
              refine pSeq ?_
              refine rg (cp (oAdd tm (cI (by decide))) (s1 rfl) <| cp (oMv tm) (s1 rfl) <| .nil) (by kernel_rfl) ?_
              exact pLoop (lW (ih _ _ h) ⟨rfl, rfl, rfl, rfl, rfl, rfl, trivial⟩ rfl)
            · refine wCF hp19 tm (s1 rfl) ?_
              refine wExit ?_
              refine pThenX ?_
              refine pThenX ?_
              refine pBlkX ?_
              exact pJ1 _ (so h) ⟨rfl, rfl, rfl, trivial⟩ rfl
          · rintro x18 rfl
            replace h := hk1
            refine pSeq ?_
            refine wSeq ?_
            refine rg (cp (oMv tm) (s1 rfl) <| cp (oNilP tm) (s1 rfl) <| cp (oFldP o140_2 tm) (s1 rfl) <| cr (oLdB (n := 2) (k := 3) rfl rfl rfl t3 tm) (s1 rfl) <| cp (oAdd tm (cI (by decide))) (s1 rfl) <| cp (oNilP tm) (s1 rfl) <| cp (oFldP o140_2 tm) (s1 rfl) <| cwn (oSt (n := 2) (k := 3) rfl rfl rfl rfl z3 tm tm) (s2 rfl rfl) <| .nil) (by kernel_rfl) ?_
            refine pSeq ?_
            refine wSeq ?_
            refine rg (cp (oMv tm) (s1 rfl) <| cp (oMv tm) (s1 rfl) <| cp (oMul tm tm) (s2 rfl rfl) <| cp (oAs tm) (s1 rfl) <| .nil) (by kernel_rfl) ?_
            refine pSeq ?_
            refine wRet ?_
            obtain rfl := so h
            exact pS1 [2] rfl rfl (.inl rfl) rfl (.tmp rfl <| .nil)
    · refine wBF hp5 tm (s1 rfl) ?_
      refine wSkip ?_
      refine pSeq ?_
      refine wSeq ?_
      obtain ⟨y21, hy21, h⟩ := bd h
      refine rg (cp (oMv tm) (s1 rfl) <| cm (oCallS (rest := [.box 4 58 [.d (kI .i64) y1.2.Kind, .d kS y1.2.Text, .d (kI .i64) y1.2.At]]) (R' := [.box 4 58 [.d (kI .i64) y1.2.Kind, .d kS y1.2.Text, .d (kI .i64) y1.2.At], .box 70000 140 [.d (kL kS) y21.1.l_.Names, .d (kL (kI .u32)) y21.1.l_.Up, .d (kL (kR f_api_Tok)) y21.1.toks_, .d (kI .i64) y21.1.i_, .d (kI .i64) y21.1.bad_]]) (out' := .d ((kR f_api_Tok).sig y21.2)) [(70000, 70000)] [] [1] [0] [1, 0] rfl (code_reader_tok.ok hy21) b111 (oE1 tm oE0) rfl rfl rfl rfl rfl rfl rfl rfl) (s1 rfl) <| cw (oAlloc (id := 5) (ls := [.d (kI .i64) 0, .d kS [], .d (kI .i64) 0]) ze58 (fun g => ⟨[(.int .i64 0)], _, rfl, zI_i64 g.H, ⟨[(.string ⟨⟨[]⟩⟩)], _, rfl, zS g.H, ⟨[(.int .i64 0)], _, rfl, zI_i64 g.H, rfl⟩⟩⟩)) trivial <| cwn (oStA (n := 0) (fs := f_api_Tok) rfl rfl z58 tm tm) (s2 rfl rfl) <| .nil) (by kernel_rfl) ?_
      refine pSeq ?_
      refine wSeq ?_
      obtain ⟨o1, h, hk1⟩ := bd h
      refine wJ1 (fun x23 => x23 = o1) (fun x23 => [(0, .p 70000 0), (3, .d ((kI .i64).sig 1)), (5, .p 5 0), (35, .d (kB.sig x23))]) (fun x23 => [.box 5 58 [.d (kI .i64) y21.2.Kind, .d kS y21.2.Text, .d (kI .i64) y21.2.At], .box 4 58 [.d (kI .i64) y1.2.Kind, .d kS y1.2.Text, .d (kI .i64) y1.2.At], .box 70000 140 [.d (kL kS) y21.1.l_.Names, .d (kL (kI .u32)) y21.1.l_.Up, .d (kL (kR f_api_Tok)) y21.1.toks_, .d (kI .i64) y21.1.i_, .d (kI .i64) y21.1.bad_]]) ?_ ?_
      · rcases ic h with ⟨hp24, h⟩ | ⟨hp24, h⟩
        · refine rg (cp (oFldP o58_0 tm) (s1 rfl) <| cr (oLdB (n := 0) (k := 0) rfl rfl rfl t3 tm) (s1 rfl) <| cp (oNe rfl tm (cI (by decide))) (s1 rfl) <| cp (oMv tm) (s1 rfl) <| cgB (nf hp24) rfl rfl (oFldP o58_1 tm) (s1 rfl) <| crgB (nf hp24) rfl rfl (oLdB (n := 0) (k := 1) rfl rfl rfl t9 tm) (s1 rfl) <| cgB (nf hp24) rfl rfl (oLenS u9 tm) (s1 rfl) <| cgB (nf hp24) rfl rfl (oGt rfl tm (cI (by decide))) (s1 rfl) <| cp (oPkF (nf hp24) tm tm) (s2 rfl rfl) <| .nil) (by kernel_rfl) ?_
          exact pJ1 _ (so h) ⟨rfl, rfl, rfl, rfl, trivial⟩ rfl
        · refine rg (cp (oFldP o58_0 tm) (s1 rfl) <| cr (oLdB (n := 0) (k := 0) rfl rfl rfl t3 tm) (s1 rfl) <| cp (oNe rfl tm (cI (by decide))) (s1 rfl) <| cp (oMv tm) (s1 rfl) <| csB (nt hp24) rfl rfl <| csB (nt hp24) rfl rfl <| csB (nt hp24) rfl rfl <| csB (nt hp24) rfl rfl <| cp (oPkT (nt hp24) tm cB) (s1 rfl) <| .nil) (by kernel_rfl) ?_
          exact pJ1 _ (so h) ⟨rfl, rfl, rfl, rfl, trivial⟩ rfl
      · rintro x23 rfl
        replace h := hk1
        rcases ic h with ⟨hp25, h⟩ | ⟨hp25, h⟩
        · refine wBT hp25 tm (s1 rfl) ?_
          refine wSeq ?_
          obtain ⟨y26, hy26, h⟩ := bd h
          refine rg (cp (oMv tm) (s1 rfl) <| cm (oCallS (rest := [.box 5 58 [.d (kI .i64) y21.2.Kind, .d kS y21.2.Text, .d (kI .i64) y21.2.At], .box 4 58 [.d (kI .i64) y1.2.Kind, .d kS y1.2.Text, .d (kI .i64) y1.2.At]]) (R' := [.box 5 58 [.d (kI .i64) y21.2.Kind, .d kS y21.2.Text, .d (kI .i64) y21.2.At], .box 4 58 [.d (kI .i64) y1.2.Kind, .d kS y1.2.Text, .d (kI .i64) y1.2.At], .box 70000 140 [.d (kL kS) y26.l_.Names, .d (kL (kI .u32)) y26.l_.Up, .d (kL (kR f_api_Tok)) y26.toks_, .d (kI .i64) y26.i_, .d (kI .i64) y26.bad_]]) (out' := .d (tup [])) [(70000, 70000)] [] [2] [0, 1] [1, 2, 0] rfl (code_reader_fail.ok hy26) b112 (oE1 tm (oE1 (cI (by decide)) oE0)) rfl rfl rfl rfl rfl rfl rfl rfl) (s1 rfl) <| .nil) (by kernel_rfl) ?_
          refine pSeq ?_
          refine wSeq ?_
          refine rg (cp (oAs (cI (by decide))) trivial <| .nil) (by kernel_rfl) ?_
          refine pSeq ?_
          refine wRet ?_
          refine pThenR ?_
          obtain rfl := so h
          exact pS1 [2] rfl rfl (.inl rfl) rfl (.tmp rfl <| .nil)
        · refine wBF hp25 tm (s1 rfl) ?_
          refine wSkip ?_
          refine pSeq ?_
          refine wSeq ?_
          refine rg (cp (oAs (cI (by decide))) trivial <| .nil) (by kernel_rfl) ?_
          refine pSeq ?_
          refine wSeq ?_
          refine wSeq ?_
          refine rg (cp (oFldP o58_1 tm) (s1 rfl) <| cr (oLdB (n := 0) (k := 1) rfl rfl rfl t9 tm) (s1 rfl) <| cp (oLenS u9 tm) (s1 rfl) <| cp (oMv (cI (by decide))) trivial <| .nil) (by kernel_rfl) ?_
          refine pSeq ?_
          obtain ⟨o1, h, hk1⟩ := bd h
          refine wK1 (fun x33 => x33 = o1) (fun x33 => [(0, .p 70000 0), (3, .d ((kI .i64).sig 1)), (6, .d ((kI .i64).sig x33))]) (fun x33 => [.box 5 58 [.d (kI .i64) y21.2.Kind, .d kS y21.2.Text, .d (kI .i64) y21.2.At], .box 4 58 [.d (kI .i64) y1.2.Kind, .d kS y1.2.Text, .d (kI .i64) y1.2.At], .box 70000 140 [.d (kL kS) y21.1.l_.Names, .d (kL (kI .u32)) y21.1.l_.Up, .d (kL (kR f_api_Tok)) y21.1.toks_, .d (kI .i64) y21.1.i_, .d (kI .i64) y21.1.bad_]]) ?_ ?_
          · refine wBlock (wLoop ?_)
            refine lW (pc2 o1 (fun v31 v32 => [(0, .p 70000 0), (3, .d ((kI .i64).sig 1)), (5, .p 5 0), (6, .d ((kI .i64).sig v32)), (40, .d ((kI .i64).sig (y21.2.Text.length : Int))), (41, .d ((kI .i64).sig v31))]) (fun v31 v32 => [.box 5 58 [.d (kI .i64) y21.2.Kind, .d kS y21.2.Text, .d (kI .i64) y21.2.At], .box 4 58 [.d (kI .i64) y1.2.Kind, .d kS y1.2.Text, .d (kI .i64) y1.2.At], .box 70000 140 [.d (kL kS) y21.1.l_.Names, .d (kL (kI .u32)) y21.1.l_.Up, .d (kL (kR f_api_Tok)) y21.1.toks_, .d (kI .i64) y21.1.i_, .d (kI .i64) y21.1.bad_]]) (code_reader_number.l1.partial_correctness y21) ?_ _ _ h) ⟨rfl, rfl, rfl, rfl, rfl, rfl, trivial⟩ rfl
            clear h
            intro f' ih v31 v32 h
            refine wSeq ?_
            refine rg (cp (oLt rfl tm tm) (s2 rfl rfl) <| .nil) (by kernel_rfl) ?_
            refine pSeq ?_
            refine wSeq ?_
            rcases ic h with ⟨hp34, h⟩ | ⟨hp34, h⟩
            · refine wCT hp34 tm (s1 rfl) ?_
              refine wSkip ?_
              refine pSeq ?_
              refine wSeq ?_
              refine wBlock ?_
              refine wSeq ?_
              refine rg (cp (oMv tm) (s1 rfl) <| cp (oAs tm) (s1 rfl) <| .nil) (by kernel_rfl) ?_
              refine pSeq ?_
              obtain ⟨hc35, h⟩ := ib h
              refine rg (cp (oMv tm) (s1 rfl) <| cp (oMul (cI (by decide)) tm) (s1 rfl) <| cp (oFldP o58_1 tm) (s1 rfl) <| cr (oLdB (n := 0) (k := 1) rfl rfl rfl t9 tm) (s1 rfl) <| cp (oMv tm) (s1 rfl) <| cp (oIdxS u9 hc35.1 hc35.2 tm tm) (s2 rfl rfl) <| cp (oAnd tm (cI (by decide))) (s1 rfl) <| cp (oConv u5 u3 tm) (s1 rfl) <| cp (oAdd tm tm) (s2 rfl rfl) <| cp (oAs tm) (s1 rfl) <| .nil) (by kernel_rfl) ?_
              refine pBlkN ?_
              refine pSeq ?_
              refine rg (cp (oAdd tm (cI (by decide))) (s1 rfl) <| cp (oMv tm) (s1 rfl) <| .nil) (by kernel_rfl) ?_
              exact pLoop (lW (ih _ _ h) ⟨rfl, rfl, rfl, rfl, rfl, rfl, trivial⟩ rfl)
            · refine wCF hp34 tm (s1 rfl) ?_
              refine wExit ?_
              refine pThenX ?_
              refine pThenX ?_
              refine pBlkX ?_
              exact pJ1 _ (so h) ⟨rfl, rfl, rfl, trivial⟩ rfl
          · rintro x33 rfl
            replace h := hk1
            refine pSeq ?_
            refine wSeq ?_
            refine rg (cp (oMv tm) (s1 rfl) <| cp (oNilP tm) (s1 rfl) <| cp (oFldP o140_2 tm) (s1 rfl) <| cr (oLdB (n := 2) (k := 3) rfl rfl rfl t3 tm) (s1 rfl) <| cp (oAdd tm (cI (by decide))) (s1 rfl) <| cp (oNilP tm) (s1 rfl) <| cp (oFldP o140_2 tm) (s1 rfl) <| cwn (oSt (n := 2) (k := 3) rfl rfl rfl rfl z3 tm tm) (s2 rfl rfl) <| .nil) (by kernel_rfl) ?_
            refine pSeq ?_
            refine wSeq ?_
            refine rg (cp (oMv tm) (s1 rfl) <| cp (oMv tm) (s1 rfl) <| cp (oMul tm tm) (s2 rfl rfl) <| cp (oAs tm) (s1 rfl) <| .nil) (by kernel_rfl) ?_
            refine pSeq ?_
            refine wRet ?_
            obtain rfl := so h
            exact pS1 [2] rfl rfl (.inl rfl) rfl (.tmp rfl <| .nil)

theorem code_reader_mark.ok {a0 : code_reader} {a1 : Str} {r : code_reader} (h : code_reader_mark.f a0 a1 = some r) : FnS Tryz.prog 123 [.p 70000 0, .d (kS.sig a1)] [.box 70000 140 [.d (kL kS) a0.l_.Names, .d (kL (kI .u32)) a0.l_.Up, .d (kL (kR f_api_Tok)) a0.toks_, .d (kI .i64) a0.i_, .d (kI .i64) a0.bad_]] [70000] (.d (tup [])) [.box 70000 140 [.d (kL kS) r.l_.Names, .d (kL (kI .u32)) r.l_.Up, .d (kL (kR f_api_Tok)) r.toks_, .d (kI .i64) r.i_, .d (kI .i64) r.bad_]] := by
  refine fnIntroS Tryz.func123 rfl (by kernel_rfl) fun X H0 w0 pv => ?_
  unfold code_reader_mark.f at h
  refine wSeq ?_
  obtain ⟨y1, hy1, h⟩ := bd h
  refine rg (cp (oMv tm) (s1 rfl) <| cm (oCallS (rest := []) (R' := [.box 70000 140 [.d (kL kS) y1.1.l_.Names, .d (kL (kI .u32)) y1.1.l_.Up, .d (kL (kR f_api_Tok)) y1.1.toks_, .d (kI .i64) y1.1.i_, .d (kI .i64) y1.1.bad_]]) (out' := .d ((kR f_api_Tok).sig y1.2)) [(70000, 70000)] [] [0] [] [0] rfl (code_reader_tok.ok hy1) b111 (oE1 tm oE0) rfl rfl rfl rfl rfl rfl rfl rfl) (s1 rfl) <| cw (oAlloc (id := 4) (ls := [.d (kI .i64) 0, .d kS [], .d (kI .i64) 0]) ze58 (fun g => ⟨[(.int .i64 0)], _, rfl, zI_i64 g.H, ⟨[(.string ⟨⟨[]⟩⟩)], _, rfl, zS g.H, ⟨[(.int .i64 0)], _, rfl, zI_i64 g.H, rfl⟩⟩⟩)) trivial <| cwn (oStA (n := 0) (fs := f_api_Tok) rfl rfl z58 tm tm) (s2 rfl rfl) <| .nil) (by kernel_rfl) ?_
  refine pSeq ?_
  obtain ⟨o1, h, hk1⟩ := bd h
  refine wK5 (fun x8 x9 x10 x11 x12 => (x8, x9, x10, x11, x12) = o1) (fun x8 x9 x10 x11 x12 => []) (fun x8 x9 x10 x11 x12 => [.box 4 58 [.d (kI .i64) y1.2.Kind, .d kS y1.2.Text, .d (kI .i64) y1.2.At], .box 70000 140 [.d (kL kS) x8, .d (kL (kI .u32)) x9, .d (kL (kR f_api_Tok)) x10, .d (kI .i64) x11, .d (kI .i64) x12]]) ?_ ?_
  · refine wBlock ?_
    refine wSeq ?_
    refine rg (cp (oMv tm) (s1 rfl) <| cp (oNilP tm) (s1 rfl) <| cp (oFldP o140_3 tm) (s1 rfl) <| cr (oLdB (n := 1) (k := 4) rfl rfl rfl t35 tm) (s1 rfl) <| cp (oNe rfl tm (cI (by decide))) (s1 rfl) <| cp (oAs tm) (s1 rfl) <| .nil) (by kernel_rfl) ?_
    refine pSeq ?_
    rcases ic h with ⟨hp13, h⟩ | ⟨hp13, h⟩
    · refine wNT hp13 tm (s1 rfl) ?_
      obtain ⟨o2, h, hk2⟩ := bd h
      refine wJ1 (fun x15 => x15 = o2) (fun x15 => [(0, .p 70000 0), (20, .d (kB.sig x15))]) (fun x15 => [.box 4 58 [.d (kI .i64) y1.2.Kind, .d kS y1.2.Text, .d (kI .i64) y1.2.At], .box 70000 140 [.d (kL kS) y1.1.l_.Names, .d (kL (kI .u32)) y1.1.l_.Up, .d (kL (kR f_api_Tok)) y1.1.toks_, .d (kI .i64) y1.1.i_, .d (kI .i64) y1.1.bad_]]) ?_ ?_
      · rcases ic h with ⟨hp16, h⟩ | ⟨hp16, h⟩
        · refine rg (cp (oFldP o58_0 tm) (s1 rfl) <| cr (oLdB (n := 0) (k := 0) rfl rfl rfl t3 tm) (s1 rfl) <| cp (oNe rfl tm (cI (by decide))) (s1 rfl) <| cp (oMv tm) (s1 rfl) <| cgB (nf hp16) rfl rfl (oFldP o58_1 tm) (s1 rfl) <| crgB (nf hp16) rfl rfl (oLdB (n := 0) (k := 1) rfl rfl rfl t9 tm) (s1 rfl) <| cgB (nf hp16) rfl rfl (oMv tm) (s1 rfl) <| cgB (nf hp16) rfl rfl (oSNe rfl tm tm) (s2 rfl rfl) <| cp (oPkF (nf hp16) tm tm) (s2 rfl rfl) <| cp (oAs tm) (s1 rfl) <| .nil) (by kernel_rfl) ?_
          exact pJ1 _ (so h) ⟨rfl, rfl, trivial⟩ rfl
        · refine rg (cp (oFldP o58_0 tm) (s1 rfl) <| cr (oLdB (n := 0) (k := 0) rfl rfl rfl t3 tm) (s1 rfl) <| cp (oNe rfl tm (cI (by decide))) (s1 rfl) <| cp (oMv tm) (s1 rfl) <| csB (nt hp16) rfl rfl <| csB (nt hp16) rfl rfl <| csB (nt hp16) rfl rfl <| csB (nt hp16) rfl rfl <| cp (oPkT (nt hp16) tm cB) (s1 rfl) <| cp (oAs tm) (s1 rfl) <| .nil) (by kernel_rfl) ?_
          exact pJ1 _ (so h) ⟨rfl, rfl, trivial⟩ rfl
      · rintro x15 rfl
        replace h := hk2
        rcases ic h with ⟨hp17, h⟩ | ⟨hp17, h⟩
        · refine wBT hp17 tm (s1 rfl) ?_
          obtain ⟨y18, hy18, h⟩ := bd h
          refine rg (cp (oMv tm) (s1 rfl) <| cm (oCallS (rest := [.box 4 58 [.d (kI .i64) y1.2.Kind, .d kS y1.2.Text, .d (kI .i64) y1.2.At]]) (R' := [.box 4 58 [.d (kI .i64) y1.2.Kind, .d kS y1.2.Text, .d (kI .i64) y1.2.At], .box 70000 140 [.d (kL kS) y18.l_.Names, .d (kL (kI .u32)) y18.l_.Up, .d (kL (kR f_api_Tok)) y18.toks_, .d (kI .i64) y18.i_, .d (kI .i64) y18.bad_]]) (out' := .d (tup [])) [(70000, 70000)] [] [1] [0] [1, 0] rfl (code_reader_fail.ok hy18) b112 (oE1 tm (oE1 (cI (by decide)) oE0)) rfl rfl rfl rfl rfl rfl rfl rfl) (s1 rfl) <| .nil) (by kernel_rfl) ?_
          refine pBlkN ?_
          exact pJ5 _ _ _ _ _ (so h) trivial rfl
        · refine wBF hp17 tm (s1 rfl) ?_
          refine rg (cp (oMv tm) (s1 rfl) <| cp (oNilP tm) (s1 rfl) <| cp (oFldP o140_2 tm) (s1 rfl) <| cr (oLdB (n := 1) (k := 3) rfl rfl rfl t3 tm) (s1 rfl) <| cp (oAdd tm (cI (by decide))) (s1 rfl) <| cp (oNilP tm) (s1 rfl) <| cp (oFldP o140_2 tm) (s1 rfl) <| cwn (oSt (n := 1) (k := 3) rfl rfl rfl rfl z3 tm tm) (s2 rfl rfl) <| .nil) (by kernel_rfl) ?_
          refine pBlkN ?_
          exact pJ5 _ _ _ _ _ (so h) trivial rfl
    · refine wNF hp13 tm (s1 rfl) ?_
      refine wSkip ?_
      refine pBlkN ?_
      exact pJ5 _ _ _ _ _ (so h) trivial rfl
  · rintro x8 x9 x10 x11 x12 rfl
    replace h := hk1
    obtain rfl := so h
    exact pSn [1] rfl rfl (.inr rfl) rfl rfl (.nil)

theorem code_reader_label.ok {a0 : code_reader} {r : code_reader × Int} (h : code_reader_label.f a0 = some r) : FnS Tryz.prog 122 [.p 70000 0] [.box 70000 140 [.d (kL kS) a0.l_.Names, .d (kL (kI .u32)) a0.l_.Up, .d (kL (kR f_api_Tok)) a0.toks_, .d (kI .i64) a0.i_, .d (kI .i64) a0.bad_]] [70000] (.d ((kI .i64).sig r.2)) [.box 70000 140 [.d (kL kS) r.1.l_.Names, .d (kL (kI .u32)) r.1.l_.Up, .d (kL (kR f_api_Tok)) r.1.toks_, .d (kI .i64) r.1.i_, .d (kI .i64) r.1.bad_]] := by
  refine fnIntroS Tryz.func122 rfl (by kernel_rfl) fun X H0 w0 pv => ?_
  unfold code_reader_label.f at h
  refine wSeq ?_
  refine rg (cp (oAs (cI (by decide))) trivial <| .nil) (by kernel_rfl) ?_
  refine pSeq ?_
  refine wSeq ?_
  obtain ⟨y1, hy1, h⟩ := bd h
  refine rg (cp (oMv tm) (s1 rfl) <| cm (oCallS (rest := []) (R' := [.box 70000 140 [.d (kL kS) y1.l_.Names, .d (kL (kI .u32)) y1.l_.Up, .d (kL (kR f_api_Tok)) y1.toks_, .d (kI .i64) y1.i_, .d (kI .i64) y1.bad_]]) (out' := .d (tup [])) [(70000, 70000)] [] [0] [] [0] rfl (code_reader_mark.ok hy1) b123 (oE1 tm (oE1 (cS (by decide)) oE0)) rfl rfl rfl rfl rfl rfl rfl rfl) (s1 rfl) <| .nil) (by kernel_rfl) ?_
  refine pSeq ?_
  refine wSeq ?_
  obtain ⟨y2, hy2, h⟩ := bd h
  refine rg (cp (oMv tm) (s1 rfl) <| cm (oCallS (rest := []) (R' := [.box 70000 140 [.d (kL kS) y2.1.l_.Names, .d (kL (kI .u32)) y2.1.l_.Up, .d (kL (kR f_api_Tok)) y2.1.toks_, .d (kI .i64) y2.1.i_, .d (kI .i64) y2.1.bad_]]) (out' := .d ((kR f_api_Tok).sig y2.2)) [(70000, 70000)] [] [0] [] [0] rfl (code_reader_tok.ok hy2) b111 (oE1 tm oE0) rfl rfl rfl rfl rfl rfl rfl rfl) (s1 rfl) <| cw (oAlloc (id := 3) (ls := [.d (kI .i64) 0, .d kS [], .d (kI .i64) 0]) ze58 (fun g => ⟨[(.int .i64 0)], _, rfl, zI_i64 g.H, ⟨[(.string ⟨⟨[]⟩⟩)], _, rfl, zS g.H, ⟨[(.int .i64 0)], _, rfl, zI_i64 g.H, rfl⟩⟩⟩)) trivial <| cwn (oStA (n := 0) (fs := f_api_Tok) rfl rfl z58 tm tm) (s2 rfl rfl) <| .nil) (by kernel_rfl) ?_
  refine pSeq ?_
  refine wSeq ?_
  refine wBlock ?_
  refine wSeq ?_
  refine rg (cp (oMv tm) (s1 rfl) <| cp (oNilP tm) (s1 rfl) <| cp (oFldP o140_3 tm) (s1 rfl) <| cr (oLdB (n := 1) (k := 4) rfl rfl rfl t35 tm) (s1 rfl) <| cp (oNe rfl tm (cI (by decide))) (s1 rfl) <| cp (oAs tm) (s1 rfl) <| .nil) (by kernel_rfl) ?_
  refine pSeq ?_
  rcases ic h with ⟨hp3, h⟩ | ⟨hp3, h⟩
  · refine wNT hp3 tm (s1 rfl) ?_
    refine wSeq ?_
    refine rg (cp (oFldP o58_0 tm) (s1 rfl) <| cr (oLdB (n := 0) (k := 0) rfl rfl rfl t3 tm) (s1 rfl) <| cp (oNe rfl tm (cI (by decide))) (s1 rfl) <| cp (oAs tm) (s1 rfl) <| .nil) (by kernel_rfl) ?_
    refine pSeq ?_
    rcases ic h with ⟨hp4, h⟩ | ⟨hp4, h⟩
    · refine wNT hp4 tm (s1 rfl) ?_
      refine wSkip ?_
      refine pBlkN ?_
      refine pSeq ?_
      refine wSeq ?_
      obtain ⟨y5, hy5, h⟩ := bd h
      refine rgD hm (cp (oMv tm) (s1 rfl) <| cp (oNilP tm) (s1 rfl) <| cp (oFldP o140_0 tm) (s1 rfl) <| cr (oLdP (n := 1) (k := 0) (m := 2) (d := (kR f_api_Lattice)) (u := y2.1.l_) (lfS (lfC lf1 (lfC lf1 lfN))) rfl rfl rfl t25 tm) (s1 rfl) <| cp (oFldP o58_1 tm) (s1 rfl) <| cr (oLdB (n := 0) (k := 1) rfl rfl rfl t9 tm) (s1 rfl) <| cp (oCall rfl (order_Find.ok hy5) b98 (opds_cons tm (opds_cons tm opds_nil))) (s2 rfl rfl) <| cp (oMv tm) (s1 rfl) <| cp (oExt (k := 0) rfl tm) (s1 rfl) <| cp (oExt (k := 1) rfl tm) (s1 rfl) <| cp (oAs tm) (s1 rfl) <| cp (oAs tm) (s1 rfl) <| .nil) (by kernel_rfl) (by kernel_rfl) ?_
      refine pSeq ?_
      refine wSeq ?_
      refine wSeq ?_
      refine rg (cp (oMv tm) (s1 rfl) <| cp (oNe rfl tm (cI (by decide))) (s1 rfl) <| .nil) (by kernel_rfl) ?_
      refine pSeq ?_
      rcases ic h with ⟨hp6, h⟩ | ⟨hp6, h⟩
      · refine wNT hp6 tm (s1 rfl) ?_
        refine wSkip ?_
        refine pSeq ?_
        refine wSeq ?_
        refine rg (cp (oMv tm) (s1 rfl) <| cp (oNilP tm) (s1 rfl) <| cp (oFldP o140_2 tm) (s1 rfl) <| cr (oLdB (n := 1) (k := 3) rfl rfl rfl t3 tm) (s1 rfl) <| cp (oAdd tm (cI (by decide))) (s1 rfl) <| cp (oNilP tm) (s1 rfl) <| cp (oFldP o140_2 tm) (s1 rfl) <| cwn (oSt (n := 1) (k := 3) rfl rfl rfl rfl z3 tm tm) (s2 rfl rfl) <| .nil) (by kernel_rfl) ?_
        refine pSeq ?_
        refine wSeq ?_
        refine rg (cp (oMv tm) (s1 rfl) <| cp (oAs tm) (s1 rfl) <| .nil) (by kernel_rfl) ?_
        refine pSeq ?_
        refine wRet ?_
        obtain rfl := so h
        exact pS1 [1] rfl rfl (.inl rfl) rfl (.tmp rfl <| .nil)
      · refine wNF hp6 tm (s1 rfl) ?_
        refine wSeq ?_
        obtain ⟨y7, hy7, h⟩ := bd h
        refine rg (cp (oMv tm) (s1 rfl) <| cm (oCallS (rest := [.box 3 58 [.d (kI .i64) y2.2.Kind, .d kS y2.2.Text, .d (kI .i64) y2.2.At]]) (R' := [.box 3 58 [.d (kI .i64) y2.2.Kind, .d kS y2.2.Text, .d (kI .i64) y2.2.At], .box 70000 140 [.d (kL kS) y7.l_.Names, .d (kL (kI .u32)) y7.l_.Up, .d (kL (kR f_api_Tok)) y7.toks_, .d (kI .i64) y7.i_, .d (kI .i64) y7.bad_]]) (out' := .d (tup [])) [(70000, 70000)] [] [1] [0] [1, 0] rfl (code_reader_fail.ok hy7) b112 (oE1 tm (oE1 (cI (by decide)) oE0)) rfl rfl rfl rfl rfl rfl rfl rfl) (s1 rfl) <| .nil) (by kernel_rfl) ?_
        refine pSeq ?_
        refine wSeq ?_
        refine rg (cp (oAs (cI (by decide))) trivial <| .nil) (by kernel_rfl) ?_
        refine pSeq ?_
        refine wRet ?_
        refine pThenR ?_
        obtain rfl := so h
        exact pS1 [1] rfl rfl (.inl rfl) rfl (.tmp rfl <| .nil)
    · refine wNF hp4 tm (s1 rfl) ?_
      refine wSeq ?_
      obtain ⟨y8, hy8, h⟩ := bd h
      refine rg (cp (oMv tm) (s1 rfl) <| cm (oCallS (rest := [.box 3 58 [.d (kI .i64) y2.2.Kind, .d kS y2.2.Text, .d (kI .i64) y2.2.At]]) (R' := [.box 3 58 [.d (kI .i64) y2.2.Kind, .d kS y2.2.Text, .d (kI .i64) y2.2.At], .box 70000 140 [.d (kL kS) y8.l_.Names, .d (kL (kI .u32)) y8.l_.Up, .d (kL (kR f_api_Tok)) y8.toks_, .d (kI .i64) y8.i_, .d (kI .i64) y8.bad_]]) (out' := .d (tup [])) [(70000, 70000)] [] [1] [0] [1, 0] rfl (code_reader_fail.ok hy8) b112 (oE1 tm (oE1 (cI (by decide)) oE0)) rfl rfl rfl rfl rfl rfl rfl rfl) (s1 rfl) <| .nil) (by kernel_rfl) ?_
      refine pSeq ?_
      refine wSeq ?_
      refine rg (cp (oAs (cI (by decide))) trivial <| .nil) (by kernel_rfl) ?_
      refine pSeq ?_
      refine wRet ?_
      refine pBlkR ?_
      refine pThenR ?_
      obtain rfl := so h
      exact pS1 [1] rfl rfl (.inl rfl) rfl (.tmp rfl <| .nil)
  · refine wNF hp3 tm (s1 rfl) ?_
    refine wSeq ?_
    refine rg (cp (oAs (cI (by decide))) trivial <| .nil) (by kernel_rfl) ?_
    refine pSeq ?_
    refine wRet ?_
    refine pBlkR ?_
    refine pThenR ?_
    obtain rfl := so h
    exact pS1 [1] rfl rfl (.inl rfl) rfl (.tmp rfl <| .nil)

theorem code_reader_one.ok {a0 : code_reader} {a1 : Int} {r : code_reader × api_Instr} (h : code_reader_one.f a0 a1 = some r) : FnS Tryz.prog 113 [.p 70000 0, .d ((kI .i64).sig a1)] [.box 70000 140 [.d (kL kS) a0.l_.Names, .d (kL (kI .u32)) a0.l_.Up, .d (kL (kR f_api_Tok)) a0.toks_, .d (kI .i64) a0.i_, .d (kI .i64) a0.bad_]] [70000] (.d ((kR f_api_Instr).sig r.2)) [.box 70000 140 [.d (kL kS) r.1.l_.Names, .d (kL (kI .u32)) r.1.l_.Up, .d (kL (kR f_api_Tok)) r.1.toks_, .d (kI .i64) r.1.i_, .d (kI .i64) r.1.bad_]] := by
  refine fnIntroS Tryz.func113 rfl (by kernel_rfl) fun X H0 w0 pv => ?_
  unfold code_reader_one.f at h
  refine wSeq ?_
  refine rg (cw (oAlloc (id := 4) (ls := [.d (kI .i64) 0, .d (kI .i64) 0, .d (kI .i64) 0]) ze81 (fun g => ⟨[(.int .i64 0)], _, rfl, zI_i64 g.H, ⟨[(.int .i64 0)], _, rfl, zI_i64 g.H, ⟨[(.int .i64 0)], _, rfl, zI_i64 g.H, rfl⟩⟩⟩)) trivial <| .nil) (by kernel_rfl) ?_
  refine pSeq ?_
  refine wSeq ?_
  refine rg (cp (oMv tm) (s1 rfl) <| cp (oNilP tm) (s1 rfl) <| cp (oFldP o140_2 tm) (s1 rfl) <| cr (oLdB (n := 1) (k := 3) rfl rfl rfl t3 tm) (s1 rfl) <| cp (oAs tm) (s1 rfl) <| .nil) (by kernel_rfl) ?_
  refine pSeq ?_
  refine wSeq ?_
  refine rg (cp (oMv tm) (s1 rfl) <| cp (oBuild (fs := f_api_Instr) (u := ⟨a1, 0, 0⟩) rfl ze81 pl81 po81 (.op (zc := [(.int .i64 0)]) tm rfl (.ze (zc := [(.int .i64 0)]) zI_i64 (.ze (zc := [(.int .i64 0)]) zI_i64 .nil)))) (s1 rfl) <| cw (oAlloc (id := 6) (ls := [.d (kI .i64) 0, .d (kI .i64) 0, .d (kI .i64) 0]) ze81 (fun g => ⟨[(.int .i64 0)], _, rfl, zI_i64 g.H, ⟨[(.int .i64 0)], _, rfl, zI_i64 g.H, ⟨[(.int .i64 0)], _, rfl, zI_i64 g.H, rfl⟩⟩⟩)) trivial <| cwn (oStA (n := 0) (fs := f_api_Instr) rfl rfl z81 tm tm) (s2 rfl rfl) <| .nil) (by kernel_rfl) ?_
  refine pSeq ?_
  refine wSeq ?_
  refine wSeq ?_
  refine rg (cp (oMv tm) (s1 rfl) <| cp (oNilP tm) (s1 rfl) <| cp (oFldP o140_2 tm) (s1 rfl) <| cr (oLdB (n := 2) (k := 3) rfl rfl rfl t3 tm) (s1 rfl) <| cp (oAdd tm (cI (by decide))) (s1 rfl) <| cp (oNilP tm) (s1 rfl) <| cp (oFldP o140_2 tm) (s1 rfl) <| cwn (oSt (n := 2) (k := 3) rfl rfl rfl rfl z3 tm tm) (s2 rfl rfl) <| .nil) (by kernel_rfl) ?_
  refine pSeq ?_
  refine wSeq ?_
  obtain ⟨y1, hy1, h⟩ := bd h
  refine rg (cp (oMv tm) (s1 rfl) <| cp (oCall rfl (code_number.ok hy1) b54 (opds_cons tm opds_nil)) (s1 rfl) <| .nil) (by kernel_rfl) ?_
  refine pSeq ?_
  rcases ic h with ⟨hp2, h⟩ | ⟨hp2, h⟩
  · refine wBT hp2 tm (s1 rfl) ?_
    obtain ⟨y3, hy3, h⟩ := bd h
    refine rg (cp (oMv tm) (s1 rfl) <| cm (oCallS (rest := [.box 6 81 [.d (kI .i64) a1, .d (kI .i64) 0, .d (kI .i64) 0], .box 4 81 [.d (kI .i64) 0, .d (kI .i64) 0, .d (kI .i64) 0]]) (R' := [.box 6 81 [.d (kI .i64) a1, .d (kI .i64) 0, .d (kI .i64) 0], .box 4 81 [.d (kI .i64) 0, .d (kI .i64) 0, .d (kI .i64) 0], .box 70000 140 [.d (kL kS) y3.1.l_.Names, .d (kL (kI .u32)) y3.1.l_.Up, .d (kL (kR f_api_Tok)) y3.1.toks_, .d (kI .i64) y3.1.i_, .d (kI .i64) y3.1.bad_]]) (out' := .d ((kI .i64).sig y3.2)) [(70000, 70000)] [] [2] [0, 1] [1, 2, 0] rfl (code_reader_number.ok hy3) b121 (oE1 tm oE0) rfl rfl rfl rfl rfl rfl rfl rfl) (s1 rfl) <| cp (oFldP o81_1 tm) (s1 rfl) <| cwn (oSt (n := 0) (k := 1) rfl rfl rfl rfl z3 tm tm) (s2 rfl rfl) <| .nil) (by kernel_rfl) ?_
    refine pSeq ?_
    refine wSeq ?_
    obtain ⟨o1, h, hk1⟩ := bd h
    refine wJ1 (fun x5 => x5 = o1) (fun x5 => [(0, .p 70000 0), (4, .p 4 0), (5, .d ((kI .i64).sig a0.i_)), (6, .p 6 0), (33, .d (kB.sig x5))]) (fun x5 => [.box 6 81 [.d (kI .i64) a1, .d (kI .i64) y3.2, .d (kI .i64) 0], .box 4 81 [.d (kI .i64) 0, .d (kI .i64) 0, .d (kI .i64) 0], .box 70000 140 [.d (kL kS) y3.1.l_.Names, .d (kL (kI .u32)) y3.1.l_.Up, .d (kL (kR f_api_Tok)) y3.1.toks_, .d (kI .i64) y3.1.i_, .d (kI .i64) y3.1.bad_]]) ?_ ?_
    · rcases ic h with ⟨hp6, h⟩ | ⟨hp6, h⟩
      · refine rg (cp (oMv tm) (s1 rfl) <| cp (oEq rfl tm (cI (by decide))) (s1 rfl) <| cp (oMv tm) (s1 rfl) <| cgB (decide_eq_true hp6) rfl rfl (oMv tm) (s1 rfl) <| cgB (decide_eq_true hp6) rfl rfl (oNilP tm) (s1 rfl) <| cgB (decide_eq_true hp6) rfl rfl (oFldP o140_3 tm) (s1 rfl) <| crgB (decide_eq_true hp6) rfl rfl (oLdB (n := 2) (k := 4) rfl rfl rfl t35 tm) (s1 rfl) <| cgB (decide_eq_true hp6) rfl rfl (oEq rfl tm (cI (by decide))) (s1 rfl) <| cp (oPkT (decide_eq_true hp6) tm tm) (s2 rfl rfl) <| .nil) (by kernel_rfl) ?_
        exact pJ1 _ (so h) ⟨rfl, rfl, rfl, rfl, rfl, trivial⟩ rfl
      · refine rg (cp (oMv tm) (s1 rfl) <| cp (oEq rfl tm (cI (by decide))) (s1 rfl) <| cp (oMv tm) (s1 rfl) <| csB (decide_eq_false hp6) rfl rfl <| csB (decide_eq_false hp6) rfl rfl <| csB (decide_eq_false hp6) rfl rfl <| csB (decide_eq_false hp6) rfl rfl <| csB (decide_eq_false hp6) rfl rfl <| cp (oPkF (decide_eq_false hp6) tm cB) (s1 rfl) <| .nil) (by kernel_rfl) ?_
        exact pJ1 _ (so h) ⟨rfl, rfl, rfl, rfl, rfl, trivial⟩ rfl
    · rintro x5 rfl
      replace h := hk1
      rcases ic h with ⟨hp7, h⟩ | ⟨hp7, h⟩
      · refine wBT hp7 tm (s1 rfl) ?_
        obtain ⟨y8, hy8, h⟩ := bd h
        refine rg (cp (oMv tm) (s1 rfl) <| cm (oCallS (rest := [.box 6 81 [.d (kI .i64) a1, .d (kI .i64) y3.2, .d (kI .i64) 0], .box 4 81 [.d (kI .i64) 0, .d (kI .i64) 0, .d (kI .i64) 0]]) (R' := [.box 6 81 [.d (kI .i64) a1, .d (kI .i64) y3.2, .d (kI .i64) 0], .box 4 81 [.d (kI .i64) 0, .d (kI .i64) 0, .d (kI .i64) 0], .box 70000 140 [.d (kL kS) y8.1.l_.Names, .d (kL (kI .u32)) y8.1.l_.Up, .d (kL (kR f_api_Tok)) y8.1.toks_, .d (kI .i64) y8.1.i_, .d (kI .i64) y8.1.bad_]]) (out' := .d ((kI .i64).sig y8.2)) [(70000, 70000)] [] [2] [0, 1] [1, 2, 0] rfl (code_reader_label.ok hy8) b122 (oE1 tm oE0) rfl rfl rfl rfl rfl rfl rfl rfl) (s1 rfl) <| cp (oFldP o81_2 tm) (s1 rfl) <| cwn (oSt (n := 0) (k := 2) rfl rfl rfl rfl z3 tm tm) (s2 rfl rfl) <| .nil) (by kernel_rfl) ?_
        refine pSeq ?_
        refine wSeq ?_
        obtain ⟨y9, hy9, h⟩ := bd h
        refine rg (cp (oMv tm) (s1 rfl) <| cm (oCallS (rest := [.box 6 81 [.d (kI .i64) a1, .d (kI .i64) y3.2, .d (kI .i64) y8.2], .box 4 81 [.d (kI .i64) 0, .d (kI .i64) 0, .d (kI .i64) 0]]) (R' := [.box 6 81 [.d (kI .i64) a1, .d (kI .i64) y3.2, .d (kI .i64) y8.2], .box 4 81 [.d (kI .i64) 0, .d (kI .i64) 0, .d (kI .i64) 0], .box 70000 140 [.d (kL kS) y9.l_.Names, .d (kL (kI .u32)) y9.l_.Up, .d (kL (kR f_api_Tok)) y9.toks_, .d (kI .i64) y9.i_, .d (kI .i64) y9.bad_]]) (out' := .d (tup [])) [(70000, 70000)] [] [2] [0, 1] [1, 2, 0] rfl (code_reader_mark.ok hy9) b123 (oE1 tm (oE1 (cS (by decide)) oE0)) rfl rfl rfl rfl rfl rfl rfl rfl) (s1 rfl) <| .nil) (by kernel_rfl) ?_
        refine pSeq ?_
        refine wSeq ?_
        obtain ⟨o1, h, hk1⟩ := bd h
        refine wJ1 (fun x12 => x12 = o1) (fun x12 => [(0, .p 70000 0), (4, .p 4 0), (5, .d ((kI .i64).sig a0.i_)), (6, .p 6 0), (54, .d (kB.sig x12))]) (fun x12 => [.box 6 81 [.d (kI .i64) a1, .d (kI .i64) y3.2, .d (kI .i64) y8.2], .box 4 81 [.d (kI .i64) 0, .d (kI .i64) 0, .d (kI .i64) 0], .box 70000 140 [.d (kL kS) y9.l_.Names, .d (kL (kI .u32)) y9.l_.Up, .d (kL (kR f_api_Tok)) y9.toks_, .d (kI .i64) y9.i_, .d (kI .i64) y9.bad_]]) ?_ ?_
        · rcases ic h with ⟨hp13, h⟩ | ⟨hp13, h⟩
          · obtain ⟨y14, hy14, h⟩ := bd h
            refine rgD hm (cp (oMv tm) (s1 rfl) <| cp (oNilP tm) (s1 rfl) <| cp (oFldP o140_3 tm) (s1 rfl) <| cr (oLdB (n := 2) (k := 4) rfl rfl rfl t35 tm) (s1 rfl) <| cp (oEq rfl tm (cI (by decide))) (s1 rfl) <| cp (oMv tm) (s1 rfl) <| cgB (decide_eq_true hp13) rfl rfl (oMv tm) (s1 rfl) <| cgB (decide_eq_true hp13) rfl rfl (oNilP tm) (s1 rfl) <| cgB (decide_eq_true hp13) rfl rfl (oFldP o140_0 tm) (s1 rfl) <| cgB (decide_eq_true hp13) rfl rfl (oFldP o25_1 tm) (s1 rfl) <| crgB (decide_eq_true hp13) rfl rfl (oLdB (n := 2) (k := 1) rfl rfl rfl t23 tm) (s1 rfl) <| cgB (decide_eq_true hp13) rfl rfl (oLenL u23 tm) (s1 rfl) <| crgB (decide_eq_true hp13) rfl rfl (oLdA (n := 0) (fs := f_api_Instr) (u := ⟨a1, y3.2, y8.2⟩) rfl ⟨rfl, rfl, rfl, trivial⟩ t81 tm) (s1 rfl) <| cgB (decide_eq_true hp13) rfl rfl (oCall rfl (code_right.ok hy14) b65 (opds_cons tm (opds_cons tm opds_nil))) (s2 rfl rfl) <| cgB (decide_eq_true hp13) rfl rfl (oNot tm) (s1 rfl) <| cp (oPkT (decide_eq_true hp13) tm tm) (s2 rfl rfl) <| .nil) (by kernel_rfl) (by kernel_rfl) ?_
            exact pJ1 _ (so h) ⟨rfl, rfl, rfl, rfl, rfl, trivial⟩ rfl
          · refine rgD hm (cp (oMv tm) (s1 rfl) <| cp (oNilP tm) (s1 rfl) <| cp (oFldP o140_3 tm) (s1 rfl) <| cr (oLdB (n := 2) (k := 4) rfl rfl rfl t35 tm) (s1 rfl) <| cp (oEq rfl tm (cI (by decide))) (s1 rfl) <| cp (oMv tm) (s1 rfl) <| csB (decide_eq_false hp13) rfl rfl <| csB (decide_eq_false hp13) rfl rfl <| csB (decide_eq_false hp13) rfl rfl <| csB (decide_eq_false hp13) rfl rfl <| csB (decide_eq_false hp13) rfl rfl <| csB (decide_eq_false hp13) rfl rfl <| csB (decide_eq_false hp13) rfl rfl <| csB (decide_eq_false hp13) rfl rfl <| csB (decide_eq_false hp13) rfl rfl <| cp (oPkF (decide_eq_false hp13) tm cB) (s1 rfl) <| .nil) (by kernel_rfl) (by kernel_rfl) ?_
            exact pJ1 _ (so h) ⟨rfl, rfl, rfl, rfl, rfl, trivial⟩ rfl
        · rintro x12 rfl
          replace h := hk1
          rcases ic h with ⟨hp15, h⟩ | ⟨hp15, h⟩
          · refine wBT hp15 tm (s1 rfl) ?_
            refine wSeq ?_
            refine rg (cp (oMv tm) (s1 rfl) <| cp (oMv tm) (s1 rfl) <| cp (oNilP tm) (s1 rfl) <| cp (oFldP o140_2 tm) (s1 rfl) <| cwn (oSt (n := 2) (k := 3) rfl rfl rfl rfl z3 tm tm) (s2 rfl rfl) <| .nil) (by kernel_rfl) ?_
            refine pSeq ?_
            obtain ⟨y16, hy16, h⟩ := bd h
            refine rg (cp (oMv tm) (s1 rfl) <| cm (oCallS (rest := [.box 6 81 [.d (kI .i64) a1, .d (kI .i64) y3.2, .d (kI .i64) y8.2], .box 4 81 [.d (kI .i64) 0, .d (kI .i64) 0, .d (kI .i64) 0]]) (R' := [.box 6 81 [.d (kI .i64) a1, .d (kI .i64) y3.2, .d (kI .i64) y8.2], .box 4 81 [.d (kI .i64) 0, .d (kI .i64) 0, .d (kI .i64) 0], .box 70000 140 [.d (kL kS) y16.l_.Names, .d (kL (kI .u32)) y16.l_.Up, .d (kL (kR f_api_Tok)) y16.toks_, .d (kI .i64) y16.i_, .d (kI .i64) y16.bad_]]) (out' := .d (tup [])) [(70000, 70000)] [] [2] [0, 1] [1, 2, 0] rfl (code_reader_fail.ok hy16) b112 (oE1 tm (oE1 (cI (by decide)) oE0)) rfl rfl rfl rfl rfl rfl rfl rfl) (s1 rfl) <| .nil) (by kernel_rfl) ?_
            refine pSeq ?_
            refine wSeq ?_
            refine rg (cr (oLdA (n := 0) (fs := f_api_Instr) (u := ⟨a1, y3.2, y8.2⟩) rfl ⟨rfl, rfl, rfl, trivial⟩ t81 tm) (s1 rfl) <| cwn (oStA (n := 1) (fs := f_api_Instr) rfl rfl z81 tm tm) (s2 rfl rfl) <| .nil) (by kernel_rfl) ?_
            refine pSeq ?_
            refine wRet ?_
            obtain rfl := so h
            exact pS1 [2] rfl rfl (.inl rfl) rfl (.box (n := 1) (fs := f_api_Instr) (u := ⟨a1, y3.2, y8.2⟩) rfl rfl ⟨rfl, rfl, rfl, trivial⟩ t81 <| .nil)
          · refine wBF hp15 tm (s1 rfl) ?_
            refine wSkip ?_
            refine pSeq ?_
            refine wSeq ?_
            refine rg (cr (oLdA (n := 0) (fs := f_api_Instr) (u := ⟨a1, y3.2, y8.2⟩) rfl ⟨rfl, rfl, rfl, trivial⟩ t81 tm) (s1 rfl) <| cwn (oStA (n := 1) (fs := f_api_Instr) rfl rfl z81 tm tm) (s2 rfl rfl) <| .nil) (by kernel_rfl) ?_
            refine pSeq ?_
            refine wRet ?_
            obtain rfl := so h
            exact pS1 [2] rfl rfl (.inl rfl) rfl (.box (n := 1) (fs := f_api_Instr) (u := ⟨a1, y3.2, y8.2⟩) rfl rfl ⟨rfl, rfl, rfl, trivial⟩ t81 <| .nil)
      · refine wBF hp7 tm (s1 rfl) ?_
        refine wSkip ?_
        refine pSeq ?_
        refine wSeq ?_
        obtain ⟨y17, hy17, h⟩ := bd h
        refine rg (cp (oMv tm) (s1 rfl) <| cm (oCallS (rest := [.box 6 81 [.d (kI .i64) a1, .d (kI .i64) y3.2, .d (kI .i64) 0], .box 4 81 [.d (kI .i64) 0, .d (kI .i64) 0, .d (kI .i64) 0]]) (R' := [.box 6 81 [.d (kI .i64) a1, .d (kI .i64) y3.2, .d (kI .i64) 0], .box 4 81 [.d (kI .i64) 0, .d (kI .i64) 0, .d (kI .i64) 0], .box 70000 140 [.d (kL kS) y17.l_.Names, .d (kL (kI .u32)) y17.l_.Up, .d (kL (kR f_api_Tok)) y17.toks_, .d (kI .i64) y17.i_, .d (kI .i64) y17.bad_]]) (out' := .d (tup [])) [(70000, 70000)] [] [2] [0, 1] [1, 2, 0] rfl (code_reader_mark.ok hy17) b123 (oE1 tm (oE1 (cS (by decide)) oE0)) rfl rfl rfl rfl rfl rfl rfl rfl) (s1 rfl) <| .nil) (by kernel_rfl) ?_
        refine pSeq ?_
        refine wSeq ?_
        obtain ⟨o1, h, hk1⟩ := bd h
        refine wJ1 (fun x20 => x20 = o1) (fun x20 => [(0, .p 70000 0), (4, .p 4 0), (5, .d ((kI .i64).sig a0.i_)), (6, .p 6 0), (54, .d (kB.sig x20))]) (fun x20 => [.box 6 81 [.d (kI .i64) a1, .d (kI .i64) y3.2, .d (kI .i64) 0], .box 4 81 [.d (kI .i64) 0, .d (kI .i64) 0, .d (kI .i64) 0], .box 70000 140 [.d (kL kS) y17.l_.Names, .d (kL (kI .u32)) y17.l_.Up, .d (kL (kR f_api_Tok)) y17.toks_, .d (kI .i64) y17.i_, .d (kI .i64) y17.bad_]]) ?_ ?_
        · rcases ic h with ⟨hp21, h⟩ | ⟨hp21, h⟩
          · obtain ⟨y22, hy22, h⟩ := bd h
            refine rgD hm (cp (oMv tm) (s1 rfl) <| cp (oNilP tm) (s1 rfl) <| cp (oFldP o140_3 tm) (s1 rfl) <| cr (oLdB (n := 2) (k := 4) rfl rfl rfl t35 tm) (s1 rfl) <| cp (oEq rfl tm (cI (by decide))) (s1 rfl) <| cp (oMv tm) (s1 rfl) <| cgB (decide_eq_true hp21) rfl rfl (oMv tm) (s1 rfl) <| cgB (decide_eq_true hp21) rfl rfl (oNilP tm) (s1 rfl) <| cgB (decide_eq_true hp21) rfl rfl (oFldP o140_0 tm) (s1 rfl) <| cgB (decide_eq_true hp21) rfl rfl (oFldP o25_1 tm) (s1 rfl) <| crgB (decide_eq_true hp21) rfl rfl (oLdB (n := 2) (k := 1) rfl rfl rfl t23 tm) (s1 rfl) <| cgB (decide_eq_true hp21) rfl rfl (oLenL u23 tm) (s1 rfl) <| crgB (decide_eq_true hp21) rfl rfl (oLdA (n := 0) (fs := f_api_Instr) (u := ⟨a1, y3.2, 0⟩) rfl ⟨rfl, rfl, rfl, trivial⟩ t81 tm) (s1 rfl) <| cgB (decide_eq_true hp21) rfl rfl (oCall rfl (code_right.ok hy22) b65 (opds_cons tm (opds_cons tm opds_nil))) (s2 rfl rfl) <| cgB (decide_eq_true hp21) rfl rfl (oNot tm) (s1 rfl) <| cp (oPkT (decide_eq_true hp21) tm tm) (s2 rfl rfl) <| .nil) (by kernel_rfl) (by kernel_rfl) ?_
            exact pJ1 _ (so h) ⟨rfl, rfl, rfl, rfl, rfl, trivial⟩ rfl
          · refine rgD hm (cp (oMv tm) (s1 rfl) <| cp (oNilP tm) (s1 rfl) <| cp (oFldP o140_3 tm) (s1 rfl) <| cr (oLdB (n := 2) (k := 4) rfl rfl rfl t35 tm) (s1 rfl) <| cp (oEq rfl tm (cI (by decide))) (s1 rfl) <| cp (oMv tm) (s1 rfl) <| csB (decide_eq_false hp21) rfl rfl <| csB (decide_eq_false hp21) rfl rfl <| csB (decide_eq_false hp21) rfl rfl <| csB (decide_eq_false hp21) rfl rfl <| csB (decide_eq_false hp21) rfl rfl <| csB (decide_eq_false hp21) rfl rfl <| csB (decide_eq_false hp21) rfl rfl <| csB (decide_eq_false hp21) rfl rfl <| csB (decide_eq_false hp21) rfl rfl <| cp (oPkF (decide_eq_false hp21) tm cB) (s1 rfl) <| .nil) (by kernel_rfl) (by kernel_rfl) ?_
            exact pJ1 _ (so h) ⟨rfl, rfl, rfl, rfl, rfl, trivial⟩ rfl
        · rintro x20 rfl
          replace h := hk1
          rcases ic h with ⟨hp23, h⟩ | ⟨hp23, h⟩
          · refine wBT hp23 tm (s1 rfl) ?_
            refine wSeq ?_
            refine rg (cp (oMv tm) (s1 rfl) <| cp (oMv tm) (s1 rfl) <| cp (oNilP tm) (s1 rfl) <| cp (oFldP o140_2 tm) (s1 rfl) <| cwn (oSt (n := 2) (k := 3) rfl rfl rfl rfl z3 tm tm) (s2 rfl rfl) <| .nil) (by kernel_rfl) ?_
            refine pSeq ?_
            obtain ⟨y24, hy24, h⟩ := bd h
            refine rg (cp (oMv tm) (s1 rfl) <| cm (oCallS (rest := [.box 6 81 [.d (kI .i64) a1, .d (kI .i64) y3.2, .d (kI .i64) 0], .box 4 81 [.d (kI .i64) 0, .d (kI .i64) 0, .d (kI .i64) 0]]) (R' := [.box 6 81 [.d (kI .i64) a1, .d (kI .i64) y3.2, .d (kI .i64) 0], .box 4 81 [.d (kI .i64) 0, .d (kI .i64) 0, .d (kI .i64) 0], .box 70000 140 [.d (kL kS) y24.l_.Names, .d (kL (kI .u32)) y24.l_.Up, .d (kL (kR f_api_Tok)) y24.toks_, .d (kI .i64) y24.i_, .d (kI .i64) y24.bad_]]) (out' := .d (tup [])) [(70000, 70000)] [] [2] [0, 1] [1, 2, 0] rfl (code_reader_fail.ok hy24) b112 (oE1 tm (oE1 (cI (by decide)) oE0)) rfl rfl rfl rfl rfl rfl rfl rfl) (s1 rfl) <| .nil) (by kernel_rfl) ?_
            refine pSeq ?_
            refine wSeq ?_
            refine rg (cr (oLdA (n := 0) (fs := f_api_Instr) (u := ⟨a1, y3.2, 0⟩) rfl ⟨rfl, rfl, rfl, trivial⟩ t81 tm) (s1 rfl) <| cwn (oStA (n := 1) (fs := f_api_Instr) rfl rfl z81 tm tm) (s2 rfl rfl) <| .nil) (by kernel_rfl) ?_
            refine pSeq ?_
            refine wRet ?_
            obtain rfl := so h
            exact pS1 [2] rfl rfl (.inl rfl) rfl (.box (n := 1) (fs := f_api_Instr) (u := ⟨a1, y3.2, 0⟩) rfl rfl ⟨rfl, rfl, rfl, trivial⟩ t81 <| .nil)
          · refine wBF hp23 tm (s1 rfl) ?_
            refine wSkip ?_
            refine pSeq ?_
            refine wSeq ?_
            refine rg (cr (oLdA (n := 0) (fs := f_api_Instr) (u := ⟨a1, y3.2, 0⟩) rfl ⟨rfl, rfl, rfl, trivial⟩ t81 tm) (s1 rfl) <| cwn (oStA (n := 1) (fs := f_api_Instr) rfl rfl z81 tm tm) (s2 rfl rfl) <| .nil) (by kernel_rfl) ?_
            refine pSeq ?_
            refine wRet ?_
            obtain rfl := so h
            exact pS1 [2] rfl rfl (.inl rfl) rfl (.box (n := 1) (fs := f_api_Instr) (u := ⟨a1, y3.2, 0⟩) rfl rfl ⟨rfl, rfl, rfl, trivial⟩ t81 <| .nil)
  · refine wBF hp2 tm (s1 rfl) ?_
    refine wSkip ?_
    refine pSeq ?_
    refine wSeq ?_
    obtain ⟨o1, h, hk1⟩ := bd h
    refine wJ1 (fun x26 => x26 = o1) (fun x26 => [(0, .p 70000 0), (4, .p 4 0), (5, .d ((kI .i64).sig a0.i_)), (6, .p 6 0), (33, .d (kB.sig x26))]) (fun x26 => [.box 6 81 [.d (kI .i64) a1, .d (kI .i64) 0, .d (kI .i64) 0], .box 4 81 [.d (kI .i64) 0, .d (kI .i64) 0, .d (kI .i64) 0], .box 70000 140 [.d (kL kS) a0.l_.Names, .d (kL (kI .u32)) a0.l_.Up, .d (kL (kR f_api_Tok)) a0.toks_, .d (kI .i64) (IntKind.i64.wrap (a0.i_ + 1)), .d (kI .i64) a0.bad_]]) ?_ ?_
    · rcases ic h with ⟨hp27, h⟩ | ⟨hp27, h⟩
      · refine rg (cp (oMv tm) (s1 rfl) <| cp (oEq rfl tm (cI (by decide))) (s1 rfl) <| cp (oMv tm) (s1 rfl) <| cgB (decide_eq_true hp27) rfl rfl (oMv tm) (s1 rfl) <| cgB (decide_eq_true hp27) rfl rfl (oNilP tm) (s1 rfl) <| cgB (decide_eq_true hp27) rfl rfl (oFldP o140_3 tm) (s1 rfl) <| crgB (decide_eq_true hp27) rfl rfl (oLdB (n := 2) (k := 4) rfl rfl rfl t35 tm) (s1 rfl) <| cgB (decide_eq_true hp27) rfl rfl (oEq rfl tm (cI (by decide))) (s1 rfl) <| cp (oPkT (decide_eq_true hp27) tm tm) (s2 rfl rfl) <| .nil) (by kernel_rfl) ?_
        exact pJ1 _ (so h) ⟨rfl, rfl, rfl, rfl, rfl, trivial⟩ rfl
      · refine rg (cp (oMv tm) (s1 rfl) <| cp (oEq rfl tm (cI (by decide))) (s1 rfl) <| cp (oMv tm) (s1 rfl) <| csB (decide_eq_false hp27) rfl rfl <| csB (decide_eq_false hp27) rfl rfl <| csB (decide_eq_false hp27) rfl rfl <| csB (decide_eq_false hp27) rfl rfl <| csB (decide_eq_false hp27) rfl rfl <| cp (oPkF (decide_eq_false hp27) tm cB) (s1 rfl) <| .nil) (by kernel_rfl) ?_
        exact pJ1 _ (so h) ⟨rfl, rfl, rfl, rfl, rfl, trivial⟩ rfl
    · rintro x26 rfl
      replace h := hk1
      rcases ic h with ⟨hp28, h⟩ | ⟨hp28, h⟩
      · refine wBT hp28 tm (s1 rfl) ?_
        obtain ⟨y29, hy29, h⟩ := bd h
        refine rg (cp (oMv tm) (s1 rfl) <| cm (oCallS (rest := [.box 6 81 [.d (kI .i64) a1, .d (kI .i64) 0, .d (kI .i64) 0], .box 4 81 [.d (kI .i64) 0, .d (kI .i64) 0, .d (kI .i64) 0]]) (R' := [.box 6 81 [.d (kI .i64) a1, .d (kI .i64) 0, .d (kI .i64) 0], .box 4 81 [.d (kI .i64) 0, .d (kI .i64) 0, .d (kI .i64) 0], .box 70000 140 [.d (kL kS) y29.1.l_.Names, .d (kL (kI .u32)) y29.1.l_.Up, .d (kL (kR f_api_Tok)) y29.1.toks_, .d (kI .i64) y29.1.i_, .d (kI .i64) y29.1.bad_]]) (out' := .d ((kI .i64).sig y29.2)) [(70000, 70000)] [] [2] [0, 1] [1, 2, 0] rfl (code_reader_label.ok hy29) b122 (oE1 tm oE0) rfl rfl rfl rfl rfl rfl rfl rfl) (s1 rfl) <| cp (oFldP o81_2 tm) (s1 rfl) <| cwn (oSt (n := 0) (k := 2) rfl rfl rfl rfl z3 tm tm) (s2 rfl rfl) <| .nil) (by kernel_rfl) ?_
        refine pSeq ?_
        refine wSeq ?_
        obtain ⟨y30, hy30, h⟩ := bd h
        refine rg (cp (oMv tm) (s1 rfl) <| cm (oCallS (rest := [.box 6 81 [.d (kI .i64) a1, .d (kI .i64) 0, .d (kI .i64) y29.2], .box 4 81 [.d (kI .i64) 0, .d (kI .i64) 0, .d (kI .i64) 0]]) (R' := [.box 6 81 [.d (kI .i64) a1, .d (kI .i64) 0, .d (kI .i64) y29.2], .box 4 81 [.d (kI .i64) 0, .d (kI .i64) 0, .d (kI .i64) 0], .box 70000 140 [.d (kL kS) y30.l_.Names, .d (kL (kI .u32)) y30.l_.Up, .d (kL (kR f_api_Tok)) y30.toks_, .d (kI .i64) y30.i_, .d (kI .i64) y30.bad_]]) (out' := .d (tup [])) [(70000, 70000)] [] [2] [0, 1] [1, 2, 0] rfl (code_reader_mark.ok hy30) b123 (oE1 tm (oE1 (cS (by decide)) oE0)) rfl rfl rfl rfl rfl rfl rfl rfl) (s1 rfl) <| .nil) (by kernel_rfl) ?_
        refine pSeq ?_
        refine wSeq ?_
        obtain ⟨o1, h, hk1⟩ := bd h
        refine wJ1 (fun x33 => x33 = o1) (fun x33 => [(0, .p 70000 0), (4, .p 4 0), (5, .d ((kI .i64).sig a0.i_)), (6, .p 6 0), (54, .d (kB.sig x33))]) (fun x33 => [.box 6 81 [.d (kI .i64) a1, .d (kI .i64) 0, .d (kI .i64) y29.2], .box 4 81 [.d (kI .i64) 0, .d (kI .i64) 0, .d (kI .i64) 0], .box 70000 140 [.d (kL kS) y30.l_.Names, .d (kL (kI .u32)) y30.l_.Up, .d (kL (kR f_api_Tok)) y30.toks_, .d (kI .i64) y30.i_, .d (kI .i64) y30.bad_]]) ?_ ?_
        · rcases ic h with ⟨hp34, h⟩ | ⟨hp34, h⟩
          · obtain ⟨y35, hy35, h⟩ := bd h
            refine rgD hm (cp (oMv tm) (s1 rfl) <| cp (oNilP tm) (s1 rfl) <| cp (oFldP o140_3 tm) (s1 rfl) <| cr (oLdB (n := 2) (k := 4) rfl rfl rfl t35 tm) (s1 rfl) <| cp (oEq rfl tm (cI (by decide))) (s1 rfl) <| cp (oMv tm) (s1 rfl) <| cgB (decide_eq_true hp34) rfl rfl (oMv tm) (s1 rfl) <| cgB (decide_eq_true hp34) rfl rfl (oNilP tm) (s1 rfl) <| cgB (decide_eq_true hp34) rfl rfl (oFldP o140_0 tm) (s1 rfl) <| cgB (decide_eq_true hp34) rfl rfl (oFldP o25_1 tm) (s1 rfl) <| crgB (decide_eq_true hp34) rfl rfl (oLdB (n := 2) (k := 1) rfl rfl rfl t23 tm) (s1 rfl) <| cgB (decide_eq_true hp34) rfl rfl (oLenL u23 tm) (s1 rfl) <| crgB (decide_eq_true hp34) rfl rfl (oLdA (n := 0) (fs := f_api_Instr) (u := ⟨a1, 0, y29.2⟩) rfl ⟨rfl, rfl, rfl, trivial⟩ t81 tm) (s1 rfl) <| cgB (decide_eq_true hp34) rfl rfl (oCall rfl (code_right.ok hy35) b65 (opds_cons tm (opds_cons tm opds_nil))) (s2 rfl rfl) <| cgB (decide_eq_true hp34) rfl rfl (oNot tm) (s1 rfl) <| cp (oPkT (decide_eq_true hp34) tm tm) (s2 rfl rfl) <| .nil) (by kernel_rfl) (by kernel_rfl) ?_
            exact pJ1 _ (so h) ⟨rfl, rfl, rfl, rfl, rfl, trivial⟩ rfl
          · refine rgD hm (cp (oMv tm) (s1 rfl) <| cp (oNilP tm) (s1 rfl) <| cp (oFldP o140_3 tm) (s1 rfl) <| cr (oLdB (n := 2) (k := 4) rfl rfl rfl t35 tm) (s1 rfl) <| cp (oEq rfl tm (cI (by decide))) (s1 rfl) <| cp (oMv tm) (s1 rfl) <| csB (decide_eq_false hp34) rfl rfl <| csB (decide_eq_false hp34) rfl rfl <| csB (decide_eq_false hp34) rfl rfl <| csB (decide_eq_false hp34) rfl rfl <| csB (decide_eq_false hp34) rfl rfl <| csB (decide_eq_false hp34) rfl rfl <| csB (decide_eq_false hp34) rfl rfl <| csB (decide_eq_false hp34) rfl rfl <| csB (decide_eq_false hp34) rfl rfl <| cp (oPkF (decide_eq_false hp34) tm cB) (s1 rfl) <| .nil) (by kernel_rfl) (by kernel_rfl) ?_
            exact pJ1 _ (so h) ⟨rfl, rfl, rfl, rfl, rfl, trivial⟩ rfl
        · rintro x33 rfl
          replace h := hk1
          rcases ic h with ⟨hp36, h⟩ | ⟨hp36, h⟩
          · refine wBT hp36 tm (s1 rfl) ?_
            refine wSeq ?_
            refine rg (cp (oMv tm) (s1 rfl) <| cp (oMv tm) (s1 rfl) <| cp (oNilP tm) (s1 rfl) <| cp (oFldP o140_2 tm) (s1 rfl) <| cwn (oSt (n := 2) (k := 3) rfl rfl rfl rfl z3 tm tm) (s2 rfl rfl) <| .nil) (by kernel_rfl) ?_
            refine pSeq ?_
            obtain ⟨y37, hy37, h⟩ := bd h
            refine rg (cp (oMv tm) (s1 rfl) <| cm (oCallS (rest := [.box 6 81 [.d (kI .i64) a1, .d (kI .i64) 0, .d (kI .i64) y29.2], .box 4 81 [.d (kI .i64) 0, .d (kI .i64) 0, .d (kI .i64) 0]]) (R' := [.box 6 81 [.d (kI .i64) a1, .d (kI .i64) 0, .d (kI .i64) y29.2], .box 4 81 [.d (kI .i64) 0, .d (kI .i64) 0, .d (kI .i64) 0], .box 70000 140 [.d (kL kS) y37.l_.Names, .d (kL (kI .u32)) y37.l_.Up, .d (kL (kR f_api_Tok)) y37.toks_, .d (kI .i64) y37.i_, .d (kI .i64) y37.bad_]]) (out' := .d (tup [])) [(70000, 70000)] [] [2] [0, 1] [1, 2, 0] rfl (code_reader_fail.ok hy37) b112 (oE1 tm (oE1 (cI (by decide)) oE0)) rfl rfl rfl rfl rfl rfl rfl rfl) (s1 rfl) <| .nil) (by kernel_rfl) ?_
            refine pSeq ?_
            refine wSeq ?_
            refine rg (cr (oLdA (n := 0) (fs := f_api_Instr) (u := ⟨a1, 0, y29.2⟩) rfl ⟨rfl, rfl, rfl, trivial⟩ t81 tm) (s1 rfl) <| cwn (oStA (n := 1) (fs := f_api_Instr) rfl rfl z81 tm tm) (s2 rfl rfl) <| .nil) (by kernel_rfl) ?_
            refine pSeq ?_
            refine wRet ?_
            obtain rfl := so h
            exact pS1 [2] rfl rfl (.inl rfl) rfl (.box (n := 1) (fs := f_api_Instr) (u := ⟨a1, 0, y29.2⟩) rfl rfl ⟨rfl, rfl, rfl, trivial⟩ t81 <| .nil)
          · refine wBF hp36 tm (s1 rfl) ?_
            refine wSkip ?_
            refine pSeq ?_
            refine wSeq ?_
            refine rg (cr (oLdA (n := 0) (fs := f_api_Instr) (u := ⟨a1, 0, y29.2⟩) rfl ⟨rfl, rfl, rfl, trivial⟩ t81 tm) (s1 rfl) <| cwn (oStA (n := 1) (fs := f_api_Instr) rfl rfl z81 tm tm) (s2 rfl rfl) <| .nil) (by kernel_rfl) ?_
            refine pSeq ?_
            refine wRet ?_
            obtain rfl := so h
            exact pS1 [2] rfl rfl (.inl rfl) rfl (.box (n := 1) (fs := f_api_Instr) (u := ⟨a1, 0, y29.2⟩) rfl rfl ⟨rfl, rfl, rfl, trivial⟩ t81 <| .nil)
      · refine wBF hp28 tm (s1 rfl) ?_
        refine wSkip ?_
        refine pSeq ?_
        refine wSeq ?_
        obtain ⟨y38, hy38, h⟩ := bd h
        refine rg (cp (oMv tm) (s1 rfl) <| cm (oCallS (rest := [.box 6 81 [.d (kI .i64) a1, .d (kI .i64) 0, .d (kI .i64) 0], .box 4 81 [.d (kI .i64) 0, .d (kI .i64) 0, .d (kI .i64) 0]]) (R' := [.box 6 81 [.d (kI .i64) a1, .d (kI .i64) 0, .d (kI .i64) 0], .box 4 81 [.d (kI .i64) 0, .d (kI .i64) 0, .d (kI .i64) 0], .box 70000 140 [.d (kL kS) y38.l_.Names, .d (kL (kI .u32)) y38.l_.Up, .d (kL (kR f_api_Tok)) y38.toks_, .d (kI .i64) y38.i_, .d (kI .i64) y38.bad_]]) (out' := .d (tup [])) [(70000, 70000)] [] [2] [0, 1] [1, 2, 0] rfl (code_reader_mark.ok hy38) b123 (oE1 tm (oE1 (cS (by decide)) oE0)) rfl rfl rfl rfl rfl rfl rfl rfl) (s1 rfl) <| .nil) (by kernel_rfl) ?_
        refine pSeq ?_
        refine wSeq ?_
        obtain ⟨o1, h, hk1⟩ := bd h
        refine wJ1 (fun x41 => x41 = o1) (fun x41 => [(0, .p 70000 0), (4, .p 4 0), (5, .d ((kI .i64).sig a0.i_)), (6, .p 6 0), (54, .d (kB.sig x41))]) (fun x41 => [.box 6 81 [.d (kI .i64) a1, .d (kI .i64) 0, .d (kI .i64) 0], .box 4 81 [.d (kI .i64) 0, .d (kI .i64) 0, .d (kI .i64) 0], .box 70000 140 [.d (kL kS) y38.l_.Names, .d (kL (kI .u32)) y38.l_.Up, .d (kL (kR f_api_Tok)) y38.toks_, .d (kI .i64) y38.i_, .d (kI .i64) y38.bad_]]) ?_ ?_
        · rcases ic h with ⟨hp42, h⟩ | ⟨hp42, h⟩
          · obtain ⟨y43, hy43, h⟩ := bd h
            refine rgD hm (cp (oMv tm) (s1 rfl) <| cp (oNilP tm) (s1 rfl) <| cp (oFldP o140_3 tm) (s1 rfl) <| cr (oLdB (n := 2) (k := 4) rfl rfl rfl t35 tm) (s1 rfl) <| cp (oEq rfl tm (cI (by decide))) (s1 rfl) <| cp (oMv tm) (s1 rfl) <| cgB (decide_eq_true hp42) rfl rfl (oMv tm) (s1 rfl) <| cgB (decide_eq_true hp42) rfl rfl (oNilP tm) (s1 rfl) <| cgB (decide_eq_true hp42) rfl rfl (oFldP o140_0 tm) (s1 rfl) <| cgB (decide_eq_true hp42) rfl rfl (oFldP o25_1 tm) (s1 rfl) <| crgB (decide_eq_true hp42) rfl rfl (oLdB (n := 2) (k := 1) rfl rfl rfl t23 tm) (s1 rfl) <| cgB (decide_eq_true hp42) rfl rfl (oLenL u23 tm) (s1 rfl) <| crgB (decide_eq_true hp42) rfl rfl (oLdA (n := 0) (fs := f_api_Instr) (u := ⟨a1, 0, 0⟩) rfl ⟨rfl, rfl, rfl, trivial⟩ t81 tm) (s1 rfl) <| cgB (decide_eq_true hp42) rfl rfl (oCall rfl (code_right.ok hy43) b65 (opds_cons tm (opds_cons tm opds_nil))) (s2 rfl rfl) <| cgB (decide_eq_true hp42) rfl rfl (oNot tm) (s1 rfl) <| cp (oPkT (decide_eq_true hp42) tm tm) (s2 rfl rfl) <| .nil) (by kernel_rfl) (by kernel_rfl) ?_
            exact pJ1 _ (so h) ⟨rfl, rfl, rfl, rfl, rfl, trivial⟩ rfl
          · refine rgD hm (cp (oMv tm) (s1 rfl) <| cp (oNilP tm) (s1 rfl) <| cp (oFldP o140_3 tm) (s1 rfl) <| cr (oLdB (n := 2) (k := 4) rfl rfl rfl t35 tm) (s1 rfl) <| cp (oEq rfl tm (cI (by decide))) (s1 rfl) <| cp (oMv tm) (s1 rfl) <| csB (decide_eq_false hp42) rfl rfl <| csB (decide_eq_false hp42) rfl rfl <| csB (decide_eq_false hp42) rfl rfl <| csB (decide_eq_false hp42) rfl rfl <| csB (decide_eq_false hp42) rfl rfl <| csB (decide_eq_false hp42) rfl rfl <| csB (decide_eq_false hp42) rfl rfl <| csB (decide_eq_false hp42) rfl rfl <| csB (decide_eq_false hp42) rfl rfl <| cp (oPkF (decide_eq_false hp42) tm cB) (s1 rfl) <| .nil) (by kernel_rfl) (by kernel_rfl) ?_
            exact pJ1 _ (so h) ⟨rfl, rfl, rfl, rfl, rfl, trivial⟩ rfl
        · rintro x41 rfl
          replace h := hk1
          rcases ic h with ⟨hp44, h⟩ | ⟨hp44, h⟩
          · refine wBT hp44 tm (s1 rfl) ?_
            refine wSeq ?_
            refine rg (cp (oMv tm) (s1 rfl) <| cp (oMv tm) (s1 rfl) <| cp (oNilP tm) (s1 rfl) <| cp (oFldP o140_2 tm) (s1 rfl) <| cwn (oSt (n := 2) (k := 3) rfl rfl rfl rfl z3 tm tm) (s2 rfl rfl) <| .nil) (by kernel_rfl) ?_
            refine pSeq ?_
            obtain ⟨y45, hy45, h⟩ := bd h
            refine rg (cp (oMv tm) (s1 rfl) <| cm (oCallS (rest := [.box 6 81 [.d (kI .i64) a1, .d (kI .i64) 0, .d (kI .i64) 0], .box 4 81 [.d (kI .i64) 0, .d (kI .i64) 0, .d (kI .i64) 0]]) (R' := [.box 6 81 [.d (kI .i64) a1, .d (kI .i64) 0, .d (kI .i64) 0], .box 4 81 [.d (kI .i64) 0, .d (kI .i64) 0, .d (kI .i64) 0], .box 70000 140 [.d (kL kS) y45.l_.Names, .d (kL (kI .u32)) y45.l_.Up, .d (kL (kR f_api_Tok)) y45.toks_, .d (kI .i64) y45.i_, .d (kI .i64) y45.bad_]]) (out' := .d (tup [])) [(70000, 70000)] [] [2] [0, 1] [1, 2, 0] rfl (code_reader_fail.ok hy45) b112 (oE1 tm (oE1 (cI (by decide)) oE0)) rfl rfl rfl rfl rfl rfl rfl rfl) (s1 rfl) <| .nil) (by kernel_rfl) ?_
            refine pSeq ?_
            refine wSeq ?_
            refine rg (cr (oLdA (n := 0) (fs := f_api_Instr) (u := ⟨a1, 0, 0⟩) rfl ⟨rfl, rfl, rfl, trivial⟩ t81 tm) (s1 rfl) <| cwn (oStA (n := 1) (fs := f_api_Instr) rfl rfl z81 tm tm) (s2 rfl rfl) <| .nil) (by kernel_rfl) ?_
            refine pSeq ?_
            refine wRet ?_
            obtain rfl := so h
            exact pS1 [2] rfl rfl (.inl rfl) rfl (.box (n := 1) (fs := f_api_Instr) (u := ⟨a1, 0, 0⟩) rfl rfl ⟨rfl, rfl, rfl, trivial⟩ t81 <| .nil)
          · refine wBF hp44 tm (s1 rfl) ?_
            refine wSkip ?_
            refine pSeq ?_
            refine wSeq ?_
            refine rg (cr (oLdA (n := 0) (fs := f_api_Instr) (u := ⟨a1, 0, 0⟩) rfl ⟨rfl, rfl, rfl, trivial⟩ t81 tm) (s1 rfl) <| cwn (oStA (n := 1) (fs := f_api_Instr) rfl rfl z81 tm tm) (s2 rfl rfl) <| .nil) (by kernel_rfl) ?_
            refine pSeq ?_
            refine wRet ?_
            obtain rfl := so h
            exact pS1 [2] rfl rfl (.inl rfl) rfl (.box (n := 1) (fs := f_api_Instr) (u := ⟨a1, 0, 0⟩) rfl rfl ⟨rfl, rfl, rfl, trivial⟩ t81 <| .nil)

theorem code_From.ok {a0 : api_Lattice} {a1 : List api_Tok} {a2 : Int} {r : (List api_Instr) × Int × Int} (h : code_From.f a0 a1 a2 = some r) : FnA Tryz.prog 99 [(kR f_api_Lattice).sig a0, (kL (kR f_api_Tok)).sig a1, (kI .i64).sig a2] (tup [(kL (kR f_api_Instr)).sig r.1, (kI .i64).sig r.2.1, (kI .i64).sig r.2.2]) := by
  refine fnIntro Tryz.func99 rfl (by kernel_rfl) fun H0 w0 => ?_
  unfold code_From.f at h
  refine wSeq ?_
  refine rg (cp (oBox tm) (s1 rfl) <| cp (oAs cV) trivial <| cp (oAs (cI (by decide))) trivial <| cp (oAs (cI (by decide))) trivial <| .nil) (by kernel_rfl) ?_
  refine pSeq ?_
  refine wSeq ?_
  refine wSeq ?_
  obtain ⟨y1, hy1, h⟩ := bd h
  refine rg (cp (oLd t25 tm) (s1 rfl) <| cp (oCall rfl (lattice_Check.ok hy1) b16 (opds_cons tm opds_nil)) (s1 rfl) <| cp (oAs tm) (s1 rfl) <| .nil) (by kernel_rfl) ?_
  refine pSeq ?_
  refine wSeq ?_
  refine rg (cp (oMv tm) (s1 rfl) <| cp (oNe rfl tm (cI (by decide))) (s1 rfl) <| .nil) (by kernel_rfl) ?_
  refine pSeq ?_
  rcases ic h with ⟨hp2, h⟩ | ⟨hp2, h⟩
  · refine wNT hp2 tm (s1 rfl) ?_
    refine wSkip ?_
    refine pSeq ?_
    refine wSeq ?_
    obtain ⟨o1, h, hk1⟩ := bd h
    refine wJ1 (fun x6 => x6 = o1) (fun x6 => [(1, .d ((kL (kR f_api_Tok)).sig a1)), (2, .d ((kI .i64).sig a2)), (3, .d (sP (kR f_api_Lattice) a0)), (35, .d (kB.sig x6))]) (fun x6 => []) ?_ ?_
    · rcases ic h with ⟨hp7, h⟩ | ⟨hp7, h⟩
      · refine rg (cp (oMv tm) (s1 rfl) <| cp (oLt rfl tm (cI (by decide))) (s1 rfl) <| cp (oMv tm) (s1 rfl) <| csB (decide_eq_true hp7) rfl rfl <| csB (decide_eq_true hp7) rfl rfl <| csB (decide_eq_true hp7) rfl rfl <| csB (decide_eq_true hp7) rfl rfl <| cp (oPkT (decide_eq_true hp7) tm cB) (s1 rfl) <| cp (oMv tm) (s1 rfl) <| csB rfl rfl rfl <| csB rfl rfl rfl <| csB rfl rfl rfl <| csB rfl rfl rfl <| csB rfl rfl rfl <| csB rfl rfl rfl <| csB rfl rfl rfl <| csB rfl rfl rfl <| cp (oPkT rfl tm cB) (s1 rfl) <| .nil) (by kernel_rfl) ?_
        exact pJ1 _ (so h) ⟨rfl, rfl, rfl, rfl, trivial⟩ rfl
      · rcases ic h with ⟨hp8, h⟩ | ⟨hp8, h⟩
        · refine rg (cp (oMv tm) (s1 rfl) <| cp (oLt rfl tm (cI (by decide))) (s1 rfl) <| cp (oMv tm) (s1 rfl) <| cgB (decide_eq_false hp7) rfl rfl (oMv tm) (s1 rfl) <| cgB (decide_eq_false hp7) rfl rfl (oMv tm) (s1 rfl) <| cgB (decide_eq_false hp7) rfl rfl (oLenL u53 tm) (s1 rfl) <| cgB (decide_eq_false hp7) rfl rfl (oGe rfl tm tm) (s2 rfl rfl) <| cp (oPkF (decide_eq_false hp7) tm tm) (s2 rfl rfl) <| cp (oMv tm) (s1 rfl) <| csB (decide_eq_true hp8) rfl rfl <| csB (decide_eq_true hp8) rfl rfl <| csB (decide_eq_true hp8) rfl rfl <| csB (decide_eq_true hp8) rfl rfl <| csB (decide_eq_true hp8) rfl rfl <| csB (decide_eq_true hp8) rfl rfl <| csB (decide_eq_true hp8) rfl rfl <| csB (decide_eq_true hp8) rfl rfl <| cp (oPkT (decide_eq_true hp8) tm cB) (s1 rfl) <| .nil) (by kernel_rfl) ?_
          exact pJ1 _ (so h) ⟨rfl, rfl, rfl, rfl, trivial⟩ rfl
        · obtain ⟨y9, hy9, h⟩ := bd h
          refine rg (cp (oMv tm) (s1 rfl) <| cp (oLt rfl tm (cI (by decide))) (s1 rfl) <| cp (oMv tm) (s1 rfl) <| cgB (decide_eq_false hp7) rfl rfl (oMv tm) (s1 rfl) <| cgB (decide_eq_false hp7) rfl rfl (oMv tm) (s1 rfl) <| cgB (decide_eq_false hp7) rfl rfl (oLenL u53 tm) (s1 rfl) <| cgB (decide_eq_false hp7) rfl rfl (oGe rfl tm tm) (s2 rfl rfl) <| cp (oPkF (decide_eq_false hp7) tm tm) (s2 rfl rfl) <| cp (oMv tm) (s1 rfl) <| cgB (decide_eq_false hp8) rfl rfl (oMv tm) (s1 rfl) <| cgB (decide_eq_false hp8) rfl rfl (oMv tm) (s1 rfl) <| cgB (decide_eq_false hp8) rfl rfl (oLenL u53 tm) (s1 rfl) <| cgB (decide_eq_false hp8) rfl rfl (oSub tm (cI (by decide))) (s1 rfl) <| cgB (decide_eq_false hp8) rfl rfl (oIdx u53 z58 hy9 tm tm) (s2 rfl rfl) <| cgB (decide_eq_false hp8) rfl rfl (oFld (fs := f_api_Tok) (k := 0) rfl o58_0 tm) (s1 rfl) <| cgB (decide_eq_false hp8) rfl rfl (oLd t3 tm) (s1 rfl) <| cgB (decide_eq_false hp8) rfl rfl (oNe rfl tm (cI (by decide))) (s1 rfl) <| cp (oPkF (decide_eq_false hp8) tm tm) (s2 rfl rfl) <| .nil) (by kernel_rfl) ?_
          exact pJ1 _ (so h) ⟨rfl, rfl, rfl, rfl, trivial⟩ rfl
    · rintro x6 rfl
      replace h := hk1
      rcases ic h with ⟨hp10, h⟩ | ⟨hp10, h⟩
      · refine wBT hp10 tm (s1 rfl) ?_
        refine wSeq ?_
        refine rg (cp (oAs cV) trivial <| cp (oAs (cI (by decide))) trivial <| cp (oAs (cI (by decide))) trivial <| .nil) (by kernel_rfl) ?_
        refine pSeq ?_
        refine wNil (kR f_api_Instr) 81 9006 6 rfl rfl ?_
        refine wFrzR (n := 0) (id := 9006) [6] rfl rfl ⟨rfl, trivial⟩ ?_
        refine wRet ?_
        refine pThenR ?_
        obtain rfl := so h
        exact pRn (.inl rfl) rfl rfl (.tmp rfl <| .tmp rfl <| .tmp rfl <| .nil)
      · refine wBF hp10 tm (s1 rfl) ?_
        refine wSkip ?_
        refine pSeq ?_
        refine wSeq ?_
        refine rg (cp (oLd t25 tm) (s1 rfl) <| cp (oMv tm) (s1 rfl) <| cp (oMv tm) (s1 rfl) <| cp (oBuild (fs := f_code_reader) (u := ⟨a0, a1, a2, 0⟩) rfl ze140 pl140 po140 (.op (zc := [(.slice none 0 0), (.slice none 0 0)]) tm rfl (.op (zc := [(.slice none 0 0)]) tm rfl (.op (zc := [(.int .i64 0)]) tm rfl (.ze (zc := [(.int .i64 0)]) zI_i64 .nil))))) (s3 rfl rfl rfl) <| cw (oBoxP (id := 40) (d := (kR f_code_reader)) (ls := [.d (kL kS) a0.Names, .d (kL (kI .u32)) a0.Up, .d (kL (kR f_api_Tok)) a1, .d (kI .i64) a2, .d (kI .i64) 0]) (lfS (lfC (lfS (lfC lf1 (lfC lf1 lfN))) (lfC lf1 (lfC lf1 (lfC lf1 lfN))))) rfl tm) (s1 rfl) <| cp (oAs tm) (s1 rfl) <| .nil) (by kernel_rfl) ?_
        refine pSeq ?_
        refine wSeq ?_
        refine rg (cp (oAs cV) trivial <| .nil) (by kernel_rfl) ?_
        refine pSeq ?_
        refine wNil (kR f_api_Instr) 81 1011 11 rfl rfl ?_
        obtain ⟨o1, h, hk1⟩ := bd h
        refine wJ6 (fun x33 x34 x35 x36 x37 x38 => .inr (x33, x34, x35, x36, x37, x38) = o1) (fun x33 x34 x35 x36 x37 x38 => [(10, .p 40 0)]) (fun x33 x34 x35 x36 x37 x38 => [.row 1011 81 (kR f_api_Instr) x38, .box 40 140 [.d (kL kS) x33, .d (kL (kI .u32)) x34, .d (kL (kR f_api_Tok)) x35, .d (kI .i64) x36, .d (kI .i64) x37]]) ?_ ?_
        · refine wBlock (wLoop ?_)
          refine lW (pc6 o1 (fun v27 v28 v29 v30 v31 v32 => [(10, .p 40 0), (11, .v 1011)]) (fun v27 v28 v29 v30 v31 v32 => [.row 1011 81 (kR f_api_Instr) v32, .box 40 140 [.d (kL kS) v27, .d (kL (kI .u32)) v28, .d (kL (kR f_api_Tok)) v29, .d (kI .i64) v30, .d (kI .i64) v31]]) (code_From.l0.partial_correctness) ?_ _ _ _ _ _ _ h) ⟨rfl, rfl, trivial⟩ rfl
          clear h
          intro f' ih v27 v28 v29 v30 v31 v32 h
          refine wSeq ?_
          refine wSeq ?_
          refine rg (cp (oMv tm) (s1 rfl) <| cp (oNilP tm) (s1 rfl) <| cp (oFldP o140_3 tm) (s1 rfl) <| cr (oLdB (n := 1) (k := 4) rfl rfl rfl t35 tm) (s1 rfl) <| cp (oEq rfl tm (cI (by decide))) (s1 rfl) <| .nil) (by kernel_rfl) ?_
          refine pSeq ?_
          rcases ic h with ⟨hp39, h⟩ | ⟨hp39, h⟩
          · refine wCT hp39 tm (s1 rfl) ?_
            refine wSkip ?_
            refine pSeq ?_
            refine wBlock ?_
            refine wSeq ?_
            obtain ⟨y40, hy40, h⟩ := bd h
            obtain ⟨y41, hy41, h⟩ := bd h
            refine rg (cp (oMv tm) (s1 rfl) <| cm (oCallS (rest := [.row 1011 81 (kR f_api_Instr) v32]) (R' := [.row 1011 81 (kR f_api_Instr) v32, .box 40 140 [.d (kL kS) y40.1.l_.Names, .d (kL (kI .u32)) y40.1.l_.Up, .d (kL (kR f_api_Tok)) y40.1.toks_, .d (kI .i64) y40.1.i_, .d (kI .i64) y40.1.bad_]]) (out' := .d ((kR f_api_Tok).sig y40.2)) [(70000, 40)] [] [1] [0] [1, 0] rfl (code_reader_tok.ok hy40) b111 (oE1 tm oE0) rfl rfl rfl rfl rfl rfl rfl rfl) (s1 rfl) <| cp (oCall rfl (code_instruction.ok hy41) b110 (opds_cons tm opds_nil)) (s1 rfl) <| cp (oAs tm) (s1 rfl) <| .nil) (by kernel_rfl) ?_
            refine pSeq ?_
            refine wSeq ?_
            refine wSeq ?_
            refine rg (cp (oMv tm) (s1 rfl) <| cp (oLt rfl tm (cI (by decide))) (s1 rfl) <| .nil) (by kernel_rfl) ?_
            refine pSeq ?_
            rcases ic h with ⟨hp42, h⟩ | ⟨hp42, h⟩
            · refine wCT hp42 tm (s1 rfl) ?_
              refine wSeq ?_
              refine rgD hm (cp (oMv tm) (s1 rfl) <| cp (oMv tm) (s1 rfl) <| cp (oNilP tm) (s1 rfl) <| cp (oFldP o140_2 tm) (s1 rfl) <| cr (oLdB (n := 1) (k := 3) rfl rfl rfl t3 tm) (s1 rfl) <| cp (oAs tm) (s1 rfl) <| cp (oAs tm) (s1 rfl) <| cp (oAs (cI (by decide))) trivial <| .nil) (by kernel_rfl) (by kernel_rfl) ?_
              refine pSeq ?_
              refine wFrzR (n := 0) (id := 1011) [6] rfl rfl ⟨rfl, trivial⟩ ?_
              refine wRet ?_
              refine pThenR ?_
              refine pBlkR ?_
              refine pThenR ?_
              refine pBlkR ?_
              refine pThenR ?_
              obtain rfl := so h
              replace h := hk1
              obtain rfl := so h
              exact pRn (.inl rfl) rfl rfl (.tmp rfl <| .tmp rfl <| .tmp rfl <| .nil)
            · refine wCF hp42 tm (s1 rfl) ?_
              refine wSkip ?_
              refine pSeq ?_
              refine wSeq ?_
              refine wSeq ?_
              refine rg (cp (oMv tm) (s1 rfl) <| cr (oLenR (n := 0) u28 rfl tm) (s1 rfl) <| cp (oEq rfl tm (cI (by decide))) (s1 rfl) <| .nil) (by kernel_rfl) ?_
              refine pSeq ?_
              rcases ic h with ⟨hp43, h⟩ | ⟨hp43, h⟩
              · refine wCT hp43 tm (s1 rfl) ?_
                refine wSeq ?_
                obtain ⟨y44, hy44, h⟩ := bd h
                refine rg (cp (oMv tm) (s1 rfl) <| cm (oCallS (rest := [.row 1011 81 (kR f_api_Instr) v32]) (R' := [.row 1011 81 (kR f_api_Instr) v32, .box 40 140 [.d (kL kS) y44.l_.Names, .d (kL (kI .u32)) y44.l_.Up, .d (kL (kR f_api_Tok)) y44.toks_, .d (kI .i64) y44.i_, .d (kI .i64) y44.bad_]]) (out' := .d (tup [])) [(70000, 40)] [] [1] [0] [1, 0] rfl (code_reader_fail.ok hy44) b112 (oE1 tm (oE1 (cI (by decide)) oE0)) rfl rfl rfl rfl rfl rfl rfl rfl) (s1 rfl) <| .nil) (by kernel_rfl) ?_
                refine pSeq ?_
                refine wExit ?_
                refine pThenX ?_
                refine pBlkO rfl ?_
                refine pThenX ?_
                refine pBlkX ?_
                exact pJ6 _ _ _ _ _ _ (so h) ⟨rfl, trivial⟩ rfl
              · refine wCF hp43 tm (s1 rfl) ?_
                refine wSkip ?_
                refine pSeq ?_
                obtain ⟨y45, hy45, h⟩ := bd h
                obtain ⟨hc46, h⟩ := ib h
                refine rg (cp (oMv tm) (s1 rfl) <| cp (oMv tm) (s1 rfl) <| cp (oMv tm) (s1 rfl) <| cm (oCallS (rest := [.row 1011 81 (kR f_api_Instr) v32]) (R' := [.row 1011 81 (kR f_api_Instr) v32, .box 40 140 [.d (kL kS) y45.1.l_.Names, .d (kL (kI .u32)) y45.1.l_.Up, .d (kL (kR f_api_Tok)) y45.1.toks_, .d (kI .i64) y45.1.i_, .d (kI .i64) y45.1.bad_]]) (out' := .d ((kR f_api_Instr).sig y45.2)) [(70000, 40)] [] [1] [0] [1, 0] rfl (code_reader_one.ok hy45) b113 (oE1 tm (oE1 tm oE0)) rfl rfl rfl rfl rfl rfl rfl rfl) (s2 rfl rfl) <| cp (oLit (d := (kR f_api_Instr)) el28 (by decide) rfl rfl rfl (e1 tm e0)) (s1 rfl) <| cw (oApp (n := 0) (id' := 66) el28 (by decide) rfl (by decide) hc46 tm tm) (s2 rfl rfl) <| cp (oAs tm) (s1 rfl) <| .nil) (by kernel_rfl) ?_
                refine pBlkN ?_
                refine pSub (Γ' := [(10, .p 40 0), (11, .v 66)]) ⟨rfl, rfl, trivial⟩ ?_
                refine pRen 66 1011 rfl ?_
                exact pLoop (lW (ih _ _ _ _ _ _ h) ⟨rfl, rfl, trivial⟩ rfl)
          · refine wCF hp39 tm (s1 rfl) ?_
            refine wExit ?_
            refine pThenX ?_
            refine pThenX ?_
            refine pBlkX ?_
            exact pJ6 _ _ _ _ _ _ (so h) ⟨rfl, trivial⟩ rfl
        · rintro x33 x34 x35 x36 x37 x38 rfl
          replace h := hk1
          refine wSeq ?_
          refine rgD hm (cp (oMv tm) (s1 rfl) <| cp (oNilP tm) (s1 rfl) <| cp (oFldP o140_2 tm) (s1 rfl) <| cr (oLdB (n := 1) (k := 3) rfl rfl rfl t3 tm) (s1 rfl) <| cp (oMv tm) (s1 rfl) <| cp (oNilP tm) (s1 rfl) <| cp (oFldP o140_3 tm) (s1 rfl) <| cr (oLdB (n := 1) (k := 4) rfl rfl rfl t35 tm) (s1 rfl) <| cp (oAs cV) trivial <| cp (oAs tm) (s1 rfl) <| cp (oAs tm) (s1 rfl) <| .nil) (by kernel_rfl) (by kernel_rfl) ?_
          refine pSeq ?_
          refine wNil (kR f_api_Instr) 81 9006 6 rfl rfl ?_
          refine wFrzR (n := 0) (id := 9006) [6] rfl rfl ⟨rfl, trivial⟩ ?_
          refine wRet ?_
          obtain rfl := so h
          exact pRn (.inl rfl) rfl rfl (.tmp rfl <| .tmp rfl <| .tmp rfl <| .nil)
  · refine wNF hp2 tm (s1 rfl) ?_
    refine wSeq ?_
    refine rg (cp (oMv tm) (s1 rfl) <| cp (oAs cV) trivial <| cp (oAs (cI (by decide))) trivial <| cp (oAs tm) (s1 rfl) <| .nil) (by kernel_rfl) ?_
    refine pSeq ?_
    refine wNil (kR f_api_Instr) 81 9006 6 rfl rfl ?_
    refine wFrzR (n := 0) (id := 9006) [6] rfl rfl ⟨rfl, trivial⟩ ?_
    refine wRet ?_
    refine pThenR ?_
    obtain rfl := so h
    exact pRn (.inl rfl) rfl rfl (.tmp rfl <| .tmp rfl <| .tmp rfl <| .nil)

theorem state_reader_program.ok {a0 : state_reader} {r : state_reader × (List api_Instr)} (h : state_reader_program.f a0 = some r) : FnS Tryz.prog 60 [.p 70000 0] [.box 70000 88 [.d (kL kS) a0.l_.Names, .d (kL (kI .u32)) a0.l_.Up, .d (kL (kR f_api_Tok)) a0.toks_, .d (kI .i64) a0.i_, .d (kI .i64) a0.bad_]] [70000] (.d ((kL (kR f_api_Instr)).sig r.2)) [.box 70000 88 [.d (kL kS) r.1.l_.Names, .d (kL (kI .u32)) r.1.l_.Up, .d (kL (kR f_api_Tok)) r.1.toks_, .d (kI .i64) r.1.i_, .d (kI .i64) r.1.bad_]] := by
  refine fnIntroS Tryz.func60 rfl (by kernel_rfl) fun X H0 w0 pv => ?_
  unfold state_reader_program.f at h
  refine wSeq ?_
  refine rg (cp (oAs cV) trivial <| .nil) (by kernel_rfl) ?_
  refine pSeq ?_
  refine wSeq ?_
  obtain ⟨y1, hy1, h⟩ := bd h
  refine rg (cp (oMv tm) (s1 rfl) <| cm (oCallS (rest := []) (R' := [.box 70000 88 [.d (kL kS) y1.l_.Names, .d (kL (kI .u32)) y1.l_.Up, .d (kL (kR f_api_Tok)) y1.toks_, .d (kI .i64) y1.i_, .d (kI .i64) y1.bad_]]) (out' := .d (tup [])) [(70000, 70000)] [] [0] [] [0] rfl (state_reader_must.ok hy1) b58 (oE1 tm (oE1 (cI (by decide)) (oE1 (cS (by decide)) oE0))) rfl rfl rfl rfl rfl rfl rfl rfl) (s1 rfl) <| .nil) (by kernel_rfl) ?_
  refine pSeq ?_
  refine wSeq ?_
  refine wSeq ?_
  refine rg (cp (oMv tm) (s1 rfl) <| cp (oNilP tm) (s1 rfl) <| cp (oFldP o88_3 tm) (s1 rfl) <| cr (oLdB (n := 0) (k := 4) rfl rfl rfl t35 tm) (s1 rfl) <| cp (oNe rfl tm (cI (by decide))) (s1 rfl) <| .nil) (by kernel_rfl) ?_
  refine pSeq ?_
  rcases ic h with ⟨hp2, h⟩ | ⟨hp2, h⟩
  · refine wNT hp2 tm (s1 rfl) ?_
    refine wSkip ?_
    refine pSeq ?_
    refine wSeq ?_
    obtain ⟨y3, hy3, h⟩ := bd h
    refine rgD hm (cp (oMv tm) (s1 rfl) <| cp (oNilP tm) (s1 rfl) <| cp (oFldP o88_0 tm) (s1 rfl) <| cr (oLdP (n := 0) (k := 0) (m := 2) (d := (kR f_api_Lattice)) (u := y1.l_) (lfS (lfC lf1 (lfC lf1 lfN))) rfl rfl rfl t25 tm) (s1 rfl) <| cp (oMv tm) (s1 rfl) <| cp (oNilP tm) (s1 rfl) <| cp (oFldP o88_1 tm) (s1 rfl) <| cr (oLdB (n := 0) (k := 2) rfl rfl rfl t53 tm) (s1 rfl) <| cp (oMv tm) (s1 rfl) <| cp (oNilP tm) (s1 rfl) <| cp (oFldP o88_2 tm) (s1 rfl) <| cr (oLdB (n := 0) (k := 3) rfl rfl rfl t3 tm) (s1 rfl) <| cp (oCall rfl (code_From.ok hy3) b99 (opds_cons tm (opds_cons tm (opds_cons tm opds_nil)))) (s3 rfl rfl rfl) <| cp (oMv tm) (s1 rfl) <| cp (oExt (k := 0) rfl tm) (s1 rfl) <| cp (oExt (k := 1) rfl tm) (s1 rfl) <| cp (oExt (k := 2) rfl tm) (s1 rfl) <| cp (oAs tm) (s1 rfl) <| cp (oAs tm) (s1 rfl) <| cp (oAs tm) (s1 rfl) <| .nil) (by kernel_rfl) (by kernel_rfl) ?_
    refine pSeq ?_
    refine wSeq ?_
    refine rg (cp (oMv tm) (s1 rfl) <| cp (oMv tm) (s1 rfl) <| cp (oNilP tm) (s1 rfl) <| cp (oFldP o88_2 tm) (s1 rfl) <| cwn (oSt (n := 0) (k := 3) rfl rfl rfl rfl z3 tm tm) (s2 rfl rfl) <| .nil) (by kernel_rfl) ?_
    refine pSeq ?_
    refine wSeq ?_
    refine wSeq ?_
    refine rg (cp (oMv tm) (s1 rfl) <| cp (oNe rfl tm (cI (by decide))) (s1 rfl) <| .nil) (by kernel_rfl) ?_
    refine pSeq ?_
    rcases ic h with ⟨hp4, h⟩ | ⟨hp4, h⟩
    · refine wNT hp4 tm (s1 rfl) ?_
      refine wSkip ?_
      refine pSeq ?_
      refine wSeq ?_
      refine rg (cp (oMv tm) (s1 rfl) <| cp (oAs tm) (s1 rfl) <| .nil) (by kernel_rfl) ?_
      refine pSeq ?_
      refine wRet ?_
      obtain rfl := so h
      exact pS1 [0] rfl rfl (.inl rfl) rfl (.tmp rfl <| .nil)
    · refine wNF hp4 tm (s1 rfl) ?_
      obtain ⟨y5, hy5, h⟩ := bd h
      refine rg (cp (oMv tm) (s1 rfl) <| cp (oMv tm) (s1 rfl) <| cm (oCallS (rest := []) (R' := [.box 70000 88 [.d (kL kS) y5.l_.Names, .d (kL (kI .u32)) y5.l_.Up, .d (kL (kR f_api_Tok)) y5.toks_, .d (kI .i64) y5.i_, .d (kI .i64) y5.bad_]]) (out' := .d (tup [])) [(70000, 70000)] [] [0] [] [0] rfl (state_reader_fail.ok hy5) b96 (oE1 tm (oE1 tm oE0)) rfl rfl rfl rfl rfl rfl rfl rfl) (s2 rfl rfl) <| .nil) (by kernel_rfl) ?_
      refine pSeq ?_
      refine wSeq ?_
      refine rg (cp (oMv tm) (s1 rfl) <| cp (oAs tm) (s1 rfl) <| .nil) (by kernel_rfl) ?_
      refine pSeq ?_
      refine wRet ?_
      obtain rfl := so h
      exact pS1 [0] rfl rfl (.inl rfl) rfl (.tmp rfl <| .nil)
  · refine wNF hp2 tm (s1 rfl) ?_
    refine wSeq ?_
    refine rg (cp (oAs cV) trivial <| .nil) (by kernel_rfl) ?_
    refine pSeq ?_
    refine wNil (kR f_api_Instr) 81 9002 2 rfl rfl ?_
    refine wFrzR (n := 0) (id := 9002) [2] rfl rfl ⟨rfl, trivial⟩ ?_
    refine wRet ?_
    refine pThenR ?_
    obtain rfl := so h
    exact pS1 [0] rfl rfl (.inl rfl) rfl (.tmp rfl <| .nil)

theorem state_reader_slot.ok {a0 : state_reader} {r : state_reader × api_Slot} (h : state_reader_slot.f a0 = some r) : FnS Tryz.prog 63 [.p 70000 0] [.box 70000 88 [.d (kL kS) a0.l_.Names, .d (kL (kI .u32)) a0.l_.Up, .d (kL (kR f_api_Tok)) a0.toks_, .d (kI .i64) a0.i_, .d (kI .i64) a0.bad_]] [70000] (.d ((kR f_api_Slot).sig r.2)) [.box 70000 88 [.d (kL kS) r.1.l_.Names, .d (kL (kI .u32)) r.1.l_.Up, .d (kL (kR f_api_Tok)) r.1.toks_, .d (kI .i64) r.1.i_, .d (kI .i64) r.1.bad_]] := by
  refine fnIntroS Tryz.func63 rfl (by kernel_rfl) fun X H0 w0 pv => ?_
  unfold state_reader_slot.f at h
  refine wSeq ?_
  refine rg (cw (oAlloc (id := 2) (ls := [.d kB false, .d (kI .i64) 0, .d (kI .i64) 0]) ze51 (fun g => ⟨[(.bool false)], _, rfl, zB g.H, ⟨[(.int .i64 0)], _, rfl, zI_i64 g.H, ⟨[(.int .i64 0)], _, rfl, zI_i64 g.H, rfl⟩⟩⟩)) trivial <| .nil) (by kernel_rfl) ?_
  refine pSeq ?_
  refine wSeq ?_
  obtain ⟨y1, hy1, h⟩ := bd h
  refine rg (cp (oMv tm) (s1 rfl) <| cm (oCallS (rest := [.box 2 51 [.d kB false, .d (kI .i64) 0, .d (kI .i64) 0]]) (R' := [.box 2 51 [.d kB false, .d (kI .i64) 0, .d (kI .i64) 0], .box 70000 88 [.d (kL kS) y1.1.l_.Names, .d (kL (kI .u32)) y1.1.l_.Up, .d (kL (kR f_api_Tok)) y1.1.toks_, .d (kI .i64) y1.1.i_, .d (kI .i64) y1.1.bad_]]) (out' := .d (kB.sig y1.2)) [(70000, 70000)] [] [1] [0] [1, 0] rfl (state_reader_is.ok hy1) b95 (oE1 tm (oE1 (cI (by decide)) (oE1 (cS (by decide)) oE0))) rfl rfl rfl rfl rfl rfl rfl rfl) (s1 rfl) <| cp (oAs tm) (s1 rfl) <| .nil) (by kernel_rfl) ?_
  refine pSeq ?_
  refine wSeq ?_
  refine wSeq ?_
  refine rg (cp (oMv tm) (s1 rfl) <| .nil) (by kernel_rfl) ?_
  refine pSeq ?_
  rcases ic h with ⟨hp2, h⟩ | ⟨hp2, h⟩
  · refine wBT hp2 tm (s1 rfl) ?_
    refine rg (cp (oMv tm) (s1 rfl) <| cp (oNilP tm) (s1 rfl) <| cp (oFldP o88_2 tm) (s1 rfl) <| cr (oLdB (n := 1) (k := 3) rfl rfl rfl t3 tm) (s1 rfl) <| cp (oAdd tm (cI (by decide))) (s1 rfl) <| cp (oNilP tm) (s1 rfl) <| cp (oFldP o88_2 tm) (s1 rfl) <| cwn (oSt (n := 1) (k := 3) rfl rfl rfl rfl z3 tm tm) (s2 rfl rfl) <| .nil) (by kernel_rfl) ?_
    refine pSeq ?_
    refine wSeq ?_
    obtain ⟨y3, hy3, h⟩ := bd h
    refine rg (cp (oMv tm) (s1 rfl) <| cm (oCallS (rest := [.box 2 51 [.d kB false, .d (kI .i64) 0, .d (kI .i64) 0]]) (R' := [.box 2 51 [.d kB false, .d (kI .i64) 0, .d (kI .i64) 0], .box 70000 88 [.d (kL kS) y3.1.l_.Names, .d (kL (kI .u32)) y3.1.l_.Up, .d (kL (kR f_api_Tok)) y3.1.toks_, .d (kI .i64) y3.1.i_, .d (kI .i64) y3.1.bad_]]) (out' := .d ((kR f_api_Atom).sig y3.2)) [(70000, 70000)] [] [1] [0] [1, 0] rfl (state_reader_atom.ok hy3) b59 (oE1 tm oE0) rfl rfl rfl rfl rfl rfl rfl rfl) (s1 rfl) <| cw (oAlloc (id := 4) (ls := [.d (kI .i64) 0, .d (kI .i64) 0]) ze27 (fun g => ⟨[(.int .i64 0)], _, rfl, zI_i64 g.H, ⟨[(.int .i64 0)], _, rfl, zI_i64 g.H, rfl⟩⟩)) trivial <| cwn (oStA (n := 0) (fs := f_api_Atom) rfl rfl z27 tm tm) (s2 rfl rfl) <| .nil) (by kernel_rfl) ?_
    refine pSeq ?_
    refine wSeq ?_
    refine rg (cp (oMv tm) (s1 rfl) <| cp (oFldP o27_0 tm) (s1 rfl) <| cr (oLdB (n := 0) (k := 0) rfl rfl rfl t3 tm) (s1 rfl) <| cp (oFldP o27_1 tm) (s1 rfl) <| cr (oLdB (n := 0) (k := 1) rfl rfl rfl t3 tm) (s1 rfl) <| cp (oBuild (fs := f_api_Slot) (u := ⟨y1.2, y3.2.V, y3.2.L⟩) rfl ze51 pl51 po51 (.op (zc := [(.bool false)]) tm rfl (.op (zc := [(.int .i64 0)]) tm rfl (.op (zc := [(.int .i64 0)]) tm rfl .nil)))) (s3 rfl rfl rfl) <| cwn (oStA (n := 1) (fs := f_api_Slot) rfl rfl z51 tm tm) (s2 rfl rfl) <| .nil) (by kernel_rfl) ?_
    refine pSeq ?_
    refine wRet ?_
    obtain rfl := so h
    exact pS1 [2] rfl rfl (.inl rfl) rfl (.box (n := 1) (fs := f_api_Slot) (u := ⟨y1.2, y3.2.V, y3.2.L⟩) rfl rfl ⟨rfl, rfl, rfl, trivial⟩ t51 <| .nil)
  · refine wBF hp2 tm (s1 rfl) ?_
    refine wSkip ?_
    refine pSeq ?_
    refine wSeq ?_
    obtain ⟨y4, hy4, h⟩ := bd h
    refine rg (cp (oMv tm) (s1 rfl) <| cm (oCallS (rest := [.box 2 51 [.d kB false, .d (kI .i64) 0, .d (kI .i64) 0]]) (R' := [.box 2 51 [.d kB false, .d (kI .i64) 0, .d (kI .i64) 0], .box 70000 88 [.d (kL kS) y4.1.l_.Names, .d (kL (kI .u32)) y4.1.l_.Up, .d (kL (kR f_api_Tok)) y4.1.toks_, .d (kI .i64) y4.1.i_, .d (kI .i64) y4.1.bad_]]) (out' := .d ((kR f_api_Atom).sig y4.2)) [(70000, 70000)] [] [1] [0] [1, 0] rfl (state_reader_atom.ok hy4) b59 (oE1 tm oE0) rfl rfl rfl rfl rfl rfl rfl rfl) (s1 rfl) <| cw (oAlloc (id := 4) (ls := [.d (kI .i64) 0, .d (kI .i64) 0]) ze27 (fun g => ⟨[(.int .i64 0)], _, rfl, zI_i64 g.H, ⟨[(.int .i64 0)], _, rfl, zI_i64 g.H, rfl⟩⟩)) trivial <| cwn (oStA (n := 0) (fs := f_api_Atom) rfl rfl z27 tm tm) (s2 rfl rfl) <| .nil) (by kernel_rfl) ?_
    refine pSeq ?_
    refine wSeq ?_
    refine rg (cp (oMv tm) (s1 rfl) <| cp (oFldP o27_0 tm) (s1 rfl) <| cr (oLdB (n := 0) (k := 0) rfl rfl rfl t3 tm) (s1 rfl) <| cp (oFldP o27_1 tm) (s1 rfl) <| cr (oLdB (n := 0) (k := 1) rfl rfl rfl t3 tm) (s1 rfl) <| cp (oBuild (fs := f_api_Slot) (u := ⟨y1.2, y4.2.V, y4.2.L⟩) rfl ze51 pl51 po51 (.op (zc := [(.bool false)]) tm rfl (.op (zc := [(.int .i64 0)]) tm rfl (.op (zc := [(.int .i64 0)]) tm rfl .nil)))) (s3 rfl rfl rfl) <| cwn (oStA (n := 1) (fs := f_api_Slot) rfl rfl z51 tm tm) (s2 rfl rfl) <| .nil) (by kernel_rfl) ?_
    refine pSeq ?_
    refine wRet ?_
    obtain rfl := so h
    exact pS1 [2] rfl rfl (.inl rfl) rfl (.box (n := 1) (fs := f_api_Slot) (u := ⟨y1.2, y4.2.V, y4.2.L⟩) rfl rfl ⟨rfl, rfl, rfl, trivial⟩ t51 <| .nil)

theorem state_row_api_Atom_atom.ok {a0 : state_reader} {a1 : Str} {a2 : Int} {r : state_reader × (List api_Atom)} (h : state_row_api_Atom_atom.f a0 a1 a2 = some r) : FnS Tryz.prog 61 [.p 70000 0, .d (kS.sig a1), .d ((kI .i64).sig a2), .f [70000] (sBnd 59)] [.box 70000 88 [.d (kL kS) a0.l_.Names, .d (kL (kI .u32)) a0.l_.Up, .d (kL (kR f_api_Tok)) a0.toks_, .d (kI .i64) a0.i_, .d (kI .i64) a0.bad_]] [70000] (.d ((kL (kR f_api_Atom)).sig r.2)) [.box 70000 88 [.d (kL kS) r.1.l_.Names, .d (kL (kI .u32)) r.1.l_.Up, .d (kL (kR f_api_Tok)) r.1.toks_, .d (kI .i64) r.1.i_, .d (kI .i64) r.1.bad_]] := by
  refine fnIntroS Tryz.func61 rfl (by kernel_rfl) fun X H0 w0 pv => ?_
  unfold state_row_api_Atom_atom.f at h
  refine wSeq ?_
  refine rg (cp (oAs cV) trivial <| .nil) (by kernel_rfl) ?_
  refine pSeq ?_
  refine wSeq ?_
  obtain ⟨y1, hy1, h⟩ := bd h
  refine rg (cp (oMv tm) (s1 rfl) <| cp (oMv tm) (s1 rfl) <| cm (oCallS (rest := []) (R' := [.box 70000 88 [.d (kL kS) y1.l_.Names, .d (kL (kI .u32)) y1.l_.Up, .d (kL (kR f_api_Tok)) y1.toks_, .d (kI .i64) y1.i_, .d (kI .i64) y1.bad_]]) (out' := .d (tup [])) [(70000, 70000)] [] [0] [] [0] rfl (state_reader_must.ok hy1) b58 (oE1 tm (oE1 (cI (by decide)) (oE1 tm oE0))) rfl rfl rfl rfl rfl rfl rfl rfl) (s2 rfl rfl) <| .nil) (by kernel_rfl) ?_
  refine pSeq ?_
  refine wSeq ?_
  refine rg (cp (oAs cV) trivial <| .nil) (by kernel_rfl) ?_
  refine pSeq ?_
  refine wSeq ?_
  refine wSeq ?_
  obtain ⟨y2, hy2, h⟩ := bd h
  refine rg (cp (oMv tm) (s1 rfl) <| cm (oCallS (rest := []) (R' := [.box 70000 88 [.d (kL kS) y2.1.l_.Names, .d (kL (kI .u32)) y2.1.l_.Up, .d (kL (kR f_api_Tok)) y2.1.toks_, .d (kI .i64) y2.1.i_, .d (kI .i64) y2.1.bad_]]) (out' := .d (kB.sig y2.2)) [(70000, 70000)] [] [0] [] [0] rfl (state_reader_is.ok hy2) b95 (oE1 tm (oE1 (cI (by decide)) (oE1 (cS (by decide)) oE0))) rfl rfl rfl rfl rfl rfl rfl rfl) (s1 rfl) <| .nil) (by kernel_rfl) ?_
  refine pSeq ?_
  rcases ic h with ⟨hp3, h⟩ | ⟨hp3, h⟩
  · refine wBT hp3 tm (s1 rfl) ?_
    refine wSeq ?_
    refine rg (cp (oMv tm) (s1 rfl) <| cp (oNilP tm) (s1 rfl) <| cp (oFldP o88_2 tm) (s1 rfl) <| cr (oLdB (n := 0) (k := 3) rfl rfl rfl t3 tm) (s1 rfl) <| cp (oAdd tm (cI (by decide))) (s1 rfl) <| cp (oNilP tm) (s1 rfl) <| cp (oFldP o88_2 tm) (s1 rfl) <| cwn (oSt (n := 0) (k := 3) rfl rfl rfl rfl z3 tm tm) (s2 rfl rfl) <| .nil) (by kernel_rfl) ?_
    refine pSeq ?_
    refine wSeq ?_
    refine rg (cp (oMv tm) (s1 rfl) <| cp (oAs tm) (s1 rfl) <| .nil) (by kernel_rfl) ?_
    refine pSeq ?_
    refine wNil (kR f_api_Atom) 27 9008 8 rfl rfl ?_
    refine wFrzR (n := 0) (id := 9008) [8] rfl rfl ⟨rfl, trivial⟩ ?_
    refine wRet ?_
    refine pThenR ?_
    obtain rfl := so h
    exact pS1 [0] rfl rfl (.inl rfl) rfl (.tmp rfl <| .nil)
  · refine wBF hp3 tm (s1 rfl) ?_
    refine wSkip ?_
    refine pSeq ?_
    refine wNil (kR f_api_Atom) 27 1009 9 rfl rfl ?_
    obtain ⟨o1, h, hk1⟩ := bd h
    refine wJ6 (fun x26 x27 x28 x29 x30 x31 => (x26, x27, x28, x29, x30, x31) = o1) (fun x26 x27 x28 x29 x30 x31 => [(9, .v 1009)]) (fun x26 x27 x28 x29 x30 x31 => [.row 1009 27 (kR f_api_Atom) x31, .box 70000 88 [.d (kL kS) x26, .d (kL (kI .u32)) x27, .d (kL (kR f_api_Tok)) x28, .d (kI .i64) x29, .d (kI .i64) x30]]) ?_ ?_
    · refine wBlock (wLoop ?_)
      refine lW (pc6 o1 (fun v20 v21 v22 v23 v24 v25 => [(0, .p 70000 0), (2, .d ((kI .i64).sig a2)), (3, .f [70000] (sBnd 59)), (9, .v 1009)]) (fun v20 v21 v22 v23 v24 v25 => [.row 1009 27 (kR f_api_Atom) v25, .box 70000 88 [.d (kL kS) v20, .d (kL (kI .u32)) v21, .d (kL (kR f_api_Tok)) v22, .d (kI .i64) v23, .d (kI .i64) v24]]) (state_row_api_Atom_atom.l0.partial_correctness a2) ?_ _ _ _ _ _ _ h) ⟨rfl, rfl, rfl, rfl, trivial⟩ rfl
      clear h
      intro f' ih v20 v21 v22 v23 v24 v25 h
      refine wSeq ?_
      refine wSeq ?_
      refine rg (cp (oMv tm) (s1 rfl) <| cp (oNilP tm) (s1 rfl) <| cp (oFldP o88_3 tm) (s1 rfl) <| cr (oLdB (n := 1) (k := 4) rfl rfl rfl t35 tm) (s1 rfl) <| cp (oEq rfl tm (cI (by decide))) (s1 rfl) <| .nil) (by kernel_rfl) ?_
      refine pSeq ?_
      rcases ic h with ⟨hp32, h⟩ | ⟨hp32, h⟩
      · refine wCT hp32 tm (s1 rfl) ?_
        refine wSkip ?_
        refine pSeq ?_
        refine wBlock ?_
        refine wSeq ?_
        refine wSeq ?_
        refine rg (cp (oMv tm) (s1 rfl) <| cr (oLenR (n := 0) u29 rfl tm) (s1 rfl) <| cp (oMv tm) (s1 rfl) <| cp (oEq rfl tm tm) (s2 rfl rfl) <| .nil) (by kernel_rfl) ?_
        refine pSeq ?_
        rcases ic h with ⟨hp33, h⟩ | ⟨hp33, h⟩
        · refine wCT hp33 tm (s1 rfl) ?_
          refine wSeq ?_
          obtain ⟨y34, hy34, h⟩ := bd h
          refine rg (cp (oMv tm) (s1 rfl) <| cm (oCallS (rest := [.row 1009 27 (kR f_api_Atom) v25]) (R' := [.row 1009 27 (kR f_api_Atom) v25, .box 70000 88 [.d (kL kS) y34.l_.Names, .d (kL (kI .u32)) y34.l_.Up, .d (kL (kR f_api_Tok)) y34.toks_, .d (kI .i64) y34.i_, .d (kI .i64) y34.bad_]]) (out' := .d (tup [])) [(70000, 70000)] [] [1] [0] [1, 0] rfl (state_reader_fail.ok hy34) b96 (oE1 tm (oE1 (cI (by decide)) oE0)) rfl rfl rfl rfl rfl rfl rfl rfl) (s1 rfl) <| .nil) (by kernel_rfl) ?_
          refine pSeq ?_
          refine wExit ?_
          refine pThenX ?_
          refine pBlkO rfl ?_
          refine pThenX ?_
          refine pBlkX ?_
          exact pJ6 _ _ _ _ _ _ (so h) ⟨rfl, trivial⟩ rfl
        · refine wCF hp33 tm (s1 rfl) ?_
          refine wSkip ?_
          refine pSeq ?_
          refine wSeq ?_
          obtain ⟨y35, hy35, h⟩ := bd h
          obtain ⟨hc36, h⟩ := ib h
          refine rg (cp (oMv tm) (s1 rfl) <| cp (oMv tm) (s1 rfl) <| cm (oCallB1 (ins := []) (kn := 70000) (rest := [.row 1009 27 (kR f_api_Atom) v25]) (R' := [.row 1009 27 (kR f_api_Atom) v25, .box 70000 88 [.d (kL kS) y35.1.l_.Names, .d (kL (kI .u32)) y35.1.l_.Up, .d (kL (kR f_api_Tok)) y35.1.toks_, .d (kI .i64) y35.1.i_, .d (kI .i64) y35.1.bad_]]) (out' := .d ((kR f_api_Atom).sig y35.2)) [(70000, 70000)] [] [1] [0] [1, 0] rfl tm (state_reader_atom.ok hy35) rfl rfl b59 oE0 rfl rfl rfl rfl rfl rfl rfl rfl) (s1 rfl) <| cp (oLit (d := (kR f_api_Atom)) el29 (by decide) rfl rfl rfl (e1 tm e0)) (s1 rfl) <| cw (oApp (n := 0) (id' := 38) el29 (by decide) rfl (by decide) hc36 tm tm) (s2 rfl rfl) <| cp (oAs tm) (s1 rfl) <| .nil) (by kernel_rfl) ?_
          refine pSeq ?_
          refine wSeq ?_
          refine wSeq ?_
          obtain ⟨y37, hy37, h⟩ := bd h
          refine rg (cp (oMv tm) (s1 rfl) <| cm (oCallS (rest := [.row 38 27 (kR f_api_Atom) (v25 ++ ([y35.2] : List api_Atom))]) (R' := [.row 38 27 (kR f_api_Atom) (v25 ++ ([y35.2] : List api_Atom)), .box 70000 88 [.d (kL kS) y37.1.l_.Names, .d (kL (kI .u32)) y37.1.l_.Up, .d (kL (kR f_api_Tok)) y37.1.toks_, .d (kI .i64) y37.1.i_, .d (kI .i64) y37.1.bad_]]) (out' := .d (kB.sig y37.2)) [(70000, 70000)] [] [1] [0] [1, 0] rfl (state_reader_is.ok hy37) b95 (oE1 tm (oE1 (cI (by decide)) (oE1 (cS (by decide)) oE0))) rfl rfl rfl rfl rfl rfl rfl rfl) (s1 rfl) <| cp (oNot tm) (s1 rfl) <| .nil) (by kernel_rfl) ?_
          refine pSeq ?_
          rcases ic h with ⟨hp38, h⟩ | ⟨hp38, h⟩
          · refine wBT hp38 tm (s1 rfl) ?_
            refine wSeq ?_
            obtain ⟨y39, hy39, h⟩ := bd h
            refine rg (cp (oMv tm) (s1 rfl) <| cm (oCallS (rest := [.row 38 27 (kR f_api_Atom) (v25 ++ ([y35.2] : List api_Atom))]) (R' := [.row 38 27 (kR f_api_Atom) (v25 ++ ([y35.2] : List api_Atom)), .box 70000 88 [.d (kL kS) y39.l_.Names, .d (kL (kI .u32)) y39.l_.Up, .d (kL (kR f_api_Tok)) y39.toks_, .d (kI .i64) y39.i_, .d (kI .i64) y39.bad_]]) (out' := .d (tup [])) [(70000, 70000)] [] [1] [0] [1, 0] rfl (state_reader_must.ok hy39) b58 (oE1 tm (oE1 (cI (by decide)) (oE1 (cS (by decide)) oE0))) rfl rfl rfl rfl rfl rfl rfl rfl) (s1 rfl) <| .nil) (by kernel_rfl) ?_
            refine pSeq ?_
            refine wExit ?_
            refine pThenX ?_
            refine pBlkO rfl ?_
            refine pThenX ?_
            refine pBlkX ?_
            refine pSub (Γ' := [(9, .v 38)]) ⟨rfl, trivial⟩ ?_
            refine pRen 38 1009 rfl ?_
            exact pJ6 _ _ _ _ _ _ (so h) ⟨rfl, trivial⟩ rfl
          · refine wBF hp38 tm (s1 rfl) ?_
            refine wSkip ?_
            refine pSeq ?_
            refine rg (cp (oMv tm) (s1 rfl) <| cp (oNilP tm) (s1 rfl) <| cp (oFldP o88_2 tm) (s1 rfl) <| cr (oLdB (n := 1) (k := 3) rfl rfl rfl t3 tm) (s1 rfl) <| cp (oAdd tm (cI (by decide))) (s1 rfl) <| cp (oNilP tm) (s1 rfl) <| cp (oFldP o88_2 tm) (s1 rfl) <| cwn (oSt (n := 1) (k := 3) rfl rfl rfl rfl z3 tm tm) (s2 rfl rfl) <| .nil) (by kernel_rfl) ?_
            refine pBlkN ?_
            refine pSub (Γ' := [(0, .p 70000 0), (2, .d ((kI .i64).sig a2)), (3, .f [70000] (sBnd 59)), (9, .v 38)]) ⟨rfl, rfl, rfl, rfl, trivial⟩ ?_
            refine pRen 38 1009 rfl ?_
            exact pLoop (lW (ih _ _ _ _ _ _ h) ⟨rfl, rfl, rfl, rfl, trivial⟩ rfl)
      · refine wCF hp32 tm (s1 rfl) ?_
        refine wExit ?_
        refine pThenX ?_
        refine pThenX ?_
        refine pBlkX ?_
        exact pJ6 _ _ _ _ _ _ (so h) ⟨rfl, trivial⟩ rfl
    · rintro x26 x27 x28 x29 x30 x31 rfl
      replace h := hk1
      refine wSeq ?_
      refine rg (cp (oMv tm) (s1 rfl) <| cp (oAs tm) (s1 rfl) <| .nil) (by kernel_rfl) ?_
      refine pSeq ?_
      refine wFrzR (n := 0) (id := 1009) [8] rfl rfl ⟨rfl, trivial⟩ ?_
      refine wRet ?_
      obtain rfl := so h
      exact pS1 [0] rfl rfl (.inl rfl) rfl (.tmp rfl <| .nil)

theorem state_row_api_Slot_slot.ok {a0 : state_reader} {a1 : Str} {a2 : Int} {r : state_reader × (List api_Slot)} (h : state_row_api_Slot_slot.f a0 a1 a2 = some r) : FnS Tryz.prog 62 [.p 70000 0, .d (kS.sig a1), .d ((kI .i64).sig a2), .f [70000] (sBnd 63)] [.box 70000 88 [.d (kL kS) a0.l_.Names, .d (kL (kI .u32)) a0.l_.Up, .d (kL (kR f_api_Tok)) a0.toks_, .d (kI .i64) a0.i_, .d (kI .i64) a0.bad_]] [70000] (.d ((kL (kR f_api_Slot)).sig r.2)) [.box 70000 88 [.d (kL kS) r.1.l_.Names, .d (kL (kI .u32)) r.1.l_.Up, .d (kL (kR f_api_Tok)) r.1.toks_, .d (kI .i64) r.1.i_, .d (kI .i64) r.1.bad_]] := by
  refine fnIntroS Tryz.func62 rfl (by kernel_rfl) fun X H0 w0 pv => ?_
  unfold state_row_api_Slot_slot.f at h
  refine wSeq ?_
  refine rg (cp (oAs cV) trivial <| .nil) (by kernel_rfl) ?_
  refine pSeq ?_
  refine wSeq ?_
  obtain ⟨y1, hy1, h⟩ := bd h
  refine rg (cp (oMv tm) (s1 rfl) <| cp (oMv tm) (s1 rfl) <| cm (oCallS (rest := []) (R' := [.box 70000 88 [.d (kL kS) y1.l_.Names, .d (kL (kI .u32)) y1.l_.Up, .d (kL (kR f_api_Tok)) y1.toks_, .d (kI .i64) y1.i_, .d (kI .i64) y1.bad_]]) (out' := .d (tup [])) [(70000, 70000)] [] [0] [] [0] rfl (state_reader_must.ok hy1) b58 (oE1 tm (oE1 (cI (by decide)) (oE1 tm oE0))) rfl rfl rfl rfl rfl rfl rfl rfl) (s2 rfl rfl) <| .nil) (by kernel_rfl) ?_
  refine pSeq ?_
  refine wSeq ?_
  refine rg (cp (oAs cV) trivial <| .nil) (by kernel_rfl) ?_
  refine pSeq ?_
  refine wSeq ?_
  refine wSeq ?_
  obtain ⟨y2, hy2, h⟩ := bd h
  refine rg (cp (oMv tm) (s1 rfl) <| cm (oCallS (rest := []) (R' := [.box 70000 88 [.d (kL kS) y2.1.l_.Names, .d (kL (kI .u32)) y2.1.l_.Up, .d (kL (kR f_api_Tok)) y2.1.toks_, .d (kI .i64) y2.1.i_, .d (kI .i64) y2.1.bad_]]) (out' := .d (kB.sig y2.2)) [(70000, 70000)] [] [0] [] [0] rfl (state_reader_is.ok hy2) b95 (oE1 tm (oE1 (cI (by decide)) (oE1 (cS (by decide)) oE0))) rfl rfl rfl rfl rfl rfl rfl rfl) (s1 rfl) <| .nil) (by kernel_rfl) ?_
  refine pSeq ?_
  rcases ic h with ⟨hp3, h⟩ | ⟨hp3, h⟩
  · refine wBT hp3 tm (s1 rfl) ?_
    refine wSeq ?_
    refine rg (cp (oMv tm) (s1 rfl) <| cp (oNilP tm) (s1 rfl) <| cp (oFldP o88_2 tm) (s1 rfl) <| cr (oLdB (n := 0) (k := 3) rfl rfl rfl t3 tm) (s1 rfl) <| cp (oAdd tm (cI (by decide))) (s1 rfl) <| cp (oNilP tm) (s1 rfl) <| cp (oFldP o88_2 tm) (s1 rfl) <| cwn (oSt (n := 0) (k := 3) rfl rfl rfl rfl z3 tm tm) (s2 rfl rfl) <| .nil) (by kernel_rfl) ?_
    refine pSeq ?_
    refine wSeq ?_
    refine rg (cp (oMv tm) (s1 rfl) <| cp (oAs tm) (s1 rfl) <| .nil) (by kernel_rfl) ?_
    refine pSeq ?_
    refine wNil (kR f_api_Slot) 51 9008 8 rfl rfl ?_
    refine wFrzR (n := 0) (id := 9008) [8] rfl rfl ⟨rfl, trivial⟩ ?_
    refine wRet ?_
    refine pThenR ?_
    obtain rfl := so h
    exact pS1 [0] rfl rfl (.inl rfl) rfl (.tmp rfl <| .nil)
  · refine wBF hp3 tm (s1 rfl) ?_
    refine wSkip ?_
    refine pSeq ?_
    refine wNil (kR f_api_Slot) 51 1009 9 rfl rfl ?_
    obtain ⟨o1, h, hk1⟩ := bd h
    refine wJ6 (fun x26 x27 x28 x29 x30 x31 => (x26, x27, x28, x29, x30, x31) = o1) (fun x26 x27 x28 x29 x30 x31 => [(9, .v 1009)]) (fun x26 x27 x28 x29 x30 x31 => [.row 1009 51 (kR f_api_Slot) x31, .box 70000 88 [.d (kL kS) x26, .d (kL (kI .u32)) x27, .d (kL (kR f_api_Tok)) x28, .d (kI .i64) x29, .d (kI .i64) x30]]) ?_ ?_
    · refine wBlock (wLoop ?_)
      refine lW (pc6 o1 (fun v20 v21 v22 v23 v24 v25 => [(0, .p 70000 0), (2, .d ((kI .i64).sig a2)), (3, .f [70000] (sBnd 63)), (9, .v 1009)]) (fun v20 v21 v22 v23 v24 v25 => [.row 1009 51 (kR f_api_Slot) v25, .box 70000 88 [.d (kL kS) v20, .d (kL (kI .u32)) v21, .d (kL (kR f_api_Tok)) v22, .d (kI .i64) v23, .d (kI .i64) v24]]) (state_row_api_Slot_slot.l0.partial_correctness a2) ?_ _ _ _ _ _ _ h) ⟨rfl, rfl, rfl, rfl, trivial⟩ rfl
      clear h
      intro f' ih v20 v21 v22 v23 v24 v25 h
      refine wSeq ?_
      refine wSeq ?_
      refine rg (cp (oMv tm) (s1 rfl) <| cp (oNilP tm) (s1 rfl) <| cp (oFldP o88_3 tm) (s1 rfl) <| cr (oLdB (n := 1) (k := 4) rfl rfl rfl t35 tm) (s1 rfl) <| cp (oEq rfl tm (cI (by decide))) (s1 rfl) <| .nil) (by kernel_rfl) ?_
      refine pSeq ?_
      rcases ic h with ⟨hp32, h⟩ | ⟨hp32, h⟩
      · refine wCT hp32 tm (s1 rfl) ?_
        refine wSkip ?_
        refine pSeq ?_
        refine wBlock ?_
        refine wSeq ?_
        refine wSeq ?_
        refine rg (cp (oMv tm) (s1 rfl) <| cr (oLenR (n := 0) u30 rfl tm) (s1 rfl) <| cp (oMv tm) (s1 rfl) <| cp (oEq rfl tm tm) (s2 rfl rfl) <| .nil) (by kernel_rfl) ?_
        refine pSeq ?_
        rcases ic h with ⟨hp33, h⟩ | ⟨hp33, h⟩
        · refine wCT hp33 tm (s1 rfl) ?_
          refine wSeq ?_
          obtain ⟨y34, hy34, h⟩ := bd h
          refine rg (cp (oMv tm) (s1 rfl) <| cm (oCallS (rest := [.row 1009 51 (kR f_api_Slot) v25]) (R' := [.row 1009 51 (kR f_api_Slot) v25, .box 70000 88 [.d (kL kS) y34.l_.Names, .d (kL (kI .u32)) y34.l_.Up, .d (kL (kR f_api_Tok)) y34.toks_, .d (kI .i64) y34.i_, .d (kI .i64) y34.bad_]]) (out' := .d (tup [])) [(70000, 70000)] [] [1] [0] [1, 0] rfl (state_reader_fail.ok hy34) b96 (oE1 tm (oE1 (cI (by decide)) oE0)) rfl rfl rfl rfl rfl rfl rfl rfl) (s1 rfl) <| .nil) (by kernel_rfl) ?_
          refine pSeq ?_
          refine wExit ?_
          refine pThenX ?_
          refine pBlkO rfl ?_
          refine pThenX ?_
          refine pBlkX ?_
          exact pJ6 _ _ _ _ _ _ (so h) ⟨rfl, trivial⟩ rfl
        · refine wCF hp33 tm (s1 rfl) ?_
          refine wSkip ?_
          refine pSeq ?_
          refine wSeq ?_
          obtain ⟨y35, hy35, h⟩ := bd h
          obtain ⟨hc36, h⟩ := ib h
          refine rg (cp (oMv tm) (s1 rfl) <| cp (oMv tm) (s1 rfl) <| cm (oCallB1 (ins := []) (kn := 70000) (rest := [.row 1009 51 (kR f_api_Slot) v25]) (R' := [.row 1009 51 (kR f_api_Slot) v25, .box 70000 88 [.d (kL kS) y35.1.l_.Names, .d (kL (kI .u32)) y35.1.l_.Up, .d (kL (kR f_api_Tok)) y35.1.toks_, .d (kI .i64) y35.1.i_, .d (kI .i64) y35.1.bad_]]) (out' := .d ((kR f_api_Slot).sig y35.2)) [(70000, 70000)] [] [1] [0] [1, 0] rfl tm (state_reader_slot.ok hy35) rfl rfl b63 oE0 rfl rfl rfl rfl rfl rfl rfl rfl) (s1 rfl) <| cp (oLit (d := (kR f_api_Slot)) el30 (by decide) rfl rfl rfl (e1 tm e0)) (s1 rfl) <| cw (oApp (n := 0) (id' := 38) el30 (by decide) rfl (by decide) hc36 tm tm) (s2 rfl rfl) <| cp (oAs tm) (s1 rfl) <| .nil) (by kernel_rfl) ?_
          refine pSeq ?_
          refine wSeq ?_
          refine wSeq ?_
          obtain ⟨y37, hy37, h⟩ := bd h
          refine rg (cp (oMv tm) (s1 rfl) <| cm (oCallS (rest := [.row 38 51 (kR f_api_Slot) (v25 ++ ([y35.2] : List api_Slot))]) (R' := [.row 38 51 (kR f_api_Slot) (v25 ++ ([y35.2] : List api_Slot)), .box 70000 88 [.d (kL kS) y37.1.l_.Names, .d (kL (kI .u32)) y37.1.l_.Up, .d (kL (kR f_api_Tok)) y37.1.toks_, .d (kI .i64) y37.1.i_, .d (kI .i64) y37.1.bad_]]) (out' := .d (kB.sig y37.2)) [(70000, 70000)] [] [1] [0] [1, 0] rfl (state_reader_is.ok hy37) b95 (oE1 tm (oE1 (cI (by decide)) (oE1 (cS (by decide)) oE0))) rfl rfl rfl rfl rfl rfl rfl rfl) (s1 rfl) <| cp (oNot tm) (s1 rfl) <| .nil) (by kernel_rfl) ?_
          refine pSeq ?_
          rcases ic h with ⟨hp38, h⟩ | ⟨hp38, h⟩
          · refine wBT hp38 tm (s1 rfl) ?_
            refine wSeq ?_
            obtain ⟨y39, hy39, h⟩ := bd h
            refine rg (cp (oMv tm) (s1 rfl) <| cm (oCallS (rest := [.row 38 51 (kR f_api_Slot) (v25 ++ ([y35.2] : List api_Slot))]) (R' := [.row 38 51 (kR f_api_Slot) (v25 ++ ([y35.2] : List api_Slot)), .box 70000 88 [.d (kL kS) y39.l_.Names, .d (kL (kI .u32)) y39.l_.Up, .d (kL (kR f_api_Tok)) y39.toks_, .d (kI .i64) y39.i_, .d (kI .i64) y39.bad_]]) (out' := .d (tup [])) [(70000, 70000)] [] [1] [0] [1, 0] rfl (state_reader_must.ok hy39) b58 (oE1 tm (oE1 (cI (by decide)) (oE1 (cS (by decide)) oE0))) rfl rfl rfl rfl rfl rfl rfl rfl) (s1 rfl) <| .nil) (by kernel_rfl) ?_
            refine pSeq ?_
            refine wExit ?_
            refine pThenX ?_
            refine pBlkO rfl ?_
            refine pThenX ?_
            refine pBlkX ?_
            refine pSub (Γ' := [(9, .v 38)]) ⟨rfl, trivial⟩ ?_
            refine pRen 38 1009 rfl ?_
            exact pJ6 _ _ _ _ _ _ (so h) ⟨rfl, trivial⟩ rfl
          · refine wBF hp38 tm (s1 rfl) ?_
            refine wSkip ?_
            refine pSeq ?_
            refine rg (cp (oMv tm) (s1 rfl) <| cp (oNilP tm) (s1 rfl) <| cp (oFldP o88_2 tm) (s1 rfl) <| cr (oLdB (n := 1) (k := 3) rfl rfl rfl t3 tm) (s1 rfl) <| cp (oAdd tm (cI (by decide))) (s1 rfl) <| cp (oNilP tm) (s1 rfl) <| cp (oFldP o88_2 tm) (s1 rfl) <| cwn (oSt (n := 1) (k := 3) rfl rfl rfl rfl z3 tm tm) (s2 rfl rfl) <| .nil) (by kernel_rfl) ?_
            refine pBlkN ?_
            refine pSub (Γ' := [(0, .p 70000 0), (2, .d ((kI .i64).sig a2)), (3, .f [70000] (sBnd 63)), (9, .v 38)]) ⟨rfl, rfl, rfl, rfl, trivial⟩ ?_
            refine pRen 38 1009 rfl ?_
            exact pLoop (lW (ih _ _ _ _ _ _ h) ⟨rfl, rfl, rfl, rfl, trivial⟩ rfl)
      · refine wCF hp32 tm (s1 rfl) ?_
        refine wExit ?_
        refine pThenX ?_
        refine pThenX ?_
        refine pBlkX ?_
        exact pJ6 _ _ _ _ _ _ (so h) ⟨rfl, trivial⟩ rfl
    · rintro x26 x27 x28 x29 x30 x31 rfl
      replace h := hk1
      refine wSeq ?_
      refine rg (cp (oMv tm) (s1 rfl) <| cp (oAs tm) (s1 rfl) <| .nil) (by kernel_rfl) ?_
      refine pSeq ?_
      refine wFrzR (n := 0) (id := 1009) [8] rfl rfl ⟨rfl, trivial⟩ ?_
      refine wRet ?_
      obtain rfl := so h
      exact pS1 [0] rfl rfl (.inl rfl) rfl (.tmp rfl <| .nil)

theorem state_From.ok {a0 : api_Lattice} {a1 : List api_Tok} {a2 : Int} {r : api_State × Int × Int} (h : state_From.f a0 a1 a2 = some r) : FnA Tryz.prog 22 [(kR f_api_Lattice).sig a0, (kL (kR f_api_Tok)).sig a1, (kI .i64).sig a2] (tup [(kR f_api_State).sig r.1, (kI .i64).sig r.2.1, (kI .i64).sig r.2.2]) := by
  refine fnIntro Tryz.func22 rfl (by kernel_rfl) fun H0 w0 => ?_
  unfold state_From.f at h
  refine wSeq ?_
  refine rg (cp (oBox tm) (s1 rfl) <| cw (oAlloc (id := 6) (ls := [.d (kI .i64) 0, .d (kI .i64) 0, .d (kL (kR f_api_Instr)) [], .d (kL (kR f_api_Atom)) [], .d (kL (kR f_api_Slot)) [], .d (kL (kR f_api_Atom)) []]) ze32 (fun g => ⟨[(.int .i64 0)], _, rfl, zI_i64 g.H, ⟨[(.int .i64 0)], _, rfl, zI_i64 g.H, ⟨[(.slice none 0 0)], _, rfl, zL g.H, ⟨[(.slice none 0 0)], _, rfl, zL g.H, ⟨[(.slice none 0 0)], _, rfl, zL g.H, ⟨[(.slice none 0 0)], _, rfl, zL g.H, rfl⟩⟩⟩⟩⟩⟩)) trivial <| cp (oAs (cI (by decide))) trivial <| cp (oAs (cI (by decide))) trivial <| .nil) (by kernel_rfl) ?_
  refine pSeq ?_
  refine wSeq ?_
  refine wSeq ?_
  obtain ⟨y1, hy1, h⟩ := bd h
  refine rg (cp (oLd t25 tm) (s1 rfl) <| cp (oCall rfl (lattice_Check.ok hy1) b16 (opds_cons tm opds_nil)) (s1 rfl) <| cp (oAs tm) (s1 rfl) <| .nil) (by kernel_rfl) ?_
  refine pSeq ?_
  refine wSeq ?_
  refine rg (cp (oMv tm) (s1 rfl) <| cp (oNe rfl tm (cI (by decide))) (s1 rfl) <| .nil) (by kernel_rfl) ?_
  refine pSeq ?_
  rcases ic h with ⟨hp2, h⟩ | ⟨hp2, h⟩
  · refine wNT hp2 tm (s1 rfl) ?_
    refine wSkip ?_
    refine pSeq ?_
    refine wSeq ?_
    obtain ⟨o1, h, hk1⟩ := bd h
    refine wJ1 (fun x6 => x6 = o1) (fun x6 => [(1, .d ((kL (kR f_api_Tok)).sig a1)), (2, .d ((kI .i64).sig a2)), (3, .d (sP (kR f_api_Lattice) a0)), (6, .p 6 0), (35, .d (kB.sig x6))]) (fun x6 => [.box 6 32 [.d (kI .i64) 0, .d (kI .i64) 0, .d (kL (kR f_api_Instr)) [], .d (kL (kR f_api_Atom)) [], .d (kL (kR f_api_Slot)) [], .d (kL (kR f_api_Atom)) []]]) ?_ ?_
    · rcases ic h with ⟨hp7, h⟩ | ⟨hp7, h⟩
      · refine rg (cp (oMv tm) (s1 rfl) <| cp (oLt rfl tm (cI (by decide))) (s1 rfl) <| cp (oMv tm) (s1 rfl) <| csB (decide_eq_true hp7) rfl rfl <| csB (decide_eq_true hp7) rfl rfl <| csB (decide_eq_true hp7) rfl rfl <| csB (decide_eq_true hp7) rfl rfl <| cp (oPkT (decide_eq_true hp7) tm cB) (s1 rfl) <| cp (oMv tm) (s1 rfl) <| csB rfl rfl rfl <| csB rfl rfl rfl <| csB rfl rfl rfl <| csB rfl rfl rfl <| csB rfl rfl rfl <| csB rfl rfl rfl <| csB rfl rfl rfl <| csB rfl rfl rfl <| cp (oPkT rfl tm cB) (s1 rfl) <| .nil) (by kernel_rfl) ?_
        exact pJ1 _ (so h) ⟨rfl, rfl, rfl, rfl, rfl, trivial⟩ rfl
      · rcases ic h with ⟨hp8, h⟩ | ⟨hp8, h⟩
        · refine rg (cp (oMv tm) (s1 rfl) <| cp (oLt rfl tm (cI (by decide))) (s1 rfl) <| cp (oMv tm) (s1 rfl) <| cgB (decide_eq_false hp7) rfl rfl (oMv tm) (s1 rfl) <| cgB (decide_eq_false hp7) rfl rfl (oMv tm) (s1 rfl) <| cgB (decide_eq_false hp7) rfl rfl (oLenL u53 tm) (s1 rfl) <| cgB (decide_eq_false hp7) rfl rfl (oGe rfl tm tm) (s2 rfl rfl) <| cp (oPkF (decide_eq_false hp7) tm tm) (s2 rfl rfl) <| cp (oMv tm) (s1 rfl) <| csB (decide_eq_true hp8) rfl rfl <| csB (decide_eq_true hp8) rfl rfl <| csB (decide_eq_true hp8) rfl rfl <| csB (decide_eq_true hp8) rfl rfl <| csB (decide_eq_true hp8) rfl rfl <| csB (decide_eq_true hp8) rfl rfl <| csB (decide_eq_true hp8) rfl rfl <| csB (decide_eq_true hp8) rfl rfl <| cp (oPkT (decide_eq_true hp8) tm cB) (s1 rfl) <| .nil) (by kernel_rfl) ?_
          exact pJ1 _ (so h) ⟨rfl, rfl, rfl, rfl, rfl, trivial⟩ rfl
        · obtain ⟨y9, hy9, h⟩ := bd h
          refine rg (cp (oMv tm) (s1 rfl) <| cp (oLt rfl tm (cI (by decide))) (s1 rfl) <| cp (oMv tm) (s1 rfl) <| cgB (decide_eq_false hp7) rfl rfl (oMv tm) (s1 rfl) <| cgB (decide_eq_false hp7) rfl rfl (oMv tm) (s1 rfl) <| cgB (decide_eq_false hp7) rfl rfl (oLenL u53 tm) (s1 rfl) <| cgB (decide_eq_false hp7) rfl rfl (oGe rfl tm tm) (s2 rfl rfl) <| cp (oPkF (decide_eq_false hp7) tm tm) (s2 rfl rfl) <| cp (oMv tm) (s1 rfl) <| cgB (decide_eq_false hp8) rfl rfl (oMv tm) (s1 rfl) <| cgB (decide_eq_false hp8) rfl rfl (oMv tm) (s1 rfl) <| cgB (decide_eq_false hp8) rfl rfl (oLenL u53 tm) (s1 rfl) <| cgB (decide_eq_false hp8) rfl rfl (oSub tm (cI (by decide))) (s1 rfl) <| cgB (decide_eq_false hp8) rfl rfl (oIdx u53 z58 hy9 tm tm) (s2 rfl rfl) <| cgB (decide_eq_false hp8) rfl rfl (oFld (fs := f_api_Tok) (k := 0) rfl o58_0 tm) (s1 rfl) <| cgB (decide_eq_false hp8) rfl rfl (oLd t3 tm) (s1 rfl) <| cgB (decide_eq_false hp8) rfl rfl (oNe rfl tm (cI (by decide))) (s1 rfl) <| cp (oPkF (decide_eq_false hp8) tm tm) (s2 rfl rfl) <| .nil) (by kernel_rfl) ?_
          exact pJ1 _ (so h) ⟨rfl, rfl, rfl, rfl, rfl, trivial⟩ rfl
    · rintro x6 rfl
      replace h := hk1
      rcases ic h with ⟨hp10, h⟩ | ⟨hp10, h⟩
      · refine wBT hp10 tm (s1 rfl) ?_
        refine wSeq ?_
        refine rg (cp (oBuild (fs := f_api_State) (u := ⟨(⟨0, 0⟩ : api_Atom), [], [], [], []⟩) rfl ze32 pl32 po32 (.ze (zc := [(.int .i64 0), (.int .i64 0)]) zR_api_Atom (.ze (zc := [(.slice none 0 0)]) zL (.ze (zc := [(.slice none 0 0)]) zL (.ze (zc := [(.slice none 0 0)]) zL (.ze (zc := [(.slice none 0 0)]) zL .nil)))))) trivial <| cwn (oStP (n := 0) (k := 0) (m := 6) (d := (kR f_api_State)) (u := (⟨(⟨0, 0⟩ : api_Atom), [], [], [], []⟩ : api_State)) (lfS (lfC (lfS (lfC lf1 (lfC lf1 lfN))) (lfC lf1 (lfC lf1 (lfC lf1 (lfC lf1 lfN)))))) rfl rfl rfl z32 tm tm) (s2 rfl rfl) <| cp (oAs (cI (by decide))) trivial <| cp (oAs (cI (by decide))) trivial <| .nil) (by kernel_rfl) ?_
        refine pSeq ?_
        refine wRet ?_
        refine pThenR ?_
        obtain rfl := so h
        exact pRn (.inl rfl) rfl rfl (.boxP (n := 0) (d := (kR f_api_State)) (u := (⟨⟨0, 0⟩, [], [], [], []⟩ : api_State)) rfl rfl (lfS (lfC (lfS (lfC lf1 (lfC lf1 lfN))) (lfC lf1 (lfC lf1 (lfC lf1 (lfC lf1 lfN)))))) rfl t32 <| .tmp rfl <| .tmp rfl <| .nil)
      · refine wBF hp10 tm (s1 rfl) ?_
        refine wSkip ?_
        refine pSeq ?_
        refine wSeq ?_
        refine rg (cp (oLd t25 tm) (s1 rfl) <| cp (oMv tm) (s1 rfl) <| cp (oMv tm) (s1 rfl) <| cp (oBuild (fs := f_state_reader) (u := ⟨a0, a1, a2, 0⟩) rfl ze88 pl88 po88 (.op (zc := [(.slice none 0 0), (.slice none 0 0)]) tm rfl (.op (zc := [(.slice none 0 0)]) tm rfl (.op (zc := [(.int .i64 0)]) tm rfl (.ze (zc := [(.int .i64 0)]) zI_i64 .nil))))) (s3 rfl rfl rfl) <| cw (oBoxP (id := 41) (d := (kR f_state_reader)) (ls := [.d (kL kS) a0.Names, .d (kL (kI .u32)) a0.Up, .d (kL (kR f_api_Tok)) a1, .d (kI .i64) a2, .d (kI .i64) 0]) (lfS (lfC (lfS (lfC lf1 (lfC lf1 lfN))) (lfC lf1 (lfC lf1 (lfC lf1 lfN))))) rfl tm) (s1 rfl) <| cp (oAs tm) (s1 rfl) <| .nil) (by kernel_rfl) ?_
        refine pSeq ?_
        refine wSeq ?_
        refine rg (cw (oAlloc (id := 11) (ls := [.d (kI .i64) 0, .d (kI .i64) 0, .d (kL (kR f_api_Instr)) [], .d (kL (kR f_api_Atom)) [], .d (kL (kR f_api_Slot)) [], .d (kL (kR f_api_Atom)) []]) ze32 (fun g => ⟨[(.int .i64 0)], _, rfl, zI_i64 g.H, ⟨[(.int .i64 0)], _, rfl, zI_i64 g.H, ⟨[(.slice none 0 0)], _, rfl, zL g.H, ⟨[(.slice none 0 0)], _, rfl, zL g.H, ⟨[(.slice none 0 0)], _, rfl, zL g.H, ⟨[(.slice none 0 0)], _, rfl, zL g.H, rfl⟩⟩⟩⟩⟩⟩)) trivial <| .nil) (by kernel_rfl) ?_
        refine pSeq ?_
        refine wSeq ?_
        obtain ⟨y11, hy11, h⟩ := bd h
        refine rg (cp (oMv tm) (s1 rfl) <| cm (oCallS (rest := [.box 11 32 [.d (kI .i64) 0, .d (kI .i64) 0, .d (kL (kR f_api_Instr)) [], .d (kL (kR f_api_Atom)) [], .d (kL (kR f_api_Slot)) [], .d (kL (kR f_api_Atom)) []], .box 6 32 [.d (kI .i64) 0, .d (kI .i64) 0, .d (kL (kR f_api_Instr)) [], .d (kL (kR f_api_Atom)) [], .d (kL (kR f_api_Slot)) [], .d (kL (kR f_api_Atom)) []]]) (R' := [.box 11 32 [.d (kI .i64) 0, .d (kI .i64) 0, .d (kL (kR f_api_Instr)) [], .d (kL (kR f_api_Atom)) [], .d (kL (kR f_api_Slot)) [], .d (kL (kR f_api_Atom)) []], .box 41 88 [.d (kL kS) y11.l_.Names, .d (kL (kI .u32)) y11.l_.Up, .d (kL (kR f_api_Tok)) y11.toks_, .d (kI .i64) y11.i_, .d (kI .i64) y11.bad_], .box 6 32 [.d (kI .i64) 0, .d (kI .i64) 0, .d (kL (kR f_api_Instr)) [], .d (kL (kR f_api_Atom)) [], .d (kL (kR f_api_Slot)) [], .d (kL (kR f_api_Atom)) []]]) (out' := .d (tup [])) [(70000, 41)] [] [1] [0, 2] [1, 0, 2] rfl (state_reader_must.ok hy11) b58 (oE1 tm (oE1 (cI (by decide)) (oE1 (cS (by decide)) oE0))) rfl rfl rfl rfl rfl rfl rfl rfl) (s1 rfl) <| .nil) (by kernel_rfl) ?_
        refine pSeq ?_
        refine wSeq ?_
        obtain ⟨y12, hy12, h⟩ := bd h
        refine rg (cp (oMv tm) (s1 rfl) <| cm (oCallS (rest := [.box 11 32 [.d (kI .i64) 0, .d (kI .i64) 0, .d (kL (kR f_api_Instr)) [], .d (kL (kR f_api_Atom)) [], .d (kL (kR f_api_Slot)) [], .d (kL (kR f_api_Atom)) []], .box 6 32 [.d (kI .i64) 0, .d (kI .i64) 0, .d (kL (kR f_api_Instr)) [], .d (kL (kR f_api_Atom)) [], .d (kL (kR f_api_Slot)) [], .d (kL (kR f_api_Atom)) []]]) (R' := [.box 11 32 [.d (kI .i64) 0, .d (kI .i64) 0, .d (kL (kR f_api_Instr)) [], .d (kL (kR f_api_Atom)) [], .d (kL (kR f_api_Slot)) [], .d (kL (kR f_api_Atom)) []], .box 41 88 [.d (kL kS) y12.1.l_.Names, .d (kL (kI .u32)) y12.1.l_.Up, .d (kL (kR f_api_Tok)) y12.1.toks_, .d (kI .i64) y12.1.i_, .d (kI .i64) y12.1.bad_], .box 6 32 [.d (kI .i64) 0, .d (kI .i64) 0, .d (kL (kR f_api_Instr)) [], .d (kL (kR f_api_Atom)) [], .d (kL (kR f_api_Slot)) [], .d (kL (kR f_api_Atom)) []]]) (out' := .d ((kR f_api_Atom).sig y12.2)) [(70000, 41)] [] [1] [0, 2] [1, 0, 2] rfl (state_reader_atom.ok hy12) b59 (oE1 tm oE0) rfl rfl rfl rfl rfl rfl rfl rfl) (s1 rfl) <| cp (oFldP o32_0 tm) (s1 rfl) <| cwn (oStP (n := 0) (k := 0) (m := 2) (d := (kR f_api_Atom)) (u := y12.2) (lfS (lfC lf1 (lfC lf1 lfN))) rfl rfl rfl z27 tm tm) (s2 rfl rfl) <| .nil) (by kernel_rfl) ?_
        refine pSeq ?_
        refine wSeq ?_
        obtain ⟨y13, hy13, h⟩ := bd h
        refine rg (cp (oMv tm) (s1 rfl) <| cm (oCallS (rest := [.box 11 32 [.d (kI .i64) y12.2.V, .d (kI .i64) y12.2.L, .d (kL (kR f_api_Instr)) [], .d (kL (kR f_api_Atom)) [], .d (kL (kR f_api_Slot)) [], .d (kL (kR f_api_Atom)) []], .box 6 32 [.d (kI .i64) 0, .d (kI .i64) 0, .d (kL (kR f_api_Instr)) [], .d (kL (kR f_api_Atom)) [], .d (kL (kR f_api_Slot)) [], .d (kL (kR f_api_Atom)) []]]) (R' := [.box 11 32 [.d (kI .i64) y12.2.V, .d (kI .i64) y12.2.L, .d (kL (kR f_api_Instr)) [], .d (kL (kR f_api_Atom)) [], .d (kL (kR f_api_Slot)) [], .d (kL (kR f_api_Atom)) []], .box 41 88 [.d (kL kS) y13.l_.Names, .d (kL (kI .u32)) y13.l_.Up, .d (kL (kR f_api_Tok)) y13.toks_, .d (kI .i64) y13.i_, .d (kI .i64) y13.bad_], .box 6 32 [.d (kI .i64) 0, .d (kI .i64) 0, .d (kL (kR f_api_Instr)) [], .d (kL (kR f_api_Atom)) [], .d (kL (kR f_api_Slot)) [], .d (kL (kR f_api_Atom)) []]]) (out' := .d (tup [])) [(70000, 41)] [] [1] [0, 2] [1, 0, 2] rfl (state_reader_must.ok hy13) b58 (oE1 tm (oE1 (cI (by decide)) (oE1 (cS (by decide)) oE0))) rfl rfl rfl rfl rfl rfl rfl rfl) (s1 rfl) <| .nil) (by kernel_rfl) ?_
        refine pSeq ?_
        refine wSeq ?_
        obtain ⟨y14, hy14, h⟩ := bd h
        refine rg (cp (oMv tm) (s1 rfl) <| cm (oCallS (rest := [.box 11 32 [.d (kI .i64) y12.2.V, .d (kI .i64) y12.2.L, .d (kL (kR f_api_Instr)) [], .d (kL (kR f_api_Atom)) [], .d (kL (kR f_api_Slot)) [], .d (kL (kR f_api_Atom)) []], .box 6 32 [.d (kI .i64) 0, .d (kI .i64) 0, .d (kL (kR f_api_Instr)) [], .d (kL (kR f_api_Atom)) [], .d (kL (kR f_api_Slot)) [], .d (kL (kR f_api_Atom)) []]]) (R' := [.box 11 32 [.d (kI .i64) y12.2.V, .d (kI .i64) y12.2.L, .d (kL (kR f_api_Instr)) [], .d (kL (kR f_api_Atom)) [], .d (kL (kR f_api_Slot)) [], .d (kL (kR f_api_Atom)) []], .box 41 88 [.d (kL kS) y14.1.l_.Names, .d (kL (kI .u32)) y14.1.l_.Up, .d (kL (kR f_api_Tok)) y14.1.toks_, .d (kI .i64) y14.1.i_, .d (kI .i64) y14.1.bad_], .box 6 32 [.d (kI .i64) 0, .d (kI .i64) 0, .d (kL (kR f_api_Instr)) [], .d (kL (kR f_api_Atom)) [], .d (kL (kR f_api_Slot)) [], .d (kL (kR f_api_Atom)) []]]) (out' := .d ((kL (kR f_api_Instr)).sig y14.2)) [(70000, 41)] [] [1] [0, 2] [1, 0, 2] rfl (state_reader_program.ok hy14) b60 (oE1 tm oE0) rfl rfl rfl rfl rfl rfl rfl rfl) (s1 rfl) <| cp (oFldP o32_1 tm) (s1 rfl) <| cwn (oSt (n := 0) (k := 2) rfl rfl rfl rfl z28 tm tm) (s2 rfl rfl) <| .nil) (by kernel_rfl) ?_
        refine pSeq ?_
        refine wSeq ?_
        obtain ⟨y15, hy15, h⟩ := bd h
        refine rg (cp (oMv tm) (s1 rfl) <| cp (oMv tm) (s1 rfl) <| cp (oMkB tm) (s1 rfl) <| cm (oCallS (rest := [.box 11 32 [.d (kI .i64) y12.2.V, .d (kI .i64) y12.2.L, .d (kL (kR f_api_Instr)) y14.2, .d (kL (kR f_api_Atom)) [], .d (kL (kR f_api_Slot)) [], .d (kL (kR f_api_Atom)) []], .box 6 32 [.d (kI .i64) 0, .d (kI .i64) 0, .d (kL (kR f_api_Instr)) [], .d (kL (kR f_api_Atom)) [], .d (kL (kR f_api_Slot)) [], .d (kL (kR f_api_Atom)) []]]) (R' := [.box 11 32 [.d (kI .i64) y12.2.V, .d (kI .i64) y12.2.L, .d (kL (kR f_api_Instr)) y14.2, .d (kL (kR f_api_Atom)) [], .d (kL (kR f_api_Slot)) [], .d (kL (kR f_api_Atom)) []], .box 41 88 [.d (kL kS) y15.1.l_.Names, .d (kL (kI .u32)) y15.1.l_.Up, .d (kL (kR f_api_Tok)) y15.1.toks_, .d (kI .i64) y15.1.i_, .d (kI .i64) y15.1.bad_], .box 6 32 [.d (kI .i64) 0, .d (kI .i64) 0, .d (kL (kR f_api_Instr)) [], .d (kL (kR f_api_Atom)) [], .d (kL (kR f_api_Slot)) [], .d (kL (kR f_api_Atom)) []]]) (out' := .d ((kL (kR f_api_Atom)).sig y15.2)) [(70000, 41)] [] [1] [0, 2] [1, 0, 2] rfl (state_row_api_Atom_atom.ok hy15) b61 (oE1 tm (oE1 (cS (by decide)) (oE1 (cI (by decide)) (oE1 tm oE0)))) rfl rfl rfl rfl rfl rfl rfl rfl) (s2 rfl rfl) <| cp (oFldP o32_2 tm) (s1 rfl) <| cwn (oSt (n := 0) (k := 3) rfl rfl rfl rfl z29 tm tm) (s2 rfl rfl) <| .nil) (by kernel_rfl) ?_
        refine pSeq ?_
        refine wSeq ?_
        obtain ⟨y16, hy16, h⟩ := bd h
        refine rg (cp (oMv tm) (s1 rfl) <| cp (oMv tm) (s1 rfl) <| cp (oMkB tm) (s1 rfl) <| cm (oCallS (rest := [.box 11 32 [.d (kI .i64) y12.2.V, .d (kI .i64) y12.2.L, .d (kL (kR f_api_Instr)) y14.2, .d (kL (kR f_api_Atom)) y15.2, .d (kL (kR f_api_Slot)) [], .d (kL (kR f_api_Atom)) []], .box 6 32 [.d (kI .i64) 0, .d (kI .i64) 0, .d (kL (kR f_api_Instr)) [], .d (kL (kR f_api_Atom)) [], .d (kL (kR f_api_Slot)) [], .d (kL (kR f_api_Atom)) []]]) (R' := [.box 11 32 [.d (kI .i64) y12.2.V, .d (kI .i64) y12.2.L, .d (kL (kR f_api_Instr)) y14.2, .d (kL (kR f_api_Atom)) y15.2, .d (kL (kR f_api_Slot)) [], .d (kL (kR f_api_Atom)) []], .box 41 88 [.d (kL kS) y16.1.l_.Names, .d (kL (kI .u32)) y16.1.l_.Up, .d (kL (kR f_api_Tok)) y16.1.toks_, .d (kI .i64) y16.1.i_, .d (kI .i64) y16.1.bad_], .box 6 32 [.d (kI .i64) 0, .d (kI .i64) 0, .d (kL (kR f_api_Instr)) [], .d (kL (kR f_api_Atom)) [], .d (kL (kR f_api_Slot)) [], .d (kL (kR f_api_Atom)) []]]) (out' := .d ((kL (kR f_api_Slot)).sig y16.2)) [(70000, 41)] [] [1] [0, 2] [1, 0, 2] rfl (state_row_api_Slot_slot.ok hy16) b62 (oE1 tm (oE1 (cS (by decide)) (oE1 (cI (by decide)) (oE1 tm oE0)))) rfl rfl rfl rfl rfl rfl rfl rfl) (s2 rfl rfl) <| cp (oFldP o32_3 tm) (s1 rfl) <| cwn (oSt (n := 0) (k := 4) rfl rfl rfl rfl z30 tm tm) (s2 rfl rfl) <| .nil) (by kernel_rfl) ?_
        refine pSeq ?_
        refine wSeq ?_
        obtain ⟨y17, hy17, h⟩ := bd h
        refine rg (cp (oMv tm) (s1 rfl) <| cp (oMv tm) (s1 rfl) <| cp (oMkB tm) (s1 rfl) <| cm (oCallS (rest := [.box 11 32 [.d (kI .i64) y12.2.V, .d (kI .i64) y12.2.L, .d (kL (kR f_api_Instr)) y14.2, .d (kL (kR f_api_Atom)) y15.2, .d (kL (kR f_api_Slot)) y16.2, .d (kL (kR f_api_Atom)) []], .box 6 32 [.d (kI .i64) 0, .d (kI .i64) 0, .d (kL (kR f_api_Instr)) [], .d (kL (kR f_api_Atom)) [], .d (kL (kR f_api_Slot)) [], .d (kL (kR f_api_Atom)) []]]) (R' := [.box 11 32 [.d (kI .i64) y12.2.V, .d (kI .i64) y12.2.L, .d (kL (kR f_api_Instr)) y14.2, .d (kL (kR f_api_Atom)) y15.2, .d (kL (kR f_api_Slot)) y16.2, .d (kL (kR f_api_Atom)) []], .box 41 88 [.d (kL kS) y17.1.l_.Names, .d (kL (kI .u32)) y17.1.l_.Up, .d (kL (kR f_api_Tok)) y17.1.toks_, .d (kI .i64) y17.1.i_, .d (kI .i64) y17.1.bad_], .box 6 32 [.d (kI .i64) 0, .d (kI .i64) 0, .d (kL (kR f_api_Instr)) [], .d (kL (kR f_api_Atom)) [], .d (kL (kR f_api_Slot)) [], .d (kL (kR f_api_Atom)) []]]) (out' := .d ((kL (kR f_api_Atom)).sig y17.2)) [(70000, 41)] [] [1] [0, 2] [1, 0, 2] rfl (state_row_api_Atom_atom.ok hy17) b61 (oE1 tm (oE1 (cS (by decide)) (oE1 (cI (by decide)) (oE1 tm oE0)))) rfl rfl rfl rfl rfl rfl rfl rfl) (s2 rfl rfl) <| cp (oFldP o32_4 tm) (s1 rfl) <| cwn (oSt (n := 0) (k := 5) rfl rfl rfl rfl z29 tm tm) (s2 rfl rfl) <| .nil) (by kernel_rfl) ?_
        refine pSeq ?_
        refine wSeq ?_
        refine wBlock ?_
        refine wSeq ?_
        refine rg (cp (oMv tm) (s1 rfl) <| cp (oNilP tm) (s1 rfl) <| cp (oFldP o88_3 tm) (s1 rfl) <| cr (oLdB (n := 1) (k := 4) rfl rfl rfl t35 tm) (s1 rfl) <| cp (oNe rfl tm (cI (by decide))) (s1 rfl) <| cp (oAs tm) (s1 rfl) <| .nil) (by kernel_rfl) ?_
        refine pSeq ?_
        rcases ic h with ⟨hp18, h⟩ | ⟨hp18, h⟩
        · refine wNT hp18 tm (s1 rfl) ?_
          refine wSeq ?_
          obtain ⟨y19, hy19, h⟩ := bd h
          refine rg (cp (oLd t25 tm) (s1 rfl) <| cr (oLdP (n := 0) (k := 0) (m := 6) (d := (kR f_api_State)) (u := (⟨y12.2, y14.2, y15.2, y16.2, y17.2⟩ : api_State)) (lfS (lfC (lfS (lfC lf1 (lfC lf1 lfN))) (lfC lf1 (lfC lf1 (lfC lf1 (lfC lf1 lfN)))))) rfl rfl rfl t32 tm) (s1 rfl) <| cp (oCall rfl (state_Right.ok hy19) b11 (opds_cons tm (opds_cons tm opds_nil))) (s2 rfl rfl) <| cp (oNot tm) (s1 rfl) <| cp (oAs tm) (s1 rfl) <| .nil) (by kernel_rfl) ?_
          refine pSeq ?_
          rcases ic h with ⟨hp20, h⟩ | ⟨hp20, h⟩
          · refine wBT hp20 tm (s1 rfl) ?_
            refine wSeq ?_
            refine rg (cp (oBuild (fs := f_api_State) (u := ⟨(⟨0, 0⟩ : api_Atom), [], [], [], []⟩) rfl ze32 pl32 po32 (.ze (zc := [(.int .i64 0), (.int .i64 0)]) zR_api_Atom (.ze (zc := [(.slice none 0 0)]) zL (.ze (zc := [(.slice none 0 0)]) zL (.ze (zc := [(.slice none 0 0)]) zL (.ze (zc := [(.slice none 0 0)]) zL .nil)))))) trivial <| cp (oMv tm) (s1 rfl) <| cwn (oStP (n := 2) (k := 0) (m := 6) (d := (kR f_api_State)) (u := (⟨(⟨0, 0⟩ : api_Atom), [], [], [], []⟩ : api_State)) (lfS (lfC (lfS (lfC lf1 (lfC lf1 lfN))) (lfC lf1 (lfC lf1 (lfC lf1 (lfC lf1 lfN)))))) rfl rfl rfl z32 tm tm) (s2 rfl rfl) <| cp (oAs tm) (s1 rfl) <| cp (oAs (cI (by decide))) trivial <| .nil) (by kernel_rfl) ?_
            refine pSeq ?_
            refine wRet ?_
            refine pBlkR ?_
            refine pThenR ?_
            obtain rfl := so h
            exact pRn (.inl rfl) rfl rfl (.boxP (n := 2) (d := (kR f_api_State)) (u := (⟨⟨0, 0⟩, [], [], [], []⟩ : api_State)) rfl rfl (lfS (lfC (lfS (lfC lf1 (lfC lf1 lfN))) (lfC lf1 (lfC lf1 (lfC lf1 (lfC lf1 lfN)))))) rfl t32 <| .tmp rfl <| .tmp rfl <| .nil)
          · refine wBF hp20 tm (s1 rfl) ?_
            refine wSkip ?_
            refine pBlkN ?_
            refine pSeq ?_
            refine wSeq ?_
            refine wFrzP 10 (n := 1) (id := 41) (d := (kR f_state_reader)) (u := y17.1) rfl (lfS (lfC (lfS (lfC lf1 (lfC lf1 lfN))) (lfC lf1 (lfC lf1 (lfC lf1 lfN))))) rfl rfl ?_
            refine rgD hm (cr (oLdP (n := 0) (k := 0) (m := 6) (d := (kR f_api_State)) (u := (⟨y12.2, y14.2, y15.2, y16.2, y17.2⟩ : api_State)) (lfS (lfC (lfS (lfC lf1 (lfC lf1 lfN))) (lfC lf1 (lfC lf1 (lfC lf1 (lfC lf1 lfN)))))) rfl rfl rfl t32 tm) (s1 rfl) <| cp (oMv tm) (s1 rfl) <| cp (oNilS tm) (s1 rfl) <| cp (oFld (fs := f_state_reader) (k := 2) rfl o88_2 tm) (s1 rfl) <| cp (oLd t3 tm) (s1 rfl) <| cwn (oStP (n := 1) (k := 0) (m := 6) (d := (kR f_api_State)) (u := (⟨y12.2, y14.2, y15.2, y16.2, y17.2⟩ : api_State)) (lfS (lfC (lfS (lfC lf1 (lfC lf1 lfN))) (lfC lf1 (lfC lf1 (lfC lf1 (lfC lf1 lfN)))))) rfl rfl rfl z32 tm tm) (s2 rfl rfl) <| cp (oAs tm) (s1 rfl) <| cp (oAs (cI (by decide))) trivial <| .nil) (by kernel_rfl) (by kernel_rfl) ?_
            refine pSeq ?_
            refine wRet ?_
            obtain rfl := so h
            exact pRn (.inl rfl) rfl rfl (.boxP (n := 1) (d := (kR f_api_State)) (u := (⟨y12.2, y14.2, y15.2, y16.2, y17.2⟩ : api_State)) rfl rfl (lfS (lfC (lfS (lfC lf1 (lfC lf1 lfN))) (lfC lf1 (lfC lf1 (lfC lf1 (lfC lf1 lfN)))))) rfl t32 <| .tmp rfl <| .tmp rfl <| .nil)
        · refine wNF hp18 tm (s1 rfl) ?_
          refine wSeq ?_
          refine wFrzP 10 (n := 1) (id := 41) (d := (kR f_state_reader)) (u := y17.1) rfl (lfS (lfC (lfS (lfC lf1 (lfC lf1 lfN))) (lfC lf1 (lfC lf1 (lfC lf1 lfN))))) rfl rfl ?_
          refine rgD hm (cp (oBuild (fs := f_api_State) (u := ⟨(⟨0, 0⟩ : api_Atom), [], [], [], []⟩) rfl ze32 pl32 po32 (.ze (zc := [(.int .i64 0), (.int .i64 0)]) zR_api_Atom (.ze (zc := [(.slice none 0 0)]) zL (.ze (zc := [(.slice none 0 0)]) zL (.ze (zc := [(.slice none 0 0)]) zL (.ze (zc := [(.slice none 0 0)]) zL .nil)))))) trivial <| cp (oMv tm) (s1 rfl) <| cp (oNilS tm) (s1 rfl) <| cp (oFld (fs := f_state_reader) (k := 2) rfl o88_2 tm) (s1 rfl) <| cp (oLd t3 tm) (s1 rfl) <| cp (oMv tm) (s1 rfl) <| cp (oNilS tm) (s1 rfl) <| cp (oFld (fs := f_state_reader) (k := 3) rfl o88_3 tm) (s1 rfl) <| cp (oLd t35 tm) (s1 rfl) <| cwn (oStP (n := 1) (k := 0) (m := 6) (d := (kR f_api_State)) (u := (⟨(⟨0, 0⟩ : api_Atom), [], [], [], []⟩ : api_State)) (lfS (lfC (lfS (lfC lf1 (lfC lf1 lfN))) (lfC lf1 (lfC lf1 (lfC lf1 (lfC lf1 lfN)))))) rfl rfl rfl z32 tm tm) (s2 rfl rfl) <| cp (oAs tm) (s1 rfl) <| cp (oAs tm) (s1 rfl) <| .nil) (by kernel_rfl) (by kernel_rfl) ?_
          refine pSeq ?_
          refine wRet ?_
          refine pBlkR ?_
          refine pThenR ?_
          obtain rfl := so h
          exact pRn (.inl rfl) rfl rfl (.boxP (n := 1) (d := (kR f_api_State)) (u := (⟨⟨0, 0⟩, [], [], [], []⟩ : api_State)) rfl rfl (lfS (lfC (lfS (lfC lf1 (lfC lf1 lfN))) (lfC lf1 (lfC lf1 (lfC lf1 (lfC lf1 lfN)))))) rfl t32 <| .tmp rfl <| .tmp rfl <| .nil)
  · refine wNF hp2 tm (s1 rfl) ?_
    refine wSeq ?_
    refine rg (cp (oBuild (fs := f_api_State) (u := ⟨(⟨0, 0⟩ : api_Atom), [], [], [], []⟩) rfl ze32 pl32 po32 (.ze (zc := [(.int .i64 0), (.int .i64 0)]) zR_api_Atom (.ze (zc := [(.slice none 0 0)]) zL (.ze (zc := [(.slice none 0 0)]) zL (.ze (zc := [(.slice none 0 0)]) zL (.ze (zc := [(.slice none 0 0)]) zL .nil)))))) trivial <| cp (oMv tm) (s1 rfl) <| cwn (oStP (n := 0) (k := 0) (m := 6) (d := (kR f_api_State)) (u := (⟨(⟨0, 0⟩ : api_Atom), [], [], [], []⟩ : api_State)) (lfS (lfC (lfS (lfC lf1 (lfC lf1 lfN))) (lfC lf1 (lfC lf1 (lfC lf1 (lfC lf1 lfN)))))) rfl rfl rfl z32 tm tm) (s2 rfl rfl) <| cp (oAs (cI (by decide))) trivial <| cp (oAs tm) (s1 rfl) <| .nil) (by kernel_rfl) ?_
    refine pSeq ?_
    refine wRet ?_
    refine pThenR ?_
    obtain rfl := so h
    exact pRn (.inl rfl) rfl rfl (.boxP (n := 0) (d := (kR f_api_State)) (u := (⟨⟨0, 0⟩, [], [], [], []⟩ : api_State)) rfl rfl (lfS (lfC (lfS (lfC lf1 (lfC lf1 lfN))) (lfC lf1 (lfC lf1 (lfC lf1 (lfC lf1 lfN)))))) rfl t32 <| .tmp rfl <| .tmp rfl <| .nil)

end Go.Proofs.YtkcpghpglhamfaaGreatDoor.SK
