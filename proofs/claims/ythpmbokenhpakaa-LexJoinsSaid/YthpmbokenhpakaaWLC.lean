import Derived.Test.YthpmbokenhpakaaShelf
import Derived.Test.YthpmbokenhpakaaDLC
import Derived.Test.YthpmbokenhpakaaProg
set_option linter.unusedVariables false
set_option maxRecDepth 10000
namespace Go.Proofs.Ythpmbokenhpakaa.LC
open Go Go.Proofs.Ythpmbokenhpakaa.Ab

theorem hm : Try.prog.follows .mixedOrders = true := by kernel_rfl
theorem u9 : Try.prog.underlying 9 = some (.string) := by kernel_rfl
theorem b133 : bodied Try.prog 133 := by unfold bodied; kernel_rfl
theorem b118 : bodied Try.prog 118 := by unfold bodied; kernel_rfl
theorem b117 : bodied Try.prog 117 := by unfold bodied; kernel_rfl
theorem b119 : bodied Try.prog 119 := by unfold bodied; kernel_rfl
theorem b120 : bodied Try.prog 120 := by unfold bodied; kernel_rfl
theorem b121 : bodied Try.prog 121 := by unfold bodied; kernel_rfl
theorem b122 : bodied Try.prog 122 := by unfold bodied; kernel_rfl
theorem b90 : bodied Try.prog 90 := by unfold bodied; kernel_rfl
theorem pl36 : places Try.prog 36 = some [(0, 1), (1, 1), (2, 1)] := by kernel_rfl
theorem po36 : ∀ q f, f_api_Tok[q]? = some f → ([(0, 1), (1, 1), (2, 1)] : List (Nat × Nat))[q]? = some (offF f_api_Tok q, f.d.sz) := fun q f h => by
  unfold f_api_Tok at h
  match q, h with
  | 0, h => cases h; rfl
  | 1, h => cases h; rfl
  | 2, h => cases h; rfl
  | n + 3, h => simp at h
theorem ze36 : zeroIs Try.prog 36 [(.int .i64 0), (.string ⟨⟨[]⟩⟩), (.int .i64 0)] := by unfold zeroIs; kernel_rfl
theorem el34 : ElTy Try.prog 34 36 3 32 := ⟨by kernel_rfl, by kernel_rfl⟩
theorem zS : ∀ H, kS.reps H [.string ⟨⟨[]⟩⟩] [] := fun _ => ⟨rfl, by decide⟩
theorem zI_i64 : ∀ H, (kI .i64).reps H [.int .i64 0] 0 := fun _ => ⟨rfl, by decide⟩
theorem u34 : Try.prog.underlying 34 = some (.slice 36) := by kernel_rfl
theorem z36 : sizeIs Try.prog 36 3 := by unfold sizeIs; kernel_rfl
theorem t36 : tinf Try.prog 36 = some (true, 3) := by kernel_rfl
theorem o36_1 : fofs Try.prog 36 1 = some 1 := by kernel_rfl
theorem t9 : tinf Try.prog 9 = some (false, 1) := by kernel_rfl
theorem el39 : ElTy Try.prog 39 9 1 16 := ⟨by kernel_rfl, by kernel_rfl⟩
theorem b68 : bodied Try.prog 68 := by unfold bodied; kernel_rfl
theorem b57 : bodied Try.prog 57 := by unfold bodied; kernel_rfl
theorem b23 : bodied Try.prog 23 := by unfold bodied; kernel_rfl
theorem z9 : sizeIs Try.prog 9 1 := by unfold sizeIs; kernel_rfl
theorem b22 : bodied Try.prog 22 := by unfold bodied; kernel_rfl
theorem b24 : bodied Try.prog 24 := by unfold bodied; kernel_rfl

theorem lex_while.ok {a0 : Str} {a1 : Int → Option Bool} {r : Int} (h : lex_while.f a0 a1 = some r) : FnA Try.prog 117 [kS.sig a0, (sFun Try.prog (rl1 (kI .u8) kB a1))] ((kI .i64).sig r) := by
  refine fnIntro Try.func117 rfl (by kernel_rfl) fun H0 w0 => ?_
  unfold lex_while.f at h
  refine wSeq ?_
  refine rg (cp (oAs (cI (by decide))) trivial <| .nil) (by kernel_rfl) ?_
  refine pSeq ?_
  refine wSeq ?_
  refine rg (cp (oAs (cI (by decide))) trivial <| .nil) (by kernel_rfl) ?_
  refine pSeq ?_
  obtain ⟨o1, h, hk1⟩ := bd h
  refine wJ1 (fun x18 => x18 = o1) (fun x18 => [(5, .d ((kI .i64).sig x18))]) (fun x18 => []) ?_ ?_
  · refine wBlock (wLoop ?_)
    refine lW (pc1 o1 (fun v17 => [(0, .d (kS.sig a0)), (1, .d ((sFun Try.prog (rl1 (kI .u8) kB a1)))), (5, .d ((kI .i64).sig v17))]) (fun v17 => []) (lex_while.l0.partial_correctness a0 a1) ?_ _ h) ⟨rfl, rfl, rfl, trivial⟩ rfl
    clear h
    intro f' ih v17 h
    refine wSeq ?_
    obtain ⟨o2, h, hk2⟩ := bd h
    refine wJ1 (fun x22 => x22 = o2) (fun x22 => [(0, .d (kS.sig a0)), (1, .d ((sFun Try.prog (rl1 (kI .u8) kB a1)))), (5, .d ((kI .i64).sig v17)), (16, .d (kB.sig x22))]) (fun x22 => []) ?_ ?_
    · rcases ic h with ⟨hp23, h⟩ | ⟨hp23, h⟩
      · obtain ⟨hc24, h⟩ := ib h
        obtain ⟨y25, hy25, h⟩ := bd h
        refine rg (cp (oMv tm) (s1 rfl) <| cp (oMv tm) (s1 rfl) <| cp (oLenS u9 tm) (s1 rfl) <| cp (oLt rfl tm tm) (s2 rfl rfl) <| cp (oMv tm) (s1 rfl) <| cgB (decide_eq_true hp23) rfl rfl (oMv tm) (s1 rfl) <| cgB (decide_eq_true hp23) rfl rfl (oMv tm) (s1 rfl) <| cgB (decide_eq_true hp23) rfl rfl (oMv tm) (s1 rfl) <| cgB (decide_eq_true hp23) rfl rfl (oIdxS u9 hc24.1 hc24.2 tm tm) (s2 rfl rfl) <| cgB (decide_eq_true hp23) rfl rfl (oCallV rfl (rl1i hy25) tm (opds_cons tm opds_nil)) (s2 rfl rfl) <| cp (oPkT (decide_eq_true hp23) tm tm) (s2 rfl rfl) <| .nil) (by kernel_rfl) ?_
        exact pJ1 _ (so h) ⟨rfl, rfl, rfl, rfl, trivial⟩ rfl
      · refine rg (cp (oMv tm) (s1 rfl) <| cp (oMv tm) (s1 rfl) <| cp (oLenS u9 tm) (s1 rfl) <| cp (oLt rfl tm tm) (s2 rfl rfl) <| cp (oMv tm) (s1 rfl) <| csB (decide_eq_false hp23) rfl rfl <| csB (decide_eq_false hp23) rfl rfl <| csB (decide_eq_false hp23) rfl rfl <| csB (decide_eq_false hp23) rfl rfl <| csB (decide_eq_false hp23) rfl rfl <| cp (oPkF (decide_eq_false hp23) tm cB) (s1 rfl) <| .nil) (by kernel_rfl) ?_
        exact pJ1 _ (so h) ⟨rfl, rfl, rfl, rfl, trivial⟩ rfl
    · rintro x22 rfl
      replace h := hk2
      rcases ic h with ⟨hp26, h⟩ | ⟨hp26, h⟩
      · refine wBT hp26 tm (s1 rfl) ?_
        refine wSkip ?_
        refine pSeq ?_
        refine wBlock ?_
        refine rg (cp (oMv tm) (s1 rfl) <| cp (oAdd tm (cI (by decide))) (s1 rfl) <| cp (oAs tm) (s1 rfl) <| .nil) (by kernel_rfl) ?_
        refine pBlkN ?_
        exact pLoop (lW (ih _ h) ⟨rfl, rfl, rfl, trivial⟩ rfl)
      · refine wBF hp26 tm (s1 rfl) ?_
        refine wExit ?_
        refine pThenX ?_
        refine pThenX ?_
        refine pBlkX ?_
        exact pJ1 _ (so h) ⟨rfl, trivial⟩ rfl
  · rintro x18 rfl
    replace h := hk1
    refine wSeq ?_
    refine rg (cp (oMv tm) (s1 rfl) <| cp (oAs tm) (s1 rfl) <| .nil) (by kernel_rfl) ?_
    refine pSeq ?_
    refine wRet ?_
    obtain rfl := so h
    exact pR1 (.inl rfl) rfl (.tmp rfl <| .nil)

theorem lex_token_1.ok {a0 : Int} {r : Bool} (h : lex_token_1.f a0 = some r) : FnA Try.prog 118 [(kI .u8).sig a0] (kB.sig r) := by
  refine fnIntro Try.func118 rfl (by kernel_rfl) fun H0 w0 => ?_
  unfold lex_token_1.f at h
  refine wSeq ?_
  refine rg (cp (oAs cB) trivial <| .nil) (by kernel_rfl) ?_
  refine pSeq ?_
  refine wSeq ?_
  refine rg (cp (oMv tm) (s1 rfl) <| cp (oNe rfl tm (cI (by decide))) (s1 rfl) <| cp (oAs tm) (s1 rfl) <| .nil) (by kernel_rfl) ?_
  refine pSeq ?_
  refine wRet ?_
  obtain rfl := so h
  exact pR1 (.inl rfl) rfl (.tmp rfl <| .nil)

theorem lex_letter.ok {a0 : Int} {r : Bool} (h : lex_letter.f a0 = some r) : FnA Try.prog 119 [(kI .u8).sig a0] (kB.sig r) := by
  refine fnIntro Try.func119 rfl (by kernel_rfl) fun H0 w0 => ?_
  unfold lex_letter.f at h
  refine wSeq ?_
  refine rg (cp (oAs cB) trivial <| .nil) (by kernel_rfl) ?_
  refine pSeq ?_
  obtain ⟨o1, h, hk1⟩ := bd h
  refine wJ1 (fun x2 => x2 = o1) (fun x2 => [(2, .d (kB.sig x2))]) (fun x2 => []) ?_ ?_
  · rcases ic h with ⟨hp3, h⟩ | ⟨hp3, h⟩
    · refine rg (cp (oMv tm) (s1 rfl) <| cp (oGe rfl tm (cI (by decide))) (s1 rfl) <| cp (oMv tm) (s1 rfl) <| cgB (decide_eq_true hp3) rfl rfl (oMv tm) (s1 rfl) <| cgB (decide_eq_true hp3) rfl rfl (oLe rfl tm (cI (by decide))) (s1 rfl) <| cp (oPkT (decide_eq_true hp3) tm tm) (s2 rfl rfl) <| cp (oAs tm) (s1 rfl) <| .nil) (by kernel_rfl) ?_
      exact pJ1 _ (so h) ⟨rfl, trivial⟩ rfl
    · refine rg (cp (oMv tm) (s1 rfl) <| cp (oGe rfl tm (cI (by decide))) (s1 rfl) <| cp (oMv tm) (s1 rfl) <| csB (decide_eq_false hp3) rfl rfl <| csB (decide_eq_false hp3) rfl rfl <| cp (oPkF (decide_eq_false hp3) tm cB) (s1 rfl) <| cp (oAs tm) (s1 rfl) <| .nil) (by kernel_rfl) ?_
      exact pJ1 _ (so h) ⟨rfl, trivial⟩ rfl
  · rintro x2 rfl
    replace h := hk1
    refine wRet ?_
    obtain rfl := so h
    exact pR1 (.inl rfl) rfl (.tmp rfl <| .nil)

theorem lex_digit.ok {a0 : Int} {r : Bool} (h : lex_digit.f a0 = some r) : FnA Try.prog 120 [(kI .u8).sig a0] (kB.sig r) := by
  refine fnIntro Try.func120 rfl (by kernel_rfl) fun H0 w0 => ?_
  unfold lex_digit.f at h
  refine wSeq ?_
  refine rg (cp (oAs cB) trivial <| .nil) (by kernel_rfl) ?_
  refine pSeq ?_
  obtain ⟨o1, h, hk1⟩ := bd h
  refine wJ1 (fun x2 => x2 = o1) (fun x2 => [(2, .d (kB.sig x2))]) (fun x2 => []) ?_ ?_
  · rcases ic h with ⟨hp3, h⟩ | ⟨hp3, h⟩
    · refine rg (cp (oMv tm) (s1 rfl) <| cp (oGe rfl tm (cI (by decide))) (s1 rfl) <| cp (oMv tm) (s1 rfl) <| cgB (decide_eq_true hp3) rfl rfl (oMv tm) (s1 rfl) <| cgB (decide_eq_true hp3) rfl rfl (oLe rfl tm (cI (by decide))) (s1 rfl) <| cp (oPkT (decide_eq_true hp3) tm tm) (s2 rfl rfl) <| cp (oAs tm) (s1 rfl) <| .nil) (by kernel_rfl) ?_
      exact pJ1 _ (so h) ⟨rfl, trivial⟩ rfl
    · refine rg (cp (oMv tm) (s1 rfl) <| cp (oGe rfl tm (cI (by decide))) (s1 rfl) <| cp (oMv tm) (s1 rfl) <| csB (decide_eq_false hp3) rfl rfl <| csB (decide_eq_false hp3) rfl rfl <| cp (oPkF (decide_eq_false hp3) tm cB) (s1 rfl) <| cp (oAs tm) (s1 rfl) <| .nil) (by kernel_rfl) ?_
      exact pJ1 _ (so h) ⟨rfl, trivial⟩ rfl
  · rintro x2 rfl
    replace h := hk1
    refine wRet ?_
    obtain rfl := so h
    exact pR1 (.inl rfl) rfl (.tmp rfl <| .nil)

theorem stringslite_HasPrefix.ok {a0 : Str} {a1 : Str} {r : Bool} (h : stringslite_HasPrefix.f a0 a1 = some r) : FnA Try.prog 133 [kS.sig a0, kS.sig a1] (kB.sig r) := by
  refine fnIntro Try.func133 rfl (by kernel_rfl) fun H0 w0 => ?_
  unfold stringslite_HasPrefix.f at h
  refine wSeq ?_
  refine rg (cp (oAs cB) trivial <| .nil) (by kernel_rfl) ?_
  refine pSeq ?_
  obtain ⟨o1, h, hk1⟩ := bd h
  refine wJ1 (fun x3 => x3 = o1) (fun x3 => [(4, .d (kB.sig x3))]) (fun x3 => []) ?_ ?_
  · rcases ic h with ⟨hp4, h⟩ | ⟨hp4, h⟩
    · obtain ⟨hc5, h⟩ := ib h
      refine rg (cp (oMv tm) (s1 rfl) <| cp (oLenS u9 tm) (s1 rfl) <| cp (oMv tm) (s1 rfl) <| cp (oLenS u9 tm) (s1 rfl) <| cp (oGe rfl tm tm) (s2 rfl rfl) <| cp (oMv tm) (s1 rfl) <| cgB (decide_eq_true hp4) rfl rfl (oMv tm) (s1 rfl) <| cgB (decide_eq_true hp4) rfl rfl (oMv tm) (s1 rfl) <| cgB (decide_eq_true hp4) rfl rfl (oLenS u9 tm) (s1 rfl) <| cgB (decide_eq_true hp4) rfl rfl (oCutSH u9 hc5.1 hc5.2 tm tm) (s2 rfl rfl) <| cgB (decide_eq_true hp4) rfl rfl (oMv tm) (s1 rfl) <| cgB (decide_eq_true hp4) rfl rfl (oSEq rfl tm tm) (s2 rfl rfl) <| cp (oPkT (decide_eq_true hp4) tm tm) (s2 rfl rfl) <| cp (oAs tm) (s1 rfl) <| .nil) (by kernel_rfl) ?_
      exact pJ1 _ (so h) ⟨rfl, trivial⟩ rfl
    · refine rg (cp (oMv tm) (s1 rfl) <| cp (oLenS u9 tm) (s1 rfl) <| cp (oMv tm) (s1 rfl) <| cp (oLenS u9 tm) (s1 rfl) <| cp (oGe rfl tm tm) (s2 rfl rfl) <| cp (oMv tm) (s1 rfl) <| csB (decide_eq_false hp4) rfl rfl <| csB (decide_eq_false hp4) rfl rfl <| csB (decide_eq_false hp4) rfl rfl <| csB (decide_eq_false hp4) rfl rfl <| csB (decide_eq_false hp4) rfl rfl <| csB (decide_eq_false hp4) rfl rfl <| cp (oPkF (decide_eq_false hp4) tm cB) (s1 rfl) <| cp (oAs tm) (s1 rfl) <| .nil) (by kernel_rfl) ?_
      exact pJ1 _ (so h) ⟨rfl, trivial⟩ rfl
  · rintro x3 rfl
    replace h := hk1
    refine wRet ?_
    obtain rfl := so h
    exact pR1 (.inl rfl) rfl (.tmp rfl <| .nil)

theorem strings_HasPrefix.ok {a0 : Str} {a1 : Str} {r : Bool} (h : strings_HasPrefix.f a0 a1 = some r) : FnA Try.prog 121 [kS.sig a0, kS.sig a1] (kB.sig r) := by
  refine fnIntro Try.func121 rfl (by kernel_rfl) fun H0 w0 => ?_
  unfold strings_HasPrefix.f at h
  refine wSeq ?_
  refine rg (cp (oAs cB) trivial <| .nil) (by kernel_rfl) ?_
  refine pSeq ?_
  refine wSeq ?_
  obtain ⟨y1, hy1, h⟩ := bd h
  refine rg (cp (oMv tm) (s1 rfl) <| cp (oMv tm) (s1 rfl) <| cp (oCall rfl (stringslite_HasPrefix.ok hy1) b133 (opds_cons tm (opds_cons tm opds_nil))) (s2 rfl rfl) <| cp (oAs tm) (s1 rfl) <| .nil) (by kernel_rfl) ?_
  refine pSeq ?_
  refine wRet ?_
  obtain rfl := so h
  exact pR1 (.inl rfl) rfl (.tmp rfl <| .nil)

theorem lex_token.ok {a0 : Str} {r : Int × Int} (h : lex_token.f a0 = some r) : FnA Try.prog 90 [kS.sig a0] (tup [(kI .i64).sig r.1, (kI .i64).sig r.2]) := by
  refine fnIntro Try.func90 rfl (by kernel_rfl) fun H0 w0 => ?_
  unfold lex_token.f at h
  refine wSeq ?_
  refine rg (cp (oAs (cI (by decide))) trivial <| cp (oAs (cI (by decide))) trivial <| .nil) (by kernel_rfl) ?_
  refine pSeq ?_
  refine wSeq ?_
  obtain ⟨hc1, h⟩ := ib h
  refine rg (cp (oMv tm) (s1 rfl) <| cp (oIdxS u9 hc1.1 hc1.2 tm (cI (by decide))) (s1 rfl) <| cp (oAs tm) (s1 rfl) <| .nil) (by kernel_rfl) ?_
  refine pSeq ?_
  refine wSeq ?_
  refine wBlock ?_
  obtain ⟨o1, h, hk1⟩ := bd h
  refine wJ1 (fun x4 => x4 = o1) (fun x4 => [(0, .d (kS.sig a0)), (4, .d ((kI .u8).sig (sAt a0 0))), (7, .d (kB.sig x4))]) (fun x4 => []) ?_ ?_
  · rcases ic h with ⟨hp5, h⟩ | ⟨hp5, h⟩
    · refine rg (cp (oMv tm) (s1 rfl) <| cp (oEq rfl tm (cI (by decide))) (s1 rfl) <| cp (oMv tm) (s1 rfl) <| csB (decide_eq_true hp5) rfl rfl <| csB (decide_eq_true hp5) rfl rfl <| cp (oPkT (decide_eq_true hp5) tm cB) (s1 rfl) <| cp (oMv tm) (s1 rfl) <| csB rfl rfl rfl <| csB rfl rfl rfl <| cp (oPkT rfl tm cB) (s1 rfl) <| cp (oAs tm) (s1 rfl) <| .nil) (by kernel_rfl) ?_
      exact pJ1 _ (so h) ⟨rfl, rfl, rfl, trivial⟩ rfl
    · rcases ic h with ⟨hp6, h⟩ | ⟨hp6, h⟩
      · refine rg (cp (oMv tm) (s1 rfl) <| cp (oEq rfl tm (cI (by decide))) (s1 rfl) <| cp (oMv tm) (s1 rfl) <| cgB (decide_eq_false hp5) rfl rfl (oMv tm) (s1 rfl) <| cgB (decide_eq_false hp5) rfl rfl (oEq rfl tm (cI (by decide))) (s1 rfl) <| cp (oPkF (decide_eq_false hp5) tm tm) (s2 rfl rfl) <| cp (oMv tm) (s1 rfl) <| csB (decide_eq_true hp6) rfl rfl <| csB (decide_eq_true hp6) rfl rfl <| cp (oPkT (decide_eq_true hp6) tm cB) (s1 rfl) <| cp (oAs tm) (s1 rfl) <| .nil) (by kernel_rfl) ?_
        exact pJ1 _ (so h) ⟨rfl, rfl, rfl, trivial⟩ rfl
      · refine rg (cp (oMv tm) (s1 rfl) <| cp (oEq rfl tm (cI (by decide))) (s1 rfl) <| cp (oMv tm) (s1 rfl) <| cgB (decide_eq_false hp5) rfl rfl (oMv tm) (s1 rfl) <| cgB (decide_eq_false hp5) rfl rfl (oEq rfl tm (cI (by decide))) (s1 rfl) <| cp (oPkF (decide_eq_false hp5) tm tm) (s2 rfl rfl) <| cp (oMv tm) (s1 rfl) <| cgB (decide_eq_false hp6) rfl rfl (oMv tm) (s1 rfl) <| cgB (decide_eq_false hp6) rfl rfl (oEq rfl tm (cI (by decide))) (s1 rfl) <| cp (oPkF (decide_eq_false hp6) tm tm) (s2 rfl rfl) <| cp (oAs tm) (s1 rfl) <| .nil) (by kernel_rfl) ?_
        exact pJ1 _ (so h) ⟨rfl, rfl, rfl, trivial⟩ rfl
  · rintro x4 rfl
    replace h := hk1
    rcases ic h with ⟨hp7, h⟩ | ⟨hp7, h⟩
    · refine wBT hp7 tm (s1 rfl) ?_
      refine wSeq ?_
      refine rg (cp (oAs (cI (by decide))) trivial <| cp (oAs (cI (by decide))) trivial <| .nil) (by kernel_rfl) ?_
      refine pSeq ?_
      refine wRet ?_
      refine pBlkR ?_
      refine pThenR ?_
      obtain rfl := so h
      exact pRn (.inl rfl) rfl rfl (.tmp rfl <| .tmp rfl <| .nil)
    · refine wBF hp7 tm (s1 rfl) ?_
      refine wSeq ?_
      refine rg (cp (oMv tm) (s1 rfl) <| cp (oEq rfl tm (cI (by decide))) (s1 rfl) <| cp (oAs tm) (s1 rfl) <| .nil) (by kernel_rfl) ?_
      refine pSeq ?_
      rcases ic h with ⟨hp8, h⟩ | ⟨hp8, h⟩
      · refine wCT hp8 tm (s1 rfl) ?_
        refine wSeq ?_
        obtain ⟨y9, hy9, h⟩ := bd h
        refine rg (cp (oMv tm) (s1 rfl) <| cp (oCall rfl (lex_while.ok hy9) b117 (opds_cons tm (opds_cons (oFn b118 (rl1n lex_token_1.ok)) opds_nil))) (s1 rfl) <| cp (oAs (cI (by decide))) trivial <| cp (oAs tm) (s1 rfl) <| .nil) (by kernel_rfl) ?_
        refine pSeq ?_
        refine wRet ?_
        refine pBlkR ?_
        refine pThenR ?_
        obtain rfl := so h
        exact pRn (.inl rfl) rfl rfl (.tmp rfl <| .tmp rfl <| .nil)
      · refine wCF hp8 tm (s1 rfl) ?_
        refine wSeq ?_
        obtain ⟨y10, hy10, h⟩ := bd h
        refine rg (cp (oMv tm) (s1 rfl) <| cp (oCall rfl (lex_letter.ok hy10) b119 (opds_cons tm opds_nil)) (s1 rfl) <| cp (oAs tm) (s1 rfl) <| .nil) (by kernel_rfl) ?_
        refine pSeq ?_
        rcases ic h with ⟨hp11, h⟩ | ⟨hp11, h⟩
        · refine wBT hp11 tm (s1 rfl) ?_
          refine wSeq ?_
          obtain ⟨y12, hy12, h⟩ := bd h
          refine rg (cp (oMv tm) (s1 rfl) <| cp (oCall rfl (lex_while.ok hy12) b117 (opds_cons tm (opds_cons (oFn b119 (rl1n lex_letter.ok)) opds_nil))) (s1 rfl) <| cp (oAs (cI (by decide))) trivial <| cp (oAs tm) (s1 rfl) <| .nil) (by kernel_rfl) ?_
          refine pSeq ?_
          refine wRet ?_
          refine pBlkR ?_
          refine pThenR ?_
          obtain rfl := so h
          exact pRn (.inl rfl) rfl rfl (.tmp rfl <| .tmp rfl <| .nil)
        · refine wBF hp11 tm (s1 rfl) ?_
          refine wSeq ?_
          obtain ⟨y13, hy13, h⟩ := bd h
          refine rg (cp (oMv tm) (s1 rfl) <| cp (oCall rfl (lex_digit.ok hy13) b120 (opds_cons tm opds_nil)) (s1 rfl) <| cp (oAs tm) (s1 rfl) <| .nil) (by kernel_rfl) ?_
          refine pSeq ?_
          rcases ic h with ⟨hp14, h⟩ | ⟨hp14, h⟩
          · refine wBT hp14 tm (s1 rfl) ?_
            refine wSeq ?_
            obtain ⟨y15, hy15, h⟩ := bd h
            refine rg (cp (oMv tm) (s1 rfl) <| cp (oCall rfl (lex_while.ok hy15) b117 (opds_cons tm (opds_cons (oFn b120 (rl1n lex_digit.ok)) opds_nil))) (s1 rfl) <| cp (oAs (cI (by decide))) trivial <| cp (oAs tm) (s1 rfl) <| .nil) (by kernel_rfl) ?_
            refine pSeq ?_
            refine wRet ?_
            refine pBlkR ?_
            refine pThenR ?_
            obtain rfl := so h
            exact pRn (.inl rfl) rfl rfl (.tmp rfl <| .tmp rfl <| .nil)
          · refine wBF hp14 tm (s1 rfl) ?_
            refine wSeq ?_
            obtain ⟨y16, hy16, h⟩ := bd h
            refine rg (cp (oMv tm) (s1 rfl) <| cp (oCall rfl (strings_HasPrefix.ok hy16) b121 (opds_cons tm (opds_cons (cS (by decide)) opds_nil))) (s1 rfl) <| cp (oAs tm) (s1 rfl) <| .nil) (by kernel_rfl) ?_
            refine pSeq ?_
            rcases ic h with ⟨hp17, h⟩ | ⟨hp17, h⟩
            · refine wBT hp17 tm (s1 rfl) ?_
              refine wSeq ?_
              refine rg (cp (oAs (cI (by decide))) trivial <| cp (oAs (cI (by decide))) trivial <| .nil) (by kernel_rfl) ?_
              refine pSeq ?_
              refine wRet ?_
              refine pBlkR ?_
              refine pThenR ?_
              obtain rfl := so h
              exact pRn (.inl rfl) rfl rfl (.tmp rfl <| .tmp rfl <| .nil)
            · refine wBF hp17 tm (s1 rfl) ?_
              refine wSeq ?_
              obtain ⟨y18, hy18, h⟩ := bd h
              refine rg (cp (oMv tm) (s1 rfl) <| cp (oCall rfl (libIndexByte Try.strings_IndexByte hy18) b122 (opds_cons (cS (by decide)) (opds_cons tm opds_nil))) (s1 rfl) <| cp (oGe rfl tm (cI (by decide))) (s1 rfl) <| cp (oAs tm) (s1 rfl) <| .nil) (by kernel_rfl) ?_
              refine pSeq ?_
              rcases ic h with ⟨hp19, h⟩ | ⟨hp19, h⟩
              · refine wCT hp19 tm (s1 rfl) ?_
                refine wSeq ?_
                refine rg (cp (oAs (cI (by decide))) trivial <| cp (oAs (cI (by decide))) trivial <| .nil) (by kernel_rfl) ?_
                refine pSeq ?_
                refine wRet ?_
                refine pBlkR ?_
                refine pThenR ?_
                obtain rfl := so h
                exact pRn (.inl rfl) rfl rfl (.tmp rfl <| .tmp rfl <| .nil)
              · refine wCF hp19 tm (s1 rfl) ?_
                refine wSkip ?_
                refine pBlkN ?_
                refine pSeq ?_
                refine wSeq ?_
                refine rg (cp (oAs (cI (by decide))) trivial <| cp (oAs (cI (by decide))) trivial <| .nil) (by kernel_rfl) ?_
                refine pSeq ?_
                refine wRet ?_
                obtain rfl := so h
                exact pRn (.inl rfl) rfl rfl (.tmp rfl <| .tmp rfl <| .nil)

theorem lex_Lex.ok {a0 : Str} {r : (List api_Tok) × Int × Int} (h : lex_Lex.f a0 = some r) : FnA Try.prog 57 [kS.sig a0] (tup [(kL (kR f_api_Tok)).sig r.1, (kI .i64).sig r.2.1, (kI .i64).sig r.2.2]) := by
  refine fnIntro Try.func57 rfl (by kernel_rfl) fun H0 w0 => ?_
  unfold lex_Lex.f at h
  refine wSeq ?_
  refine rg (cp (oAs cV) trivial <| cp (oAs (cI (by decide))) trivial <| cp (oAs (cI (by decide))) trivial <| .nil) (by kernel_rfl) ?_
  refine pSeq ?_
  refine wSeq ?_
  refine wSeq ?_
  refine rg (cp (oMv tm) (s1 rfl) <| cp (oLenS u9 tm) (s1 rfl) <| cp (oGt rfl tm (cI (by decide))) (s1 rfl) <| .nil) (by kernel_rfl) ?_
  refine pSeq ?_
  rcases ic h with ⟨hp1, h⟩ | ⟨hp1, h⟩
  · refine wCT hp1 tm (s1 rfl) ?_
    refine wSeq ?_
    refine rg (cp (oAs cV) trivial <| cp (oAs (cI (by decide))) trivial <| cp (oAs (cI (by decide))) trivial <| .nil) (by kernel_rfl) ?_
    refine pSeq ?_
    refine wNil (kR f_api_Tok) 36 9002 2 rfl rfl ?_
    refine wFrzR (n := 0) (id := 9002) [2] rfl rfl ⟨rfl, trivial⟩ ?_
    refine wRet ?_
    refine pThenR ?_
    obtain rfl := so h
    exact pRn (.inl rfl) rfl rfl (.tmp rfl <| .tmp rfl <| .tmp rfl <| .nil)
  · refine wCF hp1 tm (s1 rfl) ?_
    refine wSkip ?_
    refine pSeq ?_
    refine wSeq ?_
    refine rg (cp (oAs cV) trivial <| .nil) (by kernel_rfl) ?_
    refine pSeq ?_
    refine wSeq ?_
    refine wSeq ?_
    refine rg (cp (oAs (cI (by decide))) trivial <| .nil) (by kernel_rfl) ?_
    refine pSeq ?_
    refine wNil (kR f_api_Tok) 36 1005 5 rfl rfl ?_
    obtain ⟨o1, h, hk1⟩ := bd h
    refine wK1 (fun x34 => .inr x34 = o1) (fun x34 => [(0, .d (kS.sig a0)), (5, .v 1005)]) (fun x34 => [.row 1005 36 (kR f_api_Tok) x34]) ?_ ?_
    · refine wBlock (wLoop ?_)
      refine lW (pc2 o1 (fun v32 v33 => [(0, .d (kS.sig a0)), (5, .v 1005), (6, .d ((kI .i64).sig v33))]) (fun v32 v33 => [.row 1005 36 (kR f_api_Tok) v32]) (lex_Lex.l0.partial_correctness a0) ?_ _ _ h) ⟨rfl, rfl, rfl, trivial⟩ rfl
      clear h
      intro f' ih v32 v33 h
      refine wSeq ?_
      refine wSeq ?_
      refine rg (cp (oMv tm) (s1 rfl) <| cp (oMv tm) (s1 rfl) <| cp (oLenS u9 tm) (s1 rfl) <| cp (oLt rfl tm tm) (s2 rfl rfl) <| .nil) (by kernel_rfl) ?_
      refine pSeq ?_
      rcases ic h with ⟨hp35, h⟩ | ⟨hp35, h⟩
      · refine wCT hp35 tm (s1 rfl) ?_
        refine wSkip ?_
        refine pSeq ?_
        obtain ⟨o2, h, hk2⟩ := bd h
        refine wK2 (fun x42 x43 => .inr (x42, x43) = o2) (fun x42 x43 => [(0, .d (kS.sig a0)), (5, .v 1005), (6, .d ((kI .i64).sig x43))]) (fun x42 x43 => [.row 1005 36 (kR f_api_Tok) x42]) ?_ ?_
        · refine wBlock ?_
          refine wSeq ?_
          obtain ⟨hc44, h⟩ := ib h
          obtain ⟨y45, hy45, h⟩ := bd h
          refine rg (cp (oMv tm) (s1 rfl) <| cp (oMv tm) (s1 rfl) <| cp (oCutSL u9 hc44.1 hc44.2 tm tm) (s2 rfl rfl) <| cp (oCall rfl (lex_token.ok hy45) b90 (opds_cons tm opds_nil)) (s1 rfl) <| cp (oMv tm) (s1 rfl) <| cp (oExt (k := 0) rfl tm) (s1 rfl) <| cp (oExt (k := 1) rfl tm) (s1 rfl) <| cp (oAs tm) (s1 rfl) <| cp (oAs tm) (s1 rfl) <| .nil) (by kernel_rfl) ?_
          refine pSeq ?_
          refine wSeq ?_
          refine wSeq ?_
          refine rg (cp (oMv tm) (s1 rfl) <| cp (oEq rfl tm (cI (by decide))) (s1 rfl) <| .nil) (by kernel_rfl) ?_
          refine pSeq ?_
          rcases ic h with ⟨hp46, h⟩ | ⟨hp46, h⟩
          · refine wCT hp46 tm (s1 rfl) ?_
            refine wSeq ?_
            refine rg (cp (oMv tm) (s1 rfl) <| cp (oAs cV) trivial <| cp (oAs tm) (s1 rfl) <| cp (oAs (cI (by decide))) trivial <| .nil) (by kernel_rfl) ?_
            refine pSeq ?_
            refine wNil (kR f_api_Tok) 36 9002 2 rfl rfl ?_
            refine wFrzR (n := 0) (id := 9002) [2] rfl rfl ⟨rfl, trivial⟩ ?_
            refine wRet ?_
            refine pThenR ?_
            refine pBlkR ?_
            refine pThenR ?_
            obtain rfl := so h
            replace h := hk2
            refine pThenR ?_
            refine pBlkR ?_
            refine pThenR ?_
            obtain rfl := so h
            replace h := hk1
            refine pThenR ?_
            obtain rfl := so h
            exact pRn (.inl rfl) rfl rfl (.tmp rfl <| .tmp rfl <| .tmp rfl <| .nil)
          · refine wCF hp46 tm (s1 rfl) ?_
            refine wSkip ?_
            refine pSeq ?_
            refine wSeq ?_
            refine wSeq ?_
            refine rg (cp (oMv tm) (s1 rfl) <| cp (oNe rfl tm (cI (by decide))) (s1 rfl) <| .nil) (by kernel_rfl) ?_
            refine pSeq ?_
            rcases ic h with ⟨hp47, h⟩ | ⟨hp47, h⟩
            · refine wNT hp47 tm (s1 rfl) ?_
              refine wSkip ?_
              refine pSeq ?_
              refine rg (cp (oMv tm) (s1 rfl) <| cp (oMv tm) (s1 rfl) <| cp (oAdd tm tm) (s2 rfl rfl) <| cp (oAs tm) (s1 rfl) <| .nil) (by kernel_rfl) ?_
              refine pBlkN ?_
              exact pJ2 _ _ (so h) ⟨rfl, rfl, rfl, trivial⟩ rfl
            · refine wNF hp47 tm (s1 rfl) ?_
              obtain ⟨hc48, h⟩ := ib h
              obtain ⟨hc49, h⟩ := ib h
              refine rg (cp (oMv tm) (s1 rfl) <| cp (oMv tm) (s1 rfl) <| cp (oMv tm) (s1 rfl) <| cp (oMv tm) (s1 rfl) <| cp (oMv tm) (s1 rfl) <| cp (oMv tm) (s1 rfl) <| cp (oAdd tm tm) (s2 rfl rfl) <| cp (oCutS u9 hc48.1 hc48.2.1 hc48.2.2 tm tm tm) (s3 rfl rfl rfl) <| cp (oMv tm) (s1 rfl) <| cp (oBuild (fs := f_api_Tok) (u := ⟨y45.1, sCut a0 v33 (IntKind.i64.wrap (v33 + y45.2)), v33⟩) rfl ze36 pl36 po36 (.op (zc := [(.int .i64 0)]) tm rfl (.op (zc := [(.string ⟨⟨[]⟩⟩)]) tm rfl (.op (zc := [(.int .i64 0)]) tm rfl .nil)))) (s3 rfl rfl rfl) <| cp (oLit (d := (kR f_api_Tok)) el34 (by decide) rfl rfl rfl (e1 tm e0)) (s1 rfl) <| cw (oApp (n := 0) (id' := 39) el34 (by decide) rfl (by decide) hc49 tm tm) (s2 rfl rfl) <| cp (oAs tm) (s1 rfl) <| .nil) (by kernel_rfl) ?_
              refine pSeq ?_
              refine rg (cp (oMv tm) (s1 rfl) <| cp (oMv tm) (s1 rfl) <| cp (oAdd tm tm) (s2 rfl rfl) <| cp (oAs tm) (s1 rfl) <| .nil) (by kernel_rfl) ?_
              refine pBlkN ?_
              refine pSub (Γ' := [(0, .d (kS.sig a0)), (5, .v 39), (6, .d ((kI .i64).sig (IntKind.i64.wrap (v33 + y45.2))))]) ⟨rfl, rfl, rfl, trivial⟩ ?_
              refine pRen 39 1005 rfl ?_
              exact pJ2 _ _ (so h) ⟨rfl, rfl, rfl, trivial⟩ rfl
        · rintro x42 x43 rfl
          replace h := hk2
          exact pLoop (lW (ih _ _ h) ⟨rfl, rfl, rfl, trivial⟩ rfl)
      · refine wCF hp35 tm (s1 rfl) ?_
        refine wExit ?_
        refine pThenX ?_
        refine pThenX ?_
        refine pBlkX ?_
        exact pJ1 _ (so h) ⟨rfl, rfl, trivial⟩ rfl
    · rintro x34 rfl
      replace h := hk1
      refine pSeq ?_
      refine wSeq ?_
      obtain ⟨hc50, h⟩ := ib h
      refine rg (cp (oMv tm) (s1 rfl) <| cp (oMv tm) (s1 rfl) <| cp (oLenS u9 tm) (s1 rfl) <| cp (oBuild (fs := f_api_Tok) (u := ⟨0, [], (a0.length : Int)⟩) rfl ze36 pl36 po36 (.ze (zc := [(.int .i64 0)]) zI_i64 (.ze (zc := [(.string ⟨⟨[]⟩⟩)]) zS (.op (zc := [(.int .i64 0)]) tm rfl .nil)))) (s1 rfl) <| cp (oLit (d := (kR f_api_Tok)) el34 (by decide) rfl rfl rfl (e1 tm e0)) (s1 rfl) <| cw (oApp (n := 0) (id' := 48) el34 (by decide) rfl (by decide) hc50 tm tm) (s2 rfl rfl) <| cp (oAs tm) (s1 rfl) <| .nil) (by kernel_rfl) ?_
      refine pSeq ?_
      refine wSeq ?_
      refine wSeq ?_
      refine rg (cp (oMv tm) (s1 rfl) <| cr (oLenR (n := 0) u34 rfl tm) (s1 rfl) <| cp (oGt rfl tm (cI (by decide))) (s1 rfl) <| .nil) (by kernel_rfl) ?_
      refine pSeq ?_
      rcases ic h with ⟨hp51, h⟩ | ⟨hp51, h⟩
      · refine wCT hp51 tm (s1 rfl) ?_
        refine wSeq ?_
        refine rg (cp (oAs cV) trivial <| cp (oAs (cI (by decide))) trivial <| cp (oAs (cI (by decide))) trivial <| .nil) (by kernel_rfl) ?_
        refine pSeq ?_
        refine wNil (kR f_api_Tok) 36 9002 2 rfl rfl ?_
        refine wFrzR (n := 0) (id := 9002) [2] rfl rfl ⟨rfl, trivial⟩ ?_
        refine wRet ?_
        refine pThenR ?_
        obtain rfl := so h
        exact pRn (.inl rfl) rfl rfl (.tmp rfl <| .tmp rfl <| .tmp rfl <| .nil)
      · refine wCF hp51 tm (s1 rfl) ?_
        refine wSkip ?_
        refine pSeq ?_
        refine wSeq ?_
        refine rg (cp (oMv tm) (s1 rfl) <| cp (oAs tm) (s1 rfl) <| cp (oAs (cI (by decide))) trivial <| cp (oAs (cI (by decide))) trivial <| .nil) (by kernel_rfl) ?_
        refine pSeq ?_
        refine wFrzR (n := 0) (id := 48) [2] rfl rfl ⟨rfl, trivial⟩ ?_
        refine wRet ?_
        obtain rfl := so h
        exact pRn (.inl rfl) rfl rfl (.tmp rfl <| .tmp rfl <| .tmp rfl <| .nil)

theorem lex_Join.ok {a0 : List api_Tok} {r : Str} (h : lex_Join.f a0 = some r) : FnA Try.prog 23 [(kL (kR f_api_Tok)).sig a0] (kS.sig r) := by
  refine fnIntro Try.func23 rfl (by kernel_rfl) fun H0 w0 => ?_
  unfold lex_Join.f at h
  refine wSeq ?_
  refine rg (cp (oAs (cS (by decide))) trivial <| .nil) (by kernel_rfl) ?_
  refine pSeq ?_
  refine wSeq ?_
  refine rg (cp (oAs cV) trivial <| .nil) (by kernel_rfl) ?_
  refine pSeq ?_
  refine wSeq ?_
  refine wSeq ?_
  refine rg (cp (oMv tm) (s1 rfl) <| cp (oLenL u34 tm) (s1 rfl) <| cp (oMv (cI (by decide))) trivial <| .nil) (by kernel_rfl) ?_
  refine pSeq ?_
  refine wNil kS 9 1003 3 rfl rfl ?_
  obtain ⟨o1, h, hk1⟩ := bd h
  refine wK1 (fun x19 => x19 = o1) (fun x19 => [(3, .v 1003)]) (fun x19 => [.row 1003 9 kS x19]) ?_ ?_
  · refine wBlock (wLoop ?_)
    refine lW (pc2 o1 (fun v17 v18 => [(3, .v 1003), (6, .d ((kL (kR f_api_Tok)).sig a0)), (7, .d ((kI .i64).sig (a0.length : Int))), (8, .d ((kI .i64).sig v18))]) (fun v17 v18 => [.row 1003 9 kS v17]) (lex_Join.l0.partial_correctness a0) ?_ _ _ h) ⟨rfl, rfl, rfl, rfl, trivial⟩ rfl
    clear h
    intro f' ih v17 v18 h
    refine wSeq ?_
    refine rg (cp (oLt rfl tm tm) (s2 rfl rfl) <| .nil) (by kernel_rfl) ?_
    refine pSeq ?_
    refine wSeq ?_
    rcases ic h with ⟨hp20, h⟩ | ⟨hp20, h⟩
    · refine wCT hp20 tm (s1 rfl) ?_
      refine wSkip ?_
      refine pSeq ?_
      obtain ⟨o2, h, hk2⟩ := bd h
      refine wJ1 (fun x24 => x24 = o2) (fun x24 => [(3, .v 1003), (6, .d ((kL (kR f_api_Tok)).sig a0)), (7, .d ((kI .i64).sig (a0.length : Int))), (8, .d ((kI .i64).sig v18))]) (fun x24 => [.row 1003 9 kS x24]) ?_ ?_
      · refine wBlock ?_
        refine wSeq ?_
        obtain ⟨y25, hy25, h⟩ := bd h
        refine rg (cp (oIdx u34 z36 hy25 tm tm) (s2 rfl rfl) <| cp (oLd t36 tm) (s1 rfl) <| cw (oAlloc (id := 5) (ls := [.d (kI .i64) 0, .d kS [], .d (kI .i64) 0]) ze36 (fun g => ⟨[(.int .i64 0)], _, rfl, zI_i64 g.H, ⟨[(.string ⟨⟨[]⟩⟩)], _, rfl, zS g.H, ⟨[(.int .i64 0)], _, rfl, zI_i64 g.H, rfl⟩⟩⟩)) trivial <| cwn (oStA (n := 0) (fs := f_api_Tok) rfl rfl z36 tm tm) (s2 rfl rfl) <| .nil) (by kernel_rfl) ?_
        refine pSeq ?_
        refine wSeq ?_
        refine rg (cp (oFldP o36_1 tm) (s1 rfl) <| cr (oLdB (n := 0) (k := 1) rfl rfl rfl t9 tm) (s1 rfl) <| cp (oSNe rfl tm (cS (by decide))) (s1 rfl) <| .nil) (by kernel_rfl) ?_
        refine pSeq ?_
        rcases ic h with ⟨hp26, h⟩ | ⟨hp26, h⟩
        · refine wNT hp26 tm (s1 rfl) ?_
          refine wSkip ?_
          refine pBlkN ?_
          refine pDrop (.cons _ (.cons_cons _ .slnil)) ?_
          exact pJ1 _ (so h) ⟨rfl, rfl, rfl, rfl, trivial⟩ rfl
        · refine wNF hp26 tm (s1 rfl) ?_
          obtain ⟨hc27, h⟩ := ib h
          refine rg (cp (oMv tm) (s1 rfl) <| cp (oFldP o36_1 tm) (s1 rfl) <| cr (oLdB (n := 0) (k := 1) rfl rfl rfl t9 tm) (s1 rfl) <| cp (oLit (d := kS) el39 (by decide) rfl rfl rfl (e1 tm e0)) (s1 rfl) <| cw (oApp (n := 1) (id' := 19) el39 (by decide) rfl (by decide) hc27 tm tm) (s2 rfl rfl) <| cp (oAs tm) (s1 rfl) <| .nil) (by kernel_rfl) ?_
          refine pBlkN ?_
          refine pDrop (.cons _ (.cons_cons _ .slnil)) ?_
          refine pSub (Γ' := [(3, .v 19), (6, .d ((kL (kR f_api_Tok)).sig a0)), (7, .d ((kI .i64).sig (a0.length : Int))), (8, .d ((kI .i64).sig v18))]) ⟨rfl, rfl, rfl, rfl, trivial⟩ ?_
          refine pRen 19 1003 rfl ?_
          exact pJ1 _ (so h) ⟨rfl, rfl, rfl, rfl, trivial⟩ rfl
      · rintro x24 rfl
        replace h := hk2
        refine rg (cp (oAdd tm (cI (by decide))) (s1 rfl) <| cp (oMv tm) (s1 rfl) <| .nil) (by kernel_rfl) ?_
        exact pLoop (lW (ih _ _ h) ⟨rfl, rfl, rfl, rfl, trivial⟩ rfl)
    · refine wCF hp20 tm (s1 rfl) ?_
      refine wExit ?_
      refine pThenX ?_
      refine pThenX ?_
      refine pBlkX ?_
      exact pJ1 _ (so h) ⟨rfl, trivial⟩ rfl
  · rintro x19 rfl
    replace h := hk1
    refine pSeq ?_
    refine wSeq ?_
    obtain ⟨y28, hy28, h⟩ := bd h
    refine rg (cp (oMv tm) (s1 rfl) <| cr (oCallB rfl (libJoin Try.strings_Join_none Try.strings_Join hy28) (fK fS) b68 (rc1 (rR (n := 0) rfl) (rc1 (rD (cS (by decide))) rn0))) (s1 rfl) <| cp (oAs tm) (s1 rfl) <| .nil) (by kernel_rfl) ?_
    refine pSeq ?_
    refine wRet ?_
    obtain rfl := so h
    exact pR1 (.inl rfl) rfl (.tmp rfl <| .nil)

theorem reticentlaw03_alive.ok {r : Bool} (h : reticentlaw03_alive.f = some r) : FnA Try.prog 22 [] (kB.sig r) := by
  refine fnIntro Try.func22 rfl (by kernel_rfl) fun H0 w0 => ?_
  unfold reticentlaw03_alive.f at h
  refine wSeq ?_
  refine rg (cp (oAs cB) trivial <| .nil) (by kernel_rfl) ?_
  refine pSeq ?_
  refine wSeq ?_
  obtain ⟨y1, hy1, h⟩ := bd h
  refine rg (cp (oCall rfl (lex_Lex.ok hy1) b57 (opds_cons (cS (by decide)) opds_nil)) trivial <| cp (oMv tm) (s1 rfl) <| cp (oExt (k := 0) rfl tm) (s1 rfl) <| cp (oExt (k := 1) rfl tm) (s1 rfl) <| cp (oExt (k := 2) rfl tm) (s1 rfl) <| cp (oAs tm) (s1 rfl) <| cp (oAs tm) (s1 rfl) <| cp (oAs tm) (s1 rfl) <| .nil) (by kernel_rfl) ?_
  refine pSeq ?_
  obtain ⟨o1, h, hk1⟩ := bd h
  refine wJ1 (fun x7 => x7 = o1) (fun x7 => [(0, .d (kB.sig x7))]) (fun x7 => []) ?_ ?_
  · rcases ic h with ⟨hp8, h⟩ | ⟨hp8, h⟩
    · rcases ic h with ⟨hp9, h⟩ | ⟨hp9, h⟩
      · obtain ⟨y10, hy10, h⟩ := bd h
        rcases ic h with ⟨hp11, h⟩ | ⟨hp11, h⟩
        · obtain ⟨y12, hy12, h⟩ := bd h
          refine rg (cp (oMv tm) (s1 rfl) <| cp (oEq rfl tm (cI (by decide))) (s1 rfl) <| cp (oMv tm) (s1 rfl) <| cgB (decide_eq_true hp8) rfl rfl (oMv tm) (s1 rfl) <| cgB (decide_eq_true hp8) rfl rfl (oLenL u34 tm) (s1 rfl) <| cgB (decide_eq_true hp8) rfl rfl (oEq rfl tm (cI (by decide))) (s1 rfl) <| cp (oPkT (decide_eq_true hp8) tm tm) (s2 rfl rfl) <| cp (oMv tm) (s1 rfl) <| cgB (decide_eq_true hp9) rfl rfl (oMv tm) (s1 rfl) <| cgB (decide_eq_true hp9) rfl rfl (oIdx u34 z36 hy10 tm (cI (by decide))) (s1 rfl) <| cgB (decide_eq_true hp9) rfl rfl (oFld (fs := f_api_Tok) (k := 1) rfl o36_1 tm) (s1 rfl) <| cgB (decide_eq_true hp9) rfl rfl (oLd t9 tm) (s1 rfl) <| cgB (decide_eq_true hp9) rfl rfl (oSEq rfl tm (cS (by decide))) (s1 rfl) <| cp (oPkT (decide_eq_true hp9) tm tm) (s2 rfl rfl) <| cp (oMv tm) (s1 rfl) <| cgB (decide_eq_true hp11) rfl rfl (oMv tm) (s1 rfl) <| cgB (decide_eq_true hp11) rfl rfl (oCall rfl (lex_Join.ok hy12) b23 (opds_cons tm opds_nil)) (s1 rfl) <| cgB (decide_eq_true hp11) rfl rfl (oSEq rfl tm (cS (by decide))) (s1 rfl) <| cp (oPkT (decide_eq_true hp11) tm tm) (s2 rfl rfl) <| cp (oAs tm) (s1 rfl) <| .nil) (by kernel_rfl) ?_
          exact pJ1 _ (so h) ⟨rfl, trivial⟩ rfl
        · refine rg (cp (oMv tm) (s1 rfl) <| cp (oEq rfl tm (cI (by decide))) (s1 rfl) <| cp (oMv tm) (s1 rfl) <| cgB (decide_eq_true hp8) rfl rfl (oMv tm) (s1 rfl) <| cgB (decide_eq_true hp8) rfl rfl (oLenL u34 tm) (s1 rfl) <| cgB (decide_eq_true hp8) rfl rfl (oEq rfl tm (cI (by decide))) (s1 rfl) <| cp (oPkT (decide_eq_true hp8) tm tm) (s2 rfl rfl) <| cp (oMv tm) (s1 rfl) <| cgB (decide_eq_true hp9) rfl rfl (oMv tm) (s1 rfl) <| cgB (decide_eq_true hp9) rfl rfl (oIdx u34 z36 hy10 tm (cI (by decide))) (s1 rfl) <| cgB (decide_eq_true hp9) rfl rfl (oFld (fs := f_api_Tok) (k := 1) rfl o36_1 tm) (s1 rfl) <| cgB (decide_eq_true hp9) rfl rfl (oLd t9 tm) (s1 rfl) <| cgB (decide_eq_true hp9) rfl rfl (oSEq rfl tm (cS (by decide))) (s1 rfl) <| cp (oPkT (decide_eq_true hp9) tm tm) (s2 rfl rfl) <| cp (oMv tm) (s1 rfl) <| csB (decide_eq_false hp11) rfl rfl <| csB (decide_eq_false hp11) rfl rfl <| csB (decide_eq_false hp11) rfl rfl <| cp (oPkF (decide_eq_false hp11) tm cB) (s1 rfl) <| cp (oAs tm) (s1 rfl) <| .nil) (by kernel_rfl) ?_
          exact pJ1 _ (so h) ⟨rfl, trivial⟩ rfl
      · refine rg (cp (oMv tm) (s1 rfl) <| cp (oEq rfl tm (cI (by decide))) (s1 rfl) <| cp (oMv tm) (s1 rfl) <| cgB (decide_eq_true hp8) rfl rfl (oMv tm) (s1 rfl) <| cgB (decide_eq_true hp8) rfl rfl (oLenL u34 tm) (s1 rfl) <| cgB (decide_eq_true hp8) rfl rfl (oEq rfl tm (cI (by decide))) (s1 rfl) <| cp (oPkT (decide_eq_true hp8) tm tm) (s2 rfl rfl) <| cp (oMv tm) (s1 rfl) <| csB (decide_eq_false hp9) rfl rfl <| csB (decide_eq_false hp9) rfl rfl <| csB (decide_eq_false hp9) rfl rfl <| csB (decide_eq_false hp9) rfl rfl <| csB (decide_eq_false hp9) rfl rfl <| cp (oPkF (decide_eq_false hp9) tm cB) (s1 rfl) <| cp (oMv tm) (s1 rfl) <| csB rfl rfl rfl <| csB rfl rfl rfl <| csB rfl rfl rfl <| cp (oPkF rfl tm cB) (s1 rfl) <| cp (oAs tm) (s1 rfl) <| .nil) (by kernel_rfl) ?_
        exact pJ1 _ (so h) ⟨rfl, trivial⟩ rfl
    · refine rg (cp (oMv tm) (s1 rfl) <| cp (oEq rfl tm (cI (by decide))) (s1 rfl) <| cp (oMv tm) (s1 rfl) <| csB (decide_eq_false hp8) rfl rfl <| csB (decide_eq_false hp8) rfl rfl <| csB (decide_eq_false hp8) rfl rfl <| cp (oPkF (decide_eq_false hp8) tm cB) (s1 rfl) <| cp (oMv tm) (s1 rfl) <| csB rfl rfl rfl <| csB rfl rfl rfl <| csB rfl rfl rfl <| csB rfl rfl rfl <| csB rfl rfl rfl <| cp (oPkF rfl tm cB) (s1 rfl) <| cp (oMv tm) (s1 rfl) <| csB rfl rfl rfl <| csB rfl rfl rfl <| csB rfl rfl rfl <| cp (oPkF rfl tm cB) (s1 rfl) <| cp (oAs tm) (s1 rfl) <| .nil) (by kernel_rfl) ?_
      exact pJ1 _ (so h) ⟨rfl, trivial⟩ rfl
  · rintro x7 rfl
    replace h := hk1
    refine wRet ?_
    obtain rfl := so h
    exact pR1 (.inl rfl) rfl (.tmp rfl <| .nil)

theorem reticentref03_Join.ok {a0 : List api_Tok} {r : Str} (h : reticentref03_Join.f a0 = some r) : FnA Try.prog 24 [(kL (kR f_api_Tok)).sig a0] (kS.sig r) := by
  refine fnIntro Try.func24 rfl (by kernel_rfl) fun H0 w0 => ?_
  unfold reticentref03_Join.f at h
  refine wSeq ?_
  refine rg (cp (oAs (cS (by decide))) trivial <| .nil) (by kernel_rfl) ?_
  refine pSeq ?_
  refine wSeq ?_
  refine rg (cp (oAs (cS (by decide))) trivial <| .nil) (by kernel_rfl) ?_
  refine pSeq ?_
  refine wSeq ?_
  refine wSeq ?_
  refine rg (cp (oMv tm) (s1 rfl) <| cp (oLenL u34 tm) (s1 rfl) <| cp (oMv (cI (by decide))) trivial <| .nil) (by kernel_rfl) ?_
  refine pSeq ?_
  obtain ⟨o1, h, hk1⟩ := bd h
  refine wK1 (fun x31 => x31 = o1) (fun x31 => [(3, .d (kS.sig x31))]) (fun x31 => []) ?_ ?_
  · refine wBlock (wLoop ?_)
    refine lW (pc2 o1 (fun v29 v30 => [(3, .d (kS.sig v29)), (6, .d ((kL (kR f_api_Tok)).sig a0)), (7, .d ((kI .i64).sig (a0.length : Int))), (8, .d ((kI .i64).sig v30))]) (fun v29 v30 => []) (reticentref03_Join.l0.partial_correctness a0) ?_ _ _ h) ⟨rfl, rfl, rfl, rfl, trivial⟩ rfl
    clear h
    intro f' ih v29 v30 h
    refine wSeq ?_
    refine rg (cp (oLt rfl tm tm) (s2 rfl rfl) <| .nil) (by kernel_rfl) ?_
    refine pSeq ?_
    refine wSeq ?_
    rcases ic h with ⟨hp32, h⟩ | ⟨hp32, h⟩
    · refine wCT hp32 tm (s1 rfl) ?_
      refine wSkip ?_
      refine pSeq ?_
      obtain ⟨o2, h, hk2⟩ := bd h
      refine wJ1 (fun x39 => x39 = o2) (fun x39 => [(3, .d (kS.sig x39)), (6, .d ((kL (kR f_api_Tok)).sig a0)), (7, .d ((kI .i64).sig (a0.length : Int))), (8, .d ((kI .i64).sig v30))]) (fun x39 => []) ?_ ?_
      · refine wBlock ?_
        refine wSeq ?_
        obtain ⟨y40, hy40, h⟩ := bd h
        refine rg (cp (oIdx u34 z36 hy40 tm tm) (s2 rfl rfl) <| cp (oLd t36 tm) (s1 rfl) <| cw (oAlloc (id := 5) (ls := [.d (kI .i64) 0, .d kS [], .d (kI .i64) 0]) ze36 (fun g => ⟨[(.int .i64 0)], _, rfl, zI_i64 g.H, ⟨[(.string ⟨⟨[]⟩⟩)], _, rfl, zS g.H, ⟨[(.int .i64 0)], _, rfl, zI_i64 g.H, rfl⟩⟩⟩)) trivial <| cwn (oStA (n := 0) (fs := f_api_Tok) rfl rfl z36 tm tm) (s2 rfl rfl) <| .nil) (by kernel_rfl) ?_
        refine pSeq ?_
        refine wSeq ?_
        refine wSeq ?_
        refine rg (cp (oFldP o36_1 tm) (s1 rfl) <| cr (oLdB (n := 0) (k := 1) rfl rfl rfl t9 tm) (s1 rfl) <| cp (oSEq rfl tm (cS (by decide))) (s1 rfl) <| .nil) (by kernel_rfl) ?_
        refine pSeq ?_
        rcases ic h with ⟨hp41, h⟩ | ⟨hp41, h⟩
        · refine wCT hp41 tm (s1 rfl) ?_
          refine wExit ?_
          refine pThenX ?_
          refine pBlkX ?_
          refine pDrop (.cons _ .slnil) ?_
          exact pJ1 _ (so h) ⟨rfl, rfl, rfl, rfl, trivial⟩ rfl
        · refine wCF hp41 tm (s1 rfl) ?_
          refine wSkip ?_
          refine pSeq ?_
          refine wSeq ?_
          refine wSeq ?_
          refine rg (cp (oMv tm) (s1 rfl) <| cp (oSNe rfl tm (cS (by decide))) (s1 rfl) <| .nil) (by kernel_rfl) ?_
          refine pSeq ?_
          rcases ic h with ⟨hp42, h⟩ | ⟨hp42, h⟩
          · refine wNT hp42 tm (s1 rfl) ?_
            refine wSkip ?_
            refine pSeq ?_
            obtain ⟨hc43, h⟩ := ib h
            refine rg (cp (oMv tm) (s1 rfl) <| cp (oFldP o36_1 tm) (s1 rfl) <| cr (oLdB (n := 0) (k := 1) rfl rfl rfl t9 tm) (s1 rfl) <| cp (oSAdd hc43 tm tm) (s2 rfl rfl) <| cp (oAs tm) (s1 rfl) <| .nil) (by kernel_rfl) ?_
            refine pBlkN ?_
            refine pDrop (.cons _ .slnil) ?_
            exact pJ1 _ (so h) ⟨rfl, rfl, rfl, rfl, trivial⟩ rfl
          · refine wNF hp42 tm (s1 rfl) ?_
            obtain ⟨hc44, h⟩ := ib h
            refine rg (cp (oMv tm) (s1 rfl) <| cp (oSAdd hc44 tm (cS (by decide))) (s1 rfl) <| cp (oAs tm) (s1 rfl) <| .nil) (by kernel_rfl) ?_
            refine pSeq ?_
            obtain ⟨hc45, h⟩ := ib h
            refine rg (cp (oMv tm) (s1 rfl) <| cp (oFldP o36_1 tm) (s1 rfl) <| cr (oLdB (n := 0) (k := 1) rfl rfl rfl t9 tm) (s1 rfl) <| cp (oSAdd hc45 tm tm) (s2 rfl rfl) <| cp (oAs tm) (s1 rfl) <| .nil) (by kernel_rfl) ?_
            refine pBlkN ?_
            refine pDrop (.cons _ .slnil) ?_
            exact pJ1 _ (so h) ⟨rfl, rfl, rfl, rfl, trivial⟩ rfl
      · rintro x39 rfl
        replace h := hk2
        refine rg (cp (oAdd tm (cI (by decide))) (s1 rfl) <| cp (oMv tm) (s1 rfl) <| .nil) (by kernel_rfl) ?_
        exact pLoop (lW (ih _ _ h) ⟨rfl, rfl, rfl, rfl, trivial⟩ rfl)
    · refine wCF hp32 tm (s1 rfl) ?_
      refine wExit ?_
      refine pThenX ?_
      refine pThenX ?_
      refine pBlkX ?_
      exact pJ1 _ (so h) ⟨rfl, trivial⟩ rfl
  · rintro x31 rfl
    replace h := hk1
    refine pSeq ?_
    refine wSeq ?_
    refine rg (cp (oMv tm) (s1 rfl) <| cp (oAs tm) (s1 rfl) <| .nil) (by kernel_rfl) ?_
    refine pSeq ?_
    refine wRet ?_
    obtain rfl := so h
    exact pR1 (.inl rfl) rfl (.tmp rfl <| .nil)

theorem reticentlaw03_LexJoins.ok {a0 : List api_Tok} {r : Bool} (h : reticentlaw03_LexJoins.f a0 = some r) : FnA Try.prog 5 [(kL (kR f_api_Tok)).sig a0] (kB.sig r) := by
  refine fnIntro Try.func5 rfl (by kernel_rfl) fun H0 w0 => ?_
  unfold reticentlaw03_LexJoins.f at h
  refine wSeq ?_
  refine rg (cp (oAs cB) trivial <| .nil) (by kernel_rfl) ?_
  refine pSeq ?_
  refine wSeq ?_
  refine rg (cp (oAs cV) trivial <| .nil) (by kernel_rfl) ?_
  refine pSeq ?_
  refine wSeq ?_
  refine wSeq ?_
  obtain ⟨hc1, h⟩ := ib h
  refine rg (cp (oMv tm) (s1 rfl) <| cp (oMv tm) (s1 rfl) <| cp (oLenL u34 tm) (s1 rfl) <| cp (oMin tm (cI (by decide))) (s1 rfl) <| cp (oCutHi u34 z36 hc1.1 hc1.2 tm tm) (s2 rfl rfl) <| cp (oLenL u34 tm) (s1 rfl) <| cp (oMv (cI (by decide))) trivial <| .nil) (by kernel_rfl) ?_
  refine pSeq ?_
  refine wNil (kR f_api_Tok) 36 1003 3 rfl rfl ?_
  obtain ⟨o1, h, hk1⟩ := bd h
  refine wK1 (fun x12 => x12 = o1) (fun x12 => [(3, .v 1003)]) (fun x12 => [.row 1003 36 (kR f_api_Tok) x12]) ?_ ?_
  · refine wBlock (wLoop ?_)
    refine lW (pc2 o1 (fun v10 v11 => [(3, .v 1003), (10, .d ((kL (kR f_api_Tok)).sig (lCut a0 0 (if 60 < (a0.length : Int) then 60 else (a0.length : Int))))), (11, .d ((kI .i64).sig ((lCut a0 0 (if 60 < (a0.length : Int) then 60 else (a0.length : Int))).length : Int))), (12, .d ((kI .i64).sig v11))]) (fun v10 v11 => [.row 1003 36 (kR f_api_Tok) v10]) (reticentlaw03_LexJoins.l0.partial_correctness a0) ?_ _ _ h) ⟨rfl, rfl, rfl, rfl, trivial⟩ rfl
    clear h
    intro f' ih v10 v11 h
    refine wSeq ?_
    refine rg (cp (oLt rfl tm tm) (s2 rfl rfl) <| .nil) (by kernel_rfl) ?_
    refine pSeq ?_
    refine wSeq ?_
    rcases ic h with ⟨hp13, h⟩ | ⟨hp13, h⟩
    · refine wCT hp13 tm (s1 rfl) ?_
      refine wSkip ?_
      refine pSeq ?_
      refine wSeq ?_
      refine wBlock ?_
      refine wSeq ?_
      obtain ⟨y14, hy14, h⟩ := bd h
      refine rg (cp (oIdx u34 z36 hy14 tm tm) (s2 rfl rfl) <| cp (oLd t36 tm) (s1 rfl) <| cw (oAlloc (id := 5) (ls := [.d (kI .i64) 0, .d kS [], .d (kI .i64) 0]) ze36 (fun g => ⟨[(.int .i64 0)], _, rfl, zI_i64 g.H, ⟨[(.string ⟨⟨[]⟩⟩)], _, rfl, zS g.H, ⟨[(.int .i64 0)], _, rfl, zI_i64 g.H, rfl⟩⟩⟩)) trivial <| cwn (oStA (n := 0) (fs := f_api_Tok) rfl rfl z36 tm tm) (s2 rfl rfl) <| .nil) (by kernel_rfl) ?_
      refine pSeq ?_
      refine wSeq ?_
      obtain ⟨hc15, h⟩ := ib h
      refine rg (cp (oFldP o36_1 tm) (s1 rfl) <| cr (oLdB (n := 0) (k := 1) rfl rfl rfl t9 tm) (s1 rfl) <| cp (oFldP o36_1 tm) (s1 rfl) <| cr (oLdB (n := 0) (k := 1) rfl rfl rfl t9 tm) (s1 rfl) <| cp (oLenS u9 tm) (s1 rfl) <| cp (oMin tm (cI (by decide))) (s1 rfl) <| cp (oCutSH u9 hc15.1 hc15.2 tm tm) (s2 rfl rfl) <| cp (oFldP o36_1 tm) (s1 rfl) <| cwn (oSt (n := 0) (k := 1) rfl rfl rfl rfl z9 tm tm) (s2 rfl rfl) <| .nil) (by kernel_rfl) ?_
      refine pSeq ?_
      obtain ⟨hc16, h⟩ := ib h
      refine rg (cp (oMv tm) (s1 rfl) <| cr (oLdA (n := 0) (fs := f_api_Tok) (u := ⟨y14.Kind, sCut y14.Text 0 (if 30 < (y14.Text.length : Int) then 30 else (y14.Text.length : Int)), y14.At⟩) rfl ⟨rfl, rfl, rfl, trivial⟩ t36 tm) (s1 rfl) <| cp (oLit (d := (kR f_api_Tok)) el34 (by decide) rfl rfl rfl (e1 tm e0)) (s1 rfl) <| cw (oApp (n := 1) (id' := 27) el34 (by decide) rfl (by decide) hc16 tm tm) (s2 rfl rfl) <| cp (oAs tm) (s1 rfl) <| .nil) (by kernel_rfl) ?_
      refine pBlkN ?_
      refine pSeq ?_
      refine rg (cp (oAdd tm (cI (by decide))) (s1 rfl) <| cp (oMv tm) (s1 rfl) <| .nil) (by kernel_rfl) ?_
      refine pDrop (.cons _ (.cons_cons _ .slnil)) ?_
      refine pSub (Γ' := [(3, .v 27), (10, .d ((kL (kR f_api_Tok)).sig (lCut a0 0 (if 60 < (a0.length : Int) then 60 else (a0.length : Int))))), (11, .d ((kI .i64).sig ((lCut a0 0 (if 60 < (a0.length : Int) then 60 else (a0.length : Int))).length : Int))), (12, .d ((kI .i64).sig (IntKind.i64.wrap (v11 + 1))))]) ⟨rfl, rfl, rfl, rfl, trivial⟩ ?_
      refine pRen 27 1003 rfl ?_
      exact pLoop (lW (ih _ _ h) ⟨rfl, rfl, rfl, rfl, trivial⟩ rfl)
    · refine wCF hp13 tm (s1 rfl) ?_
      refine wExit ?_
      refine pThenX ?_
      refine pThenX ?_
      refine pBlkX ?_
      exact pJ1 _ (so h) ⟨rfl, trivial⟩ rfl
  · rintro x12 rfl
    replace h := hk1
    refine pSeq ?_
    obtain ⟨o1, h, hk1⟩ := bd h
    refine wJ1 (fun x21 => x21 = o1) (fun x21 => [(2, .d (kB.sig x21))]) (fun x21 => [.row 1003 36 (kR f_api_Tok) x12]) ?_ ?_
    · obtain ⟨y22, hy22, h⟩ := bd h
      rcases ic h with ⟨hp23, h⟩ | ⟨hp23, h⟩
      · obtain ⟨y24, hy24, h⟩ := bd h
        obtain ⟨y25, hy25, h⟩ := bd h
        refine rg (cp (oCall rfl (reticentlaw03_alive.ok hy22) b22 opds_nil) trivial <| cp (oMv tm) (s1 rfl) <| cgB hp23 rfl rfl (oMv tm) (s1 rfl) <| crgB hp23 rfl rfl (oCallB rfl (lex_Join.ok hy24) (fK fS) b23 (rc1 (rR (n := 0) rfl) rn0)) (s1 rfl) <| cgB hp23 rfl rfl (oMv tm) (s1 rfl) <| crgB hp23 rfl rfl (oCallB rfl (reticentref03_Join.ok hy25) (fK fS) b24 (rc1 (rR (n := 0) rfl) rn0)) (s1 rfl) <| cgB hp23 rfl rfl (oSEq rfl tm tm) (s2 rfl rfl) <| cp (oPkT hp23 tm tm) (s2 rfl rfl) <| cp (oAs tm) (s1 rfl) <| .nil) (by kernel_rfl) ?_
        exact pJ1 _ (so h) ⟨rfl, trivial⟩ rfl
      · refine rg (cp (oCall rfl (reticentlaw03_alive.ok hy22) b22 opds_nil) trivial <| cp (oMv tm) (s1 rfl) <| csB (nb hp23) rfl rfl <| csB (nb hp23) rfl rfl <| csB (nb hp23) rfl rfl <| csB (nb hp23) rfl rfl <| csB (nb hp23) rfl rfl <| cp (oPkF (nb hp23) tm cB) (s1 rfl) <| cp (oAs tm) (s1 rfl) <| .nil) (by kernel_rfl) ?_
        exact pJ1 _ (so h) ⟨rfl, trivial⟩ rfl
    · rintro x21 rfl
      replace h := hk1
      refine wRet ?_
      obtain rfl := so h
      exact pR1 (.inl rfl) rfl (.tmp rfl <| .nil)

end Go.Proofs.Ythpmbokenhpakaa.LC
