import Derived.Test.YtjkijjhjffodcaaShelf
import Derived.Test.YtjkijjhjffodcaaDLF
import Derived.Test.YtjkijjhjffodcaaProg
set_option linter.unusedVariables false
set_option maxRecDepth 10000
namespace Go.Proofs.Ytjkijjhjffodcaa.LF
open Go Go.Proofs.Ytjkijjhjffodcaa.Ab

theorem hm : Try.prog.follows .mixedOrders = true := by kernel_rfl
theorem u9 : Try.prog.underlying 9 = some (.string) := by kernel_rfl
theorem b69 : bodied Try.prog 69 := by unfold bodied; kernel_rfl
theorem b44 : bodied Try.prog 44 := by unfold bodied; kernel_rfl
theorem b43 : bodied Try.prog 43 := by unfold bodied; kernel_rfl
theorem b45 : bodied Try.prog 45 := by unfold bodied; kernel_rfl
theorem b46 : bodied Try.prog 46 := by unfold bodied; kernel_rfl
theorem b47 : bodied Try.prog 47 := by unfold bodied; kernel_rfl
theorem b48 : bodied Try.prog 48 := by unfold bodied; kernel_rfl
theorem b23 : bodied Try.prog 23 := by unfold bodied; kernel_rfl
theorem pl70 : places Try.prog 70 = some [(0, 1), (1, 1), (2, 1)] := by kernel_rfl
theorem po70 : ∀ q f, f_api_Tok[q]? = some f → ([(0, 1), (1, 1), (2, 1)] : List (Nat × Nat))[q]? = some (offF f_api_Tok q, f.d.sz) := fun q f h => by
  unfold f_api_Tok at h
  match q, h with
  | 0, h => cases h; rfl
  | 1, h => cases h; rfl
  | 2, h => cases h; rfl
  | n + 3, h => simp at h
theorem ze70 : zeroIs Try.prog 70 [(.int .i64 0), (.string ⟨⟨[]⟩⟩), (.int .i64 0)] := by unfold zeroIs; kernel_rfl
theorem el40 : ElTy Try.prog 40 70 3 32 := ⟨by kernel_rfl, by kernel_rfl⟩
theorem zS : ∀ H, kS.reps H [.string ⟨⟨[]⟩⟩] [] := fun _ => ⟨rfl, by decide⟩
theorem zI_i64 : ∀ H, (kI .i64).reps H [.int .i64 0] 0 := fun _ => ⟨rfl, by decide⟩
theorem u40 : Try.prog.underlying 40 = some (.slice 70) := by kernel_rfl
theorem ze86 : zeroIs Try.prog 86 [(.slice none 0 0)] := by unfold zeroIs; kernel_rfl
theorem t86 : tinf Try.prog 86 = some (false, 1) := by kernel_rfl
theorem u86 : Try.prog.underlying 86 = some (.slice 50) := by kernel_rfl
theorem z50 : sizeIs Try.prog 50 1 := by unfold sizeIs; kernel_rfl
theorem t50 : tinf Try.prog 50 = some (false, 1) := by kernel_rfl
theorem u50 : Try.prog.underlying 50 = some (.bool) := by kernel_rfl
theorem z86 : sizeIs Try.prog 86 1 := by unfold sizeIs; kernel_rfl
theorem u26 : Try.prog.underlying 26 = some (.slice 3) := by kernel_rfl
theorem z3 : sizeIs Try.prog 3 1 := by unfold sizeIs; kernel_rfl
theorem t3 : tinf Try.prog 3 = some (false, 1) := by kernel_rfl
theorem el86 : ElTy Try.prog 86 50 1 1 := ⟨by kernel_rfl, by kernel_rfl⟩
theorem b33 : bodied Try.prog 33 := by unfold bodied; kernel_rfl
theorem b18 : bodied Try.prog 18 := by unfold bodied; kernel_rfl
theorem u4 : Try.prog.underlying 4 = some (.bool) := by kernel_rfl
theorem el22 : ElTy Try.prog 22 9 1 16 := ⟨by kernel_rfl, by kernel_rfl⟩
theorem u22 : Try.prog.underlying 22 = some (.slice 9) := by kernel_rfl
theorem z9 : sizeIs Try.prog 9 1 := by unfold sizeIs; kernel_rfl
theorem t9 : tinf Try.prog 9 = some (false, 1) := by kernel_rfl
theorem o76_0 : fofs Try.prog 76 0 = some 0 := by kernel_rfl
theorem t74 : tinf Try.prog 74 = some (false, 1) := by kernel_rfl
theorem t81 : tinf Try.prog 81 = some (true, 3) := by kernel_rfl
theorem el74 : ElTy Try.prog 74 81 3 32 := ⟨by kernel_rfl, by kernel_rfl⟩
theorem z74 : sizeIs Try.prog 74 1 := by unfold sizeIs; kernel_rfl
theorem ze81 : zeroIs Try.prog 81 [(.string ⟨⟨[]⟩⟩), (.int .i64 0), (.int .i64 0)] := by unfold zeroIs; kernel_rfl
theorem u74 : Try.prog.underlying 74 = some (.slice 81) := by kernel_rfl
theorem z81 : sizeIs Try.prog 81 3 := by unfold sizeIs; kernel_rfl
theorem o81_1 : fofs Try.prog 81 1 = some 1 := by kernel_rfl
theorem o81_0 : fofs Try.prog 81 0 = some 0 := by kernel_rfl
theorem o81_2 : fofs Try.prog 81 2 = some 2 := by kernel_rfl
theorem pl81 : places Try.prog 81 = some [(0, 1), (1, 1), (2, 1)] := by kernel_rfl
theorem po81 : ∀ q f, f_show_piece[q]? = some f → ([(0, 1), (1, 1), (2, 1)] : List (Nat × Nat))[q]? = some (offF f_show_piece q, f.d.sz) := fun q f h => by
  unfold f_show_piece at h
  match q, h with
  | 0, h => cases h; rfl
  | 1, h => cases h; rfl
  | 2, h => cases h; rfl
  | n + 3, h => simp at h
theorem b7 : bodied Try.prog 7 := by unfold bodied; kernel_rfl
theorem ze76 : zeroIs Try.prog 76 [(.slice none 0 0)] := by unfold zeroIs; kernel_rfl
theorem b26 : bodied Try.prog 26 := by unfold bodied; kernel_rfl
theorem b27 : bodied Try.prog 27 := by unfold bodied; kernel_rfl
theorem b28 : bodied Try.prog 28 := by unfold bodied; kernel_rfl
theorem b29 : bodied Try.prog 29 := by unfold bodied; kernel_rfl
theorem el26 : ElTy Try.prog 26 3 1 8 := ⟨by kernel_rfl, by kernel_rfl⟩
theorem b15 : bodied Try.prog 15 := by unfold bodied; kernel_rfl
theorem u136 : Try.prog.underlying 136 = some (.map 9 3) := by kernel_rfl
theorem mk9 : MKey Try.prog 9 .string kS := keyS u9
theorem o73_1 : fofs Try.prog 73 1 = some 1 := by kernel_rfl
theorem o73_0 : fofs Try.prog 73 0 = some 0 := by kernel_rfl
theorem t40 : tinf Try.prog 40 = some (false, 1) := by kernel_rfl
theorem o73_4 : fofs Try.prog 73 4 = some 4 := by kernel_rfl
theorem t29 : tinf Try.prog 29 = some (false, 1) := by kernel_rfl
theorem z29 : sizeIs Try.prog 29 1 := by unfold sizeIs; kernel_rfl
theorem o73_2 : fofs Try.prog 73 2 = some 2 := by kernel_rfl
theorem t26 : tinf Try.prog 26 = some (false, 1) := by kernel_rfl
theorem b86 : bodied Try.prog 86 := by unfold bodied; kernel_rfl
theorem z26 : sizeIs Try.prog 26 1 := by unfold sizeIs; kernel_rfl
theorem b91 : bodied Try.prog 91 := by unfold bodied; kernel_rfl
theorem z70 : sizeIs Try.prog 70 3 := by unfold sizeIs; kernel_rfl
theorem t70 : tinf Try.prog 70 = some (true, 3) := by kernel_rfl
theorem o70_0 : fofs Try.prog 70 0 = some 0 := by kernel_rfl
theorem o70_1 : fofs Try.prog 70 1 = some 1 := by kernel_rfl
theorem b79 : bodied Try.prog 79 := by unfold bodied; kernel_rfl
theorem b84 : bodied Try.prog 84 := by unfold bodied; kernel_rfl
theorem b85 : bodied Try.prog 85 := by unfold bodied; kernel_rfl
theorem pl73 : places Try.prog 73 = some [(0, 1), (1, 1), (2, 1), (3, 1), (4, 1)] := by kernel_rfl
theorem po73_2 : ∀ q f, f_rule_parser_n2[q]? = some f → ([(0, 1), (1, 1), (2, 1), (3, 1), (4, 1)] : List (Nat × Nat))[q]? = some (offF f_rule_parser_n2 q, f.d.sz) := fun q f h => by
  unfold f_rule_parser_n2 at h
  match q, h with
  | 0, h => cases h; rfl
  | 1, h => cases h; rfl
  | 2, h => cases h; rfl
  | 3, h => cases h; rfl
  | 4, h => cases h; rfl
  | n + 5, h => simp at h
theorem ze73 : zeroIs Try.prog 73 [(.slice none 0 0), (.int .i64 0), (.slice none 0 0), (.int .i64 0), (.int .i64 0)] := by unfold zeroIs; kernel_rfl
theorem b87 : bodied Try.prog 87 := by unfold bodied; kernel_rfl
theorem zv3 : zeroV Try.prog 3 (.int .i64 0) := by unfold zeroV; kernel_rfl
theorem b72 : bodied Try.prog 72 := by unfold bodied; kernel_rfl
theorem o73_3 : fofs Try.prog 73 3 = some 3 := by kernel_rfl
theorem b24 : bodied Try.prog 24 := by unfold bodied; kernel_rfl
theorem b71 : bodied Try.prog 71 := by unfold bodied; kernel_rfl
theorem b88 : bodied Try.prog 88 := by unfold bodied; kernel_rfl
theorem b73 : bodied Try.prog 73 := by unfold bodied; kernel_rfl
theorem b49 : bodied Try.prog 49 := by unfold bodied; kernel_rfl
theorem b50 : bodied Try.prog 50 := by unfold bodied; kernel_rfl
theorem b25 : bodied Try.prog 25 := by unfold bodied; kernel_rfl
theorem b74 : bodied Try.prog 74 := by unfold bodied; kernel_rfl
theorem b51 : bodied Try.prog 51 := by unfold bodied; kernel_rfl
theorem b30 : bodied Try.prog 30 := by unfold bodied; kernel_rfl
theorem b12 : bodied Try.prog 12 := by unfold bodied; kernel_rfl
theorem b14 : bodied Try.prog 14 := by unfold bodied; kernel_rfl
theorem b13 : bodied Try.prog 13 := by unfold bodied; kernel_rfl
theorem b10 : bodied Try.prog 10 := by unfold bodied; kernel_rfl
theorem b16 : bodied Try.prog 16 := by unfold bodied; kernel_rfl

theorem lex_while.ok {a0 : Str} {a1 : Int → Option Bool} {r : Int} (h : lex_while.f a0 a1 = some r) : FnA Try.prog 43 [kS.sig a0, (sFun Try.prog (rl1 (kI .u8) kB a1))] ((kI .i64).sig r) := by
  refine fnIntro Try.func43 rfl (by kernel_rfl) fun H0 w0 => ?_
  unfold lex_while.f at h
  refine wSeq ?_
  refine rg (cp (oAs (cI (by decide))) trivial <| .nil) (by kernel_rfl) ?_
  refine pSeq ?_
  refine wSeq ?_
  refine rg (cp (oAs (cI (by decide))) trivial <| .nil) (by kernel_rfl) ?_
  refine pSeq ?_
  obtain ⟨o1, h, hk1⟩ := bd h
  refine wJ1 (fun x18 => x18 = o1) (fun x18 => [(5, .d ((kI .i64).sig x18))]) (fun x18 => []) ?_ ?_
  · refine wBlock (wLoop ?_)
    refine lW (pc1 o1 (fun v17 => [(0, .d (kS.sig a0)), (1, .d ((sFun Try.prog (rl1 (kI .u8) kB a1)))), (5, .d ((kI .i64).sig v17))]) (fun v17 => []) (lex_while.l0.partial_correctness a0 a1) ?_ _ h) ⟨rfl, rfl, rfl, trivial⟩ rfl
    clear h
    intro f' ih v17 h
    refine wSeq ?_
    obtain ⟨o2, h, hk2⟩ := bd h
    refine wJ1 (fun x22 => x22 = o2) (fun x22 => [(0, .d (kS.sig a0)), (1, .d ((sFun Try.prog (rl1 (kI .u8) kB a1)))), (5, .d ((kI .i64).sig v17)), (16, .d (kB.sig x22))]) (fun x22 => []) ?_ ?_
    · rcases ic h with ⟨hp23, h⟩ | ⟨hp23, h⟩
      · obtain ⟨hc24, h⟩ := ib h
        obtain ⟨y25, hy25, h⟩ := bd h
        refine rg (cp (oMv tm) (s1 rfl) <| cp (oMv tm) (s1 rfl) <| cp (oLenS u9 tm) (s1 rfl) <| cp (oLt rfl tm tm) (s2 rfl rfl) <| cp (oMv tm) (s1 rfl) <| cgB (decide_eq_true hp23) rfl rfl (oMv tm) (s1 rfl) <| cgB (decide_eq_true hp23) rfl rfl (oMv tm) (s1 rfl) <| cgB (decide_eq_true hp23) rfl rfl (oMv tm) (s1 rfl) <| cgB (decide_eq_true hp23) rfl rfl (oIdxS u9 hc24.1 hc24.2 tm tm) (s2 rfl rfl) <| cgB (decide_eq_true hp23) rfl rfl (oCallV rfl (rl1i hy25) tm (opds_cons tm opds_nil)) (s2 rfl rfl) <| cp (oPkT (decide_eq_true hp23) tm tm) (s2 rfl rfl) <| .nil) (by kernel_rfl) ?_
        exact pJ1 _ (so h) ⟨rfl, rfl, rfl, rfl, trivial⟩ rfl
      · refine rg (cp (oMv tm) (s1 rfl) <| cp (oMv tm) (s1 rfl) <| cp (oLenS u9 tm) (s1 rfl) <| cp (oLt rfl tm tm) (s2 rfl rfl) <| cp (oMv tm) (s1 rfl) <| csB (decide_eq_false hp23) rfl rfl <| csB (decide_eq_false hp23) rfl rfl <| csB (decide_eq_false hp23) rfl rfl <| csB (decide_eq_false hp23) rfl rfl <| csB (decide_eq_false hp23) rfl rfl <| cp (oPkF (decide_eq_false hp23) tm cB) (s1 rfl) <| .nil) (by kernel_rfl) ?_
        exact pJ1 _ (so h) ⟨rfl, rfl, rfl, rfl, trivial⟩ rfl
    · rintro x22 rfl
      replace h := hk2
      rcases ic h with ⟨hp26, h⟩ | ⟨hp26, h⟩
      · refine wBT hp26 tm (s1 rfl) ?_
        refine wSkip ?_
        refine pSeq ?_
        refine wBlock ?_
        refine rg (cp (oMv tm) (s1 rfl) <| cp (oAdd tm (cI (by decide))) (s1 rfl) <| cp (oAs tm) (s1 rfl) <| .nil) (by kernel_rfl) ?_
        refine pBlkN ?_
        exact pLoop (lW (ih _ h) ⟨rfl, rfl, rfl, trivial⟩ rfl)
      · refine wBF hp26 tm (s1 rfl) ?_
        refine wExit ?_
        refine pThenX ?_
        refine pThenX ?_
        refine pBlkX ?_
        exact pJ1 _ (so h) ⟨rfl, trivial⟩ rfl
  · rintro x18 rfl
    replace h := hk1
    refine wSeq ?_
    refine rg (cp (oMv tm) (s1 rfl) <| cp (oAs tm) (s1 rfl) <| .nil) (by kernel_rfl) ?_
    refine pSeq ?_
    refine wRet ?_
    obtain rfl := so h
    exact pR1 (.inl rfl) rfl (.tmp rfl <| .nil)

theorem lex_token_1.ok {a0 : Int} {r : Bool} (h : lex_token_1.f a0 = some r) : FnA Try.prog 44 [(kI .u8).sig a0] (kB.sig r) := by
  refine fnIntro Try.func44 rfl (by kernel_rfl) fun H0 w0 => ?_
  unfold lex_token_1.f at h
  refine wSeq ?_
  refine rg (cp (oAs cB) trivial <| .nil) (by kernel_rfl) ?_
  refine pSeq ?_
  refine wSeq ?_
  refine rg (cp (oMv tm) (s1 rfl) <| cp (oNe rfl tm (cI (by decide))) (s1 rfl) <| cp (oAs tm) (s1 rfl) <| .nil) (by kernel_rfl) ?_
  refine pSeq ?_
  refine wRet ?_
  obtain rfl := so h
  exact pR1 (.inl rfl) rfl (.tmp rfl <| .nil)

theorem lex_letter.ok {a0 : Int} {r : Bool} (h : lex_letter.f a0 = some r) : FnA Try.prog 45 [(kI .u8).sig a0] (kB.sig r) := by
  refine fnIntro Try.func45 rfl (by kernel_rfl) fun H0 w0 => ?_
  unfold lex_letter.f at h
  refine wSeq ?_
  refine rg (cp (oAs cB) trivial <| .nil) (by kernel_rfl) ?_
  refine pSeq ?_
  obtain ⟨o1, h, hk1⟩ := bd h
  refine wJ1 (fun x2 => x2 = o1) (fun x2 => [(2, .d (kB.sig x2))]) (fun x2 => []) ?_ ?_
  · rcases ic h with ⟨hp3, h⟩ | ⟨hp3, h⟩
    · refine rg (cp (oMv tm) (s1 rfl) <| cp (oGe rfl tm (cI (by decide))) (s1 rfl) <| cp (oMv tm) (s1 rfl) <| cgB (decide_eq_true hp3) rfl rfl (oMv tm) (s1 rfl) <| cgB (decide_eq_true hp3) rfl rfl (oLe rfl tm (cI (by decide))) (s1 rfl) <| cp (oPkT (decide_eq_true hp3) tm tm) (s2 rfl rfl) <| cp (oAs tm) (s1 rfl) <| .nil) (by kernel_rfl) ?_
      exact pJ1 _ (so h) ⟨rfl, trivial⟩ rfl
    · refine rg (cp (oMv tm) (s1 rfl) <| cp (oGe rfl tm (cI (by decide))) (s1 rfl) <| cp (oMv tm) (s1 rfl) <| csB (decide_eq_false hp3) rfl rfl <| csB (decide_eq_false hp3) rfl rfl <| cp (oPkF (decide_eq_false hp3) tm cB) (s1 rfl) <| cp (oAs tm) (s1 rfl) <| .nil) (by kernel_rfl) ?_
      exact pJ1 _ (so h) ⟨rfl, trivial⟩ rfl
  · rintro x2 rfl
    replace h := hk1
    refine wRet ?_
    obtain rfl := so h
    exact pR1 (.inl rfl) rfl (.tmp rfl <| .nil)

theorem lex_digit.ok {a0 : Int} {r : Bool} (h : lex_digit.f a0 = some r) : FnA Try.prog 46 [(kI .u8).sig a0] (kB.sig r) := by
  refine fnIntro Try.func46 rfl (by kernel_rfl) fun H0 w0 => ?_
  unfold lex_digit.f at h
  refine wSeq ?_
  refine rg (cp (oAs cB) trivial <| .nil) (by kernel_rfl) ?_
  refine pSeq ?_
  obtain ⟨o1, h, hk1⟩ := bd h
  refine wJ1 (fun x2 => x2 = o1) (fun x2 => [(2, .d (kB.sig x2))]) (fun x2 => []) ?_ ?_
  · rcases ic h with ⟨hp3, h⟩ | ⟨hp3, h⟩
    · refine rg (cp (oMv tm) (s1 rfl) <| cp (oGe rfl tm (cI (by decide))) (s1 rfl) <| cp (oMv tm) (s1 rfl) <| cgB (decide_eq_true hp3) rfl rfl (oMv tm) (s1 rfl) <| cgB (decide_eq_true hp3) rfl rfl (oLe rfl tm (cI (by decide))) (s1 rfl) <| cp (oPkT (decide_eq_true hp3) tm tm) (s2 rfl rfl) <| cp (oAs tm) (s1 rfl) <| .nil) (by kernel_rfl) ?_
      exact pJ1 _ (so h) ⟨rfl, trivial⟩ rfl
    · refine rg (cp (oMv tm) (s1 rfl) <| cp (oGe rfl tm (cI (by decide))) (s1 rfl) <| cp (oMv tm) (s1 rfl) <| csB (decide_eq_false hp3) rfl rfl <| csB (decide_eq_false hp3) rfl rfl <| cp (oPkF (decide_eq_false hp3) tm cB) (s1 rfl) <| cp (oAs tm) (s1 rfl) <| .nil) (by kernel_rfl) ?_
      exact pJ1 _ (so h) ⟨rfl, trivial⟩ rfl
  · rintro x2 rfl
    replace h := hk1
    refine wRet ?_
    obtain rfl := so h
    exact pR1 (.inl rfl) rfl (.tmp rfl <| .nil)

theorem stringslite_HasPrefix.ok {a0 : Str} {a1 : Str} {r : Bool} (h : stringslite_HasPrefix.f a0 a1 = some r) : FnA Try.prog 69 [kS.sig a0, kS.sig a1] (kB.sig r) := by
  refine fnIntro Try.func69 rfl (by kernel_rfl) fun H0 w0 => ?_
  unfold stringslite_HasPrefix.f at h
  refine wSeq ?_
  refine rg (cp (oAs cB) trivial <| .nil) (by kernel_rfl) ?_
  refine pSeq ?_
  obtain ⟨o1, h, hk1⟩ := bd h
  refine wJ1 (fun x3 => x3 = o1) (fun x3 => [(4, .d (kB.sig x3))]) (fun x3 => []) ?_ ?_
  · rcases ic h with ⟨hp4, h⟩ | ⟨hp4, h⟩
    · obtain ⟨hc5, h⟩ := ib h
      refine rg (cp (oMv tm) (s1 rfl) <| cp (oLenS u9 tm) (s1 rfl) <| cp (oMv tm) (s1 rfl) <| cp (oLenS u9 tm) (s1 rfl) <| cp (oGe rfl tm tm) (s2 rfl rfl) <| cp (oMv tm) (s1 rfl) <| cgB (decide_eq_true hp4) rfl rfl (oMv tm) (s1 rfl) <| cgB (decide_eq_true hp4) rfl rfl (oMv tm) (s1 rfl) <| cgB (decide_eq_true hp4) rfl rfl (oLenS u9 tm) (s1 rfl) <| cgB (decide_eq_true hp4) rfl rfl (oCutSH u9 hc5.1 hc5.2 tm tm) (s2 rfl rfl) <| cgB (decide_eq_true hp4) rfl rfl (oMv tm) (s1 rfl) <| cgB (decide_eq_true hp4) rfl rfl (oSEq rfl tm tm) (s2 rfl rfl) <| cp (oPkT (decide_eq_true hp4) tm tm) (s2 rfl rfl) <| cp (oAs tm) (s1 rfl) <| .nil) (by kernel_rfl) ?_
      exact pJ1 _ (so h) ⟨rfl, trivial⟩ rfl
    · refine rg (cp (oMv tm) (s1 rfl) <| cp (oLenS u9 tm) (s1 rfl) <| cp (oMv tm) (s1 rfl) <| cp (oLenS u9 tm) (s1 rfl) <| cp (oGe rfl tm tm) (s2 rfl rfl) <| cp (oMv tm) (s1 rfl) <| csB (decide_eq_false hp4) rfl rfl <| csB (decide_eq_false hp4) rfl rfl <| csB (decide_eq_false hp4) rfl rfl <| csB (decide_eq_false hp4) rfl rfl <| csB (decide_eq_false hp4) rfl rfl <| csB (decide_eq_false hp4) rfl rfl <| cp (oPkF (decide_eq_false hp4) tm cB) (s1 rfl) <| cp (oAs tm) (s1 rfl) <| .nil) (by kernel_rfl) ?_
      exact pJ1 _ (so h) ⟨rfl, trivial⟩ rfl
  · rintro x3 rfl
    replace h := hk1
    refine wRet ?_
    obtain rfl := so h
    exact pR1 (.inl rfl) rfl (.tmp rfl <| .nil)

theorem strings_HasPrefix.ok {a0 : Str} {a1 : Str} {r : Bool} (h : strings_HasPrefix.f a0 a1 = some r) : FnA Try.prog 47 [kS.sig a0, kS.sig a1] (kB.sig r) := by
  refine fnIntro Try.func47 rfl (by kernel_rfl) fun H0 w0 => ?_
  unfold strings_HasPrefix.f at h
  refine wSeq ?_
  refine rg (cp (oAs cB) trivial <| .nil) (by kernel_rfl) ?_
  refine pSeq ?_
  refine wSeq ?_
  obtain ⟨y1, hy1, h⟩ := bd h
  refine rg (cp (oMv tm) (s1 rfl) <| cp (oMv tm) (s1 rfl) <| cp (oCall rfl (stringslite_HasPrefix.ok hy1) b69 (opds_cons tm (opds_cons tm opds_nil))) (s2 rfl rfl) <| cp (oAs tm) (s1 rfl) <| .nil) (by kernel_rfl) ?_
  refine pSeq ?_
  refine wRet ?_
  obtain rfl := so h
  exact pR1 (.inl rfl) rfl (.tmp rfl <| .nil)

theorem lex_token.ok {a0 : Str} {r : Int × Int} (h : lex_token.f a0 = some r) : FnA Try.prog 23 [kS.sig a0] (tup [(kI .i64).sig r.1, (kI .i64).sig r.2]) := by
  refine fnIntro Try.func23 rfl (by kernel_rfl) fun H0 w0 => ?_
  unfold lex_token.f at h
  refine wSeq ?_
  refine rg (cp (oAs (cI (by decide))) trivial <| cp (oAs (cI (by decide))) trivial <| .nil) (by kernel_rfl) ?_
  refine pSeq ?_
  refine wSeq ?_
  obtain ⟨hc1, h⟩ := ib h
  refine rg (cp (oMv tm) (s1 rfl) <| cp (oIdxS u9 hc1.1 hc1.2 tm (cI (by decide))) (s1 rfl) <| cp (oAs tm) (s1 rfl) <| .nil) (by kernel_rfl) ?_
  refine pSeq ?_
  refine wSeq ?_
  refine wBlock ?_
  obtain ⟨o1, h, hk1⟩ := bd h
  refine wJ1 (fun x4 => x4 = o1) (fun x4 => [(0, .d (kS.sig a0)), (4, .d ((kI .u8).sig (sAt a0 0))), (7, .d (kB.sig x4))]) (fun x4 => []) ?_ ?_
  · rcases ic h with ⟨hp5, h⟩ | ⟨hp5, h⟩
    · refine rg (cp (oMv tm) (s1 rfl) <| cp (oEq rfl tm (cI (by decide))) (s1 rfl) <| cp (oMv tm) (s1 rfl) <| csB (decide_eq_true hp5) rfl rfl <| csB (decide_eq_true hp5) rfl rfl <| cp (oPkT (decide_eq_true hp5) tm cB) (s1 rfl) <| cp (oMv tm) (s1 rfl) <| csB rfl rfl rfl <| csB rfl rfl rfl <| cp (oPkT rfl tm cB) (s1 rfl) <| cp (oAs tm) (s1 rfl) <| .nil) (by kernel_rfl) ?_
      exact pJ1 _ (so h) ⟨rfl, rfl, rfl, trivial⟩ rfl
    · rcases ic h with ⟨hp6, h⟩ | ⟨hp6, h⟩
      · refine rg (cp (oMv tm) (s1 rfl) <| cp (oEq rfl tm (cI (by decide))) (s1 rfl) <| cp (oMv tm) (s1 rfl) <| cgB (decide_eq_false hp5) rfl rfl (oMv tm) (s1 rfl) <| cgB (decide_eq_false hp5) rfl rfl (oEq rfl tm (cI (by decide))) (s1 rfl) <| cp (oPkF (decide_eq_false hp5) tm tm) (s2 rfl rfl) <| cp (oMv tm) (s1 rfl) <| csB (decide_eq_true hp6) rfl rfl <| csB (decide_eq_true hp6) rfl rfl <| cp (oPkT (decide_eq_true hp6) tm cB) (s1 rfl) <| cp (oAs tm) (s1 rfl) <| .nil) (by kernel_rfl) ?_
        exact pJ1 _ (so h) ⟨rfl, rfl, rfl, trivial⟩ rfl
      · refine rg (cp (oMv tm) (s1 rfl) <| cp (oEq rfl tm (cI (by decide))) (s1 rfl) <| cp (oMv tm) (s1 rfl) <| cgB (decide_eq_false hp5) rfl rfl (oMv tm) (s1 rfl) <| cgB (decide_eq_false hp5) rfl rfl (oEq rfl tm (cI (by decide))) (s1 rfl) <| cp (oPkF (decide_eq_false hp5) tm tm) (s2 rfl rfl) <| cp (oMv tm) (s1 rfl) <| cgB (decide_eq_false hp6) rfl rfl (oMv tm) (s1 rfl) <| cgB (decide_eq_false hp6) rfl rfl (oEq rfl tm (cI (by decide))) (s1 rfl) <| cp (oPkF (decide_eq_false hp6) tm tm) (s2 rfl rfl) <| cp (oAs tm) (s1 rfl) <| .nil) (by kernel_rfl) ?_
        exact pJ1 _ (so h) ⟨rfl, rfl, rfl, trivial⟩ rfl
  · rintro x4 rfl
    replace h := hk1
    rcases ic h with ⟨hp7, h⟩ | ⟨hp7, h⟩
    · refine wBT hp7 tm (s1 rfl) ?_
      refine wSeq ?_
      refine rg (cp (oAs (cI (by decide))) trivial <| cp (oAs (cI (by decide))) trivial <| .nil) (by kernel_rfl) ?_
      refine pSeq ?_
      refine wRet ?_
      refine pBlkR ?_
      refine pThenR ?_
      obtain rfl := so h
      exact pRn (.inl rfl) rfl rfl (.tmp rfl <| .tmp rfl <| .nil)
    · refine wBF hp7 tm (s1 rfl) ?_
      refine wSeq ?_
      refine rg (cp (oMv tm) (s1 rfl) <| cp (oEq rfl tm (cI (by decide))) (s1 rfl) <| cp (oAs tm) (s1 rfl) <| .nil) (by kernel_rfl) ?_
      refine pSeq ?_
      rcases ic h with ⟨hp8, h⟩ | ⟨hp8, h⟩
      · refine wCT hp8 tm (s1 rfl) ?_
        refine wSeq ?_
        obtain ⟨y9, hy9, h⟩ := bd h
        refine rg (cp (oMv tm) (s1 rfl) <| cp (oCall rfl (lex_while.ok hy9) b43 (opds_cons tm (opds_cons (oFn b44 (rl1n lex_token_1.ok)) opds_nil))) (s1 rfl) <| cp (oAs (cI (by decide))) trivial <| cp (oAs tm) (s1 rfl) <| .nil) (by kernel_rfl) ?_
        refine pSeq ?_
        refine wRet ?_
        refine pBlkR ?_
        refine pThenR ?_
        obtain rfl := so h
        exact pRn (.inl rfl) rfl rfl (.tmp rfl <| .tmp rfl <| .nil)
      · refine wCF hp8 tm (s1 rfl) ?_
        refine wSeq ?_
        obtain ⟨y10, hy10, h⟩ := bd h
        refine rg (cp (oMv tm) (s1 rfl) <| cp (oCall rfl (lex_letter.ok hy10) b45 (opds_cons tm opds_nil)) (s1 rfl) <| cp (oAs tm) (s1 rfl) <| .nil) (by kernel_rfl) ?_
        refine pSeq ?_
        rcases ic h with ⟨hp11, h⟩ | ⟨hp11, h⟩
        · refine wBT hp11 tm (s1 rfl) ?_
          refine wSeq ?_
          obtain ⟨y12, hy12, h⟩ := bd h
          refine rg (cp (oMv tm) (s1 rfl) <| cp (oCall rfl (lex_while.ok hy12) b43 (opds_cons tm (opds_cons (oFn b45 (rl1n lex_letter.ok)) opds_nil))) (s1 rfl) <| cp (oAs (cI (by decide))) trivial <| cp (oAs tm) (s1 rfl) <| .nil) (by kernel_rfl) ?_
          refine pSeq ?_
          refine wRet ?_
          refine pBlkR ?_
          refine pThenR ?_
          obtain rfl := so h
          exact pRn (.inl rfl) rfl rfl (.tmp rfl <| .tmp rfl <| .nil)
        · refine wBF hp11 tm (s1 rfl) ?_
          refine wSeq ?_
          obtain ⟨y13, hy13, h⟩ := bd h
          refine rg (cp (oMv tm) (s1 rfl) <| cp (oCall rfl (lex_digit.ok hy13) b46 (opds_cons tm opds_nil)) (s1 rfl) <| cp (oAs tm) (s1 rfl) <| .nil) (by kernel_rfl) ?_
          refine pSeq ?_
          rcases ic h with ⟨hp14, h⟩ | ⟨hp14, h⟩
          · refine wBT hp14 tm (s1 rfl) ?_
            refine wSeq ?_
            obtain ⟨y15, hy15, h⟩ := bd h
            refine rg (cp (oMv tm) (s1 rfl) <| cp (oCall rfl (lex_while.ok hy15) b43 (opds_cons tm (opds_cons (oFn b46 (rl1n lex_digit.ok)) opds_nil))) (s1 rfl) <| cp (oAs (cI (by decide))) trivial <| cp (oAs tm) (s1 rfl) <| .nil) (by kernel_rfl) ?_
            refine pSeq ?_
            refine wRet ?_
            refine pBlkR ?_
            refine pThenR ?_
            obtain rfl := so h
            exact pRn (.inl rfl) rfl rfl (.tmp rfl <| .tmp rfl <| .nil)
          · refine wBF hp14 tm (s1 rfl) ?_
            refine wSeq ?_
            obtain ⟨y16, hy16, h⟩ := bd h
            refine rg (cp (oMv tm) (s1 rfl) <| cp (oCall rfl (strings_HasPrefix.ok hy16) b47 (opds_cons tm (opds_cons (cS (by decide)) opds_nil))) (s1 rfl) <| cp (oAs tm) (s1 rfl) <| .nil) (by kernel_rfl) ?_
            refine pSeq ?_
            rcases ic h with ⟨hp17, h⟩ | ⟨hp17, h⟩
            · refine wBT hp17 tm (s1 rfl) ?_
              refine wSeq ?_
              refine rg (cp (oAs (cI (by decide))) trivial <| cp (oAs (cI (by decide))) trivial <| .nil) (by kernel_rfl) ?_
              refine pSeq ?_
              refine wRet ?_
              refine pBlkR ?_
              refine pThenR ?_
              obtain rfl := so h
              exact pRn (.inl rfl) rfl rfl (.tmp rfl <| .tmp rfl <| .nil)
            · refine wBF hp17 tm (s1 rfl) ?_
              refine wSeq ?_
              obtain ⟨y18, hy18, h⟩ := bd h
              refine rg (cp (oMv tm) (s1 rfl) <| cp (oCall rfl (libIndexByte Try.strings_IndexByte hy18) b48 (opds_cons (cS (by decide)) (opds_cons tm opds_nil))) (s1 rfl) <| cp (oGe rfl tm (cI (by decide))) (s1 rfl) <| cp (oAs tm) (s1 rfl) <| .nil) (by kernel_rfl) ?_
              refine pSeq ?_
              rcases ic h with ⟨hp19, h⟩ | ⟨hp19, h⟩
              · refine wCT hp19 tm (s1 rfl) ?_
                refine wSeq ?_
                refine rg (cp (oAs (cI (by decide))) trivial <| cp (oAs (cI (by decide))) trivial <| .nil) (by kernel_rfl) ?_
                refine pSeq ?_
                refine wRet ?_
                refine pBlkR ?_
                refine pThenR ?_
                obtain rfl := so h
                exact pRn (.inl rfl) rfl rfl (.tmp rfl <| .tmp rfl <| .nil)
              · refine wCF hp19 tm (s1 rfl) ?_
                refine wSkip ?_
                refine pBlkN ?_
                refine pSeq ?_
                refine wSeq ?_
                refine rg (cp (oAs (cI (by decide))) trivial <| cp (oAs (cI (by decide))) trivial <| .nil) (by kernel_rfl) ?_
                refine pSeq ?_
                refine wRet ?_
                obtain rfl := so h
                exact pRn (.inl rfl) rfl rfl (.tmp rfl <| .tmp rfl <| .nil)

theorem lex_Lex.ok {a0 : Str} {r : (List api_Tok) × Int × Int} (h : lex_Lex.f a0 = some r) : FnA Try.prog 12 [kS.sig a0] (tup [(kL (kR f_api_Tok)).sig r.1, (kI .i64).sig r.2.1, (kI .i64).sig r.2.2]) := by
  refine fnIntro Try.func12 rfl (by kernel_rfl) fun H0 w0 => ?_
  unfold lex_Lex.f at h
  refine wSeq ?_
  refine rg (cp (oAs cV) trivial <| cp (oAs (cI (by decide))) trivial <| cp (oAs (cI (by decide))) trivial <| .nil) (by kernel_rfl) ?_
  refine pSeq ?_
  refine wSeq ?_
  refine wSeq ?_
  refine rg (cp (oMv tm) (s1 rfl) <| cp (oLenS u9 tm) (s1 rfl) <| cp (oGt rfl tm (cI (by decide))) (s1 rfl) <| .nil) (by kernel_rfl) ?_
  refine pSeq ?_
  rcases ic h with ⟨hp1, h⟩ | ⟨hp1, h⟩
  · refine wCT hp1 tm (s1 rfl) ?_
    refine wSeq ?_
    refine rg (cp (oAs cV) trivial <| cp (oAs (cI (by decide))) trivial <| cp (oAs (cI (by decide))) trivial <| .nil) (by kernel_rfl) ?_
    refine pSeq ?_
    refine wNil (kR f_api_Tok) 70 9002 2 rfl rfl ?_
    refine wFrzR (n := 0) (id := 9002) [2] rfl rfl ⟨rfl, trivial⟩ ?_
    refine wRet ?_
    refine pThenR ?_
    obtain rfl := so h
    exact pRn (.inl rfl) rfl rfl (.tmp rfl <| .tmp rfl <| .tmp rfl <| .nil)
  · refine wCF hp1 tm (s1 rfl) ?_
    refine wSkip ?_
    refine pSeq ?_
    refine wSeq ?_
    refine rg (cp (oAs cV) trivial <| .nil) (by kernel_rfl) ?_
    refine pSeq ?_
    refine wSeq ?_
    refine wSeq ?_
    refine rg (cp (oAs (cI (by decide))) trivial <| .nil) (by kernel_rfl) ?_
    refine pSeq ?_
    refine wNil (kR f_api_Tok) 70 1005 5 rfl rfl ?_
    obtain ⟨o1, h, hk1⟩ := bd h
    refine wK1 (fun x34 => .inr x34 = o1) (fun x34 => [(0, .d (kS.sig a0)), (5, .v 1005)]) (fun x34 => [.row 1005 70 (kR f_api_Tok) x34]) ?_ ?_
    · refine wBlock (wLoop ?_)
      refine lW (pc2 o1 (fun v32 v33 => [(0, .d (kS.sig a0)), (5, .v 1005), (6, .d ((kI .i64).sig v33))]) (fun v32 v33 => [.row 1005 70 (kR f_api_Tok) v32]) (lex_Lex.l0.partial_correctness a0) ?_ _ _ h) ⟨rfl, rfl, rfl, trivial⟩ rfl
      clear h
      intro f' ih v32 v33 h
      refine wSeq ?_
      refine wSeq ?_
      refine rg (cp (oMv tm) (s1 rfl) <| cp (oMv tm) (s1 rfl) <| cp (oLenS u9 tm) (s1 rfl) <| cp (oLt rfl tm tm) (s2 rfl rfl) <| .nil) (by kernel_rfl) ?_
      refine pSeq ?_
      rcases ic h with ⟨hp35, h⟩ | ⟨hp35, h⟩
      · refine wCT hp35 tm (s1 rfl) ?_
        refine wSkip ?_
        refine pSeq ?_
        obtain ⟨o2, h, hk2⟩ := bd h
        refine wK2 (fun x42 x43 => .inr (x42, x43) = o2) (fun x42 x43 => [(0, .d (kS.sig a0)), (5, .v 1005), (6, .d ((kI .i64).sig x43))]) (fun x42 x43 => [.row 1005 70 (kR f_api_Tok) x42]) ?_ ?_
        · refine wBlock ?_
          refine wSeq ?_
          obtain ⟨hc44, h⟩ := ib h
          obtain ⟨y45, hy45, h⟩ := bd h
          refine rg (cp (oMv tm) (s1 rfl) <| cp (oMv tm) (s1 rfl) <| cp (oCutSL u9 hc44.1 hc44.2 tm tm) (s2 rfl rfl) <| cp (oCall rfl (lex_token.ok hy45) b23 (opds_cons tm opds_nil)) (s1 rfl) <| cp (oMv tm) (s1 rfl) <| cp (oExt (k := 0) rfl tm) (s1 rfl) <| cp (oExt (k := 1) rfl tm) (s1 rfl) <| cp (oAs tm) (s1 rfl) <| cp (oAs tm) (s1 rfl) <| .nil) (by kernel_rfl) ?_
          refine pSeq ?_
          refine wSeq ?_
          refine wSeq ?_
          refine rg (cp (oMv tm) (s1 rfl) <| cp (oEq rfl tm (cI (by decide))) (s1 rfl) <| .nil) (by kernel_rfl) ?_
          refine pSeq ?_
          rcases ic h with ⟨hp46, h⟩ | ⟨hp46, h⟩
          · refine wCT hp46 tm (s1 rfl) ?_
            refine wSeq ?_
            refine rg (cp (oMv tm) (s1 rfl) <| cp (oAs cV) trivial <| cp (oAs tm) (s1 rfl) <| cp (oAs (cI (by decide))) trivial <| .nil) (by kernel_rfl) ?_
            refine pSeq ?_
            refine wNil (kR f_api_Tok) 70 9002 2 rfl rfl ?_
            refine wFrzR (n := 0) (id := 9002) [2] rfl rfl ⟨rfl, trivial⟩ ?_
            refine wRet ?_
            refine pThenR ?_
            refine pBlkR ?_
            refine pThenR ?_
            obtain rfl := so h
            replace h := hk2
            refine pThenR ?_
            refine pBlkR ?_
            refine pThenR ?_
            obtain rfl := so h
            replace h := hk1
            refine pThenR ?_
            obtain rfl := so h
            exact pRn (.inl rfl) rfl rfl (.tmp rfl <| .tmp rfl <| .tmp rfl <| .nil)
          · refine wCF hp46 tm (s1 rfl) ?_
            refine wSkip ?_
            refine pSeq ?_
            refine wSeq ?_
            refine wSeq ?_
            refine rg (cp (oMv tm) (s1 rfl) <| cp (oNe rfl tm (cI (by decide))) (s1 rfl) <| .nil) (by kernel_rfl) ?_
            refine pSeq ?_
            rcases ic h with ⟨hp47, h⟩ | ⟨hp47, h⟩
            · refine wNT hp47 tm (s1 rfl) ?_
              refine wSkip ?_
              refine pSeq ?_
              refine rg (cp (oMv tm) (s1 rfl) <| cp (oMv tm) (s1 rfl) <| cp (oAdd tm tm) (s2 rfl rfl) <| cp (oAs tm) (s1 rfl) <| .nil) (by kernel_rfl) ?_
              refine pBlkN ?_
              exact pJ2 _ _ (so h) ⟨rfl, rfl, rfl, trivial⟩ rfl
            · refine wNF hp47 tm (s1 rfl) ?_
              obtain ⟨hc48, h⟩ := ib h
              obtain ⟨hc49, h⟩ := ib h
              refine rg (cp (oMv tm) (s1 rfl) <| cp (oMv tm) (s1 rfl) <| cp (oMv tm) (s1 rfl) <| cp (oMv tm) (s1 rfl) <| cp (oMv tm) (s1 rfl) <| cp (oMv tm) (s1 rfl) <| cp (oAdd tm tm) (s2 rfl rfl) <| cp (oCutS u9 hc48.1 hc48.2.1 hc48.2.2 tm tm tm) (s3 rfl rfl rfl) <| cp (oMv tm) (s1 rfl) <| cp (oBuild (fs := f_api_Tok) (u := ⟨y45.1, sCut a0 v33 (IntKind.i64.wrap (v33 + y45.2)), v33⟩) rfl ze70 pl70 po70 (.op (zc := [(.int .i64 0)]) tm rfl (.op (zc := [(.string ⟨⟨[]⟩⟩)]) tm rfl (.op (zc := [(.int .i64 0)]) tm rfl .nil)))) (s3 rfl rfl rfl) <| cp (oLit (d := (kR f_api_Tok)) el40 (by decide) rfl rfl rfl (e1 tm e0)) (s1 rfl) <| cw (oApp (n := 0) (id' := 39) el40 (by decide) rfl (by decide) hc49 tm tm) (s2 rfl rfl) <| cp (oAs tm) (s1 rfl) <| .nil) (by kernel_rfl) ?_
              refine pSeq ?_
              refine rg (cp (oMv tm) (s1 rfl) <| cp (oMv tm) (s1 rfl) <| cp (oAdd tm tm) (s2 rfl rfl) <| cp (oAs tm) (s1 rfl) <| .nil) (by kernel_rfl) ?_
              refine pBlkN ?_
              refine pSub (Γ' := [(0, .d (kS.sig a0)), (5, .v 39), (6, .d ((kI .i64).sig (IntKind.i64.wrap (v33 + y45.2))))]) ⟨rfl, rfl, rfl, trivial⟩ ?_
              refine pRen 39 1005 rfl ?_
              exact pJ2 _ _ (so h) ⟨rfl, rfl, rfl, trivial⟩ rfl
        · rintro x42 x43 rfl
          replace h := hk2
          exact pLoop (lW (ih _ _ h) ⟨rfl, rfl, rfl, trivial⟩ rfl)
      · refine wCF hp35 tm (s1 rfl) ?_
        refine wExit ?_
        refine pThenX ?_
        refine pThenX ?_
        refine pBlkX ?_
        exact pJ1 _ (so h) ⟨rfl, rfl, trivial⟩ rfl
    · rintro x34 rfl
      replace h := hk1
      refine pSeq ?_
      refine wSeq ?_
      obtain ⟨hc50, h⟩ := ib h
      refine rg (cp (oMv tm) (s1 rfl) <| cp (oMv tm) (s1 rfl) <| cp (oLenS u9 tm) (s1 rfl) <| cp (oBuild (fs := f_api_Tok) (u := ⟨0, [], (a0.length : Int)⟩) rfl ze70 pl70 po70 (.ze (zc := [(.int .i64 0)]) zI_i64 (.ze (zc := [(.string ⟨⟨[]⟩⟩)]) zS (.op (zc := [(.int .i64 0)]) tm rfl .nil)))) (s1 rfl) <| cp (oLit (d := (kR f_api_Tok)) el40 (by decide) rfl rfl rfl (e1 tm e0)) (s1 rfl) <| cw (oApp (n := 0) (id' := 48) el40 (by decide) rfl (by decide) hc50 tm tm) (s2 rfl rfl) <| cp (oAs tm) (s1 rfl) <| .nil) (by kernel_rfl) ?_
      refine pSeq ?_
      refine wSeq ?_
      refine wSeq ?_
      refine rg (cp (oMv tm) (s1 rfl) <| cr (oLenR (n := 0) u40 rfl tm) (s1 rfl) <| cp (oGt rfl tm (cI (by decide))) (s1 rfl) <| .nil) (by kernel_rfl) ?_
      refine pSeq ?_
      rcases ic h with ⟨hp51, h⟩ | ⟨hp51, h⟩
      · refine wCT hp51 tm (s1 rfl) ?_
        refine wSeq ?_
        refine rg (cp (oAs cV) trivial <| cp (oAs (cI (by decide))) trivial <| cp (oAs (cI (by decide))) trivial <| .nil) (by kernel_rfl) ?_
        refine pSeq ?_
        refine wNil (kR f_api_Tok) 70 9002 2 rfl rfl ?_
        refine wFrzR (n := 0) (id := 9002) [2] rfl rfl ⟨rfl, trivial⟩ ?_
        refine wRet ?_
        refine pThenR ?_
        obtain rfl := so h
        exact pRn (.inl rfl) rfl rfl (.tmp rfl <| .tmp rfl <| .tmp rfl <| .nil)
      · refine wCF hp51 tm (s1 rfl) ?_
        refine wSkip ?_
        refine pSeq ?_
        refine wSeq ?_
        refine rg (cp (oMv tm) (s1 rfl) <| cp (oAs tm) (s1 rfl) <| cp (oAs (cI (by decide))) trivial <| cp (oAs (cI (by decide))) trivial <| .nil) (by kernel_rfl) ?_
        refine pSeq ?_
        refine wFrzR (n := 0) (id := 48) [2] rfl rfl ⟨rfl, trivial⟩ ?_
        refine wRet ?_
        obtain rfl := so h
        exact pRn (.inl rfl) rfl rfl (.tmp rfl <| .tmp rfl <| .tmp rfl <| .nil)

theorem rule_made_1.ok {a0 : Bool} {a1 : List Bool} {r : (List Bool) × Bool} (h : rule_made_1.f a0 a1 = some r) : FnS Try.prog 33 [.d (kB.sig a0), .p 70100 0] [.box 70100 86 [.v 70101], .row 70101 50 kB a1] [70100] (.d (kB.sig r.2)) [.box 70100 86 [.v 70101], .row 70101 50 kB r.1] := by
  refine fnIntroS Try.func33 rfl (by kernel_rfl) fun X H0 w0 pv => ?_
  unfold rule_made_1.f at h
  refine wSeq ?_
  refine rg (cp (oAs cB) trivial <| .nil) (by kernel_rfl) ?_
  refine pSeq ?_
  refine wSeq ?_
  refine rg (cr (oLdN (n := 0) (k := 0) rfl rfl rfl t86 tm) (s1 rfl) <| cr (oLenR (n := 1) u86 rfl tm) (s1 rfl) <| cp (oSub tm (cI (by decide))) (s1 rfl) <| cp (oAs tm) (s1 rfl) <| .nil) (by kernel_rfl) ?_
  refine pSeq ?_
  refine wSeq ?_
  refine wWeak (Γ' := [(0, .d (kB.sig a0)), (1, .p 70100 0), (4, .d ((kI .i64).sig (IntKind.i64.wrap ((a1.length : Int) - 1))))]) ⟨rfl, rfl, rfl, trivial⟩ ?_
  refine wRen 70101 3510000 rfl ?_
  obtain ⟨o1, h, hk1⟩ := bd h
  refine wJ1 (fun x5 => x5 = o1) (fun x5 => [(1, .p 70100 0), (4, .d ((kI .i64).sig (IntKind.i64.wrap ((a1.length : Int) - 1)))), (26, .d (kB.sig x5))]) (fun x5 => [.box 70100 86 [.v 3510000], .row 3510000 50 kB a1]) ?_ ?_
  · rcases ic h with ⟨hp6, h⟩ | ⟨hp6, h⟩
    · refine rg (cp (oMv tm) (s1 rfl) <| cp (oLt rfl tm (cI (by decide))) (s1 rfl) <| cp (oMv tm) (s1 rfl) <| csB (decide_eq_true hp6) rfl rfl <| csB (decide_eq_true hp6) rfl rfl <| csB (decide_eq_true hp6) rfl rfl <| csB (decide_eq_true hp6) rfl rfl <| csB (decide_eq_true hp6) rfl rfl <| csB (decide_eq_true hp6) rfl rfl <| cp (oPkT (decide_eq_true hp6) tm cB) (s1 rfl) <| cp (oMv tm) (s1 rfl) <| csB rfl rfl rfl <| csB rfl rfl rfl <| csB rfl rfl rfl <| csB rfl rfl rfl <| csB rfl rfl rfl <| csB rfl rfl rfl <| csB rfl rfl rfl <| cp (oPkT rfl tm cB) (s1 rfl) <| .nil) (by kernel_rfl) ?_
      exact pJ1 _ (so h) ⟨rfl, rfl, rfl, trivial⟩ rfl
    · obtain ⟨y7, hy7, h⟩ := bd h
      rcases ic h with ⟨hp8, h⟩ | ⟨hp8, h⟩
      · obtain ⟨y9, hy9, h⟩ := bd h
        refine rg (cp (oMv tm) (s1 rfl) <| cp (oLt rfl tm (cI (by decide))) (s1 rfl) <| cp (oMv tm) (s1 rfl) <| crgB (decide_eq_false hp6) rfl rfl (oLdN (n := 0) (k := 0) rfl rfl rfl t86 tm) (s1 rfl) <| cgB (decide_eq_false hp6) rfl rfl (oMv tm) (s1 rfl) <| crgB (decide_eq_false hp6) rfl rfl (oIdxR (n := 1) u86 z50 rfl hy7 tm tm) (s2 rfl rfl) <| crgB (decide_eq_false hp6) rfl rfl (oLdE (n := 1) rfl hy7 rfl t50 tm) (s1 rfl) <| cgB (decide_eq_false hp6) rfl rfl (oMv tm) (s1 rfl) <| cgB (decide_eq_false hp6) rfl rfl (oBNe u50 rfl tm tm) (s2 rfl rfl) <| cp (oPkF (decide_eq_false hp6) tm tm) (s2 rfl rfl) <| cp (oMv tm) (s1 rfl) <| crgB (nf hp8) rfl rfl (oLdN (n := 0) (k := 0) rfl rfl rfl t86 tm) (s1 rfl) <| cgB (nf hp8) rfl rfl (oMv tm) (s1 rfl) <| cgB (nf hp8) rfl rfl (oSub tm (cI (by decide))) (s1 rfl) <| crgB (nf hp8) rfl rfl (oIdxR (n := 1) u86 z50 rfl hy9 tm tm) (s2 rfl rfl) <| crgB (nf hp8) rfl rfl (oLdE (n := 1) rfl hy9 rfl t50 tm) (s1 rfl) <| cgB (nf hp8) rfl rfl (oMv tm) (s1 rfl) <| cgB (nf hp8) rfl rfl (oBNe u50 rfl tm tm) (s2 rfl rfl) <| cp (oPkF (nf hp8) tm tm) (s2 rfl rfl) <| .nil) (by kernel_rfl) ?_
        exact pJ1 _ (so h) ⟨rfl, rfl, rfl, trivial⟩ rfl
      · refine rg (cp (oMv tm) (s1 rfl) <| cp (oLt rfl tm (cI (by decide))) (s1 rfl) <| cp (oMv tm) (s1 rfl) <| crgB (decide_eq_false hp6) rfl rfl (oLdN (n := 0) (k := 0) rfl rfl rfl t86 tm) (s1 rfl) <| cgB (decide_eq_false hp6) rfl rfl (oMv tm) (s1 rfl) <| crgB (decide_eq_false hp6) rfl rfl (oIdxR (n := 1) u86 z50 rfl hy7 tm tm) (s2 rfl rfl) <| crgB (decide_eq_false hp6) rfl rfl (oLdE (n := 1) rfl hy7 rfl t50 tm) (s1 rfl) <| cgB (decide_eq_false hp6) rfl rfl (oMv tm) (s1 rfl) <| cgB (decide_eq_false hp6) rfl rfl (oBNe u50 rfl tm tm) (s2 rfl rfl) <| cp (oPkF (decide_eq_false hp6) tm tm) (s2 rfl rfl) <| cp (oMv tm) (s1 rfl) <| csB (nt hp8) rfl rfl <| csB (nt hp8) rfl rfl <| csB (nt hp8) rfl rfl <| csB (nt hp8) rfl rfl <| csB (nt hp8) rfl rfl <| csB (nt hp8) rfl rfl <| csB (nt hp8) rfl rfl <| cp (oPkT (nt hp8) tm cB) (s1 rfl) <| .nil) (by kernel_rfl) ?_
        exact pJ1 _ (so h) ⟨rfl, rfl, rfl, trivial⟩ rfl
  · rintro x5 rfl
    replace h := hk1
    rcases ic h with ⟨hp10, h⟩ | ⟨hp10, h⟩
    · refine wBT hp10 tm (s1 rfl) ?_
      refine wSeq ?_
      refine rg (cp (oAs cB) trivial <| .nil) (by kernel_rfl) ?_
      refine pSeq ?_
      refine wRet ?_
      refine pThenR ?_
      obtain rfl := so h
      refine pSub (Γ' := [(3, .d (kB.sig false))]) ⟨rfl, trivial⟩ ?_
      refine pRen 3510000 70101 rfl ?_
      exact pS1 [0, 1] rfl rfl (.inl rfl) rfl (.tmp rfl <| .nil)
    · refine wBF hp10 tm (s1 rfl) ?_
      refine wSkip ?_
      refine pSeq ?_
      refine wSeq ?_
      obtain ⟨hc11, h⟩ := ib h
      refine rg (cr (oLdN (n := 0) (k := 0) rfl rfl rfl t86 tm) (s1 rfl) <| cp (oMv tm) (s1 rfl) <| cp (oSub tm (cI (by decide))) (s1 rfl) <| cw (oCutR (n := 1) (id' := 30) u86 z50 rfl hc11.1 hc11.2 tm tm) (s2 rfl rfl) <| cwn (oStN (n := 0) (m := 1) (k := 0) rfl rfl rfl rfl z86 rfl tm tm) (s2 rfl rfl) <| .nil) (by kernel_rfl) ?_
      refine pSeq ?_
      refine wSeq ?_
      refine rg (cp (oAs cB) trivial <| .nil) (by kernel_rfl) ?_
      refine pSeq ?_
      refine wRet ?_
      obtain rfl := so h
      refine pSub (Γ' := [(3, .d (kB.sig true))]) ⟨rfl, trivial⟩ ?_
      refine pRen 30 70101 rfl ?_
      exact pS1 [0, 1] rfl rfl (.inl rfl) rfl (.tmp rfl <| .nil)

theorem rule_made.ok {a0 : List Int} {r : Bool × Bool} (h : rule_made.f a0 = some r) : FnA Try.prog 18 [(kL (kI .i64)).sig a0] (tup [kB.sig r.1, kB.sig r.2]) := by
  refine fnIntro Try.func18 rfl (by kernel_rfl) fun H0 w0 => ?_
  unfold rule_made.f at h
  refine wSeq ?_
  refine rg (cp (oAs cB) trivial <| cp (oAs cB) trivial <| .nil) (by kernel_rfl) ?_
  refine pSeq ?_
  refine wSeq ?_
  refine rg (cw (oAlloc (id := 4) (ls := [.d (kN Bool) []]) ze86 (fun g => ⟨[(.slice none 0 0)], _, rfl, zN g.H, rfl⟩)) trivial <| .nil) (by kernel_rfl) ?_
  refine pSeq ?_
  refine wSeq ?_
  refine rg (cp (oMkN (ids := [4]) (caps := [none]) rfl (oNp tm oN0)) (s1 rfl) <| cp (oAs tm) (s1 rfl) <| .nil) (by kernel_rfl) ?_
  refine pSeq ?_
  refine wSeq ?_
  refine wSeq ?_
  refine rg (cp (oMv tm) (s1 rfl) <| cp (oLenL u26 tm) (s1 rfl) <| cp (oMv (cI (by decide))) trivial <| .nil) (by kernel_rfl) ?_
  refine pSeq ?_
  refine wNilL kB 50 5200 (n := 0) (k := 0) rfl rfl rfl ?_
  obtain ⟨o1, h, hk1⟩ := bd h
  refine wK1 (fun x271 => .inr x271 = o1) (fun x271 => [(0, .d ((kL (kI .i64)).sig a0)), (4, .p 4 0)]) (fun x271 => [.row 5200 50 kB x271, .box 4 86 [.v 5200]]) ?_ ?_
  · refine wBlock (wLoop ?_)
    refine lW (pc2 o1 (fun v269 v270 => [(0, .d ((kL (kI .i64)).sig a0)), (4, .p 4 0), (5, .f [4] (sCloN 33 [none])), (10, .d ((kL (kI .i64)).sig a0)), (11, .d ((kI .i64).sig (a0.length : Int))), (12, .d ((kI .i64).sig v270))]) (fun v269 v270 => [.row 5200 50 kB v269, .box 4 86 [.v 5200]]) (rule_made.l0.partial_correctness a0) ?_ _ _ h) ⟨rfl, rfl, rfl, rfl, rfl, rfl, trivial⟩ rfl
    clear h
    intro f' ih v269 v270 h
    refine wSeq ?_
    refine rg (cp (oLt rfl tm tm) (s2 rfl rfl) <| .nil) (by kernel_rfl) ?_
    refine pSeq ?_
    refine wSeq ?_
    rcases ic h with ⟨hp272, h⟩ | ⟨hp272, h⟩
    · refine wCT hp272 tm (s1 rfl) ?_
      refine wSkip ?_
      refine pSeq ?_
      obtain ⟨o2, h, hk2⟩ := bd h
      refine wJ1 (fun x339 => .inr x339 = o2) (fun x339 => [(0, .d ((kL (kI .i64)).sig a0)), (4, .p 4 0), (5, .f [4] (sCloN 33 [none])), (10, .d ((kL (kI .i64)).sig a0)), (11, .d ((kI .i64).sig (a0.length : Int))), (12, .d ((kI .i64).sig v270))]) (fun x339 => [.row 5200 50 kB x339, .box 4 86 [.v 5200]]) ?_ ?_
      · refine wBlock ?_
        refine wSeq ?_
        obtain ⟨y340, hy340, h⟩ := bd h
        refine rg (cp (oIdx u26 z3 hy340 tm tm) (s2 rfl rfl) <| cp (oLd t3 tm) (s1 rfl) <| cp (oAs tm) (s1 rfl) <| .nil) (by kernel_rfl) ?_
        refine pSeq ?_
        refine wSeq ?_
        refine rg (cp (oAs cB) trivial <| .nil) (by kernel_rfl) ?_
        refine pSeq ?_
        refine wSeq ?_
        refine wSeq ?_
        refine rg (cp (oMv tm) (s1 rfl) <| .nil) (by kernel_rfl) ?_
        refine pSeq ?_
        obtain ⟨o3, h, hk3⟩ := bd h
        refine wK2 (fun x372 x373 => (x372, x373) = o3) (fun x372 x373 => [(0, .d ((kL (kI .i64)).sig a0)), (4, .p 4 0), (5, .f [4] (sCloN 33 [none])), (8, .d (kB.sig x373)), (10, .d ((kL (kI .i64)).sig a0)), (11, .d ((kI .i64).sig (a0.length : Int))), (12, .d ((kI .i64).sig v270))]) (fun x372 x373 => [.row 5200 50 kB x372, .box 4 86 [.v 5200]]) ?_ ?_
        · refine wBlock ?_
          refine wSeq ?_
          refine wSeq ?_
          refine rg (cp (oEq rfl tm (cI (by decide))) (s1 rfl) <| cp (oAs tm) (s1 rfl) <| .nil) (by kernel_rfl) ?_
          refine pSeq ?_
          rcases ic h with ⟨hp374, h⟩ | ⟨hp374, h⟩
          · refine wCT hp374 tm (s1 rfl) ?_
            refine wSkip ?_
            refine pSeq ?_
            refine wCT hp374 tm (s1 rfl) ?_
            obtain ⟨hc375, h⟩ := ib h
            refine rg (cr (oLdN (n := 1) (k := 0) rfl rfl rfl t86 tm) (s1 rfl) <| cp (oLit (d := kB) el86 (by decide) rfl rfl rfl (e1 cB e0)) trivial <| cw (oApp (n := 0) (id' := 22) el86 (by decide) rfl (by decide) hc375 tm tm) (s2 rfl rfl) <| cwn (oStN (n := 1) (m := 0) (k := 0) rfl rfl rfl rfl z86 rfl tm tm) (s2 rfl rfl) <| .nil) (by kernel_rfl) ?_
            refine pBlkN ?_
            refine pSub (Γ' := [(0, .d ((kL (kI .i64)).sig a0)), (4, .p 4 0), (5, .f [4] (sCloN 33 [none])), (8, .d (kB.sig true)), (10, .d ((kL (kI .i64)).sig a0)), (11, .d ((kI .i64).sig (a0.length : Int))), (12, .d ((kI .i64).sig v270))]) ⟨rfl, rfl, rfl, rfl, rfl, rfl, rfl, trivial⟩ ?_
            refine pRen 22 5200 rfl ?_
            exact pJ2 _ _ (so h) ⟨rfl, rfl, rfl, rfl, rfl, rfl, rfl, trivial⟩ rfl
          · refine wCF hp374 tm (s1 rfl) ?_
            refine rg (cp (oEq rfl tm (cI (by decide))) (s1 rfl) <| cp (oAs tm) (s1 rfl) <| .nil) (by kernel_rfl) ?_
            refine pSeq ?_
            rcases ic h with ⟨hp376, h⟩ | ⟨hp376, h⟩
            · refine wCT hp376 tm (s1 rfl) ?_
              obtain ⟨hc377, h⟩ := ib h
              refine rg (cr (oLdN (n := 1) (k := 0) rfl rfl rfl t86 tm) (s1 rfl) <| cp (oLit (d := kB) el86 (by decide) rfl rfl rfl (e1 cB e0)) trivial <| cw (oApp (n := 0) (id' := 22) el86 (by decide) rfl (by decide) hc377 tm tm) (s2 rfl rfl) <| cwn (oStN (n := 1) (m := 0) (k := 0) rfl rfl rfl rfl z86 rfl tm tm) (s2 rfl rfl) <| .nil) (by kernel_rfl) ?_
              refine pBlkN ?_
              refine pSub (Γ' := [(0, .d ((kL (kI .i64)).sig a0)), (4, .p 4 0), (5, .f [4] (sCloN 33 [none])), (8, .d (kB.sig true)), (10, .d ((kL (kI .i64)).sig a0)), (11, .d ((kI .i64).sig (a0.length : Int))), (12, .d ((kI .i64).sig v270))]) ⟨rfl, rfl, rfl, rfl, rfl, rfl, rfl, trivial⟩ ?_
              refine pRen 22 5200 rfl ?_
              exact pJ2 _ _ (so h) ⟨rfl, rfl, rfl, rfl, rfl, rfl, rfl, trivial⟩ rfl
            · refine wCF hp376 tm (s1 rfl) ?_
              refine wSeq ?_
              refine wSeq ?_
              refine rg (cp (oEq rfl tm (cI (by decide))) (s1 rfl) <| cp (oAs tm) (s1 rfl) <| .nil) (by kernel_rfl) ?_
              refine pSeq ?_
              rcases ic h with ⟨hp378, h⟩ | ⟨hp378, h⟩
              · refine wCT hp378 tm (s1 rfl) ?_
                refine wSkip ?_
                refine pSeq ?_
                refine wCT hp378 tm (s1 rfl) ?_
                obtain ⟨hc379, h⟩ := ib h
                refine rg (cr (oLdN (n := 1) (k := 0) rfl rfl rfl t86 tm) (s1 rfl) <| cp (oLit (d := kB) el86 (by decide) rfl rfl rfl (e1 cB e0)) trivial <| cw (oApp (n := 0) (id' := 32) el86 (by decide) rfl (by decide) hc379 tm tm) (s2 rfl rfl) <| cwn (oStN (n := 1) (m := 0) (k := 0) rfl rfl rfl rfl z86 rfl tm tm) (s2 rfl rfl) <| .nil) (by kernel_rfl) ?_
                refine pBlkN ?_
                refine pSub (Γ' := [(0, .d ((kL (kI .i64)).sig a0)), (4, .p 4 0), (5, .f [4] (sCloN 33 [none])), (8, .d (kB.sig true)), (10, .d ((kL (kI .i64)).sig a0)), (11, .d ((kI .i64).sig (a0.length : Int))), (12, .d ((kI .i64).sig v270))]) ⟨rfl, rfl, rfl, rfl, rfl, rfl, rfl, trivial⟩ ?_
                refine pRen 32 5200 rfl ?_
                exact pJ2 _ _ (so h) ⟨rfl, rfl, rfl, rfl, rfl, rfl, rfl, trivial⟩ rfl
              · refine wCF hp378 tm (s1 rfl) ?_
                refine wSeq ?_
                refine rg (cp (oEq rfl tm (cI (by decide))) (s1 rfl) <| cp (oAs tm) (s1 rfl) <| .nil) (by kernel_rfl) ?_
                refine pSeq ?_
                rcases ic h with ⟨hp380, h⟩ | ⟨hp380, h⟩
                · refine wCT hp380 tm (s1 rfl) ?_
                  refine wSkip ?_
                  refine pSeq ?_
                  refine wCT hp380 tm (s1 rfl) ?_
                  obtain ⟨hc381, h⟩ := ib h
                  refine rg (cr (oLdN (n := 1) (k := 0) rfl rfl rfl t86 tm) (s1 rfl) <| cp (oLit (d := kB) el86 (by decide) rfl rfl rfl (e1 cB e0)) trivial <| cw (oApp (n := 0) (id' := 32) el86 (by decide) rfl (by decide) hc381 tm tm) (s2 rfl rfl) <| cwn (oStN (n := 1) (m := 0) (k := 0) rfl rfl rfl rfl z86 rfl tm tm) (s2 rfl rfl) <| .nil) (by kernel_rfl) ?_
                  refine pBlkN ?_
                  refine pSub (Γ' := [(0, .d ((kL (kI .i64)).sig a0)), (4, .p 4 0), (5, .f [4] (sCloN 33 [none])), (8, .d (kB.sig true)), (10, .d ((kL (kI .i64)).sig a0)), (11, .d ((kI .i64).sig (a0.length : Int))), (12, .d ((kI .i64).sig v270))]) ⟨rfl, rfl, rfl, rfl, rfl, rfl, rfl, trivial⟩ ?_
                  refine pRen 32 5200 rfl ?_
                  exact pJ2 _ _ (so h) ⟨rfl, rfl, rfl, rfl, rfl, rfl, rfl, trivial⟩ rfl
                · refine wCF hp380 tm (s1 rfl) ?_
                  refine wSeq ?_
                  refine rg (cp (oEq rfl tm (cI (by decide))) (s1 rfl) <| cp (oAs tm) (s1 rfl) <| .nil) (by kernel_rfl) ?_
                  refine pSeq ?_
                  rcases ic h with ⟨hp382, h⟩ | ⟨hp382, h⟩
                  · refine wCT hp382 tm (s1 rfl) ?_
                    refine wSkip ?_
                    refine pSeq ?_
                    refine wCT hp382 tm (s1 rfl) ?_
                    obtain ⟨hc383, h⟩ := ib h
                    refine rg (cr (oLdN (n := 1) (k := 0) rfl rfl rfl t86 tm) (s1 rfl) <| cp (oLit (d := kB) el86 (by decide) rfl rfl rfl (e1 cB e0)) trivial <| cw (oApp (n := 0) (id' := 32) el86 (by decide) rfl (by decide) hc383 tm tm) (s2 rfl rfl) <| cwn (oStN (n := 1) (m := 0) (k := 0) rfl rfl rfl rfl z86 rfl tm tm) (s2 rfl rfl) <| .nil) (by kernel_rfl) ?_
                    refine pBlkN ?_
                    refine pSub (Γ' := [(0, .d ((kL (kI .i64)).sig a0)), (4, .p 4 0), (5, .f [4] (sCloN 33 [none])), (8, .d (kB.sig true)), (10, .d ((kL (kI .i64)).sig a0)), (11, .d ((kI .i64).sig (a0.length : Int))), (12, .d ((kI .i64).sig v270))]) ⟨rfl, rfl, rfl, rfl, rfl, rfl, rfl, trivial⟩ ?_
                    refine pRen 32 5200 rfl ?_
                    exact pJ2 _ _ (so h) ⟨rfl, rfl, rfl, rfl, rfl, rfl, rfl, trivial⟩ rfl
                  · refine wCF hp382 tm (s1 rfl) ?_
                    refine wSeq ?_
                    refine rg (cp (oEq rfl tm (cI (by decide))) (s1 rfl) <| cp (oAs tm) (s1 rfl) <| .nil) (by kernel_rfl) ?_
                    refine pSeq ?_
                    rcases ic h with ⟨hp384, h⟩ | ⟨hp384, h⟩
                    · refine wCT hp384 tm (s1 rfl) ?_
                      refine wSkip ?_
                      refine pSeq ?_
                      refine wCT hp384 tm (s1 rfl) ?_
                      obtain ⟨hc385, h⟩ := ib h
                      refine rg (cr (oLdN (n := 1) (k := 0) rfl rfl rfl t86 tm) (s1 rfl) <| cp (oLit (d := kB) el86 (by decide) rfl rfl rfl (e1 cB e0)) trivial <| cw (oApp (n := 0) (id' := 32) el86 (by decide) rfl (by decide) hc385 tm tm) (s2 rfl rfl) <| cwn (oStN (n := 1) (m := 0) (k := 0) rfl rfl rfl rfl z86 rfl tm tm) (s2 rfl rfl) <| .nil) (by kernel_rfl) ?_
                      refine pBlkN ?_
                      refine pSub (Γ' := [(0, .d ((kL (kI .i64)).sig a0)), (4, .p 4 0), (5, .f [4] (sCloN 33 [none])), (8, .d (kB.sig true)), (10, .d ((kL (kI .i64)).sig a0)), (11, .d ((kI .i64).sig (a0.length : Int))), (12, .d ((kI .i64).sig v270))]) ⟨rfl, rfl, rfl, rfl, rfl, rfl, rfl, trivial⟩ ?_
                      refine pRen 32 5200 rfl ?_
                      exact pJ2 _ _ (so h) ⟨rfl, rfl, rfl, rfl, rfl, rfl, rfl, trivial⟩ rfl
                    · refine wCF hp384 tm (s1 rfl) ?_
                      refine wSeq ?_
                      refine rg (cp (oEq rfl tm (cI (by decide))) (s1 rfl) <| cp (oAs tm) (s1 rfl) <| .nil) (by kernel_rfl) ?_
                      refine pSeq ?_
                      rcases ic h with ⟨hp386, h⟩ | ⟨hp386, h⟩
                      · refine wCT hp386 tm (s1 rfl) ?_
                        refine wSkip ?_
                        refine pSeq ?_
                        refine wCT hp386 tm (s1 rfl) ?_
                        obtain ⟨hc387, h⟩ := ib h
                        refine rg (cr (oLdN (n := 1) (k := 0) rfl rfl rfl t86 tm) (s1 rfl) <| cp (oLit (d := kB) el86 (by decide) rfl rfl rfl (e1 cB e0)) trivial <| cw (oApp (n := 0) (id' := 32) el86 (by decide) rfl (by decide) hc387 tm tm) (s2 rfl rfl) <| cwn (oStN (n := 1) (m := 0) (k := 0) rfl rfl rfl rfl z86 rfl tm tm) (s2 rfl rfl) <| .nil) (by kernel_rfl) ?_
                        refine pBlkN ?_
                        refine pSub (Γ' := [(0, .d ((kL (kI .i64)).sig a0)), (4, .p 4 0), (5, .f [4] (sCloN 33 [none])), (8, .d (kB.sig true)), (10, .d ((kL (kI .i64)).sig a0)), (11, .d ((kI .i64).sig (a0.length : Int))), (12, .d ((kI .i64).sig v270))]) ⟨rfl, rfl, rfl, rfl, rfl, rfl, rfl, trivial⟩ ?_
                        refine pRen 32 5200 rfl ?_
                        exact pJ2 _ _ (so h) ⟨rfl, rfl, rfl, rfl, rfl, rfl, rfl, trivial⟩ rfl
                      · refine wCF hp386 tm (s1 rfl) ?_
                        refine rg (cp (oEq rfl tm (cI (by decide))) (s1 rfl) <| cp (oAs tm) (s1 rfl) <| .nil) (by kernel_rfl) ?_
                        refine pSeq ?_
                        rcases ic h with ⟨hp388, h⟩ | ⟨hp388, h⟩
                        · refine wCT hp388 tm (s1 rfl) ?_
                          obtain ⟨hc389, h⟩ := ib h
                          refine rg (cr (oLdN (n := 1) (k := 0) rfl rfl rfl t86 tm) (s1 rfl) <| cp (oLit (d := kB) el86 (by decide) rfl rfl rfl (e1 cB e0)) trivial <| cw (oApp (n := 0) (id' := 32) el86 (by decide) rfl (by decide) hc389 tm tm) (s2 rfl rfl) <| cwn (oStN (n := 1) (m := 0) (k := 0) rfl rfl rfl rfl z86 rfl tm tm) (s2 rfl rfl) <| .nil) (by kernel_rfl) ?_
                          refine pBlkN ?_
                          refine pSub (Γ' := [(0, .d ((kL (kI .i64)).sig a0)), (4, .p 4 0), (5, .f [4] (sCloN 33 [none])), (8, .d (kB.sig true)), (10, .d ((kL (kI .i64)).sig a0)), (11, .d ((kI .i64).sig (a0.length : Int))), (12, .d ((kI .i64).sig v270))]) ⟨rfl, rfl, rfl, rfl, rfl, rfl, rfl, trivial⟩ ?_
                          refine pRen 32 5200 rfl ?_
                          exact pJ2 _ _ (so h) ⟨rfl, rfl, rfl, rfl, rfl, rfl, rfl, trivial⟩ rfl
                        · refine wCF hp388 tm (s1 rfl) ?_
                          refine wSeq ?_
                          refine wSeq ?_
                          refine rg (cp (oEq rfl tm (cI (by decide))) (s1 rfl) <| cp (oAs tm) (s1 rfl) <| .nil) (by kernel_rfl) ?_
                          refine pSeq ?_
                          rcases ic h with ⟨hp390, h⟩ | ⟨hp390, h⟩
                          · refine wCT hp390 tm (s1 rfl) ?_
                            refine wSkip ?_
                            refine pSeq ?_
                            refine wCT hp390 tm (s1 rfl) ?_
                            refine wSeq ?_
                            obtain ⟨y391, hy391, h⟩ := bd h
                            refine rg (cp (oMv tm) (s1 rfl) <| cm (oCallN (ins := [.d (kB.sig false)]) (caps := [none]) (kn := [70100]) (rest := []) (R' := [.row 510040 50 kB y391.1, .box 4 86 [.v 510040]]) (out' := .d (kB.sig y391.2)) [(70100, 4), (70101, 5200)] [(70101, 510040)] [1, 0] [] [1, 0] rfl tm (rule_made_1.ok hy391) rfl b33 (oE1 cB oE0) rfl rfl rfl rfl rfl rfl rfl rfl) (s1 rfl) <| cp (oAs tm) (s1 rfl) <| .nil) (by kernel_rfl) ?_
                            refine pSeq ?_
                            obtain ⟨hc392, h⟩ := ib h
                            refine rg (cr (oLdN (n := 1) (k := 0) rfl rfl rfl t86 tm) (s1 rfl) <| cp (oLit (d := kB) el86 (by decide) rfl rfl rfl (e1 cB e0)) trivial <| cw (oApp (n := 0) (id' := 40) el86 (by decide) rfl (by decide) hc392 tm tm) (s2 rfl rfl) <| cwn (oStN (n := 1) (m := 0) (k := 0) rfl rfl rfl rfl z86 rfl tm tm) (s2 rfl rfl) <| .nil) (by kernel_rfl) ?_
                            refine pBlkN ?_
                            refine pSub (Γ' := [(0, .d ((kL (kI .i64)).sig a0)), (4, .p 4 0), (5, .f [4] (sCloN 33 [none])), (8, .d (kB.sig y391.2)), (10, .d ((kL (kI .i64)).sig a0)), (11, .d ((kI .i64).sig (a0.length : Int))), (12, .d ((kI .i64).sig v270))]) ⟨rfl, rfl, rfl, rfl, rfl, rfl, rfl, trivial⟩ ?_
                            refine pRen 40 5200 rfl ?_
                            exact pJ2 _ _ (so h) ⟨rfl, rfl, rfl, rfl, rfl, rfl, rfl, trivial⟩ rfl
                          · refine wCF hp390 tm (s1 rfl) ?_
                            refine rg (cp (oEq rfl tm (cI (by decide))) (s1 rfl) <| cp (oAs tm) (s1 rfl) <| .nil) (by kernel_rfl) ?_
                            refine pSeq ?_
                            rcases ic h with ⟨hp393, h⟩ | ⟨hp393, h⟩
                            · refine wCT hp393 tm (s1 rfl) ?_
                              refine wSeq ?_
                              obtain ⟨y394, hy394, h⟩ := bd h
                              refine rg (cp (oMv tm) (s1 rfl) <| cm (oCallN (ins := [.d (kB.sig false)]) (caps := [none]) (kn := [70100]) (rest := []) (R' := [.row 510040 50 kB y394.1, .box 4 86 [.v 510040]]) (out' := .d (kB.sig y394.2)) [(70100, 4), (70101, 5200)] [(70101, 510040)] [1, 0] [] [1, 0] rfl tm (rule_made_1.ok hy394) rfl b33 (oE1 cB oE0) rfl rfl rfl rfl rfl rfl rfl rfl) (s1 rfl) <| cp (oAs tm) (s1 rfl) <| .nil) (by kernel_rfl) ?_
                              refine pSeq ?_
                              obtain ⟨hc395, h⟩ := ib h
                              refine rg (cr (oLdN (n := 1) (k := 0) rfl rfl rfl t86 tm) (s1 rfl) <| cp (oLit (d := kB) el86 (by decide) rfl rfl rfl (e1 cB e0)) trivial <| cw (oApp (n := 0) (id' := 40) el86 (by decide) rfl (by decide) hc395 tm tm) (s2 rfl rfl) <| cwn (oStN (n := 1) (m := 0) (k := 0) rfl rfl rfl rfl z86 rfl tm tm) (s2 rfl rfl) <| .nil) (by kernel_rfl) ?_
                              refine pBlkN ?_
                              refine pSub (Γ' := [(0, .d ((kL (kI .i64)).sig a0)), (4, .p 4 0), (5, .f [4] (sCloN 33 [none])), (8, .d (kB.sig y394.2)), (10, .d ((kL (kI .i64)).sig a0)), (11, .d ((kI .i64).sig (a0.length : Int))), (12, .d ((kI .i64).sig v270))]) ⟨rfl, rfl, rfl, rfl, rfl, rfl, rfl, trivial⟩ ?_
                              refine pRen 40 5200 rfl ?_
                              exact pJ2 _ _ (so h) ⟨rfl, rfl, rfl, rfl, rfl, rfl, rfl, trivial⟩ rfl
                            · refine wCF hp393 tm (s1 rfl) ?_
                              refine wSeq ?_
                              refine rg (cp (oEq rfl tm (cI (by decide))) (s1 rfl) <| cp (oAs tm) (s1 rfl) <| .nil) (by kernel_rfl) ?_
                              refine pSeq ?_
                              rcases ic h with ⟨hp396, h⟩ | ⟨hp396, h⟩
                              · refine wCT hp396 tm (s1 rfl) ?_
                                refine wSeq ?_
                                obtain ⟨y397, hy397, h⟩ := bd h
                                refine rg (cp (oMv tm) (s1 rfl) <| cm (oCallN (ins := [.d (kB.sig true)]) (caps := [none]) (kn := [70100]) (rest := []) (R' := [.row 540040 50 kB y397.1, .box 4 86 [.v 540040]]) (out' := .d (kB.sig y397.2)) [(70100, 4), (70101, 5200)] [(70101, 540040)] [1, 0] [] [1, 0] rfl tm (rule_made_1.ok hy397) rfl b33 (oE1 cB oE0) rfl rfl rfl rfl rfl rfl rfl rfl) (s1 rfl) <| cp (oAs tm) (s1 rfl) <| .nil) (by kernel_rfl) ?_
                                refine pSeq ?_
                                obtain ⟨hc398, h⟩ := ib h
                                refine rg (cr (oLdN (n := 1) (k := 0) rfl rfl rfl t86 tm) (s1 rfl) <| cp (oLit (d := kB) el86 (by decide) rfl rfl rfl (e1 cB e0)) trivial <| cw (oApp (n := 0) (id' := 47) el86 (by decide) rfl (by decide) hc398 tm tm) (s2 rfl rfl) <| cwn (oStN (n := 1) (m := 0) (k := 0) rfl rfl rfl rfl z86 rfl tm tm) (s2 rfl rfl) <| .nil) (by kernel_rfl) ?_
                                refine pBlkN ?_
                                refine pSub (Γ' := [(0, .d ((kL (kI .i64)).sig a0)), (4, .p 4 0), (5, .f [4] (sCloN 33 [none])), (8, .d (kB.sig y397.2)), (10, .d ((kL (kI .i64)).sig a0)), (11, .d ((kI .i64).sig (a0.length : Int))), (12, .d ((kI .i64).sig v270))]) ⟨rfl, rfl, rfl, rfl, rfl, rfl, rfl, trivial⟩ ?_
                                refine pRen 47 5200 rfl ?_
                                exact pJ2 _ _ (so h) ⟨rfl, rfl, rfl, rfl, rfl, rfl, rfl, trivial⟩ rfl
                              · refine wCF hp396 tm (s1 rfl) ?_
                                refine wSeq ?_
                                refine wSeq ?_
                                refine rg (cp (oEq rfl tm (cI (by decide))) (s1 rfl) <| cp (oAs tm) (s1 rfl) <| .nil) (by kernel_rfl) ?_
                                refine pSeq ?_
                                rcases ic h with ⟨hp399, h⟩ | ⟨hp399, h⟩
                                · refine wCT hp399 tm (s1 rfl) ?_
                                  refine wSkip ?_
                                  refine pSeq ?_
                                  refine wCT hp399 tm (s1 rfl) ?_
                                  refine wSeq ?_
                                  obtain ⟨y400, hy400, h⟩ := bd h
                                  refine rg (cp (oMv tm) (s1 rfl) <| cm (oCallN (ins := [.d (kB.sig true)]) (caps := [none]) (kn := [70100]) (rest := []) (R' := [.row 580040 50 kB y400.1, .box 4 86 [.v 580040]]) (out' := .d (kB.sig y400.2)) [(70100, 4), (70101, 5200)] [(70101, 580040)] [1, 0] [] [1, 0] rfl tm (rule_made_1.ok hy400) rfl b33 (oE1 cB oE0) rfl rfl rfl rfl rfl rfl rfl rfl) (s1 rfl) <| cp (oAs tm) (s1 rfl) <| .nil) (by kernel_rfl) ?_
                                  refine pSeq ?_
                                  obtain ⟨hc401, h⟩ := ib h
                                  refine rg (cr (oLdN (n := 1) (k := 0) rfl rfl rfl t86 tm) (s1 rfl) <| cp (oLit (d := kB) el86 (by decide) rfl rfl rfl (e1 cB e0)) trivial <| cw (oApp (n := 0) (id' := 55) el86 (by decide) rfl (by decide) hc401 tm tm) (s2 rfl rfl) <| cwn (oStN (n := 1) (m := 0) (k := 0) rfl rfl rfl rfl z86 rfl tm tm) (s2 rfl rfl) <| .nil) (by kernel_rfl) ?_
                                  refine pBlkN ?_
                                  refine pSub (Γ' := [(0, .d ((kL (kI .i64)).sig a0)), (4, .p 4 0), (5, .f [4] (sCloN 33 [none])), (8, .d (kB.sig y400.2)), (10, .d ((kL (kI .i64)).sig a0)), (11, .d ((kI .i64).sig (a0.length : Int))), (12, .d ((kI .i64).sig v270))]) ⟨rfl, rfl, rfl, rfl, rfl, rfl, rfl, trivial⟩ ?_
                                  refine pRen 55 5200 rfl ?_
                                  exact pJ2 _ _ (so h) ⟨rfl, rfl, rfl, rfl, rfl, rfl, rfl, trivial⟩ rfl
                                · refine wCF hp399 tm (s1 rfl) ?_
                                  refine rg (cp (oEq rfl tm (cI (by decide))) (s1 rfl) <| cp (oAs tm) (s1 rfl) <| .nil) (by kernel_rfl) ?_
                                  refine pSeq ?_
                                  rcases ic h with ⟨hp402, h⟩ | ⟨hp402, h⟩
                                  · refine wCT hp402 tm (s1 rfl) ?_
                                    refine wSeq ?_
                                    obtain ⟨y403, hy403, h⟩ := bd h
                                    refine rg (cp (oMv tm) (s1 rfl) <| cm (oCallN (ins := [.d (kB.sig true)]) (caps := [none]) (kn := [70100]) (rest := []) (R' := [.row 580040 50 kB y403.1, .box 4 86 [.v 580040]]) (out' := .d (kB.sig y403.2)) [(70100, 4), (70101, 5200)] [(70101, 580040)] [1, 0] [] [1, 0] rfl tm (rule_made_1.ok hy403) rfl b33 (oE1 cB oE0) rfl rfl rfl rfl rfl rfl rfl rfl) (s1 rfl) <| cp (oAs tm) (s1 rfl) <| .nil) (by kernel_rfl) ?_
                                    refine pSeq ?_
                                    obtain ⟨hc404, h⟩ := ib h
                                    refine rg (cr (oLdN (n := 1) (k := 0) rfl rfl rfl t86 tm) (s1 rfl) <| cp (oLit (d := kB) el86 (by decide) rfl rfl rfl (e1 cB e0)) trivial <| cw (oApp (n := 0) (id' := 55) el86 (by decide) rfl (by decide) hc404 tm tm) (s2 rfl rfl) <| cwn (oStN (n := 1) (m := 0) (k := 0) rfl rfl rfl rfl z86 rfl tm tm) (s2 rfl rfl) <| .nil) (by kernel_rfl) ?_
                                    refine pBlkN ?_
                                    refine pSub (Γ' := [(0, .d ((kL (kI .i64)).sig a0)), (4, .p 4 0), (5, .f [4] (sCloN 33 [none])), (8, .d (kB.sig y403.2)), (10, .d ((kL (kI .i64)).sig a0)), (11, .d ((kI .i64).sig (a0.length : Int))), (12, .d ((kI .i64).sig v270))]) ⟨rfl, rfl, rfl, rfl, rfl, rfl, rfl, trivial⟩ ?_
                                    refine pRen 55 5200 rfl ?_
                                    exact pJ2 _ _ (so h) ⟨rfl, rfl, rfl, rfl, rfl, rfl, rfl, trivial⟩ rfl
                                  · refine wCF hp402 tm (s1 rfl) ?_
                                    refine rg (cp (oAs cB) trivial <| .nil) (by kernel_rfl) ?_
                                    refine pBlkN ?_
                                    exact pJ2 _ _ (so h) ⟨rfl, rfl, rfl, rfl, rfl, rfl, rfl, trivial⟩ rfl
        · rintro x372 x373 rfl
          replace h := hk3
          refine pSeq ?_
          refine wSeq ?_
          refine rg (cp (oMv tm) (s1 rfl) <| cp (oNot tm) (s1 rfl) <| .nil) (by kernel_rfl) ?_
          refine pSeq ?_
          rcases ic h with ⟨hp405, h⟩ | ⟨hp405, h⟩
          · refine wBT hp405 tm (s1 rfl) ?_
            refine wSeq ?_
            refine rg (cp (oAs cB) trivial <| cp (oAs cB) trivial <| .nil) (by kernel_rfl) ?_
            refine pSeq ?_
            refine wRet ?_
            refine pBlkR ?_
            refine pThenR ?_
            obtain rfl := so h
            replace h := hk2
            refine pThenR ?_
            refine pBlkR ?_
            refine pThenR ?_
            obtain rfl := so h
            replace h := hk1
            refine pThenR ?_
            obtain rfl := so h
            exact pRn (.inl rfl) rfl rfl (.tmp rfl <| .tmp rfl <| .nil)
          · refine wBF hp405 tm (s1 rfl) ?_
            refine wSkip ?_
            refine pBlkN ?_
            exact pJ1 _ (so h) ⟨rfl, rfl, rfl, rfl, rfl, rfl, trivial⟩ rfl
      · rintro x339 rfl
        replace h := hk2
        refine rg (cp (oAdd tm (cI (by decide))) (s1 rfl) <| cp (oMv tm) (s1 rfl) <| .nil) (by kernel_rfl) ?_
        exact pLoop (lW (ih _ _ h) ⟨rfl, rfl, rfl, rfl, rfl, rfl, trivial⟩ rfl)
    · refine wCF hp272 tm (s1 rfl) ?_
      refine wExit ?_
      refine pThenX ?_
      refine pThenX ?_
      refine pBlkX ?_
      exact pJ1 _ (so h) ⟨rfl, rfl, trivial⟩ rfl
  · rintro x271 rfl
    replace h := hk1
    refine pSeq ?_
    refine wSeq ?_
    obtain ⟨o1, h, hk1⟩ := bd h
    refine wJ1 (fun x407 => x407 = o1) (fun x407 => [(4, .p 4 0), (66, .d (kB.sig x407))]) (fun x407 => [.row 5200 50 kB x271, .box 4 86 [.v 5200]]) ?_ ?_
    · rcases ic h with ⟨hp408, h⟩ | ⟨hp408, h⟩
      · refine rg (cr (oLdN (n := 1) (k := 0) rfl rfl rfl t86 tm) (s1 rfl) <| cr (oLenR (n := 0) u86 rfl tm) (s1 rfl) <| cp (oNe rfl tm (cI (by decide))) (s1 rfl) <| cp (oMv tm) (s1 rfl) <| cgB (nf hp408) rfl rfl (oMv tm) (s1 rfl) <| cgB (nf hp408) rfl rfl (oLenL u26 tm) (s1 rfl) <| cgB (nf hp408) rfl rfl (oGt rfl tm (cI (by decide))) (s1 rfl) <| cp (oPkF (nf hp408) tm tm) (s2 rfl rfl) <| .nil) (by kernel_rfl) ?_
        exact pJ1 _ (so h) ⟨rfl, rfl, trivial⟩ rfl
      · refine rg (cr (oLdN (n := 1) (k := 0) rfl rfl rfl t86 tm) (s1 rfl) <| cr (oLenR (n := 0) u86 rfl tm) (s1 rfl) <| cp (oNe rfl tm (cI (by decide))) (s1 rfl) <| cp (oMv tm) (s1 rfl) <| csB (nt hp408) rfl rfl <| csB (nt hp408) rfl rfl <| csB (nt hp408) rfl rfl <| cp (oPkT (nt hp408) tm cB) (s1 rfl) <| .nil) (by kernel_rfl) ?_
        exact pJ1 _ (so h) ⟨rfl, rfl, trivial⟩ rfl
    · rintro x407 rfl
      replace h := hk1
      rcases ic h with ⟨hp409, h⟩ | ⟨hp409, h⟩
      · refine wBT hp409 tm (s1 rfl) ?_
        refine wSeq ?_
        refine rg (cp (oAs cB) trivial <| cp (oAs cB) trivial <| .nil) (by kernel_rfl) ?_
        refine pSeq ?_
        refine wRet ?_
        refine pThenR ?_
        obtain rfl := so h
        exact pRn (.inl rfl) rfl rfl (.tmp rfl <| .tmp rfl <| .nil)
      · refine wBF hp409 tm (s1 rfl) ?_
        refine wSkip ?_
        refine pSeq ?_
        refine wSeq ?_
        obtain ⟨y410, hy410, h⟩ := bd h
        refine rg (cr (oLdN (n := 1) (k := 0) rfl rfl rfl t86 tm) (s1 rfl) <| cr (oIdxR (n := 0) u86 z50 rfl hy410 tm (cI (by decide))) (s1 rfl) <| cr (oLdE (n := 0) rfl hy410 rfl t50 tm) (s1 rfl) <| cp (oAs tm) (s1 rfl) <| cp (oAs cB) trivial <| .nil) (by kernel_rfl) ?_
        refine pSeq ?_
        refine wRet ?_
        obtain rfl := so h
        exact pRn (.inl rfl) rfl rfl (.tmp rfl <| .tmp rfl <| .nil)

theorem rule_Right.ok {a0 : List Int} {a1 : Bool} {r : Bool} (h : rule_Right.f a0 a1 = some r) : FnA Try.prog 7 [(kL (kI .i64)).sig a0, kB.sig a1] (kB.sig r) := by
  refine fnIntro Try.func7 rfl (by kernel_rfl) fun H0 w0 => ?_
  unfold rule_Right.f at h
  refine wSeq ?_
  refine rg (cp (oAs cB) trivial <| .nil) (by kernel_rfl) ?_
  refine pSeq ?_
  refine wSeq ?_
  obtain ⟨y1, hy1, h⟩ := bd h
  refine rg (cp (oMv tm) (s1 rfl) <| cp (oCall rfl (rule_made.ok hy1) b18 (opds_cons tm opds_nil)) (s1 rfl) <| cp (oMv tm) (s1 rfl) <| cp (oExt (k := 0) rfl tm) (s1 rfl) <| cp (oExt (k := 1) rfl tm) (s1 rfl) <| cp (oAs tm) (s1 rfl) <| cp (oAs tm) (s1 rfl) <| .nil) (by kernel_rfl) ?_
  refine pSeq ?_
  obtain ⟨o1, h, hk1⟩ := bd h
  refine wJ1 (fun x3 => x3 = o1) (fun x3 => [(4, .d (kB.sig x3))]) (fun x3 => []) ?_ ?_
  · rcases ic h with ⟨hp4, h⟩ | ⟨hp4, h⟩
    · refine rg (cp (oMv tm) (s1 rfl) <| cp (oMv tm) (s1 rfl) <| cgB hp4 rfl rfl (oMv tm) (s1 rfl) <| cgB hp4 rfl rfl (oMv tm) (s1 rfl) <| cgB hp4 rfl rfl (oBEq u4 rfl tm tm) (s2 rfl rfl) <| cp (oPkT hp4 tm tm) (s2 rfl rfl) <| cp (oAs tm) (s1 rfl) <| .nil) (by kernel_rfl) ?_
      exact pJ1 _ (so h) ⟨rfl, trivial⟩ rfl
    · refine rg (cp (oMv tm) (s1 rfl) <| cp (oMv tm) (s1 rfl) <| csB (nb hp4) rfl rfl <| csB (nb hp4) rfl rfl <| csB (nb hp4) rfl rfl <| cp (oPkF (nb hp4) tm cB) (s1 rfl) <| cp (oAs tm) (s1 rfl) <| .nil) (by kernel_rfl) ?_
      exact pJ1 _ (so h) ⟨rfl, trivial⟩ rfl
  · rintro x3 rfl
    replace h := hk1
    refine wRet ?_
    obtain rfl := so h
    exact pR1 (.inl rfl) rfl (.tmp rfl <| .nil)

theorem show_word.ok {a0 : Int} {r : Str × Int × Bool} (h : show_word.f a0 = some r) : FnA Try.prog 26 [(kI .i64).sig a0] (tup [kS.sig r.1, (kI .i64).sig r.2.1, kB.sig r.2.2]) := by
  refine fnIntro Try.func26 rfl (by kernel_rfl) fun H0 w0 => ?_
  unfold show_word.f at h
  refine wSeq ?_
  refine rg (cp (oAs (cS (by decide))) trivial <| cp (oAs (cI (by decide))) trivial <| cp (oAs cB) trivial <| .nil) (by kernel_rfl) ?_
  refine pSeq ?_
  refine wSeq ?_
  refine wSeq ?_
  refine rg (cp (oMv tm) (s1 rfl) <| .nil) (by kernel_rfl) ?_
  refine pSeq ?_
  refine wBlock ?_
  refine wSeq ?_
  refine rg (cp (oEq rfl tm (cI (by decide))) (s1 rfl) <| cp (oAs tm) (s1 rfl) <| .nil) (by kernel_rfl) ?_
  refine pSeq ?_
  rcases ic h with ⟨hp1, h⟩ | ⟨hp1, h⟩
  · refine wCT hp1 tm (s1 rfl) ?_
    refine wSeq ?_
    refine rg (cp (oAs (cS (by decide))) trivial <| cp (oAs (cI (by decide))) trivial <| cp (oAs cB) trivial <| .nil) (by kernel_rfl) ?_
    refine pSeq ?_
    refine wRet ?_
    refine pBlkR ?_
    refine pThenR ?_
    obtain rfl := so h
    exact pRn (.inl rfl) rfl rfl (.tmp rfl <| .tmp rfl <| .tmp rfl <| .nil)
  · refine wCF hp1 tm (s1 rfl) ?_
    refine wSeq ?_
    refine rg (cp (oEq rfl tm (cI (by decide))) (s1 rfl) <| cp (oAs tm) (s1 rfl) <| .nil) (by kernel_rfl) ?_
    refine pSeq ?_
    rcases ic h with ⟨hp2, h⟩ | ⟨hp2, h⟩
    · refine wCT hp2 tm (s1 rfl) ?_
      refine wSeq ?_
      refine rg (cp (oAs (cS (by decide))) trivial <| cp (oAs (cI (by decide))) trivial <| cp (oAs cB) trivial <| .nil) (by kernel_rfl) ?_
      refine pSeq ?_
      refine wRet ?_
      refine pBlkR ?_
      refine pThenR ?_
      obtain rfl := so h
      exact pRn (.inl rfl) rfl rfl (.tmp rfl <| .tmp rfl <| .tmp rfl <| .nil)
    · refine wCF hp2 tm (s1 rfl) ?_
      refine wSeq ?_
      refine rg (cp (oEq rfl tm (cI (by decide))) (s1 rfl) <| cp (oAs tm) (s1 rfl) <| .nil) (by kernel_rfl) ?_
      refine pSeq ?_
      rcases ic h with ⟨hp3, h⟩ | ⟨hp3, h⟩
      · refine wCT hp3 tm (s1 rfl) ?_
        refine wSeq ?_
        refine rg (cp (oAs (cS (by decide))) trivial <| cp (oAs (cI (by decide))) trivial <| cp (oAs cB) trivial <| .nil) (by kernel_rfl) ?_
        refine pSeq ?_
        refine wRet ?_
        refine pBlkR ?_
        refine pThenR ?_
        obtain rfl := so h
        exact pRn (.inl rfl) rfl rfl (.tmp rfl <| .tmp rfl <| .tmp rfl <| .nil)
      · refine wCF hp3 tm (s1 rfl) ?_
        refine wSeq ?_
        refine rg (cp (oEq rfl tm (cI (by decide))) (s1 rfl) <| cp (oAs tm) (s1 rfl) <| .nil) (by kernel_rfl) ?_
        refine pSeq ?_
        rcases ic h with ⟨hp4, h⟩ | ⟨hp4, h⟩
        · refine wCT hp4 tm (s1 rfl) ?_
          refine wSeq ?_
          refine rg (cp (oAs (cS (by decide))) trivial <| cp (oAs (cI (by decide))) trivial <| cp (oAs cB) trivial <| .nil) (by kernel_rfl) ?_
          refine pSeq ?_
          refine wRet ?_
          refine pBlkR ?_
          refine pThenR ?_
          obtain rfl := so h
          exact pRn (.inl rfl) rfl rfl (.tmp rfl <| .tmp rfl <| .tmp rfl <| .nil)
        · refine wCF hp4 tm (s1 rfl) ?_
          refine wSeq ?_
          refine rg (cp (oEq rfl tm (cI (by decide))) (s1 rfl) <| cp (oAs tm) (s1 rfl) <| .nil) (by kernel_rfl) ?_
          refine pSeq ?_
          rcases ic h with ⟨hp5, h⟩ | ⟨hp5, h⟩
          · refine wCT hp5 tm (s1 rfl) ?_
            refine wSeq ?_
            refine rg (cp (oAs (cS (by decide))) trivial <| cp (oAs (cI (by decide))) trivial <| cp (oAs cB) trivial <| .nil) (by kernel_rfl) ?_
            refine pSeq ?_
            refine wRet ?_
            refine pBlkR ?_
            refine pThenR ?_
            obtain rfl := so h
            exact pRn (.inl rfl) rfl rfl (.tmp rfl <| .tmp rfl <| .tmp rfl <| .nil)
          · refine wCF hp5 tm (s1 rfl) ?_
            refine wSeq ?_
            refine rg (cp (oEq rfl tm (cI (by decide))) (s1 rfl) <| cp (oAs tm) (s1 rfl) <| .nil) (by kernel_rfl) ?_
            refine pSeq ?_
            rcases ic h with ⟨hp6, h⟩ | ⟨hp6, h⟩
            · refine wCT hp6 tm (s1 rfl) ?_
              refine wSeq ?_
              refine rg (cp (oAs (cS (by decide))) trivial <| cp (oAs (cI (by decide))) trivial <| cp (oAs cB) trivial <| .nil) (by kernel_rfl) ?_
              refine pSeq ?_
              refine wRet ?_
              refine pBlkR ?_
              refine pThenR ?_
              obtain rfl := so h
              exact pRn (.inl rfl) rfl rfl (.tmp rfl <| .tmp rfl <| .tmp rfl <| .nil)
            · refine wCF hp6 tm (s1 rfl) ?_
              refine wSeq ?_
              refine rg (cp (oEq rfl tm (cI (by decide))) (s1 rfl) <| cp (oAs tm) (s1 rfl) <| .nil) (by kernel_rfl) ?_
              refine pSeq ?_
              rcases ic h with ⟨hp7, h⟩ | ⟨hp7, h⟩
              · refine wCT hp7 tm (s1 rfl) ?_
                refine wSeq ?_
                refine rg (cp (oAs (cS (by decide))) trivial <| cp (oAs (cI (by decide))) trivial <| cp (oAs cB) trivial <| .nil) (by kernel_rfl) ?_
                refine pSeq ?_
                refine wRet ?_
                refine pBlkR ?_
                refine pThenR ?_
                obtain rfl := so h
                exact pRn (.inl rfl) rfl rfl (.tmp rfl <| .tmp rfl <| .tmp rfl <| .nil)
              · refine wCF hp7 tm (s1 rfl) ?_
                refine wSkip ?_
                refine pBlkN ?_
                refine pSeq ?_
                refine wSeq ?_
                obtain ⟨y8, hy8, h⟩ := bd h
                refine rg (cp (oLit (d := kS) el22 (by decide) rfl rfl rfl (e1 (cS (by decide)) (e1 (cS (by decide)) (e1 (cS (by decide)) (e1 (cS (by decide)) (e1 (cS (by decide)) (e1 (cS (by decide)) e0))))))) trivial <| cp (oMv tm) (s1 rfl) <| cp (oSub tm (cI (by decide))) (s1 rfl) <| cp (oIdx u22 z9 hy8 tm tm) (s2 rfl rfl) <| cp (oLd t9 tm) (s1 rfl) <| cp (oAs tm) (s1 rfl) <| cp (oAs (cI (by decide))) trivial <| cp (oAs cB) trivial <| .nil) (by kernel_rfl) ?_
                refine pSeq ?_
                refine wRet ?_
                obtain rfl := so h
                exact pRn (.inl rfl) rfl rfl (.tmp rfl <| .tmp rfl <| .tmp rfl <| .nil)

theorem show_pile_show_piece_put.ok {a0 : show_piece_76} {a1 : show_piece} {r : show_piece_76} (h : show_pile_show_piece_put.f a0 a1 = some r) : FnS Try.prog 27 [.p 70000 0, .d ((kR f_show_piece).sig a1)] [.box 70000 76 [.v 70001], .row 70001 81 (kR f_show_piece) a0.l_] [70000] (.d (tup [])) [.box 70000 76 [.v 70001], .row 70001 81 (kR f_show_piece) r.l_] := by
  refine fnIntroS Try.func27 rfl (by kernel_rfl) fun X H0 w0 pv => ?_
  unfold show_pile_show_piece_put.f at h
  refine wSeq ?_
  refine rg (cp (oBox tm) (s1 rfl) <| .nil) (by kernel_rfl) ?_
  refine pSeq ?_
  obtain ⟨hc1, h⟩ := ib h
  refine rgD hm (cp (oMv tm) (s1 rfl) <| cp (oMv tm) (s1 rfl) <| cp (oNilP tm) (s1 rfl) <| cp (oFldP o76_0 tm) (s1 rfl) <| cr (oLdN (n := 0) (k := 0) rfl rfl rfl t74 tm) (s1 rfl) <| cp (oLd t81 tm) (s1 rfl) <| cp (oLit (d := (kR f_show_piece)) el74 (by decide) rfl rfl rfl (e1 tm e0)) (s1 rfl) <| cw (oApp (n := 1) (id' := 11) el74 (by decide) rfl (by decide) hc1 tm tm) (s2 rfl rfl) <| cp (oNilP tm) (s1 rfl) <| cp (oFldP o76_0 tm) (s1 rfl) <| cwn (oStN (n := 0) (m := 1) (k := 0) rfl rfl rfl rfl z74 rfl tm tm) (s2 rfl rfl) <| .nil) (by kernel_rfl) (by kernel_rfl) ?_
  obtain rfl := so h
  refine pSub (Γ' := []) trivial ?_
  refine pRen 11 70001 rfl ?_
  exact pSn [0, 1] rfl rfl (.inr rfl) rfl rfl (.nil)

theorem show_pile_show_piece_take.ok {a0 : show_piece_76} {r : show_piece_76 × show_piece} (h : show_pile_show_piece_take.f a0 = some r) : FnS Try.prog 28 [.p 70000 0] [.box 70000 76 [.v 70001], .row 70001 81 (kR f_show_piece) a0.l_] [70000] (.d ((kR f_show_piece).sig r.2)) [.box 70000 76 [.v 70001], .row 70001 81 (kR f_show_piece) r.1.l_] := by
  refine fnIntroS Try.func28 rfl (by kernel_rfl) fun X H0 w0 pv => ?_
  unfold show_pile_show_piece_take.f at h
  refine wSeq ?_
  refine rg (cw (oAlloc (id := 2) (ls := [.d kS [], .d (kI .i64) 0, .d (kI .i64) 0]) ze81 (fun g => ⟨[(.string ⟨⟨[]⟩⟩)], _, rfl, zS g.H, ⟨[(.int .i64 0)], _, rfl, zI_i64 g.H, ⟨[(.int .i64 0)], _, rfl, zI_i64 g.H, rfl⟩⟩⟩)) trivial <| .nil) (by kernel_rfl) ?_
  refine pSeq ?_
  refine wSeq ?_
  refine rg (cp (oMv tm) (s1 rfl) <| cp (oNilP tm) (s1 rfl) <| cp (oFldP o76_0 tm) (s1 rfl) <| cr (oLdN (n := 1) (k := 0) rfl rfl rfl t74 tm) (s1 rfl) <| cr (oLenR (n := 2) u74 rfl tm) (s1 rfl) <| cp (oSub tm (cI (by decide))) (s1 rfl) <| cp (oAs tm) (s1 rfl) <| .nil) (by kernel_rfl) ?_
  refine pSeq ?_
  refine wSeq ?_
  obtain ⟨y1, hy1, h⟩ := bd h
  refine rg (cp (oMv tm) (s1 rfl) <| cp (oNilP tm) (s1 rfl) <| cp (oFldP o76_0 tm) (s1 rfl) <| cr (oLdN (n := 1) (k := 0) rfl rfl rfl t74 tm) (s1 rfl) <| cp (oMv tm) (s1 rfl) <| cr (oIdxR (n := 2) u74 z81 rfl hy1 tm tm) (s2 rfl rfl) <| cr (oLdE (n := 2) rfl hy1 rfl t81 tm) (s1 rfl) <| cw (oAlloc (id := 4) (ls := [.d kS [], .d (kI .i64) 0, .d (kI .i64) 0]) ze81 (fun g => ⟨[(.string ⟨⟨[]⟩⟩)], _, rfl, zS g.H, ⟨[(.int .i64 0)], _, rfl, zI_i64 g.H, ⟨[(.int .i64 0)], _, rfl, zI_i64 g.H, rfl⟩⟩⟩)) trivial <| cwn (oStA (n := 0) (fs := f_show_piece) rfl rfl z81 tm tm) (s2 rfl rfl) <| .nil) (by kernel_rfl) ?_
  refine pSeq ?_
  refine wSeq ?_
  obtain ⟨hc2, h⟩ := ib h
  refine rg (cp (oMv tm) (s1 rfl) <| cp (oMv tm) (s1 rfl) <| cp (oNilP tm) (s1 rfl) <| cp (oFldP o76_0 tm) (s1 rfl) <| cr (oLdN (n := 2) (k := 0) rfl rfl rfl t74 tm) (s1 rfl) <| cp (oMv tm) (s1 rfl) <| cw (oCutR (n := 3) (id' := 24) u74 z81 rfl hc2.1 hc2.2 tm tm) (s2 rfl rfl) <| cp (oNilP tm) (s1 rfl) <| cp (oFldP o76_0 tm) (s1 rfl) <| cwn (oStN (n := 2) (m := 3) (k := 0) rfl rfl rfl rfl z74 rfl tm tm) (s2 rfl rfl) <| .nil) (by kernel_rfl) ?_
  refine pSeq ?_
  refine wSeq ?_
  refine rg (cr (oLdA (n := 0) (fs := f_show_piece) (u := ⟨y1.text_, y1.binds_, y1.deep_⟩) rfl ⟨rfl, rfl, rfl, trivial⟩ t81 tm) (s1 rfl) <| cwn (oStA (n := 1) (fs := f_show_piece) rfl rfl z81 tm tm) (s2 rfl rfl) <| .nil) (by kernel_rfl) ?_
  refine pSeq ?_
  refine wRet ?_
  obtain rfl := so h
  refine pSub (Γ' := [(2, .p 2 0)]) ⟨rfl, trivial⟩ ?_
  refine pRen 24 70001 rfl ?_
  exact pS1 [2, 3] rfl rfl (.inl rfl) rfl (.box (n := 1) (fs := f_show_piece) (u := ⟨(⟨y1.text_, y1.binds_, y1.deep_⟩ : show_piece).text_, (⟨y1.text_, y1.binds_, y1.deep_⟩ : show_piece).binds_, (⟨y1.text_, y1.binds_, y1.deep_⟩ : show_piece).deep_⟩) rfl rfl ⟨rfl, rfl, rfl, trivial⟩ t81 <| .nil)

theorem show_within.ok {a0 : show_piece} {a1 : Int} {a2 : Str} {a3 : Str} {r : show_piece} (h : show_within.f a0 a1 a2 a3 = some r) : FnA Try.prog 29 [(kR f_show_piece).sig a0, (kI .i64).sig a1, kS.sig a2, kS.sig a3] ((kR f_show_piece).sig r) := by
  refine fnIntro Try.func29 rfl (by kernel_rfl) fun H0 w0 => ?_
  unfold show_within.f at h
  refine wSeq ?_
  refine rg (cp (oBox tm) (s1 rfl) <| cw (oAlloc (id := 8) (ls := [.d kS [], .d (kI .i64) 0, .d (kI .i64) 0]) ze81 (fun g => ⟨[(.string ⟨⟨[]⟩⟩)], _, rfl, zS g.H, ⟨[(.int .i64 0)], _, rfl, zI_i64 g.H, ⟨[(.int .i64 0)], _, rfl, zI_i64 g.H, rfl⟩⟩⟩)) trivial <| .nil) (by kernel_rfl) ?_
  refine pSeq ?_
  refine wSeq ?_
  refine wSeq ?_
  refine rg (cp (oFld (fs := f_show_piece) (k := 1) rfl o81_1 tm) (s1 rfl) <| cp (oLd t3 tm) (s1 rfl) <| cp (oMv tm) (s1 rfl) <| cp (oGe rfl tm tm) (s2 rfl rfl) <| .nil) (by kernel_rfl) ?_
  refine pSeq ?_
  rcases ic h with ⟨hp1, h⟩ | ⟨hp1, h⟩
  · refine wCT hp1 tm (s1 rfl) ?_
    refine wSeq ?_
    refine rg (cp (oLd t81 tm) (s1 rfl) <| cwn (oStA (n := 0) (fs := f_show_piece) rfl rfl z81 tm tm) (s2 rfl rfl) <| .nil) (by kernel_rfl) ?_
    refine pSeq ?_
    refine wRet ?_
    refine pThenR ?_
    obtain rfl := so h
    exact pR1 (.inl rfl) rfl (.box (n := 0) (fs := f_show_piece) (u := ⟨a0.text_, a0.binds_, a0.deep_⟩) rfl rfl ⟨rfl, rfl, rfl, trivial⟩ t81 <| .nil)
  · refine wCF hp1 tm (s1 rfl) ?_
    refine wSkip ?_
    refine pSeq ?_
    refine wSeq ?_
    obtain ⟨hc2, h⟩ := ib h
    obtain ⟨hc3, h⟩ := ib h
    refine rg (cp (oMv tm) (s1 rfl) <| cp (oFld (fs := f_show_piece) (k := 0) rfl o81_0 tm) (s1 rfl) <| cp (oLd t9 tm) (s1 rfl) <| cp (oSAdd hc2 tm tm) (s2 rfl rfl) <| cp (oMv tm) (s1 rfl) <| cp (oSAdd hc3 tm tm) (s2 rfl rfl) <| cp (oFld (fs := f_show_piece) (k := 2) rfl o81_2 tm) (s1 rfl) <| cp (oLd t3 tm) (s1 rfl) <| cp (oAdd tm (cI (by decide))) (s1 rfl) <| cp (oBuild (fs := f_show_piece) (u := ⟨(a2 ++ a0.text_) ++ a3, 3, IntKind.i64.wrap (a0.deep_ + 1)⟩) rfl ze81 pl81 po81 (.op (zc := [(.string ⟨⟨[]⟩⟩)]) tm rfl (.op (zc := [(.int .i64 0)]) (cI (by decide)) rfl (.op (zc := [(.int .i64 0)]) tm rfl .nil)))) (s2 rfl rfl) <| cwn (oStA (n := 0) (fs := f_show_piece) rfl rfl z81 tm tm) (s2 rfl rfl) <| .nil) (by kernel_rfl) ?_
    refine pSeq ?_
    refine wRet ?_
    obtain rfl := so h
    exact pR1 (.inl rfl) rfl (.box (n := 0) (fs := f_show_piece) (u := ⟨(⟨(a2 ++ a0.text_) ++ a3, 3, IntKind.i64.wrap (a0.deep_ + 1)⟩ : show_piece).text_, (⟨(a2 ++ a0.text_) ++ a3, 3, IntKind.i64.wrap (a0.deep_ + 1)⟩ : show_piece).binds_, (⟨(a2 ++ a0.text_) ++ a3, 3, IntKind.i64.wrap (a0.deep_ + 1)⟩ : show_piece).deep_⟩) rfl rfl ⟨rfl, rfl, rfl, trivial⟩ t81 <| .nil)

theorem show_Text.ok {a0 : List Int} {r : Str × Int} (h : show_Text.f a0 = some r) : FnA Try.prog 15 [(kL (kI .i64)).sig a0] (tup [kS.sig r.1, (kI .i64).sig r.2]) := by
  refine fnIntro Try.func15 rfl (by kernel_rfl) fun H0 w0 => ?_
  unfold show_Text.f at h
  refine wSeq ?_
  refine rg (cp (oAs (cS (by decide))) trivial <| cp (oAs (cI (by decide))) trivial <| .nil) (by kernel_rfl) ?_
  refine pSeq ?_
  refine wSeq ?_
  obtain ⟨o1, h, hk1⟩ := bd h
  refine wJ1 (fun x4 => x4 = o1) (fun x4 => [(0, .d ((kL (kI .i64)).sig a0)), (22, .d (kB.sig x4))]) (fun x4 => []) ?_ ?_
  · obtain ⟨y5, hy5, h⟩ := bd h
    rcases ic h with ⟨hp6, h⟩ | ⟨hp6, h⟩
    · obtain ⟨y7, hy7, h⟩ := bd h
      refine rg (cp (oMv tm) (s1 rfl) <| cp (oCall rfl (rule_Right.ok hy5) b7 (opds_cons tm (opds_cons cB opds_nil))) (s1 rfl) <| cp (oNot tm) (s1 rfl) <| cp (oMv tm) (s1 rfl) <| cgB hp6 rfl rfl (oMv tm) (s1 rfl) <| cgB hp6 rfl rfl (oCall rfl (rule_Right.ok hy7) b7 (opds_cons tm (opds_cons cB opds_nil))) (s1 rfl) <| cgB hp6 rfl rfl (oNot tm) (s1 rfl) <| cp (oPkT hp6 tm tm) (s2 rfl rfl) <| .nil) (by kernel_rfl) ?_
      exact pJ1 _ (so h) ⟨rfl, rfl, trivial⟩ rfl
    · refine rg (cp (oMv tm) (s1 rfl) <| cp (oCall rfl (rule_Right.ok hy5) b7 (opds_cons tm (opds_cons cB opds_nil))) (s1 rfl) <| cp (oNot tm) (s1 rfl) <| cp (oMv tm) (s1 rfl) <| csB (nb hp6) rfl rfl <| csB (nb hp6) rfl rfl <| csB (nb hp6) rfl rfl <| cp (oPkF (nb hp6) tm cB) (s1 rfl) <| .nil) (by kernel_rfl) ?_
      exact pJ1 _ (so h) ⟨rfl, rfl, trivial⟩ rfl
  · rintro x4 rfl
    replace h := hk1
    rcases ic h with ⟨hp8, h⟩ | ⟨hp8, h⟩
    · refine wBT hp8 tm (s1 rfl) ?_
      refine wSeq ?_
      refine rg (cp (oAs (cS (by decide))) trivial <| cp (oAs (cI (by decide))) trivial <| .nil) (by kernel_rfl) ?_
      refine pSeq ?_
      refine wRet ?_
      refine pThenR ?_
      obtain rfl := so h
      exact pRn (.inl rfl) rfl rfl (.tmp rfl <| .tmp rfl <| .nil)
    · refine wBF hp8 tm (s1 rfl) ?_
      refine wSkip ?_
      refine pSeq ?_
      refine wSeq ?_
      refine rg (cw (oAlloc (id := 4) (ls := [.d (kN show_piece) []]) ze76 (fun g => ⟨[(.slice none 0 0)], _, rfl, zN g.H, rfl⟩)) trivial <| .nil) (by kernel_rfl) ?_
      refine pSeq ?_
      refine wSeq ?_
      refine wSeq ?_
      refine rg (cp (oMv tm) (s1 rfl) <| cp (oLenL u26 tm) (s1 rfl) <| cp (oMv (cI (by decide))) trivial <| .nil) (by kernel_rfl) ?_
      refine pSeq ?_
      refine wNilL (kR f_show_piece) 81 5200 (n := 0) (k := 0) rfl rfl rfl ?_
      obtain ⟨o1, h, hk1⟩ := bd h
      refine wK1 (fun x159 => x159 = o1) (fun x159 => [(4, .p 4 0)]) (fun x159 => [.row 5200 81 (kR f_show_piece) x159, .box 4 76 [.v 5200]]) ?_ ?_
      · refine wBlock (wLoop ?_)
        refine lW (pc2 o1 (fun v157 v158 => [(4, .p 4 0), (23, .d ((kL (kI .i64)).sig a0)), (24, .d ((kI .i64).sig (a0.length : Int))), (25, .d ((kI .i64).sig v158))]) (fun v157 v158 => [.row 5200 81 (kR f_show_piece) v157, .box 4 76 [.v 5200]]) (show_Text.l0.partial_correctness a0) ?_ _ _ h) ⟨rfl, rfl, rfl, rfl, trivial⟩ rfl
        clear h
        intro f' ih v157 v158 h
        refine wSeq ?_
        refine rg (cp (oLt rfl tm tm) (s2 rfl rfl) <| .nil) (by kernel_rfl) ?_
        refine pSeq ?_
        refine wSeq ?_
        rcases ic h with ⟨hp160, h⟩ | ⟨hp160, h⟩
        · refine wCT hp160 tm (s1 rfl) ?_
          refine wSkip ?_
          refine pSeq ?_
          obtain ⟨o2, h, hk2⟩ := bd h
          refine wJ1 (fun x197 => x197 = o2) (fun x197 => [(4, .p 4 0), (23, .d ((kL (kI .i64)).sig a0)), (24, .d ((kI .i64).sig (a0.length : Int))), (25, .d ((kI .i64).sig v158))]) (fun x197 => [.row 5200 81 (kR f_show_piece) x197, .box 4 76 [.v 5200]]) ?_ ?_
          · refine wBlock ?_
            refine wSeq ?_
            obtain ⟨y198, hy198, h⟩ := bd h
            refine rg (cp (oIdx u26 z3 hy198 tm tm) (s2 rfl rfl) <| cp (oLd t3 tm) (s1 rfl) <| cp (oAs tm) (s1 rfl) <| .nil) (by kernel_rfl) ?_
            refine pSeq ?_
            refine wSeq ?_
            obtain ⟨y199, hy199, h⟩ := bd h
            refine rg (cp (oMv tm) (s1 rfl) <| cp (oCall rfl (show_word.ok hy199) b26 (opds_cons tm opds_nil)) (s1 rfl) <| cp (oMv tm) (s1 rfl) <| cp (oExt (k := 0) rfl tm) (s1 rfl) <| cp (oExt (k := 1) rfl tm) (s1 rfl) <| cp (oExt (k := 2) rfl tm) (s1 rfl) <| cp (oAs tm) (s1 rfl) <| cp (oAs tm) (s1 rfl) <| cp (oAs tm) (s1 rfl) <| .nil) (by kernel_rfl) ?_
            refine pSeq ?_
            refine wSeq ?_
            refine wSeq ?_
            refine rg (cp (oMv tm) (s1 rfl) <| cp (oNot tm) (s1 rfl) <| .nil) (by kernel_rfl) ?_
            refine pSeq ?_
            rcases ic h with ⟨hp200, h⟩ | ⟨hp200, h⟩
            · refine wBT hp200 tm (s1 rfl) ?_
              refine wSeq ?_
              obtain ⟨y201, hy201, h⟩ := bd h
              refine rg (cp (oMv tm) (s1 rfl) <| cp (oMv tm) (s1 rfl) <| cp (oBuild (fs := f_show_piece) (u := ⟨y199.1, y199.2.1, 0⟩) rfl ze81 pl81 po81 (.op (zc := [(.string ⟨⟨[]⟩⟩)]) tm rfl (.op (zc := [(.int .i64 0)]) tm rfl (.op (zc := [(.int .i64 0)]) (cI (by decide)) rfl .nil)))) (s2 rfl rfl) <| cm (oCallS (rest := []) (R' := [.row 390120 81 (kR f_show_piece) y201.l_, .box 4 76 [.v 390120]]) (out' := .d (tup [])) [(70000, 4), (70001, 5200)] [(70001, 390120)] [1, 0] [] [1, 0] rfl (show_pile_show_piece_put.ok hy201) b27 (oE1 tm (oE1 tm oE0)) rfl rfl rfl rfl rfl rfl rfl rfl) (s2 rfl rfl) <| .nil) (by kernel_rfl) ?_
              refine pSeq ?_
              refine wExit ?_
              refine pThenX ?_
              refine pBlkX ?_
              refine pSub (Γ' := [(4, .p 4 0), (23, .d ((kL (kI .i64)).sig a0)), (24, .d ((kI .i64).sig (a0.length : Int))), (25, .d ((kI .i64).sig v158))]) ⟨rfl, rfl, rfl, rfl, trivial⟩ ?_
              refine pRen 390120 5200 rfl ?_
              exact pJ1 _ (so h) ⟨rfl, rfl, rfl, rfl, trivial⟩ rfl
            · refine wBF hp200 tm (s1 rfl) ?_
              refine wSkip ?_
              refine pSeq ?_
              refine wSeq ?_
              obtain ⟨y202, hy202, h⟩ := bd h
              obtain ⟨y203, hy203, h⟩ := bd h
              refine rg (cm (oCallS (rest := []) (R' := [.row 400000 81 (kR f_show_piece) y202.1.l_, .box 4 76 [.v 400000]]) (out' := .d ((kR f_show_piece).sig y202.2)) [(70000, 4), (70001, 5200)] [(70001, 400000)] [1, 0] [] [1, 0] rfl (show_pile_show_piece_take.ok hy202) b28 (oE1 tm oE0) rfl rfl rfl rfl rfl rfl rfl rfl) (s1 rfl) <| cm (oCallS (rest := []) (R' := [.row 400040 81 (kR f_show_piece) y203.1.l_, .box 4 76 [.v 400040]]) (out' := .d ((kR f_show_piece).sig y203.2)) [(70000, 4), (70001, 400000)] [(70001, 400040)] [1, 0] [] [1, 0] rfl (show_pile_show_piece_take.ok hy203) b28 (oE1 tm oE0) rfl rfl rfl rfl rfl rfl rfl rfl) (s1 rfl) <| cw (oAlloc (id := 10) (ls := [.d kS [], .d (kI .i64) 0, .d (kI .i64) 0]) ze81 (fun g => ⟨[(.string ⟨⟨[]⟩⟩)], _, rfl, zS g.H, ⟨[(.int .i64 0)], _, rfl, zI_i64 g.H, ⟨[(.int .i64 0)], _, rfl, zI_i64 g.H, rfl⟩⟩⟩)) trivial <| cw (oAlloc (id := 11) (ls := [.d kS [], .d (kI .i64) 0, .d (kI .i64) 0]) ze81 (fun g => ⟨[(.string ⟨⟨[]⟩⟩)], _, rfl, zS g.H, ⟨[(.int .i64 0)], _, rfl, zI_i64 g.H, ⟨[(.int .i64 0)], _, rfl, zI_i64 g.H, rfl⟩⟩⟩)) trivial <| cwn (oStA (n := 1) (fs := f_show_piece) rfl rfl z81 tm tm) (s2 rfl rfl) <| cwn (oStA (n := 0) (fs := f_show_piece) rfl rfl z81 tm tm) (s2 rfl rfl) <| .nil) (by kernel_rfl) ?_
              refine pSeq ?_
              refine wSeq ?_
              refine rg (cp (oAs (cS (by decide))) trivial <| cp (oAs (cS (by decide))) trivial <| .nil) (by kernel_rfl) ?_
              refine pSeq ?_
              refine wSeq ?_
              refine wWeak (Γ' := [(4, .p 4 0), (6, .d ((kI .i64).sig y198)), (7, .d (kS.sig y199.1)), (8, .d ((kI .i64).sig y199.2.1)), (10, .p 10 0), (11, .p 11 0), (12, .d (kS.sig ([40] : Str))), (13, .d (kS.sig ([41] : Str))), (23, .d ((kL (kI .i64)).sig a0)), (24, .d ((kI .i64).sig (a0.length : Int))), (25, .d ((kI .i64).sig v158))]) ⟨rfl, rfl, rfl, rfl, rfl, rfl, rfl, rfl, rfl, rfl, rfl, trivial⟩ ?_
              refine wRen 400040 5200 rfl ?_
              obtain ⟨o3, h, hk3⟩ := bd h
              refine wJ1 (fun x205 => x205 = o3) (fun x205 => [(4, .p 4 0), (6, .d ((kI .i64).sig y198)), (7, .d (kS.sig y199.1)), (8, .d ((kI .i64).sig y199.2.1)), (10, .p 10 0), (11, .p 11 0), (12, .d (kS.sig ([40] : Str))), (13, .d (kS.sig ([41] : Str))), (23, .d ((kL (kI .i64)).sig a0)), (24, .d ((kI .i64).sig (a0.length : Int))), (25, .d ((kI .i64).sig v158)), (48, .d (kB.sig x205))]) (fun x205 => [.box 11 81 [.d kS y203.2.text_, .d (kI .i64) y203.2.binds_, .d (kI .i64) y203.2.deep_], .box 10 81 [.d kS y202.2.text_, .d (kI .i64) y202.2.binds_, .d (kI .i64) y202.2.deep_], .row 5200 81 (kR f_show_piece) y203.1.l_, .box 4 76 [.v 5200]]) ?_ ?_
              · rcases ic h with ⟨hp206, h⟩ | ⟨hp206, h⟩
                · refine rg (cp (oMv tm) (s1 rfl) <| cp (oEq rfl tm (cI (by decide))) (s1 rfl) <| cp (oMv tm) (s1 rfl) <| csB (decide_eq_true hp206) rfl rfl <| csB (decide_eq_true hp206) rfl rfl <| cp (oPkT (decide_eq_true hp206) tm cB) (s1 rfl) <| .nil) (by kernel_rfl) ?_
                  exact pJ1 _ (so h) ⟨rfl, rfl, rfl, rfl, rfl, rfl, rfl, rfl, rfl, rfl, rfl, rfl, trivial⟩ rfl
                · refine rg (cp (oMv tm) (s1 rfl) <| cp (oEq rfl tm (cI (by decide))) (s1 rfl) <| cp (oMv tm) (s1 rfl) <| cgB (decide_eq_false hp206) rfl rfl (oMv tm) (s1 rfl) <| cgB (decide_eq_false hp206) rfl rfl (oEq rfl tm (cI (by decide))) (s1 rfl) <| cp (oPkF (decide_eq_false hp206) tm tm) (s2 rfl rfl) <| .nil) (by kernel_rfl) ?_
                  exact pJ1 _ (so h) ⟨rfl, rfl, rfl, rfl, rfl, rfl, rfl, rfl, rfl, rfl, rfl, rfl, trivial⟩ rfl
              · rintro x205 rfl
                replace h := hk3
                rcases ic h with ⟨hp207, h⟩ | ⟨hp207, h⟩
                · refine wBT hp207 tm (s1 rfl) ?_
                  refine rg (cp (oAs (cS (by decide))) trivial <| cp (oAs (cS (by decide))) trivial <| .nil) (by kernel_rfl) ?_
                  refine pSeq ?_
                  refine wSeq ?_
                  refine wSeq ?_
                  refine rg (cp (oMv tm) (s1 rfl) <| cp (oNe rfl tm (cI (by decide))) (s1 rfl) <| .nil) (by kernel_rfl) ?_
                  refine pSeq ?_
                  rcases ic h with ⟨hp208, h⟩ | ⟨hp208, h⟩
                  · refine wNT hp208 tm (s1 rfl) ?_
                    refine wSkip ?_
                    refine pSeq ?_
                    obtain ⟨hc209, h⟩ := ib h
                    obtain ⟨hc210, h⟩ := ib h
                    obtain ⟨hc211, h⟩ := ib h
                    obtain ⟨hc212, h⟩ := ib h
                    obtain ⟨y213, hy213, h⟩ := bd h
                    refine rg (cp (oFldP o81_0 tm) (s1 rfl) <| cr (oLdB (n := 0) (k := 0) rfl rfl rfl t9 tm) (s1 rfl) <| cp (oSAdd hc209 tm (cS (by decide))) (s1 rfl) <| cp (oMv tm) (s1 rfl) <| cp (oSAdd hc210 tm tm) (s2 rfl rfl) <| cp (oSAdd hc211 tm (cS (by decide))) (s1 rfl) <| cp (oFldP o81_0 tm) (s1 rfl) <| cr (oLdB (n := 1) (k := 0) rfl rfl rfl t9 tm) (s1 rfl) <| cp (oSAdd hc212 tm tm) (s2 rfl rfl) <| cp (oMv tm) (s1 rfl) <| cp (oFldP o81_2 tm) (s1 rfl) <| cr (oLdB (n := 0) (k := 2) rfl rfl rfl t3 tm) (s1 rfl) <| cp (oFldP o81_2 tm) (s1 rfl) <| cr (oLdB (n := 1) (k := 2) rfl rfl rfl t3 tm) (s1 rfl) <| cp (oMax tm tm) (s2 rfl rfl) <| cp (oBuild (fs := f_show_piece) (u := ⟨(((y203.2.text_ ++ ([32] : Str)) ++ y199.1) ++ ([32] : Str)) ++ y202.2.text_, y199.2.1, (if y203.2.deep_ < y202.2.deep_ then y202.2.deep_ else y203.2.deep_)⟩) rfl ze81 pl81 po81 (.op (zc := [(.string ⟨⟨[]⟩⟩)]) tm rfl (.op (zc := [(.int .i64 0)]) tm rfl (.op (zc := [(.int .i64 0)]) tm rfl .nil)))) (s3 rfl rfl rfl) <| cm (oCallS (rest := [.box 11 81 [.d kS y203.2.text_, .d (kI .i64) y203.2.binds_, .d (kI .i64) y203.2.deep_], .box 10 81 [.d kS y202.2.text_, .d (kI .i64) y202.2.binds_, .d (kI .i64) y202.2.deep_]]) (R' := [.box 11 81 [.d kS y203.2.text_, .d (kI .i64) y203.2.binds_, .d (kI .i64) y203.2.deep_], .box 10 81 [.d kS y202.2.text_, .d (kI .i64) y202.2.binds_, .d (kI .i64) y202.2.deep_], .row 460640 81 (kR f_show_piece) y213.l_, .box 4 76 [.v 460640]]) (out' := .d (tup [])) [(70000, 4), (70001, 5200)] [(70001, 460640)] [3, 2] [0, 1] [2, 3, 1, 0] rfl (show_pile_show_piece_put.ok hy213) b27 (oE1 tm (oE1 tm oE0)) rfl rfl rfl rfl rfl rfl rfl rfl) (s2 rfl rfl) <| .nil) (by kernel_rfl) ?_
                    refine pBlkN ?_
                    refine pDrop (.cons _ (.cons _ (.cons_cons _ (.cons_cons _ .slnil)))) ?_
                    refine pSub (Γ' := [(4, .p 4 0), (23, .d ((kL (kI .i64)).sig a0)), (24, .d ((kI .i64).sig (a0.length : Int))), (25, .d ((kI .i64).sig v158))]) ⟨rfl, rfl, rfl, rfl, trivial⟩ ?_
                    refine pRen 460640 5200 rfl ?_
                    exact pJ1 _ (so h) ⟨rfl, rfl, rfl, rfl, trivial⟩ rfl
                  · refine wNF hp208 tm (s1 rfl) ?_
                    obtain ⟨y214, hy214, h⟩ := bd h
                    obtain ⟨y215, hy215, h⟩ := bd h
                    refine rgD hm (cr (oLdA (n := 0) (fs := f_show_piece) (u := ⟨y203.2.text_, y203.2.binds_, y203.2.deep_⟩) rfl ⟨rfl, rfl, rfl, trivial⟩ t81 tm) (s1 rfl) <| cp (oMv tm) (s1 rfl) <| cp (oMv tm) (s1 rfl) <| cp (oMv tm) (s1 rfl) <| cp (oCall rfl (show_within.ok hy214) b29 (opds_cons tm (opds_cons tm (opds_cons tm (opds_cons tm opds_nil))))) ⟨rfl, rfl, rfl, rfl, trivial⟩ <| cr (oLdA (n := 1) (fs := f_show_piece) (u := ⟨y202.2.text_, y202.2.binds_, y202.2.deep_⟩) rfl ⟨rfl, rfl, rfl, trivial⟩ t81 tm) (s1 rfl) <| cp (oMv tm) (s1 rfl) <| cp (oAdd tm (cI (by decide))) (s1 rfl) <| cp (oMv tm) (s1 rfl) <| cp (oMv tm) (s1 rfl) <| cp (oCall rfl (show_within.ok hy215) b29 (opds_cons tm (opds_cons tm (opds_cons tm (opds_cons tm opds_nil))))) ⟨rfl, rfl, rfl, rfl, trivial⟩ <| cwn (oStA (n := 0) (fs := f_show_piece) rfl rfl z81 tm tm) (s2 rfl rfl) <| cwn (oStA (n := 1) (fs := f_show_piece) rfl rfl z81 tm tm) (s2 rfl rfl) <| .nil) (by kernel_rfl) (by kernel_rfl) ?_
                    refine pSeq ?_
                    obtain ⟨hc216, h⟩ := ib h
                    obtain ⟨hc217, h⟩ := ib h
                    obtain ⟨hc218, h⟩ := ib h
                    obtain ⟨hc219, h⟩ := ib h
                    obtain ⟨y220, hy220, h⟩ := bd h
                    refine rg (cp (oFldP o81_0 tm) (s1 rfl) <| cr (oLdB (n := 0) (k := 0) rfl rfl rfl t9 tm) (s1 rfl) <| cp (oSAdd hc216 tm (cS (by decide))) (s1 rfl) <| cp (oMv tm) (s1 rfl) <| cp (oSAdd hc217 tm tm) (s2 rfl rfl) <| cp (oSAdd hc218 tm (cS (by decide))) (s1 rfl) <| cp (oFldP o81_0 tm) (s1 rfl) <| cr (oLdB (n := 1) (k := 0) rfl rfl rfl t9 tm) (s1 rfl) <| cp (oSAdd hc219 tm tm) (s2 rfl rfl) <| cp (oMv tm) (s1 rfl) <| cp (oFldP o81_2 tm) (s1 rfl) <| cr (oLdB (n := 0) (k := 2) rfl rfl rfl t3 tm) (s1 rfl) <| cp (oFldP o81_2 tm) (s1 rfl) <| cr (oLdB (n := 1) (k := 2) rfl rfl rfl t3 tm) (s1 rfl) <| cp (oMax tm tm) (s2 rfl rfl) <| cp (oBuild (fs := f_show_piece) (u := ⟨(((y214.text_ ++ ([32] : Str)) ++ y199.1) ++ ([32] : Str)) ++ y215.text_, y199.2.1, (if y214.deep_ < y215.deep_ then y215.deep_ else y214.deep_)⟩) rfl ze81 pl81 po81 (.op (zc := [(.string ⟨⟨[]⟩⟩)]) tm rfl (.op (zc := [(.int .i64 0)]) tm rfl (.op (zc := [(.int .i64 0)]) tm rfl .nil)))) (s3 rfl rfl rfl) <| cm (oCallS (rest := [.box 11 81 [.d kS y214.text_, .d (kI .i64) y214.binds_, .d (kI .i64) y214.deep_], .box 10 81 [.d kS y215.text_, .d (kI .i64) y215.binds_, .d (kI .i64) y215.deep_]]) (R' := [.box 11 81 [.d kS y214.text_, .d (kI .i64) y214.binds_, .d (kI .i64) y214.deep_], .box 10 81 [.d kS y215.text_, .d (kI .i64) y215.binds_, .d (kI .i64) y215.deep_], .row 460640 81 (kR f_show_piece) y220.l_, .box 4 76 [.v 460640]]) (out' := .d (tup [])) [(70000, 4), (70001, 5200)] [(70001, 460640)] [3, 2] [0, 1] [2, 3, 1, 0] rfl (show_pile_show_piece_put.ok hy220) b27 (oE1 tm (oE1 tm oE0)) rfl rfl rfl rfl rfl rfl rfl rfl) (s2 rfl rfl) <| .nil) (by kernel_rfl) ?_
                    refine pBlkN ?_
                    refine pDrop (.cons _ (.cons _ (.cons_cons _ (.cons_cons _ .slnil)))) ?_
                    refine pSub (Γ' := [(4, .p 4 0), (23, .d ((kL (kI .i64)).sig a0)), (24, .d ((kI .i64).sig (a0.length : Int))), (25, .d ((kI .i64).sig v158))]) ⟨rfl, rfl, rfl, rfl, trivial⟩ ?_
                    refine pRen 460640 5200 rfl ?_
                    exact pJ1 _ (so h) ⟨rfl, rfl, rfl, rfl, trivial⟩ rfl
                · refine wBF hp207 tm (s1 rfl) ?_
                  refine wSkip ?_
                  refine pSeq ?_
                  refine wSeq ?_
                  refine wSeq ?_
                  refine rg (cp (oMv tm) (s1 rfl) <| cp (oNe rfl tm (cI (by decide))) (s1 rfl) <| .nil) (by kernel_rfl) ?_
                  refine pSeq ?_
                  rcases ic h with ⟨hp221, h⟩ | ⟨hp221, h⟩
                  · refine wNT hp221 tm (s1 rfl) ?_
                    refine wSkip ?_
                    refine pSeq ?_
                    obtain ⟨hc222, h⟩ := ib h
                    obtain ⟨hc223, h⟩ := ib h
                    obtain ⟨hc224, h⟩ := ib h
                    obtain ⟨hc225, h⟩ := ib h
                    obtain ⟨y226, hy226, h⟩ := bd h
                    refine rg (cp (oFldP o81_0 tm) (s1 rfl) <| cr (oLdB (n := 0) (k := 0) rfl rfl rfl t9 tm) (s1 rfl) <| cp (oSAdd hc222 tm (cS (by decide))) (s1 rfl) <| cp (oMv tm) (s1 rfl) <| cp (oSAdd hc223 tm tm) (s2 rfl rfl) <| cp (oSAdd hc224 tm (cS (by decide))) (s1 rfl) <| cp (oFldP o81_0 tm) (s1 rfl) <| cr (oLdB (n := 1) (k := 0) rfl rfl rfl t9 tm) (s1 rfl) <| cp (oSAdd hc225 tm tm) (s2 rfl rfl) <| cp (oMv tm) (s1 rfl) <| cp (oFldP o81_2 tm) (s1 rfl) <| cr (oLdB (n := 0) (k := 2) rfl rfl rfl t3 tm) (s1 rfl) <| cp (oFldP o81_2 tm) (s1 rfl) <| cr (oLdB (n := 1) (k := 2) rfl rfl rfl t3 tm) (s1 rfl) <| cp (oMax tm tm) (s2 rfl rfl) <| cp (oBuild (fs := f_show_piece) (u := ⟨(((y203.2.text_ ++ ([32] : Str)) ++ y199.1) ++ ([32] : Str)) ++ y202.2.text_, y199.2.1, (if y203.2.deep_ < y202.2.deep_ then y202.2.deep_ else y203.2.deep_)⟩) rfl ze81 pl81 po81 (.op (zc := [(.string ⟨⟨[]⟩⟩)]) tm rfl (.op (zc := [(.int .i64 0)]) tm rfl (.op (zc := [(.int .i64 0)]) tm rfl .nil)))) (s3 rfl rfl rfl) <| cm (oCallS (rest := [.box 11 81 [.d kS y203.2.text_, .d (kI .i64) y203.2.binds_, .d (kI .i64) y203.2.deep_], .box 10 81 [.d kS y202.2.text_, .d (kI .i64) y202.2.binds_, .d (kI .i64) y202.2.deep_]]) (R' := [.box 11 81 [.d kS y203.2.text_, .d (kI .i64) y203.2.binds_, .d (kI .i64) y203.2.deep_], .box 10 81 [.d kS y202.2.text_, .d (kI .i64) y202.2.binds_, .d (kI .i64) y202.2.deep_], .row 460640 81 (kR f_show_piece) y226.l_, .box 4 76 [.v 460640]]) (out' := .d (tup [])) [(70000, 4), (70001, 5200)] [(70001, 460640)] [3, 2] [0, 1] [2, 3, 1, 0] rfl (show_pile_show_piece_put.ok hy226) b27 (oE1 tm (oE1 tm oE0)) rfl rfl rfl rfl rfl rfl rfl rfl) (s2 rfl rfl) <| .nil) (by kernel_rfl) ?_
                    refine pBlkN ?_
                    refine pDrop (.cons _ (.cons _ (.cons_cons _ (.cons_cons _ .slnil)))) ?_
                    refine pSub (Γ' := [(4, .p 4 0), (23, .d ((kL (kI .i64)).sig a0)), (24, .d ((kI .i64).sig (a0.length : Int))), (25, .d ((kI .i64).sig v158))]) ⟨rfl, rfl, rfl, rfl, trivial⟩ ?_
                    refine pRen 460640 5200 rfl ?_
                    exact pJ1 _ (so h) ⟨rfl, rfl, rfl, rfl, trivial⟩ rfl
                  · refine wNF hp221 tm (s1 rfl) ?_
                    obtain ⟨y227, hy227, h⟩ := bd h
                    obtain ⟨y228, hy228, h⟩ := bd h
                    refine rgD hm (cr (oLdA (n := 0) (fs := f_show_piece) (u := ⟨y203.2.text_, y203.2.binds_, y203.2.deep_⟩) rfl ⟨rfl, rfl, rfl, trivial⟩ t81 tm) (s1 rfl) <| cp (oMv tm) (s1 rfl) <| cp (oMv tm) (s1 rfl) <| cp (oMv tm) (s1 rfl) <| cp (oCall rfl (show_within.ok hy227) b29 (opds_cons tm (opds_cons tm (opds_cons tm (opds_cons tm opds_nil))))) ⟨rfl, rfl, rfl, rfl, trivial⟩ <| cr (oLdA (n := 1) (fs := f_show_piece) (u := ⟨y202.2.text_, y202.2.binds_, y202.2.deep_⟩) rfl ⟨rfl, rfl, rfl, trivial⟩ t81 tm) (s1 rfl) <| cp (oMv tm) (s1 rfl) <| cp (oAdd tm (cI (by decide))) (s1 rfl) <| cp (oMv tm) (s1 rfl) <| cp (oMv tm) (s1 rfl) <| cp (oCall rfl (show_within.ok hy228) b29 (opds_cons tm (opds_cons tm (opds_cons tm (opds_cons tm opds_nil))))) ⟨rfl, rfl, rfl, rfl, trivial⟩ <| cwn (oStA (n := 0) (fs := f_show_piece) rfl rfl z81 tm tm) (s2 rfl rfl) <| cwn (oStA (n := 1) (fs := f_show_piece) rfl rfl z81 tm tm) (s2 rfl rfl) <| .nil) (by kernel_rfl) (by kernel_rfl) ?_
                    refine pSeq ?_
                    obtain ⟨hc229, h⟩ := ib h
                    obtain ⟨hc230, h⟩ := ib h
                    obtain ⟨hc231, h⟩ := ib h
                    obtain ⟨hc232, h⟩ := ib h
                    obtain ⟨y233, hy233, h⟩ := bd h
                    refine rg (cp (oFldP o81_0 tm) (s1 rfl) <| cr (oLdB (n := 0) (k := 0) rfl rfl rfl t9 tm) (s1 rfl) <| cp (oSAdd hc229 tm (cS (by decide))) (s1 rfl) <| cp (oMv tm) (s1 rfl) <| cp (oSAdd hc230 tm tm) (s2 rfl rfl) <| cp (oSAdd hc231 tm (cS (by decide))) (s1 rfl) <| cp (oFldP o81_0 tm) (s1 rfl) <| cr (oLdB (n := 1) (k := 0) rfl rfl rfl t9 tm) (s1 rfl) <| cp (oSAdd hc232 tm tm) (s2 rfl rfl) <| cp (oMv tm) (s1 rfl) <| cp (oFldP o81_2 tm) (s1 rfl) <| cr (oLdB (n := 0) (k := 2) rfl rfl rfl t3 tm) (s1 rfl) <| cp (oFldP o81_2 tm) (s1 rfl) <| cr (oLdB (n := 1) (k := 2) rfl rfl rfl t3 tm) (s1 rfl) <| cp (oMax tm tm) (s2 rfl rfl) <| cp (oBuild (fs := f_show_piece) (u := ⟨(((y227.text_ ++ ([32] : Str)) ++ y199.1) ++ ([32] : Str)) ++ y228.text_, y199.2.1, (if y227.deep_ < y228.deep_ then y228.deep_ else y227.deep_)⟩) rfl ze81 pl81 po81 (.op (zc := [(.string ⟨⟨[]⟩⟩)]) tm rfl (.op (zc := [(.int .i64 0)]) tm rfl (.op (zc := [(.int .i64 0)]) tm rfl .nil)))) (s3 rfl rfl rfl) <| cm (oCallS (rest := [.box 11 81 [.d kS y227.text_, .d (kI .i64) y227.binds_, .d (kI .i64) y227.deep_], .box 10 81 [.d kS y228.text_, .d (kI .i64) y228.binds_, .d (kI .i64) y228.deep_]]) (R' := [.box 11 81 [.d kS y227.text_, .d (kI .i64) y227.binds_, .d (kI .i64) y227.deep_], .box 10 81 [.d kS y228.text_, .d (kI .i64) y228.binds_, .d (kI .i64) y228.deep_], .row 460640 81 (kR f_show_piece) y233.l_, .box 4 76 [.v 460640]]) (out' := .d (tup [])) [(70000, 4), (70001, 5200)] [(70001, 460640)] [3, 2] [0, 1] [2, 3, 1, 0] rfl (show_pile_show_piece_put.ok hy233) b27 (oE1 tm (oE1 tm oE0)) rfl rfl rfl rfl rfl rfl rfl rfl) (s2 rfl rfl) <| .nil) (by kernel_rfl) ?_
                    refine pBlkN ?_
                    refine pDrop (.cons _ (.cons _ (.cons_cons _ (.cons_cons _ .slnil)))) ?_
                    refine pSub (Γ' := [(4, .p 4 0), (23, .d ((kL (kI .i64)).sig a0)), (24, .d ((kI .i64).sig (a0.length : Int))), (25, .d ((kI .i64).sig v158))]) ⟨rfl, rfl, rfl, rfl, trivial⟩ ?_
                    refine pRen 460640 5200 rfl ?_
                    exact pJ1 _ (so h) ⟨rfl, rfl, rfl, rfl, trivial⟩ rfl
          · rintro x197 rfl
            replace h := hk2
            refine rg (cp (oAdd tm (cI (by decide))) (s1 rfl) <| cp (oMv tm) (s1 rfl) <| .nil) (by kernel_rfl) ?_
            exact pLoop (lW (ih _ _ h) ⟨rfl, rfl, rfl, rfl, trivial⟩ rfl)
        · refine wCF hp160 tm (s1 rfl) ?_
          refine wExit ?_
          refine pThenX ?_
          refine pThenX ?_
          refine pBlkX ?_
          exact pJ1 _ (so h) ⟨rfl, trivial⟩ rfl
      · rintro x159 rfl
        replace h := hk1
        refine pSeq ?_
        refine wSeq ?_
        obtain ⟨y234, hy234, h⟩ := bd h
        refine rg (cm (oCallS (rest := []) (R' := [.row 480000 81 (kR f_show_piece) y234.1.l_, .box 4 76 [.v 480000]]) (out' := .d ((kR f_show_piece).sig y234.2)) [(70000, 4), (70001, 5200)] [(70001, 480000)] [1, 0] [] [1, 0] rfl (show_pile_show_piece_take.ok hy234) b28 (oE1 tm oE0) rfl rfl rfl rfl rfl rfl rfl rfl) (s1 rfl) <| cw (oAlloc (id := 14) (ls := [.d kS [], .d (kI .i64) 0, .d (kI .i64) 0]) ze81 (fun g => ⟨[(.string ⟨⟨[]⟩⟩)], _, rfl, zS g.H, ⟨[(.int .i64 0)], _, rfl, zI_i64 g.H, ⟨[(.int .i64 0)], _, rfl, zI_i64 g.H, rfl⟩⟩⟩)) trivial <| cwn (oStA (n := 0) (fs := f_show_piece) rfl rfl z81 tm tm) (s2 rfl rfl) <| .nil) (by kernel_rfl) ?_
        refine pSeq ?_
        refine wSeq ?_
        refine wSeq ?_
        refine rg (cp (oFldP o81_2 tm) (s1 rfl) <| cr (oLdB (n := 0) (k := 2) rfl rfl rfl t3 tm) (s1 rfl) <| cp (oGt rfl tm (cI (by decide))) (s1 rfl) <| .nil) (by kernel_rfl) ?_
        refine pSeq ?_
        rcases ic h with ⟨hp235, h⟩ | ⟨hp235, h⟩
        · refine wCT hp235 tm (s1 rfl) ?_
          refine wSeq ?_
          refine rg (cp (oAs (cS (by decide))) trivial <| cp (oAs (cI (by decide))) trivial <| .nil) (by kernel_rfl) ?_
          refine pSeq ?_
          refine wRet ?_
          refine pThenR ?_
          obtain rfl := so h
          exact pRn (.inl rfl) rfl rfl (.tmp rfl <| .tmp rfl <| .nil)
        · refine wCF hp235 tm (s1 rfl) ?_
          refine wSkip ?_
          refine pSeq ?_
          refine wSeq ?_
          refine rg (cp (oFldP o81_0 tm) (s1 rfl) <| cr (oLdB (n := 0) (k := 0) rfl rfl rfl t9 tm) (s1 rfl) <| cp (oAs tm) (s1 rfl) <| cp (oAs (cI (by decide))) trivial <| .nil) (by kernel_rfl) ?_
          refine pSeq ?_
          refine wRet ?_
          obtain rfl := so h
          exact pRn (.inl rfl) rfl rfl (.tmp rfl <| .tmp rfl <| .nil)

theorem reticentlaw05_alive.ok {r : Bool} (h : reticentlaw05_alive.f = some r) : FnA Try.prog 13 [] (kB.sig r) := by
  refine fnIntro Try.func13 rfl (by kernel_rfl) fun H0 w0 => ?_
  unfold reticentlaw05_alive.f at h
  refine wSeq ?_
  refine rg (cp (oAs cB) trivial <| .nil) (by kernel_rfl) ?_
  refine pSeq ?_
  refine wSeq ?_
  obtain ⟨y1, hy1, h⟩ := bd h
  refine rg (cp (oLit (d := (kI .i64)) el26 (by decide) rfl rfl rfl (e1 (cI (by decide)) (e1 (cI (by decide)) (e1 (cI (by decide)) (e1 (cI (by decide)) (e1 (cI (by decide)) (e1 (cI (by decide)) (e1 (cI (by decide)) e0)))))))) trivial <| cp (oCall rfl (show_Text.ok hy1) b15 (opds_cons tm opds_nil)) (s1 rfl) <| cp (oMv tm) (s1 rfl) <| cp (oExt (k := 0) rfl tm) (s1 rfl) <| cp (oExt (k := 1) rfl tm) (s1 rfl) <| cp (oAs tm) (s1 rfl) <| cp (oAs tm) (s1 rfl) <| .nil) (by kernel_rfl) ?_
  refine pSeq ?_
  obtain ⟨o1, h, hk1⟩ := bd h
  refine wJ1 (fun x3 => x3 = o1) (fun x3 => [(0, .d (kB.sig x3))]) (fun x3 => []) ?_ ?_
  · rcases ic h with ⟨hp4, h⟩ | ⟨hp4, h⟩
    · refine rg (cp (oMv tm) (s1 rfl) <| cp (oEq rfl tm (cI (by decide))) (s1 rfl) <| cp (oMv tm) (s1 rfl) <| cgB (decide_eq_true hp4) rfl rfl (oMv tm) (s1 rfl) <| cgB (decide_eq_true hp4) rfl rfl (oSEq rfl tm (cS (by decide))) (s1 rfl) <| cp (oPkT (decide_eq_true hp4) tm tm) (s2 rfl rfl) <| cp (oAs tm) (s1 rfl) <| .nil) (by kernel_rfl) ?_
      exact pJ1 _ (so h) ⟨rfl, trivial⟩ rfl
    · refine rg (cp (oMv tm) (s1 rfl) <| cp (oEq rfl tm (cI (by decide))) (s1 rfl) <| cp (oMv tm) (s1 rfl) <| csB (decide_eq_false hp4) rfl rfl <| csB (decide_eq_false hp4) rfl rfl <| cp (oPkF (decide_eq_false hp4) tm cB) (s1 rfl) <| cp (oAs tm) (s1 rfl) <| .nil) (by kernel_rfl) ?_
      exact pJ1 _ (so h) ⟨rfl, trivial⟩ rfl
  · rintro x3 rfl
    replace h := hk1
    refine wRet ?_
    obtain rfl := so h
    exact pR1 (.inl rfl) rfl (.tmp rfl <| .nil)

theorem rule_words.ok {r : List (Str × Int)} (h : rule_words.f = some r) : FnA Try.prog 87 [] ((sMap kS (kI .i64) r)) := by
  refine fnIntro Try.func87 rfl (by kernel_rfl) fun H0 w0 => ?_
  unfold rule_words.f at h
  refine wSeq ?_
  refine rg (cp (oAs cV) trivial <| .nil) (by kernel_rfl) ?_
  refine pSeq ?_
  refine wSeq ?_
  refine rg (cw (oMkMap (id := 1) (dk := kS) (dv := (kI .i64))) trivial <| cwn (oInsert (n := 0) (dk := kS) (dv := (kI .i64)) rfl u136 mk9 rfl rfl tm (cS (by decide)) (cI (by decide))) (s1 rfl) <| cwn (oInsert (n := 0) (dk := kS) (dv := (kI .i64)) rfl u136 mk9 rfl rfl tm (cS (by decide)) (cI (by decide))) (s1 rfl) <| cwn (oInsert (n := 0) (dk := kS) (dv := (kI .i64)) rfl u136 mk9 rfl rfl tm (cS (by decide)) (cI (by decide))) (s1 rfl) <| cwn (oInsert (n := 0) (dk := kS) (dv := (kI .i64)) rfl u136 mk9 rfl rfl tm (cS (by decide)) (cI (by decide))) (s1 rfl) <| cwn (oInsert (n := 0) (dk := kS) (dv := (kI .i64)) rfl u136 mk9 rfl rfl tm (cS (by decide)) (cI (by decide))) (s1 rfl) <| cwn (oInsert (n := 0) (dk := kS) (dv := (kI .i64)) rfl u136 mk9 rfl rfl tm (cS (by decide)) (cI (by decide))) (s1 rfl) <| cp (oMv tm) (s1 rfl) <| cp (oAs tm) (s1 rfl) <| .nil) (by kernel_rfl) ?_
  refine pSeq ?_
  refine wFrzM (n := 0) (id := 1) 0 rfl rfl ?_
  refine wRet ?_
  obtain rfl := so h
  exact pR1 (.inl rfl) rfl (.tmp rfl <| .nil)

theorem rule_parser_next.ok {a0 : rule_parser} {r : rule_parser} (h : rule_parser_next.f a0 = some r) : FnS Try.prog 85 [.p 70000 0] [.box 70000 73 [.d (kL (kR f_api_Tok)) a0.l_, .d (kI .i64) a0.i_, .v 70003, .d (kI .i64) a0.deep_, .d (kI .i64) a0.bad_], .row 70003 3 (kI .i64) a0.out_] [70000] (.d (tup [])) [.box 70000 73 [.d (kL (kR f_api_Tok)) r.l_, .d (kI .i64) r.i_, .v 70003, .d (kI .i64) r.deep_, .d (kI .i64) r.bad_], .row 70003 3 (kI .i64) r.out_] := by
  refine fnIntroS Try.func85 rfl (by kernel_rfl) fun X H0 w0 pv => ?_
  unfold rule_parser_next.f at h
  refine rgD hm (cp (oMv tm) (s1 rfl) <| cp (oMv tm) (s1 rfl) <| cp (oNilP tm) (s1 rfl) <| cp (oFldP o73_1 tm) (s1 rfl) <| cr (oLdB (n := 0) (k := 1) rfl rfl rfl t3 tm) (s1 rfl) <| cp (oAdd tm (cI (by decide))) (s1 rfl) <| cp (oMv tm) (s1 rfl) <| cp (oNilP tm) (s1 rfl) <| cp (oFldP o73_0 tm) (s1 rfl) <| cr (oLdB (n := 0) (k := 0) rfl rfl rfl t40 tm) (s1 rfl) <| cp (oLenL u40 tm) (s1 rfl) <| cp (oSub tm (cI (by decide))) (s1 rfl) <| cp (oMin tm tm) (s2 rfl rfl) <| cp (oNilP tm) (s1 rfl) <| cp (oFldP o73_1 tm) (s1 rfl) <| cwn (oSt (n := 0) (k := 1) rfl rfl rfl rfl z3 tm tm) (s2 rfl rfl) <| .nil) (by kernel_rfl) (by kernel_rfl) ?_
  obtain rfl := so h
  exact pSn [0, 1] rfl rfl (.inr rfl) rfl rfl (.nil)

theorem rule_parser_fail.ok {a0 : rule_parser} {a1 : Int} {r : rule_parser} (h : rule_parser_fail.f a0 a1 = some r) : FnS Try.prog 86 [.p 70000 0, .d ((kI .i64).sig a1)] [.box 70000 73 [.d (kL (kR f_api_Tok)) a0.l_, .d (kI .i64) a0.i_, .v 70003, .d (kI .i64) a0.deep_, .d (kI .i64) a0.bad_], .row 70003 3 (kI .i64) a0.out_] [70000] (.d (tup [])) [.box 70000 73 [.d (kL (kR f_api_Tok)) r.l_, .d (kI .i64) r.i_, .v 70003, .d (kI .i64) r.deep_, .d (kI .i64) r.bad_], .row 70003 3 (kI .i64) r.out_] := by
  refine fnIntroS Try.func86 rfl (by kernel_rfl) fun X H0 w0 pv => ?_
  unfold rule_parser_fail.f at h
  refine wSeq ?_
  refine rg (cp (oMv tm) (s1 rfl) <| cp (oNilP tm) (s1 rfl) <| cp (oFldP o73_4 tm) (s1 rfl) <| cr (oLdB (n := 0) (k := 4) rfl rfl rfl t29 tm) (s1 rfl) <| cp (oEq rfl tm (cI (by decide))) (s1 rfl) <| .nil) (by kernel_rfl) ?_
  refine pSeq ?_
  rcases ic h with ⟨hp1, h⟩ | ⟨hp1, h⟩
  · refine wCT hp1 tm (s1 rfl) ?_
    refine rg (cp (oMv tm) (s1 rfl) <| cp (oMv tm) (s1 rfl) <| cp (oNilP tm) (s1 rfl) <| cp (oFldP o73_4 tm) (s1 rfl) <| cwn (oSt (n := 0) (k := 4) rfl rfl rfl rfl z29 tm tm) (s2 rfl rfl) <| .nil) (by kernel_rfl) ?_
    obtain rfl := so h
    exact pSn [0, 1] rfl rfl (.inr rfl) rfl rfl (.nil)
  · refine wCF hp1 tm (s1 rfl) ?_
    refine wSkip ?_
    obtain rfl := so h
    exact pSn [0, 1] rfl rfl (.inr rfl) rfl rfl (.nil)

theorem rule_parser_put.ok {a0 : rule_parser} {a1 : Int} {r : rule_parser} (h : rule_parser_put.f a0 a1 = some r) : FnS Try.prog 72 [.p 70000 0, .d ((kI .i64).sig a1)] [.box 70000 73 [.d (kL (kR f_api_Tok)) a0.l_, .d (kI .i64) a0.i_, .v 70003, .d (kI .i64) a0.deep_, .d (kI .i64) a0.bad_], .row 70003 3 (kI .i64) a0.out_] [70000] (.d (tup [])) [.box 70000 73 [.d (kL (kR f_api_Tok)) r.l_, .d (kI .i64) r.i_, .v 70003, .d (kI .i64) r.deep_, .d (kI .i64) r.bad_], .row 70003 3 (kI .i64) r.out_] := by
  refine fnIntroS Try.func72 rfl (by kernel_rfl) fun X H0 w0 pv => ?_
  unfold rule_parser_put.f at h
  refine wWeak (Γ' := [(0, .p 70000 0), (1, .d ((kI .i64).sig a1))]) ⟨rfl, rfl, trivial⟩ ?_
  refine wRen 70003 3505002 rfl ?_
  obtain ⟨o1, h, hk1⟩ := bd h
  refine wK5 (fun x5 x6 x7 x8 x9 => (x5, x6, x7, x8, x9) = o1) (fun x5 x6 x7 x8 x9 => []) (fun x5 x6 x7 x8 x9 => [.box 70000 73 [.d (kL (kR f_api_Tok)) x5, .d (kI .i64) x6, .v 3505002, .d (kI .i64) x7, .d (kI .i64) x8], .row 3505002 3 (kI .i64) x9]) ?_ ?_
  · refine wBlock ?_
    refine wSeq ?_
    refine rg (cp (oMv tm) (s1 rfl) <| cp (oNilP tm) (s1 rfl) <| cp (oFldP o73_4 tm) (s1 rfl) <| cr (oLdB (n := 0) (k := 4) rfl rfl rfl t29 tm) (s1 rfl) <| cp (oNe rfl tm (cI (by decide))) (s1 rfl) <| cp (oAs tm) (s1 rfl) <| .nil) (by kernel_rfl) ?_
    refine pSeq ?_
    rcases ic h with ⟨hp10, h⟩ | ⟨hp10, h⟩
    · refine wNT hp10 tm (s1 rfl) ?_
      refine wSeq ?_
      refine rg (cp (oMv tm) (s1 rfl) <| cp (oNilP tm) (s1 rfl) <| cp (oFldP o73_2 tm) (s1 rfl) <| cr (oLdN (n := 0) (k := 2) rfl rfl rfl t26 tm) (s1 rfl) <| cr (oLenR (n := 1) u26 rfl tm) (s1 rfl) <| cp (oEq rfl tm (cI (by decide))) (s1 rfl) <| cp (oAs tm) (s1 rfl) <| .nil) (by kernel_rfl) ?_
      refine pSeq ?_
      rcases ic h with ⟨hp11, h⟩ | ⟨hp11, h⟩
      · refine wCT hp11 tm (s1 rfl) ?_
        obtain ⟨y12, hy12, h⟩ := bd h
        refine rg (cp (oMv tm) (s1 rfl) <| cm (oCallS (rest := []) (R' := [.box 70000 73 [.d (kL (kR f_api_Tok)) y12.l_, .d (kI .i64) y12.i_, .v 330040, .d (kI .i64) y12.deep_, .d (kI .i64) y12.bad_], .row 330040 3 (kI .i64) y12.out_]) (out' := .d (tup [])) [(70000, 70000), (70003, 3505002)] [(70003, 330040)] [0, 1] [] [0, 1] rfl (rule_parser_fail.ok hy12) b86 (oE1 tm (oE1 (cI (by decide)) oE0)) rfl rfl rfl rfl rfl rfl rfl rfl) (s1 rfl) <| .nil) (by kernel_rfl) ?_
        refine pBlkN ?_
        refine pSub (Γ' := []) trivial ?_
        refine pRen 330040 3505002 rfl ?_
        exact pJ5 _ _ _ _ _ (so h) trivial rfl
      · refine wCF hp11 tm (s1 rfl) ?_
        obtain ⟨hc13, h⟩ := ib h
        refine rg (cp (oMv tm) (s1 rfl) <| cp (oMv tm) (s1 rfl) <| cp (oNilP tm) (s1 rfl) <| cp (oFldP o73_2 tm) (s1 rfl) <| cr (oLdN (n := 0) (k := 2) rfl rfl rfl t26 tm) (s1 rfl) <| cp (oMv tm) (s1 rfl) <| cp (oLit (d := (kI .i64)) el26 (by decide) rfl rfl rfl (e1 tm e0)) (s1 rfl) <| cw (oApp (n := 1) (id' := 11) el26 (by decide) rfl (by decide) hc13 tm tm) (s2 rfl rfl) <| cp (oNilP tm) (s1 rfl) <| cp (oFldP o73_2 tm) (s1 rfl) <| cwn (oStN (n := 0) (m := 1) (k := 2) rfl rfl rfl rfl z26 rfl tm tm) (s2 rfl rfl) <| .nil) (by kernel_rfl) ?_
        refine pBlkN ?_
        refine pSub (Γ' := []) trivial ?_
        refine pRen 11 3505002 rfl ?_
        exact pJ5 _ _ _ _ _ (so h) trivial rfl
    · refine wNF hp10 tm (s1 rfl) ?_
      refine wSkip ?_
      refine pBlkN ?_
      exact pJ5 _ _ _ _ _ (so h) trivial rfl
  · rintro x5 x6 x7 x8 x9 rfl
    replace h := hk1
    obtain rfl := so h
    refine pSub (Γ' := []) trivial ?_
    refine pRen 3505002 70003 rfl ?_
    exact pSn [0, 1] rfl rfl (.inr rfl) rfl rfl (.nil)

theorem slices_Index_string_string.ok {a0 : List Str} {a1 : Str} {r : Int} (h : slices_Index_string_string.f a0 a1 = some r) : FnA Try.prog 91 [(kL kS).sig a0, kS.sig a1] ((kI .i64).sig r) := by
  refine fnIntro Try.func91 rfl (by kernel_rfl) fun H0 w0 => ?_
  unfold slices_Index_string_string.f at h
  refine wSeq ?_
  refine rg (cp (oAs (cI (by decide))) trivial <| .nil) (by kernel_rfl) ?_
  refine pSeq ?_
  refine wSeq ?_
  refine wSeq ?_
  refine rg (cp (oMv tm) (s1 rfl) <| cp (oLenL u22 tm) (s1 rfl) <| cp (oMv (cI (by decide))) trivial <| .nil) (by kernel_rfl) ?_
  refine pSeq ?_
  obtain ⟨o1, h, hk1⟩ := bd h
  refine wK0 (.inr () = o1) ([]) ([]) ?_ ?_
  · refine wBlock (wLoop ?_)
    refine lW (pc1 o1 (fun v7 => [(0, .d ((kL kS).sig a0)), (1, .d (kS.sig a1)), (7, .d ((kI .i64).sig (a0.length : Int))), (8, .d ((kI .i64).sig v7))]) (fun v7 => []) (slices_Index_string_string.l0.partial_correctness a0 a1) ?_ _ h) ⟨rfl, rfl, rfl, rfl, trivial⟩ rfl
    clear h
    intro f' ih v7 h
    refine wSeq ?_
    refine rg (cp (oLt rfl tm tm) (s2 rfl rfl) <| .nil) (by kernel_rfl) ?_
    refine pSeq ?_
    refine wSeq ?_
    rcases ic h with ⟨hp8, h⟩ | ⟨hp8, h⟩
    · refine wCT hp8 tm (s1 rfl) ?_
      refine wSkip ?_
      refine pSeq ?_
      refine wSeq ?_
      refine wBlock ?_
      refine wSeq ?_
      refine rg (cp (oMv tm) (s1 rfl) <| cp (oAs tm) (s1 rfl) <| .nil) (by kernel_rfl) ?_
      refine pSeq ?_
      refine wSeq ?_
      obtain ⟨y9, hy9, h⟩ := bd h
      refine rg (cp (oMv tm) (s1 rfl) <| cp (oMv tm) (s1 rfl) <| cp (oMv tm) (s1 rfl) <| cp (oIdx u22 z9 hy9 tm tm) (s2 rfl rfl) <| cp (oLd t9 tm) (s1 rfl) <| cp (oSEq rfl tm tm) (s2 rfl rfl) <| .nil) (by kernel_rfl) ?_
      refine pSeq ?_
      rcases ic h with ⟨hp10, h⟩ | ⟨hp10, h⟩
      · refine wCT hp10 tm (s1 rfl) ?_
        refine wSeq ?_
        refine rg (cp (oMv tm) (s1 rfl) <| cp (oAs tm) (s1 rfl) <| .nil) (by kernel_rfl) ?_
        refine pSeq ?_
        refine wRet ?_
        refine pBlkR ?_
        refine pThenR ?_
        refine pThenR ?_
        refine pBlkR ?_
        refine pThenR ?_
        obtain rfl := so h
        replace h := hk1
        refine pThenR ?_
        obtain rfl := so h
        exact pR1 (.inl rfl) rfl (.tmp rfl <| .nil)
      · refine wCF hp10 tm (s1 rfl) ?_
        refine wSkip ?_
        refine pBlkN ?_
        refine pSeq ?_
        refine rg (cp (oAdd tm (cI (by decide))) (s1 rfl) <| cp (oMv tm) (s1 rfl) <| .nil) (by kernel_rfl) ?_
        exact pLoop (lW (ih _ h) ⟨rfl, rfl, rfl, rfl, trivial⟩ rfl)
    · refine wCF hp8 tm (s1 rfl) ?_
      refine wExit ?_
      refine pThenX ?_
      refine pThenX ?_
      refine pBlkX ?_
      exact pJ0 (so h) trivial rfl
  · rintro rfl
    replace h := hk1
    refine pSeq ?_
    refine wSeq ?_
    refine rg (cp (oAs (cI (by decide))) trivial <| .nil) (by kernel_rfl) ?_
    refine pSeq ?_
    refine wRet ?_
    obtain rfl := so h
    exact pR1 (.inl rfl) rfl (.tmp rfl <| .nil)

theorem slices_Contains_string_string.ok {a0 : List Str} {a1 : Str} {r : Bool} (h : slices_Contains_string_string.f a0 a1 = some r) : FnA Try.prog 79 [(kL kS).sig a0, kS.sig a1] (kB.sig r) := by
  refine fnIntro Try.func79 rfl (by kernel_rfl) fun H0 w0 => ?_
  unfold slices_Contains_string_string.f at h
  refine wSeq ?_
  refine rg (cp (oAs cB) trivial <| .nil) (by kernel_rfl) ?_
  refine pSeq ?_
  refine wSeq ?_
  obtain ⟨y1, hy1, h⟩ := bd h
  refine rg (cp (oMv tm) (s1 rfl) <| cp (oMv tm) (s1 rfl) <| cp (oCall rfl (slices_Index_string_string.ok hy1) b91 (opds_cons tm (opds_cons tm opds_nil))) (s2 rfl rfl) <| cp (oGe rfl tm (cI (by decide))) (s1 rfl) <| cp (oAs tm) (s1 rfl) <| .nil) (by kernel_rfl) ?_
  refine pSeq ?_
  refine wRet ?_
  obtain rfl := so h
  exact pR1 (.inl rfl) rfl (.tmp rfl <| .nil)

theorem rule_parser_is.ok {a0 : rule_parser} {a1 : List Str} {r : rule_parser × Bool} (h : rule_parser_is.f a0 a1 = some r) : FnS Try.prog 84 [.p 70000 0, .d ((kL kS).sig a1)] [.box 70000 73 [.d (kL (kR f_api_Tok)) a0.l_, .d (kI .i64) a0.i_, .v 70003, .d (kI .i64) a0.deep_, .d (kI .i64) a0.bad_], .row 70003 3 (kI .i64) a0.out_] [70000] (.d (kB.sig r.2)) [.box 70000 73 [.d (kL (kR f_api_Tok)) r.1.l_, .d (kI .i64) r.1.i_, .v 70003, .d (kI .i64) r.1.deep_, .d (kI .i64) r.1.bad_], .row 70003 3 (kI .i64) r.1.out_] := by
  refine fnIntroS Try.func84 rfl (by kernel_rfl) fun X H0 w0 pv => ?_
  unfold rule_parser_is.f at h
  refine wSeq ?_
  refine rg (cp (oAs cB) trivial <| .nil) (by kernel_rfl) ?_
  refine pSeq ?_
  refine wSeq ?_
  obtain ⟨y1, hy1, h⟩ := bd h
  refine rgL hm (cp (oMv tm) (s1 rfl) <| cp (oNilP tm) (s1 rfl) <| cp (oFldP o73_0 tm) (s1 rfl) <| cl [] rfl (oLdB (n := 0) (k := 0) rfl rfl rfl t40 tm) (s1 rfl) <| cp (oMv tm) (s1 rfl) <| cp (oNilP tm) (s1 rfl) <| cp (oFldP o73_1 tm) (s1 rfl) <| cl [] rfl (oLdB (n := 0) (k := 1) rfl rfl rfl t3 tm) (s1 rfl) <| cp (oIdx u40 z70 hy1 tm tm) (s2 rfl rfl) <| cp (oLd t70 tm) (s1 rfl) <| cn (oAlloc (id := 5) (ls := [.d (kI .i64) 0, .d kS [], .d (kI .i64) 0]) ze70 (fun g => ⟨[(.int .i64 0)], _, rfl, zI_i64 g.H, ⟨[(.string ⟨⟨[]⟩⟩)], _, rfl, zS g.H, ⟨[(.int .i64 0)], _, rfl, zI_i64 g.H, rfl⟩⟩⟩)) trivial <| cwn (oStA (n := 0) (fs := f_api_Tok) rfl rfl z70 tm tm) (s2 rfl rfl) <| .nil) (by kernel_rfl) (by kernel_rfl) (by kernel_rfl) ?_
  refine pSeq ?_
  refine wWeak (Γ' := [(0, .p 70000 0), (1, .d ((kL kS).sig a1)), (4, .d (kB.sig false)), (5, .p 5 0)]) ⟨rfl, rfl, rfl, rfl, trivial⟩ ?_
  refine wRen 70003 3505002 rfl ?_
  obtain ⟨o1, h, hk1⟩ := bd h
  refine wJ1 (fun x7 => x7 = o1) (fun x7 => [(4, .d (kB.sig x7))]) (fun x7 => [.box 5 70 [.d (kI .i64) y1.Kind, .d kS y1.Text, .d (kI .i64) y1.At], .box 70000 73 [.d (kL (kR f_api_Tok)) a0.l_, .d (kI .i64) a0.i_, .v 3505002, .d (kI .i64) a0.deep_, .d (kI .i64) a0.bad_], .row 3505002 3 (kI .i64) a0.out_]) ?_ ?_
  · rcases ic h with ⟨hp8, h⟩ | ⟨hp8, h⟩
    · rcases ic h with ⟨hp9, h⟩ | ⟨hp9, h⟩
      · obtain ⟨y10, hy10, h⟩ := bd h
        refine rg (cp (oMv tm) (s1 rfl) <| cp (oNilP tm) (s1 rfl) <| cp (oFldP o73_4 tm) (s1 rfl) <| cr (oLdB (n := 1) (k := 4) rfl rfl rfl t29 tm) (s1 rfl) <| cp (oEq rfl tm (cI (by decide))) (s1 rfl) <| cp (oMv tm) (s1 rfl) <| cgB (decide_eq_true hp8) rfl rfl (oFldP o70_0 tm) (s1 rfl) <| crgB (decide_eq_true hp8) rfl rfl (oLdB (n := 0) (k := 0) rfl rfl rfl t3 tm) (s1 rfl) <| cgB (decide_eq_true hp8) rfl rfl (oEq rfl tm (cI (by decide))) (s1 rfl) <| cgB (decide_eq_true hp8) rfl rfl (oMv tm) (s1 rfl) <| csB (decide_eq_true hp9) rfl rfl <| csB (decide_eq_true hp9) rfl rfl <| csB (decide_eq_true hp9) rfl rfl <| cgB (decide_eq_true hp8) rfl rfl (oPkT (decide_eq_true hp9) tm cB) (s1 rfl) <| cp (oPkT (decide_eq_true hp8) tm tm) (s2 rfl rfl) <| cp (oMv tm) (s1 rfl) <| cgB rfl rfl rfl (oMv tm) (s1 rfl) <| cgB rfl rfl rfl (oFldP o70_1 tm) (s1 rfl) <| crgB rfl rfl rfl (oLdB (n := 0) (k := 1) rfl rfl rfl t9 tm) (s1 rfl) <| cgB rfl rfl rfl (oCall rfl (slices_Contains_string_string.ok hy10) b79 (opds_cons tm (opds_cons tm opds_nil))) (s2 rfl rfl) <| cp (oPkT rfl tm tm) (s2 rfl rfl) <| cp (oAs tm) (s1 rfl) <| .nil) (by kernel_rfl) ?_
        exact pJ1 _ (so h) ⟨rfl, trivial⟩ rfl
      · rcases ic h with ⟨hp11, h⟩ | ⟨hp11, h⟩
        · obtain ⟨y12, hy12, h⟩ := bd h
          refine rg (cp (oMv tm) (s1 rfl) <| cp (oNilP tm) (s1 rfl) <| cp (oFldP o73_4 tm) (s1 rfl) <| cr (oLdB (n := 1) (k := 4) rfl rfl rfl t29 tm) (s1 rfl) <| cp (oEq rfl tm (cI (by decide))) (s1 rfl) <| cp (oMv tm) (s1 rfl) <| cgB (decide_eq_true hp8) rfl rfl (oFldP o70_0 tm) (s1 rfl) <| crgB (decide_eq_true hp8) rfl rfl (oLdB (n := 0) (k := 0) rfl rfl rfl t3 tm) (s1 rfl) <| cgB (decide_eq_true hp8) rfl rfl (oEq rfl tm (cI (by decide))) (s1 rfl) <| cgB (decide_eq_true hp8) rfl rfl (oMv tm) (s1 rfl) <| cgB (decide_eq_false hp9) rfl rfl (oFldP o70_0 tm) (s1 rfl) <| crgB (decide_eq_false hp9) rfl rfl (oLdB (n := 0) (k := 0) rfl rfl rfl t3 tm) (s1 rfl) <| cgB (decide_eq_false hp9) rfl rfl (oEq rfl tm (cI (by decide))) (s1 rfl) <| cgB (decide_eq_true hp8) rfl rfl (oPkF (decide_eq_false hp9) tm tm) (s2 rfl rfl) <| cp (oPkT (decide_eq_true hp8) tm tm) (s2 rfl rfl) <| cp (oMv tm) (s1 rfl) <| cgB (decide_eq_true hp11) rfl rfl (oMv tm) (s1 rfl) <| cgB (decide_eq_true hp11) rfl rfl (oFldP o70_1 tm) (s1 rfl) <| crgB (decide_eq_true hp11) rfl rfl (oLdB (n := 0) (k := 1) rfl rfl rfl t9 tm) (s1 rfl) <| cgB (decide_eq_true hp11) rfl rfl (oCall rfl (slices_Contains_string_string.ok hy12) b79 (opds_cons tm (opds_cons tm opds_nil))) (s2 rfl rfl) <| cp (oPkT (decide_eq_true hp11) tm tm) (s2 rfl rfl) <| cp (oAs tm) (s1 rfl) <| .nil) (by kernel_rfl) ?_
          exact pJ1 _ (so h) ⟨rfl, trivial⟩ rfl
        · refine rg (cp (oMv tm) (s1 rfl) <| cp (oNilP tm) (s1 rfl) <| cp (oFldP o73_4 tm) (s1 rfl) <| cr (oLdB (n := 1) (k := 4) rfl rfl rfl t29 tm) (s1 rfl) <| cp (oEq rfl tm (cI (by decide))) (s1 rfl) <| cp (oMv tm) (s1 rfl) <| cgB (decide_eq_true hp8) rfl rfl (oFldP o70_0 tm) (s1 rfl) <| crgB (decide_eq_true hp8) rfl rfl (oLdB (n := 0) (k := 0) rfl rfl rfl t3 tm) (s1 rfl) <| cgB (decide_eq_true hp8) rfl rfl (oEq rfl tm (cI (by decide))) (s1 rfl) <| cgB (decide_eq_true hp8) rfl rfl (oMv tm) (s1 rfl) <| cgB (decide_eq_false hp9) rfl rfl (oFldP o70_0 tm) (s1 rfl) <| crgB (decide_eq_false hp9) rfl rfl (oLdB (n := 0) (k := 0) rfl rfl rfl t3 tm) (s1 rfl) <| cgB (decide_eq_false hp9) rfl rfl (oEq rfl tm (cI (by decide))) (s1 rfl) <| cgB (decide_eq_true hp8) rfl rfl (oPkF (decide_eq_false hp9) tm tm) (s2 rfl rfl) <| cp (oPkT (decide_eq_true hp8) tm tm) (s2 rfl rfl) <| cp (oMv tm) (s1 rfl) <| csB (decide_eq_false hp11) rfl rfl <| csB (decide_eq_false hp11) rfl rfl <| csB (decide_eq_false hp11) rfl rfl <| csB (decide_eq_false hp11) rfl rfl <| cp (oPkF (decide_eq_false hp11) tm cB) (s1 rfl) <| cp (oAs tm) (s1 rfl) <| .nil) (by kernel_rfl) ?_
          exact pJ1 _ (so h) ⟨rfl, trivial⟩ rfl
    · refine rg (cp (oMv tm) (s1 rfl) <| cp (oNilP tm) (s1 rfl) <| cp (oFldP o73_4 tm) (s1 rfl) <| cr (oLdB (n := 1) (k := 4) rfl rfl rfl t29 tm) (s1 rfl) <| cp (oEq rfl tm (cI (by decide))) (s1 rfl) <| cp (oMv tm) (s1 rfl) <| csB (decide_eq_false hp8) rfl rfl <| csB (decide_eq_false hp8) rfl rfl <| csB (decide_eq_false hp8) rfl rfl <| csB (decide_eq_false hp8) rfl rfl <| csU rfl rfl <| csU rfl rfl <| csU rfl rfl <| csB (decide_eq_false hp8) rfl rfl <| cp (oPkF (decide_eq_false hp8) tm cB) (s1 rfl) <| cp (oMv tm) (s1 rfl) <| csB rfl rfl rfl <| csB rfl rfl rfl <| csB rfl rfl rfl <| csB rfl rfl rfl <| cp (oPkF rfl tm cB) (s1 rfl) <| cp (oAs tm) (s1 rfl) <| .nil) (by kernel_rfl) ?_
      exact pJ1 _ (so h) ⟨rfl, trivial⟩ rfl
  · rintro x7 rfl
    replace h := hk1
    refine wRet ?_
    obtain rfl := so h
    refine pSub (Γ' := [(4, .d (kB.sig x7))]) ⟨rfl, trivial⟩ ?_
    refine pRen 3505002 70003 rfl ?_
    exact pS1 [1, 2] rfl rfl (.inl rfl) rfl (.tmp rfl <| .nil)

theorem rule_parser_take.ok {a0 : rule_parser} {a1 : Str} {r : rule_parser × Bool} (h : rule_parser_take.f a0 a1 = some r) : FnS Try.prog 71 [.p 70000 0, .d (kS.sig a1)] [.box 70000 73 [.d (kL (kR f_api_Tok)) a0.l_, .d (kI .i64) a0.i_, .v 70003, .d (kI .i64) a0.deep_, .d (kI .i64) a0.bad_], .row 70003 3 (kI .i64) a0.out_] [70000] (.d (kB.sig r.2)) [.box 70000 73 [.d (kL (kR f_api_Tok)) r.1.l_, .d (kI .i64) r.1.i_, .v 70003, .d (kI .i64) r.1.deep_, .d (kI .i64) r.1.bad_], .row 70003 3 (kI .i64) r.1.out_] := by
  refine fnIntroS Try.func71 rfl (by kernel_rfl) fun X H0 w0 pv => ?_
  unfold rule_parser_take.f at h
  refine wSeq ?_
  refine rg (cp (oAs cB) trivial <| .nil) (by kernel_rfl) ?_
  refine pSeq ?_
  refine wSeq ?_
  refine wSeq ?_
  obtain ⟨y1, hy1, h⟩ := bd h
  refine rg (cp (oMv tm) (s1 rfl) <| cp (oMv tm) (s1 rfl) <| cp (oLit (d := kS) el22 (by decide) rfl rfl rfl (e1 tm e0)) (s1 rfl) <| cm (oCallS (rest := []) (R' := [.box 70000 73 [.d (kL (kR f_api_Tok)) y1.1.l_, .d (kI .i64) y1.1.i_, .v 310120, .d (kI .i64) y1.1.deep_, .d (kI .i64) y1.1.bad_], .row 310120 3 (kI .i64) y1.1.out_]) (out' := .d (kB.sig y1.2)) [(70000, 70000), (70003, 70003)] [(70003, 310120)] [0, 1] [] [0, 1] rfl (rule_parser_is.ok hy1) b84 (oE1 tm (oE1 tm oE0)) rfl rfl rfl rfl rfl rfl rfl rfl) (s2 rfl rfl) <| cp (oNot tm) (s1 rfl) <| .nil) (by kernel_rfl) ?_
  refine pSeq ?_
  rcases ic h with ⟨hp2, h⟩ | ⟨hp2, h⟩
  · refine wBT hp2 tm (s1 rfl) ?_
    refine wSeq ?_
    refine rg (cp (oAs cB) trivial <| .nil) (by kernel_rfl) ?_
    refine pSeq ?_
    refine wRet ?_
    refine pThenR ?_
    obtain rfl := so h
    refine pSub (Γ' := [(4, .d (kB.sig false))]) ⟨rfl, trivial⟩ ?_
    refine pRen 310120 70003 rfl ?_
    exact pS1 [0, 1] rfl rfl (.inl rfl) rfl (.tmp rfl <| .nil)
  · refine wBF hp2 tm (s1 rfl) ?_
    refine wSkip ?_
    refine pSeq ?_
    refine wSeq ?_
    obtain ⟨y3, hy3, h⟩ := bd h
    refine rg (cp (oMv tm) (s1 rfl) <| cm (oCallS (rest := []) (R' := [.box 70000 73 [.d (kL (kR f_api_Tok)) y3.l_, .d (kI .i64) y3.i_, .v 330040, .d (kI .i64) y3.deep_, .d (kI .i64) y3.bad_], .row 330040 3 (kI .i64) y3.out_]) (out' := .d (tup [])) [(70000, 70000), (70003, 310120)] [(70003, 330040)] [0, 1] [] [0, 1] rfl (rule_parser_next.ok hy3) b85 (oE1 tm oE0) rfl rfl rfl rfl rfl rfl rfl rfl) (s1 rfl) <| .nil) (by kernel_rfl) ?_
    refine pSeq ?_
    refine wSeq ?_
    refine rg (cp (oAs cB) trivial <| .nil) (by kernel_rfl) ?_
    refine pSeq ?_
    refine wRet ?_
    obtain rfl := so h
    refine pSub (Γ' := [(4, .d (kB.sig true))]) ⟨rfl, trivial⟩ ?_
    refine pRen 330040 70003 rfl ?_
    exact pS1 [0, 1] rfl rfl (.inl rfl) rfl (.tmp rfl <| .nil)

theorem rule_parser_inside_label.ok {rc24 : rule_parser → Option rule_parser} (hrc24 : ∀ {a0 : rule_parser} {r : rule_parser}, rc24 a0 = some r → FnS Try.prog 24 [.p 70000 0] [.box 70000 73 [.d (kL (kR f_api_Tok)) a0.l_, .d (kI .i64) a0.i_, .v 70003, .d (kI .i64) a0.deep_, .d (kI .i64) a0.bad_], .row 70003 3 (kI .i64) a0.out_] [70000] (.d (tup [])) [.box 70000 73 [.d (kL (kR f_api_Tok)) r.l_, .d (kI .i64) r.i_, .v 70003, .d (kI .i64) r.deep_, .d (kI .i64) r.bad_], .row 70003 3 (kI .i64) r.out_]) {a0 : rule_parser} {a1 : Str} {r : rule_parser} (h : rule_parser_inside_label.f rc24 a0 a1 = some r) : FnS Try.prog 88 [.p 70000 0, .d (kS.sig a1), .f [70000] (sBnd 24)] [.box 70000 73 [.d (kL (kR f_api_Tok)) a0.l_, .d (kI .i64) a0.i_, .v 70003, .d (kI .i64) a0.deep_, .d (kI .i64) a0.bad_], .row 70003 3 (kI .i64) a0.out_] [70000] (.d (tup [])) [.box 70000 73 [.d (kL (kR f_api_Tok)) r.l_, .d (kI .i64) r.i_, .v 70003, .d (kI .i64) r.deep_, .d (kI .i64) r.bad_], .row 70003 3 (kI .i64) r.out_] := by
  refine fnIntroS Try.func88 rfl (by kernel_rfl) fun X H0 w0 pv => ?_
  unfold rule_parser_inside_label.f at h
  refine wSeq ?_
  refine wSeq ?_
  refine rg (cp (oMv tm) (s1 rfl) <| cp (oNilP tm) (s1 rfl) <| cp (oFldP o73_3 tm) (s1 rfl) <| cr (oLdB (n := 0) (k := 3) rfl rfl rfl t3 tm) (s1 rfl) <| cp (oEq rfl tm (cI (by decide))) (s1 rfl) <| .nil) (by kernel_rfl) ?_
  refine pSeq ?_
  rcases ic h with ⟨hp1, h⟩ | ⟨hp1, h⟩
  · refine wCT hp1 tm (s1 rfl) ?_
    refine wSeq ?_
    obtain ⟨y2, hy2, h⟩ := bd h
    refine rg (cp (oMv tm) (s1 rfl) <| cm (oCallS (rest := []) (R' := [.box 70000 73 [.d (kL (kR f_api_Tok)) y2.l_, .d (kI .i64) y2.i_, .v 310040, .d (kI .i64) y2.deep_, .d (kI .i64) y2.bad_], .row 310040 3 (kI .i64) y2.out_]) (out' := .d (tup [])) [(70000, 70000), (70003, 70003)] [(70003, 310040)] [0, 1] [] [0, 1] rfl (rule_parser_fail.ok hy2) b86 (oE1 tm (oE1 (cI (by decide)) oE0)) rfl rfl rfl rfl rfl rfl rfl rfl) (s1 rfl) <| .nil) (by kernel_rfl) ?_
    refine pSeq ?_
    refine wRet ?_
    refine pThenR ?_
    obtain rfl := so h
    refine pSub (Γ' := []) trivial ?_
    refine pRen 310040 70003 rfl ?_
    exact pSn [0, 1] rfl rfl (.inl rfl) rfl rfl (.nil)
  · refine wCF hp1 tm (s1 rfl) ?_
    refine wSkip ?_
    refine pSeq ?_
    refine wSeq ?_
    obtain ⟨y3, hy3, h⟩ := bd h
    refine rg (cp (oMv tm) (s1 rfl) <| cm (oCallS (rest := []) (R' := [.box 70000 73 [.d (kL (kR f_api_Tok)) y3.l_, .d (kI .i64) y3.i_, .v 320040, .d (kI .i64) y3.deep_, .d (kI .i64) y3.bad_], .row 320040 3 (kI .i64) y3.out_]) (out' := .d (tup [])) [(70000, 70000), (70003, 70003)] [(70003, 320040)] [0, 1] [] [0, 1] rfl (rule_parser_next.ok hy3) b85 (oE1 tm oE0) rfl rfl rfl rfl rfl rfl rfl rfl) (s1 rfl) <| .nil) (by kernel_rfl) ?_
    refine pSeq ?_
    refine wSeq ?_
    refine rg (cp (oMv tm) (s1 rfl) <| cp (oNilP tm) (s1 rfl) <| cp (oFldP o73_3 tm) (s1 rfl) <| cr (oLdB (n := 0) (k := 3) rfl rfl rfl t3 tm) (s1 rfl) <| cp (oAdd tm (cI (by decide))) (s1 rfl) <| cp (oNilP tm) (s1 rfl) <| cp (oFldP o73_3 tm) (s1 rfl) <| cwn (oSt (n := 0) (k := 3) rfl rfl rfl rfl z3 tm tm) (s2 rfl rfl) <| .nil) (by kernel_rfl) ?_
    refine pSeq ?_
    refine wSeq ?_
    refine wSeq ?_
    obtain ⟨y4, hy4, h⟩ := bd h
    refine rg (cp (oMv tm) (s1 rfl) <| cm (oCallB1 (ins := []) (kn := 70000) (rest := []) (R' := [.box 70000 73 [.d (kL (kR f_api_Tok)) y4.l_, .d (kI .i64) y4.i_, .v 340040, .d (kI .i64) y4.deep_, .d (kI .i64) y4.bad_], .row 340040 3 (kI .i64) y4.out_]) (out' := .d (tup [])) [(70000, 70000), (70003, 320040)] [(70003, 340040)] [0, 1] [] [0, 1] rfl tm (hrc24 hy4) rfl rfl b24 oE0 rfl rfl rfl rfl rfl rfl rfl rfl) (s1 rfl) <| .nil) (by kernel_rfl) ?_
    refine pSeq ?_
    refine wWeak (Γ' := [(0, .p 70000 0), (1, .d (kS.sig a1))]) ⟨rfl, rfl, trivial⟩ ?_
    refine wRen 340040 3505002 rfl ?_
    obtain ⟨o1, h, hk1⟩ := bd h
    refine wJ6 (fun x7 x8 x9 x10 x11 x12 => (x7, x8, x9, x10, x11, x12) = o1) (fun x7 x8 x9 x10 x11 x12 => [(0, .p 70000 0), (34, .d (kB.sig x12))]) (fun x7 x8 x9 x10 x11 x12 => [.box 70000 73 [.d (kL (kR f_api_Tok)) x7, .d (kI .i64) x8, .v 3505002, .d (kI .i64) x9, .d (kI .i64) x10], .row 3505002 3 (kI .i64) x11]) ?_ ?_
    · rcases ic h with ⟨hp13, h⟩ | ⟨hp13, h⟩
      · obtain ⟨y14, hy14, h⟩ := bd h
        refine rg (cp (oMv tm) (s1 rfl) <| cp (oNilP tm) (s1 rfl) <| cp (oFldP o73_4 tm) (s1 rfl) <| cr (oLdB (n := 0) (k := 4) rfl rfl rfl t29 tm) (s1 rfl) <| cp (oEq rfl tm (cI (by decide))) (s1 rfl) <| cp (oMv tm) (s1 rfl) <| cgB (decide_eq_true hp13) rfl rfl (oMv tm) (s1 rfl) <| cgB (decide_eq_true hp13) rfl rfl (oMv tm) (s1 rfl) <| cmgB (decide_eq_true hp13) rfl rfl (oCallS (rest := []) (R' := [.box 70000 73 [.d (kL (kR f_api_Tok)) y14.1.l_, .d (kI .i64) y14.1.i_, .v 350320, .d (kI .i64) y14.1.deep_, .d (kI .i64) y14.1.bad_], .row 350320 3 (kI .i64) y14.1.out_]) (out' := .d (kB.sig y14.2)) [(70000, 70000), (70003, 3505002)] [(70003, 350320)] [0, 1] [] [0, 1] rfl (rule_parser_take.ok hy14) b71 (oE1 tm (oE1 tm oE0)) rfl rfl rfl rfl rfl rfl rfl rfl) (s2 rfl rfl) <| cgB (decide_eq_true hp13) rfl rfl (oNot tm) (s1 rfl) <| cp (oPkT (decide_eq_true hp13) tm tm) (s2 rfl rfl) <| .nil) (by kernel_rfl) ?_
        refine pSub (Γ' := [(0, .p 70000 0), (34, .d (kB.sig (!y14.2)))]) ⟨rfl, rfl, trivial⟩ ?_
        refine pRen 350320 3505002 rfl ?_
        exact pJ6 _ _ _ _ _ _ (so h) ⟨rfl, rfl, trivial⟩ rfl
      · refine rg (cp (oMv tm) (s1 rfl) <| cp (oNilP tm) (s1 rfl) <| cp (oFldP o73_4 tm) (s1 rfl) <| cr (oLdB (n := 0) (k := 4) rfl rfl rfl t29 tm) (s1 rfl) <| cp (oEq rfl tm (cI (by decide))) (s1 rfl) <| cp (oMv tm) (s1 rfl) <| csB (decide_eq_false hp13) rfl rfl <| csB (decide_eq_false hp13) rfl rfl <| csB (decide_eq_false hp13) rfl rfl <| csB (decide_eq_false hp13) rfl rfl <| cp (oPkF (decide_eq_false hp13) tm cB) (s1 rfl) <| .nil) (by kernel_rfl) ?_
        exact pJ6 _ _ _ _ _ _ (so h) ⟨rfl, rfl, trivial⟩ rfl
    · rintro x7 x8 x9 x10 x11 x12 rfl
      replace h := hk1
      rcases ic h with ⟨hp15, h⟩ | ⟨hp15, h⟩
      · refine wBT hp15 tm (s1 rfl) ?_
        obtain ⟨y16, hy16, h⟩ := bd h
        refine rg (cp (oMv tm) (s1 rfl) <| cm (oCallS (rest := []) (R' := [.box 70000 73 [.d (kL (kR f_api_Tok)) y16.l_, .d (kI .i64) y16.i_, .v 360040, .d (kI .i64) y16.deep_, .d (kI .i64) y16.bad_], .row 360040 3 (kI .i64) y16.out_]) (out' := .d (tup [])) [(70000, 70000), (70003, 3505002)] [(70003, 360040)] [0, 1] [] [0, 1] rfl (rule_parser_fail.ok hy16) b86 (oE1 tm (oE1 (cI (by decide)) oE0)) rfl rfl rfl rfl rfl rfl rfl rfl) (s1 rfl) <| .nil) (by kernel_rfl) ?_
        refine pSeq ?_
        refine rg (cp (oMv tm) (s1 rfl) <| cp (oNilP tm) (s1 rfl) <| cp (oFldP o73_3 tm) (s1 rfl) <| cr (oLdB (n := 0) (k := 3) rfl rfl rfl t3 tm) (s1 rfl) <| cp (oSub tm (cI (by decide))) (s1 rfl) <| cp (oNilP tm) (s1 rfl) <| cp (oFldP o73_3 tm) (s1 rfl) <| cwn (oSt (n := 0) (k := 3) rfl rfl rfl rfl z3 tm tm) (s2 rfl rfl) <| .nil) (by kernel_rfl) ?_
        obtain rfl := so h
        refine pSub (Γ' := []) trivial ?_
        refine pRen 360040 70003 rfl ?_
        exact pSn [0, 1] rfl rfl (.inr rfl) rfl rfl (.nil)
      · refine wBF hp15 tm (s1 rfl) ?_
        refine wSkip ?_
        refine pSeq ?_
        refine rg (cp (oMv tm) (s1 rfl) <| cp (oNilP tm) (s1 rfl) <| cp (oFldP o73_3 tm) (s1 rfl) <| cr (oLdB (n := 0) (k := 3) rfl rfl rfl t3 tm) (s1 rfl) <| cp (oSub tm (cI (by decide))) (s1 rfl) <| cp (oNilP tm) (s1 rfl) <| cp (oFldP o73_3 tm) (s1 rfl) <| cwn (oSt (n := 0) (k := 3) rfl rfl rfl rfl z3 tm tm) (s2 rfl rfl) <| .nil) (by kernel_rfl) ?_
        obtain rfl := so h
        refine pSub (Γ' := []) trivial ?_
        refine pRen 3505002 70003 rfl ?_
        exact pSn [0, 1] rfl rfl (.inr rfl) rfl rfl (.nil)

theorem rule_parser_atom.ok {rc24 : rule_parser → Option rule_parser} (hrc24 : ∀ {a0 : rule_parser} {r : rule_parser}, rc24 a0 = some r → FnS Try.prog 24 [.p 70000 0] [.box 70000 73 [.d (kL (kR f_api_Tok)) a0.l_, .d (kI .i64) a0.i_, .v 70003, .d (kI .i64) a0.deep_, .d (kI .i64) a0.bad_], .row 70003 3 (kI .i64) a0.out_] [70000] (.d (tup [])) [.box 70000 73 [.d (kL (kR f_api_Tok)) r.l_, .d (kI .i64) r.i_, .v 70003, .d (kI .i64) r.deep_, .d (kI .i64) r.bad_], .row 70003 3 (kI .i64) r.out_]) {a0 : rule_parser} {r : rule_parser} (h : rule_parser_atom.f rc24 a0 = some r) : FnS Try.prog 73 [.p 70000 0] [.box 70000 73 [.d (kL (kR f_api_Tok)) a0.l_, .d (kI .i64) a0.i_, .v 70003, .d (kI .i64) a0.deep_, .d (kI .i64) a0.bad_], .row 70003 3 (kI .i64) a0.out_] [70000] (.d (tup [])) [.box 70000 73 [.d (kL (kR f_api_Tok)) r.l_, .d (kI .i64) r.i_, .v 70003, .d (kI .i64) r.deep_, .d (kI .i64) r.bad_], .row 70003 3 (kI .i64) r.out_] := by
  refine fnIntroS Try.func73 rfl (by kernel_rfl) fun X H0 w0 pv => ?_
  unfold rule_parser_atom.f at h
  refine wSeq ?_
  refine wSeq ?_
  refine rg (cp (oMv tm) (s1 rfl) <| cp (oNilP tm) (s1 rfl) <| cp (oFldP o73_4 tm) (s1 rfl) <| cr (oLdB (n := 0) (k := 4) rfl rfl rfl t29 tm) (s1 rfl) <| cp (oNe rfl tm (cI (by decide))) (s1 rfl) <| .nil) (by kernel_rfl) ?_
  refine pSeq ?_
  rcases ic h with ⟨hp1, h⟩ | ⟨hp1, h⟩
  · refine wNT hp1 tm (s1 rfl) ?_
    refine wSkip ?_
    refine pSeq ?_
    refine wSeq ?_
    obtain ⟨y2, hy2, h⟩ := bd h
    obtain ⟨y3, hy3, h⟩ := bd h
    refine rgD hm (cp (oCall rfl (rule_words.ok hy2) b87 opds_nil) trivial <| cp (oMv tm) (s1 rfl) <| cp (oNilP tm) (s1 rfl) <| cp (oFldP o73_0 tm) (s1 rfl) <| cr (oLdB (n := 0) (k := 0) rfl rfl rfl t40 tm) (s1 rfl) <| cp (oMv tm) (s1 rfl) <| cp (oNilP tm) (s1 rfl) <| cp (oFldP o73_1 tm) (s1 rfl) <| cr (oLdB (n := 0) (k := 1) rfl rfl rfl t3 tm) (s1 rfl) <| cp (oIdx u40 z70 hy3 tm tm) (s2 rfl rfl) <| cp (oFld (fs := f_api_Tok) (k := 1) rfl o70_1 tm) (s1 rfl) <| cp (oLd t9 tm) (s1 rfl) <| cp (oLookup u136 mk9 zv3 zI_i64 rfl tm tm) (s2 rfl rfl) <| cp (oMv tm) (s1 rfl) <| cp (oExt (k := 0) rfl tm) (s1 rfl) <| cp (oExt (k := 1) rfl tm) (s1 rfl) <| cp (oAs tm) (s1 rfl) <| cp (oAs tm) (s1 rfl) <| .nil) (by kernel_rfl) (by kernel_rfl) ?_
    refine pSeq ?_
    refine wWeak (Γ' := [(0, .p 70000 0), (2, .d ((kI .i64).sig ((mGet y2 0 y3.Text).1))), (3, .d (kB.sig ((mGet y2 0 y3.Text).2)))]) ⟨rfl, rfl, rfl, trivial⟩ ?_
    refine wRen 70003 3505002 rfl ?_
    obtain ⟨o1, h, hk1⟩ := bd h
    refine wK5 (fun x16 x17 x18 x19 x20 => (x16, x17, x18, x19, x20) = o1) (fun x16 x17 x18 x19 x20 => []) (fun x16 x17 x18 x19 x20 => [.box 70000 73 [.d (kL (kR f_api_Tok)) x16, .d (kI .i64) x17, .v 3505002, .d (kI .i64) x18, .d (kI .i64) x19], .row 3505002 3 (kI .i64) x20]) ?_ ?_
    · refine wBlock ?_
      obtain ⟨o2, h, hk2⟩ := bd h
      refine wJ1 (fun x23 => x23 = o2) (fun x23 => [(0, .p 70000 0), (2, .d ((kI .i64).sig ((mGet y2 0 y3.Text).1))), (27, .d (kB.sig x23))]) (fun x23 => [.box 70000 73 [.d (kL (kR f_api_Tok)) a0.l_, .d (kI .i64) a0.i_, .v 3505002, .d (kI .i64) a0.deep_, .d (kI .i64) a0.bad_], .row 3505002 3 (kI .i64) a0.out_]) ?_ ?_
      · rcases ic h with ⟨hp24, h⟩ | ⟨hp24, h⟩
        · obtain ⟨y25, hy25, h⟩ := bd h
          refine rgD hm (cp (oMv tm) (s1 rfl) <| cp (oMv tm) (s1 rfl) <| cgB hp24 rfl rfl (oMv tm) (s1 rfl) <| cgB hp24 rfl rfl (oNilP tm) (s1 rfl) <| cgB hp24 rfl rfl (oFldP o73_0 tm) (s1 rfl) <| crgB hp24 rfl rfl (oLdB (n := 0) (k := 0) rfl rfl rfl t40 tm) (s1 rfl) <| cgB hp24 rfl rfl (oMv tm) (s1 rfl) <| cgB hp24 rfl rfl (oNilP tm) (s1 rfl) <| cgB hp24 rfl rfl (oFldP o73_1 tm) (s1 rfl) <| crgB hp24 rfl rfl (oLdB (n := 0) (k := 1) rfl rfl rfl t3 tm) (s1 rfl) <| cgB hp24 rfl rfl (oIdx u40 z70 hy25 tm tm) (s2 rfl rfl) <| cgB hp24 rfl rfl (oFld (fs := f_api_Tok) (k := 0) rfl o70_0 tm) (s1 rfl) <| cgB hp24 rfl rfl (oLd t3 tm) (s1 rfl) <| cgB hp24 rfl rfl (oEq rfl tm (cI (by decide))) (s1 rfl) <| cp (oPkT hp24 tm tm) (s2 rfl rfl) <| cp (oAs tm) (s1 rfl) <| .nil) (by kernel_rfl) (by kernel_rfl) ?_
          exact pJ1 _ (so h) ⟨rfl, rfl, rfl, trivial⟩ rfl
        · refine rgD hm (cp (oMv tm) (s1 rfl) <| cp (oMv tm) (s1 rfl) <| csB (nb hp24) rfl rfl <| csB (nb hp24) rfl rfl <| csB (nb hp24) rfl rfl <| csB (nb hp24) rfl rfl <| csB (nb hp24) rfl rfl <| csB (nb hp24) rfl rfl <| csB (nb hp24) rfl rfl <| csB (nb hp24) rfl rfl <| csB (nb hp24) rfl rfl <| csB (nb hp24) rfl rfl <| csB (nb hp24) rfl rfl <| csB (nb hp24) rfl rfl <| cp (oPkF (nb hp24) tm cB) (s1 rfl) <| cp (oAs tm) (s1 rfl) <| .nil) (by kernel_rfl) (by kernel_rfl) ?_
          exact pJ1 _ (so h) ⟨rfl, rfl, rfl, trivial⟩ rfl
      · rintro x23 rfl
        replace h := hk2
        rcases ic h with ⟨hp26, h⟩ | ⟨hp26, h⟩
        · refine wBT hp26 tm (s1 rfl) ?_
          refine wSeq ?_
          obtain ⟨y27, hy27, h⟩ := bd h
          refine rg (cp (oMv tm) (s1 rfl) <| cm (oCallS (rest := []) (R' := [.box 70000 73 [.d (kL (kR f_api_Tok)) y27.l_, .d (kI .i64) y27.i_, .v 340040, .d (kI .i64) y27.deep_, .d (kI .i64) y27.bad_], .row 340040 3 (kI .i64) y27.out_]) (out' := .d (tup [])) [(70000, 70000), (70003, 3505002)] [(70003, 340040)] [0, 1] [] [0, 1] rfl (rule_parser_next.ok hy27) b85 (oE1 tm oE0) rfl rfl rfl rfl rfl rfl rfl rfl) (s1 rfl) <| .nil) (by kernel_rfl) ?_
          refine pSeq ?_
          obtain ⟨y28, hy28, h⟩ := bd h
          refine rg (cp (oMv tm) (s1 rfl) <| cp (oMv tm) (s1 rfl) <| cm (oCallS (rest := []) (R' := [.box 70000 73 [.d (kL (kR f_api_Tok)) y28.l_, .d (kI .i64) y28.i_, .v 350080, .d (kI .i64) y28.deep_, .d (kI .i64) y28.bad_], .row 350080 3 (kI .i64) y28.out_]) (out' := .d (tup [])) [(70000, 70000), (70003, 340040)] [(70003, 350080)] [0, 1] [] [0, 1] rfl (rule_parser_put.ok hy28) b72 (oE1 tm (oE1 tm oE0)) rfl rfl rfl rfl rfl rfl rfl rfl) (s2 rfl rfl) <| .nil) (by kernel_rfl) ?_
          refine pBlkN ?_
          refine pSub (Γ' := []) trivial ?_
          refine pRen 350080 3505002 rfl ?_
          exact pJ5 _ _ _ _ _ (so h) trivial rfl
        · refine wBF hp26 tm (s1 rfl) ?_
          refine wSeq ?_
          obtain ⟨y29, hy29, h⟩ := bd h
          refine rg (cp (oMv tm) (s1 rfl) <| cp (oLit (d := kS) el22 (by decide) rfl rfl rfl (e1 (cS (by decide)) e0)) trivial <| cm (oCallS (rest := []) (R' := [.box 70000 73 [.d (kL (kR f_api_Tok)) y29.1.l_, .d (kI .i64) y29.1.i_, .v 360080, .d (kI .i64) y29.1.deep_, .d (kI .i64) y29.1.bad_], .row 360080 3 (kI .i64) y29.1.out_]) (out' := .d (kB.sig y29.2)) [(70000, 70000), (70003, 3505002)] [(70003, 360080)] [0, 1] [] [0, 1] rfl (rule_parser_is.ok hy29) b84 (oE1 tm (oE1 tm oE0)) rfl rfl rfl rfl rfl rfl rfl rfl) (s2 rfl rfl) <| cp (oAs tm) (s1 rfl) <| .nil) (by kernel_rfl) ?_
          refine pSeq ?_
          rcases ic h with ⟨hp30, h⟩ | ⟨hp30, h⟩
          · refine wBT hp30 tm (s1 rfl) ?_
            obtain ⟨y31, hy31, h⟩ := bd h
            refine rg (cp (oMv tm) (s1 rfl) <| cp (oMv tm) (s1 rfl) <| cp (oMkB tm) (s1 rfl) <| cm (oCallS (rest := []) (R' := [.box 70000 73 [.d (kL (kR f_api_Tok)) y31.l_, .d (kI .i64) y31.i_, .v 370120, .d (kI .i64) y31.deep_, .d (kI .i64) y31.bad_], .row 370120 3 (kI .i64) y31.out_]) (out' := .d (tup [])) [(70000, 70000), (70003, 360080)] [(70003, 370120)] [0, 1] [] [0, 1] rfl (rule_parser_inside_label.ok hrc24 hy31) b88 (oE1 tm (oE1 (cS (by decide)) (oE1 tm oE0))) rfl rfl rfl rfl rfl rfl rfl rfl) (s2 rfl rfl) <| .nil) (by kernel_rfl) ?_
            refine pBlkN ?_
            refine pSub (Γ' := []) trivial ?_
            refine pRen 370120 3505002 rfl ?_
            exact pJ5 _ _ _ _ _ (so h) trivial rfl
          · refine wBF hp30 tm (s1 rfl) ?_
            obtain ⟨y32, hy32, h⟩ := bd h
            refine rg (cp (oMv tm) (s1 rfl) <| cm (oCallS (rest := []) (R' := [.box 70000 73 [.d (kL (kR f_api_Tok)) y32.l_, .d (kI .i64) y32.i_, .v 320040, .d (kI .i64) y32.deep_, .d (kI .i64) y32.bad_], .row 320040 3 (kI .i64) y32.out_]) (out' := .d (tup [])) [(70000, 70000), (70003, 360080)] [(70003, 320040)] [0, 1] [] [0, 1] rfl (rule_parser_fail.ok hy32) b86 (oE1 tm (oE1 (cI (by decide)) oE0)) rfl rfl rfl rfl rfl rfl rfl rfl) (s1 rfl) <| .nil) (by kernel_rfl) ?_
            refine pBlkN ?_
            refine pSub (Γ' := []) trivial ?_
            refine pRen 320040 3505002 rfl ?_
            exact pJ5 _ _ _ _ _ (so h) trivial rfl
    · rintro x16 x17 x18 x19 x20 rfl
      replace h := hk1
      obtain rfl := so h
      refine pSub (Γ' := []) trivial ?_
      refine pRen 3505002 70003 rfl ?_
      exact pSn [0, 1] rfl rfl (.inr rfl) rfl rfl (.nil)
  · refine wNF hp1 tm (s1 rfl) ?_
    refine wRet ?_
    refine pThenR ?_
    obtain rfl := so h
    exact pSn [0, 1] rfl rfl (.inl rfl) rfl rfl (.nil)

theorem rule_parser_row_atom.ok {rc24 : rule_parser → Option rule_parser} (hrc24 : ∀ {a0 : rule_parser} {r : rule_parser}, rc24 a0 = some r → FnS Try.prog 24 [.p 70000 0] [.box 70000 73 [.d (kL (kR f_api_Tok)) a0.l_, .d (kI .i64) a0.i_, .v 70003, .d (kI .i64) a0.deep_, .d (kI .i64) a0.bad_], .row 70003 3 (kI .i64) a0.out_] [70000] (.d (tup [])) [.box 70000 73 [.d (kL (kR f_api_Tok)) r.l_, .d (kI .i64) r.i_, .v 70003, .d (kI .i64) r.deep_, .d (kI .i64) r.bad_], .row 70003 3 (kI .i64) r.out_]) {a0 : rule_parser} {a1 : Str} {a2 : Int} {r : rule_parser} (h : rule_parser_row_atom.f rc24 a0 a1 a2 = some r) : FnS Try.prog 49 [.p 70000 0, .d (kS.sig a1), .d ((kI .i64).sig a2), .f [70000] (sBnd 73)] [.box 70000 73 [.d (kL (kR f_api_Tok)) a0.l_, .d (kI .i64) a0.i_, .v 70003, .d (kI .i64) a0.deep_, .d (kI .i64) a0.bad_], .row 70003 3 (kI .i64) a0.out_] [70000] (.d (tup [])) [.box 70000 73 [.d (kL (kR f_api_Tok)) r.l_, .d (kI .i64) r.i_, .v 70003, .d (kI .i64) r.deep_, .d (kI .i64) r.bad_], .row 70003 3 (kI .i64) r.out_] := by
  refine fnIntroS Try.func49 rfl (by kernel_rfl) fun X H0 w0 pv => ?_
  unfold rule_parser_row_atom.f at h
  refine wSeq ?_
  obtain ⟨y1, hy1, h⟩ := bd h
  refine rg (cp (oMv tm) (s1 rfl) <| cm (oCallB1 (ins := []) (kn := 70000) (rest := []) (R' := [.box 70000 73 [.d (kL (kR f_api_Tok)) y1.l_, .d (kI .i64) y1.i_, .v 300040, .d (kI .i64) y1.deep_, .d (kI .i64) y1.bad_], .row 300040 3 (kI .i64) y1.out_]) (out' := .d (tup [])) [(70000, 70000), (70003, 70003)] [(70003, 300040)] [0, 1] [] [0, 1] rfl tm (rule_parser_atom.ok hrc24 hy1) rfl rfl b73 oE0 rfl rfl rfl rfl rfl rfl rfl rfl) (s1 rfl) <| .nil) (by kernel_rfl) ?_
  refine pSeq ?_
  refine wWeak (Γ' := [(0, .p 70000 0), (1, .d (kS.sig a1)), (2, .d ((kI .i64).sig a2)), (3, .f [70000] (sBnd 73))]) ⟨rfl, rfl, rfl, rfl, trivial⟩ ?_
  refine wRen 300040 3505002 rfl ?_
  obtain ⟨o1, h, hk1⟩ := bd h
  refine wK5 (fun x15 x16 x17 x18 x19 => (x15, x16, x17, x18, x19) = o1) (fun x15 x16 x17 x18 x19 => []) (fun x15 x16 x17 x18 x19 => [.box 70000 73 [.d (kL (kR f_api_Tok)) x15, .d (kI .i64) x16, .v 3505002, .d (kI .i64) x17, .d (kI .i64) x18], .row 3505002 3 (kI .i64) x19]) ?_ ?_
  · refine wBlock (wLoop ?_)
    refine lW (pc5 o1 (fun v10 v11 v12 v13 v14 => [(0, .p 70000 0), (1, .d (kS.sig a1)), (2, .d ((kI .i64).sig a2)), (3, .f [70000] (sBnd 73))]) (fun v10 v11 v12 v13 v14 => [.box 70000 73 [.d (kL (kR f_api_Tok)) v10, .d (kI .i64) v11, .v 3505002, .d (kI .i64) v12, .d (kI .i64) v13], .row 3505002 3 (kI .i64) v14]) (rule_parser_row_atom.l0.partial_correctness a1 a2 rc24) ?_ _ _ _ _ _ h) ⟨rfl, rfl, rfl, rfl, trivial⟩ rfl
    clear h
    intro f' ih v10 v11 v12 v13 v14 h
    refine wSeq ?_
    refine wSeq ?_
    obtain ⟨y20, hy20, h⟩ := bd h
    refine rg (cp (oMv tm) (s1 rfl) <| cp (oMv tm) (s1 rfl) <| cm (oCallS (rest := []) (R' := [.box 70000 73 [.d (kL (kR f_api_Tok)) y20.1.l_, .d (kI .i64) y20.1.i_, .v 310080, .d (kI .i64) y20.1.deep_, .d (kI .i64) y20.1.bad_], .row 310080 3 (kI .i64) y20.1.out_]) (out' := .d (kB.sig y20.2)) [(70000, 70000), (70003, 3505002)] [(70003, 310080)] [0, 1] [] [0, 1] rfl (rule_parser_take.ok hy20) b71 (oE1 tm (oE1 tm oE0)) rfl rfl rfl rfl rfl rfl rfl rfl) (s2 rfl rfl) <| .nil) (by kernel_rfl) ?_
    refine pSeq ?_
    rcases ic h with ⟨hp21, h⟩ | ⟨hp21, h⟩
    · refine wBT hp21 tm (s1 rfl) ?_
      refine wSkip ?_
      refine pSeq ?_
      refine wBlock ?_
      refine wSeq ?_
      obtain ⟨y22, hy22, h⟩ := bd h
      refine rg (cp (oMv tm) (s1 rfl) <| cm (oCallB1 (ins := []) (kn := 70000) (rest := []) (R' := [.box 70000 73 [.d (kL (kR f_api_Tok)) y22.l_, .d (kI .i64) y22.i_, .v 320040, .d (kI .i64) y22.deep_, .d (kI .i64) y22.bad_], .row 320040 3 (kI .i64) y22.out_]) (out' := .d (tup [])) [(70000, 70000), (70003, 310080)] [(70003, 320040)] [0, 1] [] [0, 1] rfl tm (rule_parser_atom.ok hrc24 hy22) rfl rfl b73 oE0 rfl rfl rfl rfl rfl rfl rfl rfl) (s1 rfl) <| .nil) (by kernel_rfl) ?_
      refine pSeq ?_
      obtain ⟨y23, hy23, h⟩ := bd h
      refine rg (cp (oMv tm) (s1 rfl) <| cp (oMv tm) (s1 rfl) <| cm (oCallS (rest := []) (R' := [.box 70000 73 [.d (kL (kR f_api_Tok)) y23.l_, .d (kI .i64) y23.i_, .v 330080, .d (kI .i64) y23.deep_, .d (kI .i64) y23.bad_], .row 330080 3 (kI .i64) y23.out_]) (out' := .d (tup [])) [(70000, 70000), (70003, 320040)] [(70003, 330080)] [0, 1] [] [0, 1] rfl (rule_parser_put.ok hy23) b72 (oE1 tm (oE1 tm oE0)) rfl rfl rfl rfl rfl rfl rfl rfl) (s2 rfl rfl) <| .nil) (by kernel_rfl) ?_
      refine pBlkN ?_
      refine pSub (Γ' := [(0, .p 70000 0), (1, .d (kS.sig a1)), (2, .d ((kI .i64).sig a2)), (3, .f [70000] (sBnd 73))]) ⟨rfl, rfl, rfl, rfl, trivial⟩ ?_
      refine pRen 330080 3505002 rfl ?_
      exact pLoop (lW (ih _ _ _ _ _ h) ⟨rfl, rfl, rfl, rfl, trivial⟩ rfl)
    · refine wBF hp21 tm (s1 rfl) ?_
      refine wExit ?_
      refine pThenX ?_
      refine pThenX ?_
      refine pBlkX ?_
      refine pSub (Γ' := []) trivial ?_
      refine pRen 310080 3505002 rfl ?_
      exact pJ5 _ _ _ _ _ (so h) trivial rfl
  · rintro x15 x16 x17 x18 x19 rfl
    replace h := hk1
    obtain rfl := so h
    refine pSub (Γ' := []) trivial ?_
    refine pRen 3505002 70003 rfl ?_
    exact pSn [0, 1] rfl rfl (.inr rfl) rfl rfl (.nil)

theorem rule_parser_term.ok {rc24 : rule_parser → Option rule_parser} (hrc24 : ∀ {a0 : rule_parser} {r : rule_parser}, rc24 a0 = some r → FnS Try.prog 24 [.p 70000 0] [.box 70000 73 [.d (kL (kR f_api_Tok)) a0.l_, .d (kI .i64) a0.i_, .v 70003, .d (kI .i64) a0.deep_, .d (kI .i64) a0.bad_], .row 70003 3 (kI .i64) a0.out_] [70000] (.d (tup [])) [.box 70000 73 [.d (kL (kR f_api_Tok)) r.l_, .d (kI .i64) r.i_, .v 70003, .d (kI .i64) r.deep_, .d (kI .i64) r.bad_], .row 70003 3 (kI .i64) r.out_]) {a0 : rule_parser} {r : rule_parser} (h : rule_parser_term.f rc24 a0 = some r) : FnS Try.prog 50 [.p 70000 0] [.box 70000 73 [.d (kL (kR f_api_Tok)) a0.l_, .d (kI .i64) a0.i_, .v 70003, .d (kI .i64) a0.deep_, .d (kI .i64) a0.bad_], .row 70003 3 (kI .i64) a0.out_] [70000] (.d (tup [])) [.box 70000 73 [.d (kL (kR f_api_Tok)) r.l_, .d (kI .i64) r.i_, .v 70003, .d (kI .i64) r.deep_, .d (kI .i64) r.bad_], .row 70003 3 (kI .i64) r.out_] := by
  refine fnIntroS Try.func50 rfl (by kernel_rfl) fun X H0 w0 pv => ?_
  unfold rule_parser_term.f at h
  obtain ⟨y1, hy1, h⟩ := bd h
  refine rg (cp (oMv tm) (s1 rfl) <| cp (oMv tm) (s1 rfl) <| cp (oMkB tm) (s1 rfl) <| cm (oCallS (rest := []) (R' := [.box 70000 73 [.d (kL (kR f_api_Tok)) y1.l_, .d (kI .i64) y1.i_, .v 300120, .d (kI .i64) y1.deep_, .d (kI .i64) y1.bad_], .row 300120 3 (kI .i64) y1.out_]) (out' := .d (tup [])) [(70000, 70000), (70003, 70003)] [(70003, 300120)] [0, 1] [] [0, 1] rfl (rule_parser_row_atom.ok hrc24 hy1) b49 (oE1 tm (oE1 (cS (by decide)) (oE1 (cI (by decide)) (oE1 tm oE0)))) rfl rfl rfl rfl rfl rfl rfl rfl) (s2 rfl rfl) <| .nil) (by kernel_rfl) ?_
  obtain rfl := so h
  refine pSub (Γ' := []) trivial ?_
  refine pRen 300120 70003 rfl ?_
  exact pSn [0, 1] rfl rfl (.inr rfl) rfl rfl (.nil)

theorem rule_parser_row_term.ok {rc24 : rule_parser → Option rule_parser} (hrc24 : ∀ {a0 : rule_parser} {r : rule_parser}, rc24 a0 = some r → FnS Try.prog 24 [.p 70000 0] [.box 70000 73 [.d (kL (kR f_api_Tok)) a0.l_, .d (kI .i64) a0.i_, .v 70003, .d (kI .i64) a0.deep_, .d (kI .i64) a0.bad_], .row 70003 3 (kI .i64) a0.out_] [70000] (.d (tup [])) [.box 70000 73 [.d (kL (kR f_api_Tok)) r.l_, .d (kI .i64) r.i_, .v 70003, .d (kI .i64) r.deep_, .d (kI .i64) r.bad_], .row 70003 3 (kI .i64) r.out_]) {a0 : rule_parser} {a1 : Str} {a2 : Int} {r : rule_parser} (h : rule_parser_row_term.f rc24 a0 a1 a2 = some r) : FnS Try.prog 49 [.p 70000 0, .d (kS.sig a1), .d ((kI .i64).sig a2), .f [70000] (sBnd 50)] [.box 70000 73 [.d (kL (kR f_api_Tok)) a0.l_, .d (kI .i64) a0.i_, .v 70003, .d (kI .i64) a0.deep_, .d (kI .i64) a0.bad_], .row 70003 3 (kI .i64) a0.out_] [70000] (.d (tup [])) [.box 70000 73 [.d (kL (kR f_api_Tok)) r.l_, .d (kI .i64) r.i_, .v 70003, .d (kI .i64) r.deep_, .d (kI .i64) r.bad_], .row 70003 3 (kI .i64) r.out_] := by
  refine fnIntroS Try.func49 rfl (by kernel_rfl) fun X H0 w0 pv => ?_
  unfold rule_parser_row_term.f at h
  refine wSeq ?_
  obtain ⟨y1, hy1, h⟩ := bd h
  refine rg (cp (oMv tm) (s1 rfl) <| cm (oCallB1 (ins := []) (kn := 70000) (rest := []) (R' := [.box 70000 73 [.d (kL (kR f_api_Tok)) y1.l_, .d (kI .i64) y1.i_, .v 300040, .d (kI .i64) y1.deep_, .d (kI .i64) y1.bad_], .row 300040 3 (kI .i64) y1.out_]) (out' := .d (tup [])) [(70000, 70000), (70003, 70003)] [(70003, 300040)] [0, 1] [] [0, 1] rfl tm (rule_parser_term.ok hrc24 hy1) rfl rfl b50 oE0 rfl rfl rfl rfl rfl rfl rfl rfl) (s1 rfl) <| .nil) (by kernel_rfl) ?_
  refine pSeq ?_
  refine wWeak (Γ' := [(0, .p 70000 0), (1, .d (kS.sig a1)), (2, .d ((kI .i64).sig a2)), (3, .f [70000] (sBnd 50))]) ⟨rfl, rfl, rfl, rfl, trivial⟩ ?_
  refine wRen 300040 3505002 rfl ?_
  obtain ⟨o1, h, hk1⟩ := bd h
  refine wK5 (fun x15 x16 x17 x18 x19 => (x15, x16, x17, x18, x19) = o1) (fun x15 x16 x17 x18 x19 => []) (fun x15 x16 x17 x18 x19 => [.box 70000 73 [.d (kL (kR f_api_Tok)) x15, .d (kI .i64) x16, .v 3505002, .d (kI .i64) x17, .d (kI .i64) x18], .row 3505002 3 (kI .i64) x19]) ?_ ?_
  · refine wBlock (wLoop ?_)
    refine lW (pc5 o1 (fun v10 v11 v12 v13 v14 => [(0, .p 70000 0), (1, .d (kS.sig a1)), (2, .d ((kI .i64).sig a2)), (3, .f [70000] (sBnd 50))]) (fun v10 v11 v12 v13 v14 => [.box 70000 73 [.d (kL (kR f_api_Tok)) v10, .d (kI .i64) v11, .v 3505002, .d (kI .i64) v12, .d (kI .i64) v13], .row 3505002 3 (kI .i64) v14]) (rule_parser_row_term.l0.partial_correctness a1 a2 rc24) ?_ _ _ _ _ _ h) ⟨rfl, rfl, rfl, rfl, trivial⟩ rfl
    clear h
    intro f' ih v10 v11 v12 v13 v14 h
    refine wSeq ?_
    refine wSeq ?_
    obtain ⟨y20, hy20, h⟩ := bd h
    refine rg (cp (oMv tm) (s1 rfl) <| cp (oMv tm) (s1 rfl) <| cm (oCallS (rest := []) (R' := [.box 70000 73 [.d (kL (kR f_api_Tok)) y20.1.l_, .d (kI .i64) y20.1.i_, .v 310080, .d (kI .i64) y20.1.deep_, .d (kI .i64) y20.1.bad_], .row 310080 3 (kI .i64) y20.1.out_]) (out' := .d (kB.sig y20.2)) [(70000, 70000), (70003, 3505002)] [(70003, 310080)] [0, 1] [] [0, 1] rfl (rule_parser_take.ok hy20) b71 (oE1 tm (oE1 tm oE0)) rfl rfl rfl rfl rfl rfl rfl rfl) (s2 rfl rfl) <| .nil) (by kernel_rfl) ?_
    refine pSeq ?_
    rcases ic h with ⟨hp21, h⟩ | ⟨hp21, h⟩
    · refine wBT hp21 tm (s1 rfl) ?_
      refine wSkip ?_
      refine pSeq ?_
      refine wBlock ?_
      refine wSeq ?_
      obtain ⟨y22, hy22, h⟩ := bd h
      refine rg (cp (oMv tm) (s1 rfl) <| cm (oCallB1 (ins := []) (kn := 70000) (rest := []) (R' := [.box 70000 73 [.d (kL (kR f_api_Tok)) y22.l_, .d (kI .i64) y22.i_, .v 320040, .d (kI .i64) y22.deep_, .d (kI .i64) y22.bad_], .row 320040 3 (kI .i64) y22.out_]) (out' := .d (tup [])) [(70000, 70000), (70003, 310080)] [(70003, 320040)] [0, 1] [] [0, 1] rfl tm (rule_parser_term.ok hrc24 hy22) rfl rfl b50 oE0 rfl rfl rfl rfl rfl rfl rfl rfl) (s1 rfl) <| .nil) (by kernel_rfl) ?_
      refine pSeq ?_
      obtain ⟨y23, hy23, h⟩ := bd h
      refine rg (cp (oMv tm) (s1 rfl) <| cp (oMv tm) (s1 rfl) <| cm (oCallS (rest := []) (R' := [.box 70000 73 [.d (kL (kR f_api_Tok)) y23.l_, .d (kI .i64) y23.i_, .v 330080, .d (kI .i64) y23.deep_, .d (kI .i64) y23.bad_], .row 330080 3 (kI .i64) y23.out_]) (out' := .d (tup [])) [(70000, 70000), (70003, 320040)] [(70003, 330080)] [0, 1] [] [0, 1] rfl (rule_parser_put.ok hy23) b72 (oE1 tm (oE1 tm oE0)) rfl rfl rfl rfl rfl rfl rfl rfl) (s2 rfl rfl) <| .nil) (by kernel_rfl) ?_
      refine pBlkN ?_
      refine pSub (Γ' := [(0, .p 70000 0), (1, .d (kS.sig a1)), (2, .d ((kI .i64).sig a2)), (3, .f [70000] (sBnd 50))]) ⟨rfl, rfl, rfl, rfl, trivial⟩ ?_
      refine pRen 330080 3505002 rfl ?_
      exact pLoop (lW (ih _ _ _ _ _ h) ⟨rfl, rfl, rfl, rfl, trivial⟩ rfl)
    · refine wBF hp21 tm (s1 rfl) ?_
      refine wExit ?_
      refine pThenX ?_
      refine pThenX ?_
      refine pBlkX ?_
      refine pSub (Γ' := []) trivial ?_
      refine pRen 310080 3505002 rfl ?_
      exact pJ5 _ _ _ _ _ (so h) trivial rfl
  · rintro x15 x16 x17 x18 x19 rfl
    replace h := hk1
    obtain rfl := so h
    refine pSub (Γ' := []) trivial ?_
    refine pRen 3505002 70003 rfl ?_
    exact pSn [0, 1] rfl rfl (.inr rfl) rfl rfl (.nil)

theorem rule_parser_label.okB {rc24 : rule_parser → Option rule_parser} (hrc24 : ∀ {a0 : rule_parser} {r : rule_parser}, rc24 a0 = some r → FnS Try.prog 24 [.p 70000 0] [.box 70000 73 [.d (kL (kR f_api_Tok)) a0.l_, .d (kI .i64) a0.i_, .v 70003, .d (kI .i64) a0.deep_, .d (kI .i64) a0.bad_], .row 70003 3 (kI .i64) a0.out_] [70000] (.d (tup [])) [.box 70000 73 [.d (kL (kR f_api_Tok)) r.l_, .d (kI .i64) r.i_, .v 70003, .d (kI .i64) r.deep_, .d (kI .i64) r.bad_], .row 70003 3 (kI .i64) r.out_]) {a0 : rule_parser} {r : rule_parser} (h : rule_parser_label.B rc24 a0 = some r) : FnS Try.prog 24 [.p 70000 0] [.box 70000 73 [.d (kL (kR f_api_Tok)) a0.l_, .d (kI .i64) a0.i_, .v 70003, .d (kI .i64) a0.deep_, .d (kI .i64) a0.bad_], .row 70003 3 (kI .i64) a0.out_] [70000] (.d (tup [])) [.box 70000 73 [.d (kL (kR f_api_Tok)) r.l_, .d (kI .i64) r.i_, .v 70003, .d (kI .i64) r.deep_, .d (kI .i64) r.bad_], .row 70003 3 (kI .i64) r.out_] := by
  refine fnIntroS Try.func24 rfl (by kernel_rfl) fun X H0 w0 pv => ?_
  unfold rule_parser_label.B at h
  obtain ⟨y1, hy1, h⟩ := bd h
  refine rg (cp (oMv tm) (s1 rfl) <| cp (oMv tm) (s1 rfl) <| cp (oMkB tm) (s1 rfl) <| cm (oCallS (rest := []) (R' := [.box 70000 73 [.d (kL (kR f_api_Tok)) y1.l_, .d (kI .i64) y1.i_, .v 300120, .d (kI .i64) y1.deep_, .d (kI .i64) y1.bad_], .row 300120 3 (kI .i64) y1.out_]) (out' := .d (tup [])) [(70000, 70000), (70003, 70003)] [(70003, 300120)] [0, 1] [] [0, 1] rfl (rule_parser_row_term.ok hrc24 hy1) b49 (oE1 tm (oE1 (cS (by decide)) (oE1 (cI (by decide)) (oE1 tm oE0)))) rfl rfl rfl rfl rfl rfl rfl rfl) (s2 rfl rfl) <| .nil) (by kernel_rfl) ?_
  obtain rfl := so h
  refine pSub (Γ' := []) trivial ?_
  refine pRen 300120 70003 rfl ?_
  exact pSn [0, 1] rfl rfl (.inr rfl) rfl rfl (.nil)
theorem rule_parser_label.okF : ∀ (k : Nat) {a0 : rule_parser} {r : rule_parser}, rule_parser_label.F k a0 = some r → FnS Try.prog 24 [.p 70000 0] [.box 70000 73 [.d (kL (kR f_api_Tok)) a0.l_, .d (kI .i64) a0.i_, .v 70003, .d (kI .i64) a0.deep_, .d (kI .i64) a0.bad_], .row 70003 3 (kI .i64) a0.out_] [70000] (.d (tup [])) [.box 70000 73 [.d (kL (kR f_api_Tok)) r.l_, .d (kI .i64) r.i_, .v 70003, .d (kI .i64) r.deep_, .d (kI .i64) r.bad_], .row 70003 3 (kI .i64) r.out_]
  | 0, _, _, h => by cases h
  | k + 1, _, _, h => rule_parser_label.okB (fun h => rule_parser_label.okF k h) h
theorem rule_parser_label.ok {a0 : rule_parser} {r : rule_parser} (h : rule_parser_label.f a0 = some r) : FnS Try.prog 24 [.p 70000 0] [.box 70000 73 [.d (kL (kR f_api_Tok)) a0.l_, .d (kI .i64) a0.i_, .v 70003, .d (kI .i64) a0.deep_, .d (kI .i64) a0.bad_], .row 70003 3 (kI .i64) a0.out_] [70000] (.d (tup [])) [.box 70000 73 [.d (kL (kR f_api_Tok)) r.l_, .d (kI .i64) r.i_, .v 70003, .d (kI .i64) r.deep_, .d (kI .i64) r.bad_], .row 70003 3 (kI .i64) r.out_] := rule_parser_label.okF 1000 h

theorem rule_parser_inside_cond.ok {rc25 : rule_parser → Option rule_parser} (hrc25 : ∀ {a0 : rule_parser} {r : rule_parser}, rc25 a0 = some r → FnS Try.prog 25 [.p 70000 0] [.box 70000 73 [.d (kL (kR f_api_Tok)) a0.l_, .d (kI .i64) a0.i_, .v 70003, .d (kI .i64) a0.deep_, .d (kI .i64) a0.bad_], .row 70003 3 (kI .i64) a0.out_] [70000] (.d (tup [])) [.box 70000 73 [.d (kL (kR f_api_Tok)) r.l_, .d (kI .i64) r.i_, .v 70003, .d (kI .i64) r.deep_, .d (kI .i64) r.bad_], .row 70003 3 (kI .i64) r.out_]) {a0 : rule_parser} {a1 : Str} {r : rule_parser} (h : rule_parser_inside_cond.f rc25 a0 a1 = some r) : FnS Try.prog 88 [.p 70000 0, .d (kS.sig a1), .f [70000] (sBnd 25)] [.box 70000 73 [.d (kL (kR f_api_Tok)) a0.l_, .d (kI .i64) a0.i_, .v 70003, .d (kI .i64) a0.deep_, .d (kI .i64) a0.bad_], .row 70003 3 (kI .i64) a0.out_] [70000] (.d (tup [])) [.box 70000 73 [.d (kL (kR f_api_Tok)) r.l_, .d (kI .i64) r.i_, .v 70003, .d (kI .i64) r.deep_, .d (kI .i64) r.bad_], .row 70003 3 (kI .i64) r.out_] := by
  refine fnIntroS Try.func88 rfl (by kernel_rfl) fun X H0 w0 pv => ?_
  unfold rule_parser_inside_cond.f at h
  refine wSeq ?_
  refine wSeq ?_
  refine rg (cp (oMv tm) (s1 rfl) <| cp (oNilP tm) (s1 rfl) <| cp (oFldP o73_3 tm) (s1 rfl) <| cr (oLdB (n := 0) (k := 3) rfl rfl rfl t3 tm) (s1 rfl) <| cp (oEq rfl tm (cI (by decide))) (s1 rfl) <| .nil) (by kernel_rfl) ?_
  refine pSeq ?_
  rcases ic h with ⟨hp1, h⟩ | ⟨hp1, h⟩
  · refine wCT hp1 tm (s1 rfl) ?_
    refine wSeq ?_
    obtain ⟨y2, hy2, h⟩ := bd h
    refine rg (cp (oMv tm) (s1 rfl) <| cm (oCallS (rest := []) (R' := [.box 70000 73 [.d (kL (kR f_api_Tok)) y2.l_, .d (kI .i64) y2.i_, .v 310040, .d (kI .i64) y2.deep_, .d (kI .i64) y2.bad_], .row 310040 3 (kI .i64) y2.out_]) (out' := .d (tup [])) [(70000, 70000), (70003, 70003)] [(70003, 310040)] [0, 1] [] [0, 1] rfl (rule_parser_fail.ok hy2) b86 (oE1 tm (oE1 (cI (by decide)) oE0)) rfl rfl rfl rfl rfl rfl rfl rfl) (s1 rfl) <| .nil) (by kernel_rfl) ?_
    refine pSeq ?_
    refine wRet ?_
    refine pThenR ?_
    obtain rfl := so h
    refine pSub (Γ' := []) trivial ?_
    refine pRen 310040 70003 rfl ?_
    exact pSn [0, 1] rfl rfl (.inl rfl) rfl rfl (.nil)
  · refine wCF hp1 tm (s1 rfl) ?_
    refine wSkip ?_
    refine pSeq ?_
    refine wSeq ?_
    obtain ⟨y3, hy3, h⟩ := bd h
    refine rg (cp (oMv tm) (s1 rfl) <| cm (oCallS (rest := []) (R' := [.box 70000 73 [.d (kL (kR f_api_Tok)) y3.l_, .d (kI .i64) y3.i_, .v 320040, .d (kI .i64) y3.deep_, .d (kI .i64) y3.bad_], .row 320040 3 (kI .i64) y3.out_]) (out' := .d (tup [])) [(70000, 70000), (70003, 70003)] [(70003, 320040)] [0, 1] [] [0, 1] rfl (rule_parser_next.ok hy3) b85 (oE1 tm oE0) rfl rfl rfl rfl rfl rfl rfl rfl) (s1 rfl) <| .nil) (by kernel_rfl) ?_
    refine pSeq ?_
    refine wSeq ?_
    refine rg (cp (oMv tm) (s1 rfl) <| cp (oNilP tm) (s1 rfl) <| cp (oFldP o73_3 tm) (s1 rfl) <| cr (oLdB (n := 0) (k := 3) rfl rfl rfl t3 tm) (s1 rfl) <| cp (oAdd tm (cI (by decide))) (s1 rfl) <| cp (oNilP tm) (s1 rfl) <| cp (oFldP o73_3 tm) (s1 rfl) <| cwn (oSt (n := 0) (k := 3) rfl rfl rfl rfl z3 tm tm) (s2 rfl rfl) <| .nil) (by kernel_rfl) ?_
    refine pSeq ?_
    refine wSeq ?_
    refine wSeq ?_
    obtain ⟨y4, hy4, h⟩ := bd h
    refine rg (cp (oMv tm) (s1 rfl) <| cm (oCallB1 (ins := []) (kn := 70000) (rest := []) (R' := [.box 70000 73 [.d (kL (kR f_api_Tok)) y4.l_, .d (kI .i64) y4.i_, .v 340040, .d (kI .i64) y4.deep_, .d (kI .i64) y4.bad_], .row 340040 3 (kI .i64) y4.out_]) (out' := .d (tup [])) [(70000, 70000), (70003, 320040)] [(70003, 340040)] [0, 1] [] [0, 1] rfl tm (hrc25 hy4) rfl rfl b25 oE0 rfl rfl rfl rfl rfl rfl rfl rfl) (s1 rfl) <| .nil) (by kernel_rfl) ?_
    refine pSeq ?_
    refine wWeak (Γ' := [(0, .p 70000 0), (1, .d (kS.sig a1))]) ⟨rfl, rfl, trivial⟩ ?_
    refine wRen 340040 3505002 rfl ?_
    obtain ⟨o1, h, hk1⟩ := bd h
    refine wJ6 (fun x7 x8 x9 x10 x11 x12 => (x7, x8, x9, x10, x11, x12) = o1) (fun x7 x8 x9 x10 x11 x12 => [(0, .p 70000 0), (34, .d (kB.sig x12))]) (fun x7 x8 x9 x10 x11 x12 => [.box 70000 73 [.d (kL (kR f_api_Tok)) x7, .d (kI .i64) x8, .v 3505002, .d (kI .i64) x9, .d (kI .i64) x10], .row 3505002 3 (kI .i64) x11]) ?_ ?_
    · rcases ic h with ⟨hp13, h⟩ | ⟨hp13, h⟩
      · obtain ⟨y14, hy14, h⟩ := bd h
        refine rg (cp (oMv tm) (s1 rfl) <| cp (oNilP tm) (s1 rfl) <| cp (oFldP o73_4 tm) (s1 rfl) <| cr (oLdB (n := 0) (k := 4) rfl rfl rfl t29 tm) (s1 rfl) <| cp (oEq rfl tm (cI (by decide))) (s1 rfl) <| cp (oMv tm) (s1 rfl) <| cgB (decide_eq_true hp13) rfl rfl (oMv tm) (s1 rfl) <| cgB (decide_eq_true hp13) rfl rfl (oMv tm) (s1 rfl) <| cmgB (decide_eq_true hp13) rfl rfl (oCallS (rest := []) (R' := [.box 70000 73 [.d (kL (kR f_api_Tok)) y14.1.l_, .d (kI .i64) y14.1.i_, .v 350320, .d (kI .i64) y14.1.deep_, .d (kI .i64) y14.1.bad_], .row 350320 3 (kI .i64) y14.1.out_]) (out' := .d (kB.sig y14.2)) [(70000, 70000), (70003, 3505002)] [(70003, 350320)] [0, 1] [] [0, 1] rfl (rule_parser_take.ok hy14) b71 (oE1 tm (oE1 tm oE0)) rfl rfl rfl rfl rfl rfl rfl rfl) (s2 rfl rfl) <| cgB (decide_eq_true hp13) rfl rfl (oNot tm) (s1 rfl) <| cp (oPkT (decide_eq_true hp13) tm tm) (s2 rfl rfl) <| .nil) (by kernel_rfl) ?_
        refine pSub (Γ' := [(0, .p 70000 0), (34, .d (kB.sig (!y14.2)))]) ⟨rfl, rfl, trivial⟩ ?_
        refine pRen 350320 3505002 rfl ?_
        exact pJ6 _ _ _ _ _ _ (so h) ⟨rfl, rfl, trivial⟩ rfl
      · refine rg (cp (oMv tm) (s1 rfl) <| cp (oNilP tm) (s1 rfl) <| cp (oFldP o73_4 tm) (s1 rfl) <| cr (oLdB (n := 0) (k := 4) rfl rfl rfl t29 tm) (s1 rfl) <| cp (oEq rfl tm (cI (by decide))) (s1 rfl) <| cp (oMv tm) (s1 rfl) <| csB (decide_eq_false hp13) rfl rfl <| csB (decide_eq_false hp13) rfl rfl <| csB (decide_eq_false hp13) rfl rfl <| csB (decide_eq_false hp13) rfl rfl <| cp (oPkF (decide_eq_false hp13) tm cB) (s1 rfl) <| .nil) (by kernel_rfl) ?_
        exact pJ6 _ _ _ _ _ _ (so h) ⟨rfl, rfl, trivial⟩ rfl
    · rintro x7 x8 x9 x10 x11 x12 rfl
      replace h := hk1
      rcases ic h with ⟨hp15, h⟩ | ⟨hp15, h⟩
      · refine wBT hp15 tm (s1 rfl) ?_
        obtain ⟨y16, hy16, h⟩ := bd h
        refine rg (cp (oMv tm) (s1 rfl) <| cm (oCallS (rest := []) (R' := [.box 70000 73 [.d (kL (kR f_api_Tok)) y16.l_, .d (kI .i64) y16.i_, .v 360040, .d (kI .i64) y16.deep_, .d (kI .i64) y16.bad_], .row 360040 3 (kI .i64) y16.out_]) (out' := .d (tup [])) [(70000, 70000), (70003, 3505002)] [(70003, 360040)] [0, 1] [] [0, 1] rfl (rule_parser_fail.ok hy16) b86 (oE1 tm (oE1 (cI (by decide)) oE0)) rfl rfl rfl rfl rfl rfl rfl rfl) (s1 rfl) <| .nil) (by kernel_rfl) ?_
        refine pSeq ?_
        refine rg (cp (oMv tm) (s1 rfl) <| cp (oNilP tm) (s1 rfl) <| cp (oFldP o73_3 tm) (s1 rfl) <| cr (oLdB (n := 0) (k := 3) rfl rfl rfl t3 tm) (s1 rfl) <| cp (oSub tm (cI (by decide))) (s1 rfl) <| cp (oNilP tm) (s1 rfl) <| cp (oFldP o73_3 tm) (s1 rfl) <| cwn (oSt (n := 0) (k := 3) rfl rfl rfl rfl z3 tm tm) (s2 rfl rfl) <| .nil) (by kernel_rfl) ?_
        obtain rfl := so h
        refine pSub (Γ' := []) trivial ?_
        refine pRen 360040 70003 rfl ?_
        exact pSn [0, 1] rfl rfl (.inr rfl) rfl rfl (.nil)
      · refine wBF hp15 tm (s1 rfl) ?_
        refine wSkip ?_
        refine pSeq ?_
        refine rg (cp (oMv tm) (s1 rfl) <| cp (oNilP tm) (s1 rfl) <| cp (oFldP o73_3 tm) (s1 rfl) <| cr (oLdB (n := 0) (k := 3) rfl rfl rfl t3 tm) (s1 rfl) <| cp (oSub tm (cI (by decide))) (s1 rfl) <| cp (oNilP tm) (s1 rfl) <| cp (oFldP o73_3 tm) (s1 rfl) <| cwn (oSt (n := 0) (k := 3) rfl rfl rfl rfl z3 tm tm) (s2 rfl rfl) <| .nil) (by kernel_rfl) ?_
        obtain rfl := so h
        refine pSub (Γ' := []) trivial ?_
        refine pRen 3505002 70003 rfl ?_
        exact pSn [0, 1] rfl rfl (.inr rfl) rfl rfl (.nil)

theorem rule_parser_prim.ok {rc25 : rule_parser → Option rule_parser} (hrc25 : ∀ {a0 : rule_parser} {r : rule_parser}, rc25 a0 = some r → FnS Try.prog 25 [.p 70000 0] [.box 70000 73 [.d (kL (kR f_api_Tok)) a0.l_, .d (kI .i64) a0.i_, .v 70003, .d (kI .i64) a0.deep_, .d (kI .i64) a0.bad_], .row 70003 3 (kI .i64) a0.out_] [70000] (.d (tup [])) [.box 70000 73 [.d (kL (kR f_api_Tok)) r.l_, .d (kI .i64) r.i_, .v 70003, .d (kI .i64) r.deep_, .d (kI .i64) r.bad_], .row 70003 3 (kI .i64) r.out_]) {a0 : rule_parser} {r : rule_parser} (h : rule_parser_prim.f rc25 a0 = some r) : FnS Try.prog 74 [.p 70000 0] [.box 70000 73 [.d (kL (kR f_api_Tok)) a0.l_, .d (kI .i64) a0.i_, .v 70003, .d (kI .i64) a0.deep_, .d (kI .i64) a0.bad_], .row 70003 3 (kI .i64) a0.out_] [70000] (.d (tup [])) [.box 70000 73 [.d (kL (kR f_api_Tok)) r.l_, .d (kI .i64) r.i_, .v 70003, .d (kI .i64) r.deep_, .d (kI .i64) r.bad_], .row 70003 3 (kI .i64) r.out_] := by
  refine fnIntroS Try.func74 rfl (by kernel_rfl) fun X H0 w0 pv => ?_
  unfold rule_parser_prim.f at h
  refine wWeak (Γ' := [(0, .p 70000 0)]) ⟨rfl, trivial⟩ ?_
  refine wRen 70003 3505002 rfl ?_
  obtain ⟨o1, h, hk1⟩ := bd h
  refine wK5 (fun x27 x28 x29 x30 x31 => (x27, x28, x29, x30, x31) = o1) (fun x27 x28 x29 x30 x31 => []) (fun x27 x28 x29 x30 x31 => [.box 70000 73 [.d (kL (kR f_api_Tok)) x27, .d (kI .i64) x28, .v 3505002, .d (kI .i64) x29, .d (kI .i64) x30], .row 3505002 3 (kI .i64) x31]) ?_ ?_
  · refine wBlock ?_
    refine wSeq ?_
    obtain ⟨y32, hy32, h⟩ := bd h
    refine rg (cp (oMv tm) (s1 rfl) <| cm (oCallS (rest := []) (R' := [.box 70000 73 [.d (kL (kR f_api_Tok)) y32.1.l_, .d (kI .i64) y32.1.i_, .v 350040, .d (kI .i64) y32.1.deep_, .d (kI .i64) y32.1.bad_], .row 350040 3 (kI .i64) y32.1.out_]) (out' := .d (kB.sig y32.2)) [(70000, 70000), (70003, 3505002)] [(70003, 350040)] [0, 1] [] [0, 1] rfl (rule_parser_take.ok hy32) b71 (oE1 tm (oE1 (cS (by decide)) oE0)) rfl rfl rfl rfl rfl rfl rfl rfl) (s1 rfl) <| cp (oAs tm) (s1 rfl) <| .nil) (by kernel_rfl) ?_
    refine pSeq ?_
    rcases ic h with ⟨hp33, h⟩ | ⟨hp33, h⟩
    · refine wBT hp33 tm (s1 rfl) ?_
      obtain ⟨y34, hy34, h⟩ := bd h
      refine rg (cp (oMv tm) (s1 rfl) <| cm (oCallS (rest := []) (R' := [.box 70000 73 [.d (kL (kR f_api_Tok)) y34.l_, .d (kI .i64) y34.i_, .v 360040, .d (kI .i64) y34.deep_, .d (kI .i64) y34.bad_], .row 360040 3 (kI .i64) y34.out_]) (out' := .d (tup [])) [(70000, 70000), (70003, 350040)] [(70003, 360040)] [0, 1] [] [0, 1] rfl (rule_parser_put.ok hy34) b72 (oE1 tm (oE1 (cI (by decide)) oE0)) rfl rfl rfl rfl rfl rfl rfl rfl) (s1 rfl) <| .nil) (by kernel_rfl) ?_
      refine pBlkN ?_
      refine pSub (Γ' := []) trivial ?_
      refine pRen 360040 3505002 rfl ?_
      exact pJ5 _ _ _ _ _ (so h) trivial rfl
    · refine wBF hp33 tm (s1 rfl) ?_
      refine wSeq ?_
      obtain ⟨y35, hy35, h⟩ := bd h
      refine rg (cp (oMv tm) (s1 rfl) <| cm (oCallS (rest := []) (R' := [.box 70000 73 [.d (kL (kR f_api_Tok)) y35.1.l_, .d (kI .i64) y35.1.i_, .v 370040, .d (kI .i64) y35.1.deep_, .d (kI .i64) y35.1.bad_], .row 370040 3 (kI .i64) y35.1.out_]) (out' := .d (kB.sig y35.2)) [(70000, 70000), (70003, 350040)] [(70003, 370040)] [0, 1] [] [0, 1] rfl (rule_parser_take.ok hy35) b71 (oE1 tm (oE1 (cS (by decide)) oE0)) rfl rfl rfl rfl rfl rfl rfl rfl) (s1 rfl) <| cp (oAs tm) (s1 rfl) <| .nil) (by kernel_rfl) ?_
      refine pSeq ?_
      rcases ic h with ⟨hp36, h⟩ | ⟨hp36, h⟩
      · refine wBT hp36 tm (s1 rfl) ?_
        obtain ⟨y37, hy37, h⟩ := bd h
        refine rg (cp (oMv tm) (s1 rfl) <| cm (oCallS (rest := []) (R' := [.box 70000 73 [.d (kL (kR f_api_Tok)) y37.l_, .d (kI .i64) y37.i_, .v 380040, .d (kI .i64) y37.deep_, .d (kI .i64) y37.bad_], .row 380040 3 (kI .i64) y37.out_]) (out' := .d (tup [])) [(70000, 70000), (70003, 370040)] [(70003, 380040)] [0, 1] [] [0, 1] rfl (rule_parser_put.ok hy37) b72 (oE1 tm (oE1 (cI (by decide)) oE0)) rfl rfl rfl rfl rfl rfl rfl rfl) (s1 rfl) <| .nil) (by kernel_rfl) ?_
        refine pBlkN ?_
        refine pSub (Γ' := []) trivial ?_
        refine pRen 380040 3505002 rfl ?_
        exact pJ5 _ _ _ _ _ (so h) trivial rfl
      · refine wBF hp36 tm (s1 rfl) ?_
        refine wSeq ?_
        obtain ⟨y38, hy38, h⟩ := bd h
        refine rg (cp (oMv tm) (s1 rfl) <| cp (oLit (d := kS) el22 (by decide) rfl rfl rfl (e1 (cS (by decide)) e0)) trivial <| cm (oCallS (rest := []) (R' := [.box 70000 73 [.d (kL (kR f_api_Tok)) y38.1.l_, .d (kI .i64) y38.1.i_, .v 390080, .d (kI .i64) y38.1.deep_, .d (kI .i64) y38.1.bad_], .row 390080 3 (kI .i64) y38.1.out_]) (out' := .d (kB.sig y38.2)) [(70000, 70000), (70003, 370040)] [(70003, 390080)] [0, 1] [] [0, 1] rfl (rule_parser_is.ok hy38) b84 (oE1 tm (oE1 tm oE0)) rfl rfl rfl rfl rfl rfl rfl rfl) (s2 rfl rfl) <| cp (oAs tm) (s1 rfl) <| .nil) (by kernel_rfl) ?_
        refine pSeq ?_
        rcases ic h with ⟨hp39, h⟩ | ⟨hp39, h⟩
        · refine wBT hp39 tm (s1 rfl) ?_
          obtain ⟨y40, hy40, h⟩ := bd h
          refine rg (cp (oMv tm) (s1 rfl) <| cp (oMv tm) (s1 rfl) <| cp (oMkB tm) (s1 rfl) <| cm (oCallS (rest := []) (R' := [.box 70000 73 [.d (kL (kR f_api_Tok)) y40.l_, .d (kI .i64) y40.i_, .v 400120, .d (kI .i64) y40.deep_, .d (kI .i64) y40.bad_], .row 400120 3 (kI .i64) y40.out_]) (out' := .d (tup [])) [(70000, 70000), (70003, 390080)] [(70003, 400120)] [0, 1] [] [0, 1] rfl (rule_parser_inside_cond.ok hrc25 hy40) b88 (oE1 tm (oE1 (cS (by decide)) (oE1 tm oE0))) rfl rfl rfl rfl rfl rfl rfl rfl) (s2 rfl rfl) <| .nil) (by kernel_rfl) ?_
          refine pBlkN ?_
          refine pSub (Γ' := []) trivial ?_
          refine pRen 400120 3505002 rfl ?_
          exact pJ5 _ _ _ _ _ (so h) trivial rfl
        · refine wBF hp39 tm (s1 rfl) ?_
          refine wSeq ?_
          refine wSeq ?_
          obtain ⟨y41, hy41, h⟩ := bd h
          refine rg (cp (oMv tm) (s1 rfl) <| cm (oCallS (rest := []) (R' := [.box 70000 73 [.d (kL (kR f_api_Tok)) y41.l_, .d (kI .i64) y41.i_, .v 300040, .d (kI .i64) y41.deep_, .d (kI .i64) y41.bad_], .row 300040 3 (kI .i64) y41.out_]) (out' := .d (tup [])) [(70000, 70000), (70003, 390080)] [(70003, 300040)] [0, 1] [] [0, 1] rfl (rule_parser_label.ok hy41) b24 (oE1 tm oE0) rfl rfl rfl rfl rfl rfl rfl rfl) (s1 rfl) <| .nil) (by kernel_rfl) ?_
          refine pSeq ?_
          refine wWeak (Γ' := [(0, .p 70000 0)]) ⟨rfl, trivial⟩ ?_
          refine wRen 300040 3505002 rfl ?_
          obtain ⟨o2, h, hk2⟩ := bd h
          refine wJ6 (fun x44 x45 x46 x47 x48 x49 => (x44, x45, x46, x47, x48, x49) = o2) (fun x44 x45 x46 x47 x48 x49 => [(0, .p 70000 0), (13, .d (kB.sig x49))]) (fun x44 x45 x46 x47 x48 x49 => [.box 70000 73 [.d (kL (kR f_api_Tok)) x44, .d (kI .i64) x45, .v 3505002, .d (kI .i64) x46, .d (kI .i64) x47], .row 3505002 3 (kI .i64) x48]) ?_ ?_
          · rcases ic h with ⟨hp50, h⟩ | ⟨hp50, h⟩
            · obtain ⟨y51, hy51, h⟩ := bd h
              refine rg (cp (oMv tm) (s1 rfl) <| cp (oNilP tm) (s1 rfl) <| cp (oFldP o73_4 tm) (s1 rfl) <| cr (oLdB (n := 0) (k := 4) rfl rfl rfl t29 tm) (s1 rfl) <| cp (oEq rfl tm (cI (by decide))) (s1 rfl) <| cp (oMv tm) (s1 rfl) <| cgB (decide_eq_true hp50) rfl rfl (oMv tm) (s1 rfl) <| cmgB (decide_eq_true hp50) rfl rfl (oCallS (rest := []) (R' := [.box 70000 73 [.d (kL (kR f_api_Tok)) y51.1.l_, .d (kI .i64) y51.1.i_, .v 310280, .d (kI .i64) y51.1.deep_, .d (kI .i64) y51.1.bad_], .row 310280 3 (kI .i64) y51.1.out_]) (out' := .d (kB.sig y51.2)) [(70000, 70000), (70003, 3505002)] [(70003, 310280)] [0, 1] [] [0, 1] rfl (rule_parser_take.ok hy51) b71 (oE1 tm (oE1 (cS (by decide)) oE0)) rfl rfl rfl rfl rfl rfl rfl rfl) (s1 rfl) <| cgB (decide_eq_true hp50) rfl rfl (oNot tm) (s1 rfl) <| cp (oPkT (decide_eq_true hp50) tm tm) (s2 rfl rfl) <| .nil) (by kernel_rfl) ?_
              refine pSub (Γ' := [(0, .p 70000 0), (13, .d (kB.sig (!y51.2)))]) ⟨rfl, rfl, trivial⟩ ?_
              refine pRen 310280 3505002 rfl ?_
              exact pJ6 _ _ _ _ _ _ (so h) ⟨rfl, rfl, trivial⟩ rfl
            · refine rg (cp (oMv tm) (s1 rfl) <| cp (oNilP tm) (s1 rfl) <| cp (oFldP o73_4 tm) (s1 rfl) <| cr (oLdB (n := 0) (k := 4) rfl rfl rfl t29 tm) (s1 rfl) <| cp (oEq rfl tm (cI (by decide))) (s1 rfl) <| cp (oMv tm) (s1 rfl) <| csB (decide_eq_false hp50) rfl rfl <| csB (decide_eq_false hp50) rfl rfl <| csB (decide_eq_false hp50) rfl rfl <| cp (oPkF (decide_eq_false hp50) tm cB) (s1 rfl) <| .nil) (by kernel_rfl) ?_
              exact pJ6 _ _ _ _ _ _ (so h) ⟨rfl, rfl, trivial⟩ rfl
          · rintro x44 x45 x46 x47 x48 x49 rfl
            replace h := hk2
            rcases ic h with ⟨hp52, h⟩ | ⟨hp52, h⟩
            · refine wBT hp52 tm (s1 rfl) ?_
              obtain ⟨y53, hy53, h⟩ := bd h
              refine rg (cp (oMv tm) (s1 rfl) <| cm (oCallS (rest := []) (R' := [.box 70000 73 [.d (kL (kR f_api_Tok)) y53.l_, .d (kI .i64) y53.i_, .v 320040, .d (kI .i64) y53.deep_, .d (kI .i64) y53.bad_], .row 320040 3 (kI .i64) y53.out_]) (out' := .d (tup [])) [(70000, 70000), (70003, 3505002)] [(70003, 320040)] [0, 1] [] [0, 1] rfl (rule_parser_fail.ok hy53) b86 (oE1 tm (oE1 (cI (by decide)) oE0)) rfl rfl rfl rfl rfl rfl rfl rfl) (s1 rfl) <| .nil) (by kernel_rfl) ?_
              refine pSeq ?_
              refine wSeq ?_
              obtain ⟨y54, hy54, h⟩ := bd h
              refine rg (cp (oMv tm) (s1 rfl) <| cm (oCallS (rest := []) (R' := [.box 70000 73 [.d (kL (kR f_api_Tok)) y54.l_, .d (kI .i64) y54.i_, .v 330040, .d (kI .i64) y54.deep_, .d (kI .i64) y54.bad_], .row 330040 3 (kI .i64) y54.out_]) (out' := .d (tup [])) [(70000, 70000), (70003, 320040)] [(70003, 330040)] [0, 1] [] [0, 1] rfl (rule_parser_label.ok hy54) b24 (oE1 tm oE0) rfl rfl rfl rfl rfl rfl rfl rfl) (s1 rfl) <| .nil) (by kernel_rfl) ?_
              refine pSeq ?_
              obtain ⟨y55, hy55, h⟩ := bd h
              refine rg (cp (oMv tm) (s1 rfl) <| cm (oCallS (rest := []) (R' := [.box 70000 73 [.d (kL (kR f_api_Tok)) y55.l_, .d (kI .i64) y55.i_, .v 340040, .d (kI .i64) y55.deep_, .d (kI .i64) y55.bad_], .row 340040 3 (kI .i64) y55.out_]) (out' := .d (tup [])) [(70000, 70000), (70003, 330040)] [(70003, 340040)] [0, 1] [] [0, 1] rfl (rule_parser_put.ok hy55) b72 (oE1 tm (oE1 (cI (by decide)) oE0)) rfl rfl rfl rfl rfl rfl rfl rfl) (s1 rfl) <| .nil) (by kernel_rfl) ?_
              refine pBlkN ?_
              refine pSub (Γ' := []) trivial ?_
              refine pRen 340040 3505002 rfl ?_
              exact pJ5 _ _ _ _ _ (so h) trivial rfl
            · refine wBF hp52 tm (s1 rfl) ?_
              refine wSkip ?_
              refine pSeq ?_
              refine wSeq ?_
              obtain ⟨y56, hy56, h⟩ := bd h
              refine rg (cp (oMv tm) (s1 rfl) <| cm (oCallS (rest := []) (R' := [.box 70000 73 [.d (kL (kR f_api_Tok)) y56.l_, .d (kI .i64) y56.i_, .v 330040, .d (kI .i64) y56.deep_, .d (kI .i64) y56.bad_], .row 330040 3 (kI .i64) y56.out_]) (out' := .d (tup [])) [(70000, 70000), (70003, 3505002)] [(70003, 330040)] [0, 1] [] [0, 1] rfl (rule_parser_label.ok hy56) b24 (oE1 tm oE0) rfl rfl rfl rfl rfl rfl rfl rfl) (s1 rfl) <| .nil) (by kernel_rfl) ?_
              refine pSeq ?_
              obtain ⟨y57, hy57, h⟩ := bd h
              refine rg (cp (oMv tm) (s1 rfl) <| cm (oCallS (rest := []) (R' := [.box 70000 73 [.d (kL (kR f_api_Tok)) y57.l_, .d (kI .i64) y57.i_, .v 340040, .d (kI .i64) y57.deep_, .d (kI .i64) y57.bad_], .row 340040 3 (kI .i64) y57.out_]) (out' := .d (tup [])) [(70000, 70000), (70003, 330040)] [(70003, 340040)] [0, 1] [] [0, 1] rfl (rule_parser_put.ok hy57) b72 (oE1 tm (oE1 (cI (by decide)) oE0)) rfl rfl rfl rfl rfl rfl rfl rfl) (s1 rfl) <| .nil) (by kernel_rfl) ?_
              refine pBlkN ?_
              refine pSub (Γ' := []) trivial ?_
              refine pRen 340040 3505002 rfl ?_
              exact pJ5 _ _ _ _ _ (so h) trivial rfl
  · rintro x27 x28 x29 x30 x31 rfl
    replace h := hk1
    obtain rfl := so h
    refine pSub (Γ' := []) trivial ?_
    refine pRen 3505002 70003 rfl ?_
    exact pSn [0, 1] rfl rfl (.inr rfl) rfl rfl (.nil)

theorem rule_parser_row_prim.ok {rc25 : rule_parser → Option rule_parser} (hrc25 : ∀ {a0 : rule_parser} {r : rule_parser}, rc25 a0 = some r → FnS Try.prog 25 [.p 70000 0] [.box 70000 73 [.d (kL (kR f_api_Tok)) a0.l_, .d (kI .i64) a0.i_, .v 70003, .d (kI .i64) a0.deep_, .d (kI .i64) a0.bad_], .row 70003 3 (kI .i64) a0.out_] [70000] (.d (tup [])) [.box 70000 73 [.d (kL (kR f_api_Tok)) r.l_, .d (kI .i64) r.i_, .v 70003, .d (kI .i64) r.deep_, .d (kI .i64) r.bad_], .row 70003 3 (kI .i64) r.out_]) {a0 : rule_parser} {a1 : Str} {a2 : Int} {r : rule_parser} (h : rule_parser_row_prim.f rc25 a0 a1 a2 = some r) : FnS Try.prog 49 [.p 70000 0, .d (kS.sig a1), .d ((kI .i64).sig a2), .f [70000] (sBnd 74)] [.box 70000 73 [.d (kL (kR f_api_Tok)) a0.l_, .d (kI .i64) a0.i_, .v 70003, .d (kI .i64) a0.deep_, .d (kI .i64) a0.bad_], .row 70003 3 (kI .i64) a0.out_] [70000] (.d (tup [])) [.box 70000 73 [.d (kL (kR f_api_Tok)) r.l_, .d (kI .i64) r.i_, .v 70003, .d (kI .i64) r.deep_, .d (kI .i64) r.bad_], .row 70003 3 (kI .i64) r.out_] := by
  refine fnIntroS Try.func49 rfl (by kernel_rfl) fun X H0 w0 pv => ?_
  unfold rule_parser_row_prim.f at h
  refine wSeq ?_
  obtain ⟨y1, hy1, h⟩ := bd h
  refine rg (cp (oMv tm) (s1 rfl) <| cm (oCallB1 (ins := []) (kn := 70000) (rest := []) (R' := [.box 70000 73 [.d (kL (kR f_api_Tok)) y1.l_, .d (kI .i64) y1.i_, .v 300040, .d (kI .i64) y1.deep_, .d (kI .i64) y1.bad_], .row 300040 3 (kI .i64) y1.out_]) (out' := .d (tup [])) [(70000, 70000), (70003, 70003)] [(70003, 300040)] [0, 1] [] [0, 1] rfl tm (rule_parser_prim.ok hrc25 hy1) rfl rfl b74 oE0 rfl rfl rfl rfl rfl rfl rfl rfl) (s1 rfl) <| .nil) (by kernel_rfl) ?_
  refine pSeq ?_
  refine wWeak (Γ' := [(0, .p 70000 0), (1, .d (kS.sig a1)), (2, .d ((kI .i64).sig a2)), (3, .f [70000] (sBnd 74))]) ⟨rfl, rfl, rfl, rfl, trivial⟩ ?_
  refine wRen 300040 3505002 rfl ?_
  obtain ⟨o1, h, hk1⟩ := bd h
  refine wK5 (fun x15 x16 x17 x18 x19 => (x15, x16, x17, x18, x19) = o1) (fun x15 x16 x17 x18 x19 => []) (fun x15 x16 x17 x18 x19 => [.box 70000 73 [.d (kL (kR f_api_Tok)) x15, .d (kI .i64) x16, .v 3505002, .d (kI .i64) x17, .d (kI .i64) x18], .row 3505002 3 (kI .i64) x19]) ?_ ?_
  · refine wBlock (wLoop ?_)
    refine lW (pc5 o1 (fun v10 v11 v12 v13 v14 => [(0, .p 70000 0), (1, .d (kS.sig a1)), (2, .d ((kI .i64).sig a2)), (3, .f [70000] (sBnd 74))]) (fun v10 v11 v12 v13 v14 => [.box 70000 73 [.d (kL (kR f_api_Tok)) v10, .d (kI .i64) v11, .v 3505002, .d (kI .i64) v12, .d (kI .i64) v13], .row 3505002 3 (kI .i64) v14]) (rule_parser_row_prim.l0.partial_correctness a1 a2 rc25) ?_ _ _ _ _ _ h) ⟨rfl, rfl, rfl, rfl, trivial⟩ rfl
    clear h
    intro f' ih v10 v11 v12 v13 v14 h
    refine wSeq ?_
    refine wSeq ?_
    obtain ⟨y20, hy20, h⟩ := bd h
    refine rg (cp (oMv tm) (s1 rfl) <| cp (oMv tm) (s1 rfl) <| cm (oCallS (rest := []) (R' := [.box 70000 73 [.d (kL (kR f_api_Tok)) y20.1.l_, .d (kI .i64) y20.1.i_, .v 310080, .d (kI .i64) y20.1.deep_, .d (kI .i64) y20.1.bad_], .row 310080 3 (kI .i64) y20.1.out_]) (out' := .d (kB.sig y20.2)) [(70000, 70000), (70003, 3505002)] [(70003, 310080)] [0, 1] [] [0, 1] rfl (rule_parser_take.ok hy20) b71 (oE1 tm (oE1 tm oE0)) rfl rfl rfl rfl rfl rfl rfl rfl) (s2 rfl rfl) <| .nil) (by kernel_rfl) ?_
    refine pSeq ?_
    rcases ic h with ⟨hp21, h⟩ | ⟨hp21, h⟩
    · refine wBT hp21 tm (s1 rfl) ?_
      refine wSkip ?_
      refine pSeq ?_
      refine wBlock ?_
      refine wSeq ?_
      obtain ⟨y22, hy22, h⟩ := bd h
      refine rg (cp (oMv tm) (s1 rfl) <| cm (oCallB1 (ins := []) (kn := 70000) (rest := []) (R' := [.box 70000 73 [.d (kL (kR f_api_Tok)) y22.l_, .d (kI .i64) y22.i_, .v 320040, .d (kI .i64) y22.deep_, .d (kI .i64) y22.bad_], .row 320040 3 (kI .i64) y22.out_]) (out' := .d (tup [])) [(70000, 70000), (70003, 310080)] [(70003, 320040)] [0, 1] [] [0, 1] rfl tm (rule_parser_prim.ok hrc25 hy22) rfl rfl b74 oE0 rfl rfl rfl rfl rfl rfl rfl rfl) (s1 rfl) <| .nil) (by kernel_rfl) ?_
      refine pSeq ?_
      obtain ⟨y23, hy23, h⟩ := bd h
      refine rg (cp (oMv tm) (s1 rfl) <| cp (oMv tm) (s1 rfl) <| cm (oCallS (rest := []) (R' := [.box 70000 73 [.d (kL (kR f_api_Tok)) y23.l_, .d (kI .i64) y23.i_, .v 330080, .d (kI .i64) y23.deep_, .d (kI .i64) y23.bad_], .row 330080 3 (kI .i64) y23.out_]) (out' := .d (tup [])) [(70000, 70000), (70003, 320040)] [(70003, 330080)] [0, 1] [] [0, 1] rfl (rule_parser_put.ok hy23) b72 (oE1 tm (oE1 tm oE0)) rfl rfl rfl rfl rfl rfl rfl rfl) (s2 rfl rfl) <| .nil) (by kernel_rfl) ?_
      refine pBlkN ?_
      refine pSub (Γ' := [(0, .p 70000 0), (1, .d (kS.sig a1)), (2, .d ((kI .i64).sig a2)), (3, .f [70000] (sBnd 74))]) ⟨rfl, rfl, rfl, rfl, trivial⟩ ?_
      refine pRen 330080 3505002 rfl ?_
      exact pLoop (lW (ih _ _ _ _ _ h) ⟨rfl, rfl, rfl, rfl, trivial⟩ rfl)
    · refine wBF hp21 tm (s1 rfl) ?_
      refine wExit ?_
      refine pThenX ?_
      refine pThenX ?_
      refine pBlkX ?_
      refine pSub (Γ' := []) trivial ?_
      refine pRen 310080 3505002 rfl ?_
      exact pJ5 _ _ _ _ _ (so h) trivial rfl
  · rintro x15 x16 x17 x18 x19 rfl
    replace h := hk1
    obtain rfl := so h
    refine pSub (Γ' := []) trivial ?_
    refine pRen 3505002 70003 rfl ?_
    exact pSn [0, 1] rfl rfl (.inr rfl) rfl rfl (.nil)

theorem rule_parser_and.ok {rc25 : rule_parser → Option rule_parser} (hrc25 : ∀ {a0 : rule_parser} {r : rule_parser}, rc25 a0 = some r → FnS Try.prog 25 [.p 70000 0] [.box 70000 73 [.d (kL (kR f_api_Tok)) a0.l_, .d (kI .i64) a0.i_, .v 70003, .d (kI .i64) a0.deep_, .d (kI .i64) a0.bad_], .row 70003 3 (kI .i64) a0.out_] [70000] (.d (tup [])) [.box 70000 73 [.d (kL (kR f_api_Tok)) r.l_, .d (kI .i64) r.i_, .v 70003, .d (kI .i64) r.deep_, .d (kI .i64) r.bad_], .row 70003 3 (kI .i64) r.out_]) {a0 : rule_parser} {r : rule_parser} (h : rule_parser_and.f rc25 a0 = some r) : FnS Try.prog 51 [.p 70000 0] [.box 70000 73 [.d (kL (kR f_api_Tok)) a0.l_, .d (kI .i64) a0.i_, .v 70003, .d (kI .i64) a0.deep_, .d (kI .i64) a0.bad_], .row 70003 3 (kI .i64) a0.out_] [70000] (.d (tup [])) [.box 70000 73 [.d (kL (kR f_api_Tok)) r.l_, .d (kI .i64) r.i_, .v 70003, .d (kI .i64) r.deep_, .d (kI .i64) r.bad_], .row 70003 3 (kI .i64) r.out_] := by
  refine fnIntroS Try.func51 rfl (by kernel_rfl) fun X H0 w0 pv => ?_
  unfold rule_parser_and.f at h
  obtain ⟨y1, hy1, h⟩ := bd h
  refine rg (cp (oMv tm) (s1 rfl) <| cp (oMv tm) (s1 rfl) <| cp (oMkB tm) (s1 rfl) <| cm (oCallS (rest := []) (R' := [.box 70000 73 [.d (kL (kR f_api_Tok)) y1.l_, .d (kI .i64) y1.i_, .v 300120, .d (kI .i64) y1.deep_, .d (kI .i64) y1.bad_], .row 300120 3 (kI .i64) y1.out_]) (out' := .d (tup [])) [(70000, 70000), (70003, 70003)] [(70003, 300120)] [0, 1] [] [0, 1] rfl (rule_parser_row_prim.ok hrc25 hy1) b49 (oE1 tm (oE1 (cS (by decide)) (oE1 (cI (by decide)) (oE1 tm oE0)))) rfl rfl rfl rfl rfl rfl rfl rfl) (s2 rfl rfl) <| .nil) (by kernel_rfl) ?_
  obtain rfl := so h
  refine pSub (Γ' := []) trivial ?_
  refine pRen 300120 70003 rfl ?_
  exact pSn [0, 1] rfl rfl (.inr rfl) rfl rfl (.nil)

theorem rule_parser_row_and.ok {rc25 : rule_parser → Option rule_parser} (hrc25 : ∀ {a0 : rule_parser} {r : rule_parser}, rc25 a0 = some r → FnS Try.prog 25 [.p 70000 0] [.box 70000 73 [.d (kL (kR f_api_Tok)) a0.l_, .d (kI .i64) a0.i_, .v 70003, .d (kI .i64) a0.deep_, .d (kI .i64) a0.bad_], .row 70003 3 (kI .i64) a0.out_] [70000] (.d (tup [])) [.box 70000 73 [.d (kL (kR f_api_Tok)) r.l_, .d (kI .i64) r.i_, .v 70003, .d (kI .i64) r.deep_, .d (kI .i64) r.bad_], .row 70003 3 (kI .i64) r.out_]) {a0 : rule_parser} {a1 : Str} {a2 : Int} {r : rule_parser} (h : rule_parser_row_and.f rc25 a0 a1 a2 = some r) : FnS Try.prog 49 [.p 70000 0, .d (kS.sig a1), .d ((kI .i64).sig a2), .f [70000] (sBnd 51)] [.box 70000 73 [.d (kL (kR f_api_Tok)) a0.l_, .d (kI .i64) a0.i_, .v 70003, .d (kI .i64) a0.deep_, .d (kI .i64) a0.bad_], .row 70003 3 (kI .i64) a0.out_] [70000] (.d (tup [])) [.box 70000 73 [.d (kL (kR f_api_Tok)) r.l_, .d (kI .i64) r.i_, .v 70003, .d (kI .i64) r.deep_, .d (kI .i64) r.bad_], .row 70003 3 (kI .i64) r.out_] := by
  refine fnIntroS Try.func49 rfl (by kernel_rfl) fun X H0 w0 pv => ?_
  unfold rule_parser_row_and.f at h
  refine wSeq ?_
  obtain ⟨y1, hy1, h⟩ := bd h
  refine rg (cp (oMv tm) (s1 rfl) <| cm (oCallB1 (ins := []) (kn := 70000) (rest := []) (R' := [.box 70000 73 [.d (kL (kR f_api_Tok)) y1.l_, .d (kI .i64) y1.i_, .v 300040, .d (kI .i64) y1.deep_, .d (kI .i64) y1.bad_], .row 300040 3 (kI .i64) y1.out_]) (out' := .d (tup [])) [(70000, 70000), (70003, 70003)] [(70003, 300040)] [0, 1] [] [0, 1] rfl tm (rule_parser_and.ok hrc25 hy1) rfl rfl b51 oE0 rfl rfl rfl rfl rfl rfl rfl rfl) (s1 rfl) <| .nil) (by kernel_rfl) ?_
  refine pSeq ?_
  refine wWeak (Γ' := [(0, .p 70000 0), (1, .d (kS.sig a1)), (2, .d ((kI .i64).sig a2)), (3, .f [70000] (sBnd 51))]) ⟨rfl, rfl, rfl, rfl, trivial⟩ ?_
  refine wRen 300040 3505002 rfl ?_
  obtain ⟨o1, h, hk1⟩ := bd h
  refine wK5 (fun x15 x16 x17 x18 x19 => (x15, x16, x17, x18, x19) = o1) (fun x15 x16 x17 x18 x19 => []) (fun x15 x16 x17 x18 x19 => [.box 70000 73 [.d (kL (kR f_api_Tok)) x15, .d (kI .i64) x16, .v 3505002, .d (kI .i64) x17, .d (kI .i64) x18], .row 3505002 3 (kI .i64) x19]) ?_ ?_
  · refine wBlock (wLoop ?_)
    refine lW (pc5 o1 (fun v10 v11 v12 v13 v14 => [(0, .p 70000 0), (1, .d (kS.sig a1)), (2, .d ((kI .i64).sig a2)), (3, .f [70000] (sBnd 51))]) (fun v10 v11 v12 v13 v14 => [.box 70000 73 [.d (kL (kR f_api_Tok)) v10, .d (kI .i64) v11, .v 3505002, .d (kI .i64) v12, .d (kI .i64) v13], .row 3505002 3 (kI .i64) v14]) (rule_parser_row_and.l0.partial_correctness a1 a2 rc25) ?_ _ _ _ _ _ h) ⟨rfl, rfl, rfl, rfl, trivial⟩ rfl
    clear h
    intro f' ih v10 v11 v12 v13 v14 h
    refine wSeq ?_
    refine wSeq ?_
    obtain ⟨y20, hy20, h⟩ := bd h
    refine rg (cp (oMv tm) (s1 rfl) <| cp (oMv tm) (s1 rfl) <| cm (oCallS (rest := []) (R' := [.box 70000 73 [.d (kL (kR f_api_Tok)) y20.1.l_, .d (kI .i64) y20.1.i_, .v 310080, .d (kI .i64) y20.1.deep_, .d (kI .i64) y20.1.bad_], .row 310080 3 (kI .i64) y20.1.out_]) (out' := .d (kB.sig y20.2)) [(70000, 70000), (70003, 3505002)] [(70003, 310080)] [0, 1] [] [0, 1] rfl (rule_parser_take.ok hy20) b71 (oE1 tm (oE1 tm oE0)) rfl rfl rfl rfl rfl rfl rfl rfl) (s2 rfl rfl) <| .nil) (by kernel_rfl) ?_
    refine pSeq ?_
    rcases ic h with ⟨hp21, h⟩ | ⟨hp21, h⟩
    · refine wBT hp21 tm (s1 rfl) ?_
      refine wSkip ?_
      refine pSeq ?_
      refine wBlock ?_
      refine wSeq ?_
      obtain ⟨y22, hy22, h⟩ := bd h
      refine rg (cp (oMv tm) (s1 rfl) <| cm (oCallB1 (ins := []) (kn := 70000) (rest := []) (R' := [.box 70000 73 [.d (kL (kR f_api_Tok)) y22.l_, .d (kI .i64) y22.i_, .v 320040, .d (kI .i64) y22.deep_, .d (kI .i64) y22.bad_], .row 320040 3 (kI .i64) y22.out_]) (out' := .d (tup [])) [(70000, 70000), (70003, 310080)] [(70003, 320040)] [0, 1] [] [0, 1] rfl tm (rule_parser_and.ok hrc25 hy22) rfl rfl b51 oE0 rfl rfl rfl rfl rfl rfl rfl rfl) (s1 rfl) <| .nil) (by kernel_rfl) ?_
      refine pSeq ?_
      obtain ⟨y23, hy23, h⟩ := bd h
      refine rg (cp (oMv tm) (s1 rfl) <| cp (oMv tm) (s1 rfl) <| cm (oCallS (rest := []) (R' := [.box 70000 73 [.d (kL (kR f_api_Tok)) y23.l_, .d (kI .i64) y23.i_, .v 330080, .d (kI .i64) y23.deep_, .d (kI .i64) y23.bad_], .row 330080 3 (kI .i64) y23.out_]) (out' := .d (tup [])) [(70000, 70000), (70003, 320040)] [(70003, 330080)] [0, 1] [] [0, 1] rfl (rule_parser_put.ok hy23) b72 (oE1 tm (oE1 tm oE0)) rfl rfl rfl rfl rfl rfl rfl rfl) (s2 rfl rfl) <| .nil) (by kernel_rfl) ?_
      refine pBlkN ?_
      refine pSub (Γ' := [(0, .p 70000 0), (1, .d (kS.sig a1)), (2, .d ((kI .i64).sig a2)), (3, .f [70000] (sBnd 51))]) ⟨rfl, rfl, rfl, rfl, trivial⟩ ?_
      refine pRen 330080 3505002 rfl ?_
      exact pLoop (lW (ih _ _ _ _ _ h) ⟨rfl, rfl, rfl, rfl, trivial⟩ rfl)
    · refine wBF hp21 tm (s1 rfl) ?_
      refine wExit ?_
      refine pThenX ?_
      refine pThenX ?_
      refine pBlkX ?_
      refine pSub (Γ' := []) trivial ?_
      refine pRen 310080 3505002 rfl ?_
      exact pJ5 _ _ _ _ _ (so h) trivial rfl
  · rintro x15 x16 x17 x18 x19 rfl
    replace h := hk1
    obtain rfl := so h
    refine pSub (Γ' := []) trivial ?_
    refine pRen 3505002 70003 rfl ?_
    exact pSn [0, 1] rfl rfl (.inr rfl) rfl rfl (.nil)

theorem rule_parser_cond.okB {rc25 : rule_parser → Option rule_parser} (hrc25 : ∀ {a0 : rule_parser} {r : rule_parser}, rc25 a0 = some r → FnS Try.prog 25 [.p 70000 0] [.box 70000 73 [.d (kL (kR f_api_Tok)) a0.l_, .d (kI .i64) a0.i_, .v 70003, .d (kI .i64) a0.deep_, .d (kI .i64) a0.bad_], .row 70003 3 (kI .i64) a0.out_] [70000] (.d (tup [])) [.box 70000 73 [.d (kL (kR f_api_Tok)) r.l_, .d (kI .i64) r.i_, .v 70003, .d (kI .i64) r.deep_, .d (kI .i64) r.bad_], .row 70003 3 (kI .i64) r.out_]) {a0 : rule_parser} {r : rule_parser} (h : rule_parser_cond.B rc25 a0 = some r) : FnS Try.prog 25 [.p 70000 0] [.box 70000 73 [.d (kL (kR f_api_Tok)) a0.l_, .d (kI .i64) a0.i_, .v 70003, .d (kI .i64) a0.deep_, .d (kI .i64) a0.bad_], .row 70003 3 (kI .i64) a0.out_] [70000] (.d (tup [])) [.box 70000 73 [.d (kL (kR f_api_Tok)) r.l_, .d (kI .i64) r.i_, .v 70003, .d (kI .i64) r.deep_, .d (kI .i64) r.bad_], .row 70003 3 (kI .i64) r.out_] := by
  refine fnIntroS Try.func25 rfl (by kernel_rfl) fun X H0 w0 pv => ?_
  unfold rule_parser_cond.B at h
  obtain ⟨y1, hy1, h⟩ := bd h
  refine rg (cp (oMv tm) (s1 rfl) <| cp (oMv tm) (s1 rfl) <| cp (oMkB tm) (s1 rfl) <| cm (oCallS (rest := []) (R' := [.box 70000 73 [.d (kL (kR f_api_Tok)) y1.l_, .d (kI .i64) y1.i_, .v 300120, .d (kI .i64) y1.deep_, .d (kI .i64) y1.bad_], .row 300120 3 (kI .i64) y1.out_]) (out' := .d (tup [])) [(70000, 70000), (70003, 70003)] [(70003, 300120)] [0, 1] [] [0, 1] rfl (rule_parser_row_and.ok hrc25 hy1) b49 (oE1 tm (oE1 (cS (by decide)) (oE1 (cI (by decide)) (oE1 tm oE0)))) rfl rfl rfl rfl rfl rfl rfl rfl) (s2 rfl rfl) <| .nil) (by kernel_rfl) ?_
  obtain rfl := so h
  refine pSub (Γ' := []) trivial ?_
  refine pRen 300120 70003 rfl ?_
  exact pSn [0, 1] rfl rfl (.inr rfl) rfl rfl (.nil)
theorem rule_parser_cond.okF : ∀ (k : Nat) {a0 : rule_parser} {r : rule_parser}, rule_parser_cond.F k a0 = some r → FnS Try.prog 25 [.p 70000 0] [.box 70000 73 [.d (kL (kR f_api_Tok)) a0.l_, .d (kI .i64) a0.i_, .v 70003, .d (kI .i64) a0.deep_, .d (kI .i64) a0.bad_], .row 70003 3 (kI .i64) a0.out_] [70000] (.d (tup [])) [.box 70000 73 [.d (kL (kR f_api_Tok)) r.l_, .d (kI .i64) r.i_, .v 70003, .d (kI .i64) r.deep_, .d (kI .i64) r.bad_], .row 70003 3 (kI .i64) r.out_]
  | 0, _, _, h => by cases h
  | k + 1, _, _, h => rule_parser_cond.okB (fun h => rule_parser_cond.okF k h) h
theorem rule_parser_cond.ok {a0 : rule_parser} {r : rule_parser} (h : rule_parser_cond.f a0 = some r) : FnS Try.prog 25 [.p 70000 0] [.box 70000 73 [.d (kL (kR f_api_Tok)) a0.l_, .d (kI .i64) a0.i_, .v 70003, .d (kI .i64) a0.deep_, .d (kI .i64) a0.bad_], .row 70003 3 (kI .i64) a0.out_] [70000] (.d (tup [])) [.box 70000 73 [.d (kL (kR f_api_Tok)) r.l_, .d (kI .i64) r.i_, .v 70003, .d (kI .i64) r.deep_, .d (kI .i64) r.bad_], .row 70003 3 (kI .i64) r.out_] := rule_parser_cond.okF 1000 h

end Go.Proofs.Ytjkijjhjffodcaa.LF
