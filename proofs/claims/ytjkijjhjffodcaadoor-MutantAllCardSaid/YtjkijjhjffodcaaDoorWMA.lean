import Derived.Test.YtjkijjhjffodcaaDoorShelf
import Derived.Test.YtjkijjhjffodcaaDoorCln
import Derived.Test.YtjkijjhjffodcaaDoorWMAp1
import Derived.Test.YtjkijjhjffodcaaDoorProg
set_option linter.unusedVariables false
set_option maxRecDepth 10000
set_option maxHeartbeats 2000000
namespace Go.Proofs.YtjkijjhjffodcaaDoor.MA
open Go Go.Proofs.YtjkijjhjffodcaaDoor.Ab

theorem reticentlaw24_alive.ok {r : Bool} (h : reticentlaw24_alive.f = some r) : FnA Tryd.prog 29 [] (kB.sig r) := by
  refine fnIntro Tryd.func29 rfl (by kernel_rfl) fun H0 w0 => ?_
  unfold reticentlaw24_alive.f at h
  refine wSeq ?_
  refine rg (cp (oAs cB) trivial <| .nil) (by kernel_rfl) ?_
  refine pSeq ?_
  refine wSeq ?_
  obtain ⟨y1, hy1, h⟩ := bd h
  refine rg (cp (oLit (d := (kI .i64)) el85 (by decide) rfl rfl rfl (e1 (cI (by decide)) (e1 (cI (by decide)) (e1 (cI (by decide)) e0)))) trivial <| cp (oCall rfl (mutant_Weaker.ok hy1) b69 (opds_cons tm opds_nil)) (s1 rfl) <| cp (oMv tm) (s1 rfl) <| cp (oExt (k := 0) rfl tm) (s1 rfl) <| cp (oExt (k := 1) rfl tm) (s1 rfl) <| cp (oAs tm) (s1 rfl) <| cp (oAs tm) (s1 rfl) <| .nil) (by kernel_rfl) ?_
  refine pSeq ?_
  obtain ⟨o1, h, hk1⟩ := bd h
  refine wJ1 (fun x12 => x12 = o1) (fun x12 => [(0, .d (kB.sig x12))]) (fun x12 => []) ?_ ?_
  · rcases ic h with ⟨hp13, h⟩ | ⟨hp13, h⟩
    · rcases ic h with ⟨hp14, h⟩ | ⟨hp14, h⟩
      · obtain ⟨y15, hy15, h⟩ := bd h
        obtain ⟨y16, hy16, h⟩ := bd h
        rcases ic h with ⟨hp17, h⟩ | ⟨hp17, h⟩
        · obtain ⟨y18, hy18, h⟩ := bd h
          obtain ⟨y19, hy19, h⟩ := bd h
          rcases ic h with ⟨hp20, h⟩ | ⟨hp20, h⟩
          · obtain ⟨y21, hy21, h⟩ := bd h
            obtain ⟨y22, hy22, h⟩ := bd h
            refine rg (cp (oMv tm) (s1 rfl) <| cp (oEq rfl tm (cI (by decide))) (s1 rfl) <| cp (oMv tm) (s1 rfl) <| cgB (decide_eq_true hp13) rfl rfl (oMv tm) (s1 rfl) <| cgB (decide_eq_true hp13) rfl rfl (oLenL u111 tm) (s1 rfl) <| cgB (decide_eq_true hp13) rfl rfl (oEq rfl tm (cI (by decide))) (s1 rfl) <| cp (oPkT (decide_eq_true hp13) tm tm) (s2 rfl rfl) <| cp (oMv tm) (s1 rfl) <| cgB (decide_eq_true hp14) rfl rfl (oMv tm) (s1 rfl) <| cgB (decide_eq_true hp14) rfl rfl (oIdx u111 z85 hy15 tm (cI (by decide))) (s1 rfl) <| cgB (decide_eq_true hp14) rfl rfl (oLd t85 tm) (s1 rfl) <| cgB (decide_eq_true hp14) rfl rfl (oLit (d := (kI .i64)) el85 (by decide) rfl rfl rfl (e1 (cI (by decide)) e0)) trivial <| cgB (decide_eq_true hp14) rfl rfl (oCall rfl (reticentref04_Same.ok hy16) b66 (opds_cons tm (opds_cons tm opds_nil))) (s2 rfl rfl) <| cp (oPkT (decide_eq_true hp14) tm tm) (s2 rfl rfl) <| cp (oMv tm) (s1 rfl) <| cgB hp17 rfl rfl (oMv tm) (s1 rfl) <| cgB hp17 rfl rfl (oIdx u111 z85 hy18 tm (cI (by decide))) (s1 rfl) <| cgB hp17 rfl rfl (oLd t85 tm) (s1 rfl) <| cgB hp17 rfl rfl (oLit (d := (kI .i64)) el85 (by decide) rfl rfl rfl (e1 (cI (by decide)) e0)) trivial <| cgB hp17 rfl rfl (oCall rfl (reticentref04_Same.ok hy19) b66 (opds_cons tm (opds_cons tm opds_nil))) (s2 rfl rfl) <| cp (oPkT hp17 tm tm) (s2 rfl rfl) <| cp (oMv tm) (s1 rfl) <| cgB hp20 rfl rfl (oMv tm) (s1 rfl) <| cgB hp20 rfl rfl (oIdx u111 z85 hy21 tm (cI (by decide))) (s1 rfl) <| cgB hp20 rfl rfl (oLd t85 tm) (s1 rfl) <| cgB hp20 rfl rfl (oLit (d := (kI .i64)) el85 (by decide) rfl rfl rfl (e1 (cI (by decide)) e0)) trivial <| cgB hp20 rfl rfl (oCall rfl (reticentref04_Same.ok hy22) b66 (opds_cons tm (opds_cons tm opds_nil))) (s2 rfl rfl) <| cp (oPkT hp20 tm tm) (s2 rfl rfl) <| cp (oAs tm) (s1 rfl) <| .nil) (by kernel_rfl) ?_
            exact pJ1 _ (so h) ⟨rfl, trivial⟩ rfl
          · refine rg (cp (oMv tm) (s1 rfl) <| cp (oEq rfl tm (cI (by decide))) (s1 rfl) <| cp (oMv tm) (s1 rfl) <| cgB (decide_eq_true hp13) rfl rfl (oMv tm) (s1 rfl) <| cgB (decide_eq_true hp13) rfl rfl (oLenL u111 tm) (s1 rfl) <| cgB (decide_eq_true hp13) rfl rfl (oEq rfl tm (cI (by decide))) (s1 rfl) <| cp (oPkT (decide_eq_true hp13) tm tm) (s2 rfl rfl) <| cp (oMv tm) (s1 rfl) <| cgB (decide_eq_true hp14) rfl rfl (oMv tm) (s1 rfl) <| cgB (decide_eq_true hp14) rfl rfl (oIdx u111 z85 hy15 tm (cI (by decide))) (s1 rfl) <| cgB (decide_eq_true hp14) rfl rfl (oLd t85 tm) (s1 rfl) <| cgB (decide_eq_true hp14) rfl rfl (oLit (d := (kI .i64)) el85 (by decide) rfl rfl rfl (e1 (cI (by decide)) e0)) trivial <| cgB (decide_eq_true hp14) rfl rfl (oCall rfl (reticentref04_Same.ok hy16) b66 (opds_cons tm (opds_cons tm opds_nil))) (s2 rfl rfl) <| cp (oPkT (decide_eq_true hp14) tm tm) (s2 rfl rfl) <| cp (oMv tm) (s1 rfl) <| cgB hp17 rfl rfl (oMv tm) (s1 rfl) <| cgB hp17 rfl rfl (oIdx u111 z85 hy18 tm (cI (by decide))) (s1 rfl) <| cgB hp17 rfl rfl (oLd t85 tm) (s1 rfl) <| cgB hp17 rfl rfl (oLit (d := (kI .i64)) el85 (by decide) rfl rfl rfl (e1 (cI (by decide)) e0)) trivial <| cgB hp17 rfl rfl (oCall rfl (reticentref04_Same.ok hy19) b66 (opds_cons tm (opds_cons tm opds_nil))) (s2 rfl rfl) <| cp (oPkT hp17 tm tm) (s2 rfl rfl) <| cp (oMv tm) (s1 rfl) <| csB (nb hp20) rfl rfl <| csB (nb hp20) rfl rfl <| csB (nb hp20) rfl rfl <| csB (nb hp20) rfl rfl <| csB (nb hp20) rfl rfl <| cp (oPkF (nb hp20) tm cB) (s1 rfl) <| cp (oAs tm) (s1 rfl) <| .nil) (by kernel_rfl) ?_
            exact pJ1 _ (so h) ⟨rfl, trivial⟩ rfl
        · refine rg (cp (oMv tm) (s1 rfl) <| cp (oEq rfl tm (cI (by decide))) (s1 rfl) <| cp (oMv tm) (s1 rfl) <| cgB (decide_eq_true hp13) rfl rfl (oMv tm) (s1 rfl) <| cgB (decide_eq_true hp13) rfl rfl (oLenL u111 tm) (s1 rfl) <| cgB (decide_eq_true hp13) rfl rfl (oEq rfl tm (cI (by decide))) (s1 rfl) <| cp (oPkT (decide_eq_true hp13) tm tm) (s2 rfl rfl) <| cp (oMv tm) (s1 rfl) <| cgB (decide_eq_true hp14) rfl rfl (oMv tm) (s1 rfl) <| cgB (decide_eq_true hp14) rfl rfl (oIdx u111 z85 hy15 tm (cI (by decide))) (s1 rfl) <| cgB (decide_eq_true hp14) rfl rfl (oLd t85 tm) (s1 rfl) <| cgB (decide_eq_true hp14) rfl rfl (oLit (d := (kI .i64)) el85 (by decide) rfl rfl rfl (e1 (cI (by decide)) e0)) trivial <| cgB (decide_eq_true hp14) rfl rfl (oCall rfl (reticentref04_Same.ok hy16) b66 (opds_cons tm (opds_cons tm opds_nil))) (s2 rfl rfl) <| cp (oPkT (decide_eq_true hp14) tm tm) (s2 rfl rfl) <| cp (oMv tm) (s1 rfl) <| csB (nb hp17) rfl rfl <| csB (nb hp17) rfl rfl <| csB (nb hp17) rfl rfl <| csB (nb hp17) rfl rfl <| csB (nb hp17) rfl rfl <| cp (oPkF (nb hp17) tm cB) (s1 rfl) <| cp (oMv tm) (s1 rfl) <| csB rfl rfl rfl <| csB rfl rfl rfl <| csB rfl rfl rfl <| csB rfl rfl rfl <| csB rfl rfl rfl <| cp (oPkF rfl tm cB) (s1 rfl) <| cp (oAs tm) (s1 rfl) <| .nil) (by kernel_rfl) ?_
          exact pJ1 _ (so h) ⟨rfl, trivial⟩ rfl
      · refine rg (cp (oMv tm) (s1 rfl) <| cp (oEq rfl tm (cI (by decide))) (s1 rfl) <| cp (oMv tm) (s1 rfl) <| cgB (decide_eq_true hp13) rfl rfl (oMv tm) (s1 rfl) <| cgB (decide_eq_true hp13) rfl rfl (oLenL u111 tm) (s1 rfl) <| cgB (decide_eq_true hp13) rfl rfl (oEq rfl tm (cI (by decide))) (s1 rfl) <| cp (oPkT (decide_eq_true hp13) tm tm) (s2 rfl rfl) <| cp (oMv tm) (s1 rfl) <| csB (decide_eq_false hp14) rfl rfl <| csB (decide_eq_false hp14) rfl rfl <| csB (decide_eq_false hp14) rfl rfl <| csB (decide_eq_false hp14) rfl rfl <| csB (decide_eq_false hp14) rfl rfl <| cp (oPkF (decide_eq_false hp14) tm cB) (s1 rfl) <| cp (oMv tm) (s1 rfl) <| csB rfl rfl rfl <| csB rfl rfl rfl <| csB rfl rfl rfl <| csB rfl rfl rfl <| csB rfl rfl rfl <| cp (oPkF rfl tm cB) (s1 rfl) <| cp (oMv tm) (s1 rfl) <| csB rfl rfl rfl <| csB rfl rfl rfl <| csB rfl rfl rfl <| csB rfl rfl rfl <| csB rfl rfl rfl <| cp (oPkF rfl tm cB) (s1 rfl) <| cp (oAs tm) (s1 rfl) <| .nil) (by kernel_rfl) ?_
        exact pJ1 _ (so h) ⟨rfl, trivial⟩ rfl
    · refine rg (cp (oMv tm) (s1 rfl) <| cp (oEq rfl tm (cI (by decide))) (s1 rfl) <| cp (oMv tm) (s1 rfl) <| csB (decide_eq_false hp13) rfl rfl <| csB (decide_eq_false hp13) rfl rfl <| csB (decide_eq_false hp13) rfl rfl <| cp (oPkF (decide_eq_false hp13) tm cB) (s1 rfl) <| cp (oMv tm) (s1 rfl) <| csB rfl rfl rfl <| csB rfl rfl rfl <| csB rfl rfl rfl <| csB rfl rfl rfl <| csB rfl rfl rfl <| cp (oPkF rfl tm cB) (s1 rfl) <| cp (oMv tm) (s1 rfl) <| csB rfl rfl rfl <| csB rfl rfl rfl <| csB rfl rfl rfl <| csB rfl rfl rfl <| csB rfl rfl rfl <| cp (oPkF rfl tm cB) (s1 rfl) <| cp (oMv tm) (s1 rfl) <| csB rfl rfl rfl <| csB rfl rfl rfl <| csB rfl rfl rfl <| csB rfl rfl rfl <| csB rfl rfl rfl <| cp (oPkF rfl tm cB) (s1 rfl) <| cp (oAs tm) (s1 rfl) <| .nil) (by kernel_rfl) ?_
      exact pJ1 _ (so h) ⟨rfl, trivial⟩ rfl
  · rintro x12 rfl
    replace h := hk1
    refine wRet ?_
    obtain rfl := so h
    exact pR1 (.inl rfl) rfl (.tmp rfl <| .nil)

theorem reticentref24_from.okB {rc : (List Int) → Int → Option Int} (hrc : ∀ {a0 : List Int} {a1 : Int} {r : Int}, rc a0 a1 = some r → FnA Tryd.prog 114 [(kL (kI .i64)).sig a0, (kI .i64).sig a1] ((kI .i64).sig r)) {a0 : List Int} {a1 : Int} {r : Int} (h : reticentref24_from.B rc a0 a1 = some r) : FnA Tryd.prog 114 [(kL (kI .i64)).sig a0, (kI .i64).sig a1] ((kI .i64).sig r) := by
  refine fnIntro Tryd.func114 rfl (by kernel_rfl) fun H0 w0 => ?_
  unfold reticentref24_from.B at h
  refine wSeq ?_
  refine rg (cp (oAs (cI (by decide))) trivial <| .nil) (by kernel_rfl) ?_
  refine pSeq ?_
  refine wSeq ?_
  obtain ⟨o1, h, hk1⟩ := bd h
  refine wJ1 (fun x7 => x7 = o1) (fun x7 => [(0, .d ((kL (kI .i64)).sig a0)), (1, .d ((kI .i64).sig a1)), (23, .d (kB.sig x7))]) (fun x7 => []) ?_ ?_
  · obtain ⟨y8, hy8, h⟩ := bd h
    rcases ic h with ⟨hp9, h⟩ | ⟨hp9, h⟩
    · obtain ⟨y10, hy10, h⟩ := bd h
      rcases ic h with ⟨hp11, h⟩ | ⟨hp11, h⟩
      · refine rg (cp (oMv tm) (s1 rfl) <| cp (oMv tm) (s1 rfl) <| cp (oIdx u85 z3 hy8 tm tm) (s2 rfl rfl) <| cp (oLd t3 tm) (s1 rfl) <| cp (oGe rfl tm (cI (by decide))) (s1 rfl) <| cp (oMv tm) (s1 rfl) <| cgB (decide_eq_true hp9) rfl rfl (oMv tm) (s1 rfl) <| cgB (decide_eq_true hp9) rfl rfl (oMv tm) (s1 rfl) <| cgB (decide_eq_true hp9) rfl rfl (oIdx u85 z3 hy10 tm tm) (s2 rfl rfl) <| cgB (decide_eq_true hp9) rfl rfl (oLd t3 tm) (s1 rfl) <| cgB (decide_eq_true hp9) rfl rfl (oLe rfl tm (cI (by decide))) (s1 rfl) <| cp (oPkT (decide_eq_true hp9) tm tm) (s2 rfl rfl) <| cp (oMv tm) (s1 rfl) <| csB (decide_eq_true hp11) rfl rfl <| csB (decide_eq_true hp11) rfl rfl <| csB (decide_eq_true hp11) rfl rfl <| csB (decide_eq_true hp11) rfl rfl <| csB (decide_eq_true hp11) rfl rfl <| cp (oPkT (decide_eq_true hp11) tm cB) (s1 rfl) <| .nil) (by kernel_rfl) ?_
        exact pJ1 _ (so h) ⟨rfl, rfl, rfl, trivial⟩ rfl
      · obtain ⟨y12, hy12, h⟩ := bd h
        refine rg (cp (oMv tm) (s1 rfl) <| cp (oMv tm) (s1 rfl) <| cp (oIdx u85 z3 hy8 tm tm) (s2 rfl rfl) <| cp (oLd t3 tm) (s1 rfl) <| cp (oGe rfl tm (cI (by decide))) (s1 rfl) <| cp (oMv tm) (s1 rfl) <| cgB (decide_eq_true hp9) rfl rfl (oMv tm) (s1 rfl) <| cgB (decide_eq_true hp9) rfl rfl (oMv tm) (s1 rfl) <| cgB (decide_eq_true hp9) rfl rfl (oIdx u85 z3 hy10 tm tm) (s2 rfl rfl) <| cgB (decide_eq_true hp9) rfl rfl (oLd t3 tm) (s1 rfl) <| cgB (decide_eq_true hp9) rfl rfl (oLe rfl tm (cI (by decide))) (s1 rfl) <| cp (oPkT (decide_eq_true hp9) tm tm) (s2 rfl rfl) <| cp (oMv tm) (s1 rfl) <| cgB (decide_eq_false hp11) rfl rfl (oMv tm) (s1 rfl) <| cgB (decide_eq_false hp11) rfl rfl (oMv tm) (s1 rfl) <| cgB (decide_eq_false hp11) rfl rfl (oIdx u85 z3 hy12 tm tm) (s2 rfl rfl) <| cgB (decide_eq_false hp11) rfl rfl (oLd t3 tm) (s1 rfl) <| cgB (decide_eq_false hp11) rfl rfl (oGe rfl tm (cI (by decide))) (s1 rfl) <| cp (oPkF (decide_eq_false hp11) tm tm) (s2 rfl rfl) <| .nil) (by kernel_rfl) ?_
        exact pJ1 _ (so h) ⟨rfl, rfl, rfl, trivial⟩ rfl
    · obtain ⟨y13, hy13, h⟩ := bd h
      refine rg (cp (oMv tm) (s1 rfl) <| cp (oMv tm) (s1 rfl) <| cp (oIdx u85 z3 hy8 tm tm) (s2 rfl rfl) <| cp (oLd t3 tm) (s1 rfl) <| cp (oGe rfl tm (cI (by decide))) (s1 rfl) <| cp (oMv tm) (s1 rfl) <| csB (decide_eq_false hp9) rfl rfl <| csB (decide_eq_false hp9) rfl rfl <| csB (decide_eq_false hp9) rfl rfl <| csB (decide_eq_false hp9) rfl rfl <| csB (decide_eq_false hp9) rfl rfl <| cp (oPkF (decide_eq_false hp9) tm cB) (s1 rfl) <| cp (oMv tm) (s1 rfl) <| cgB rfl rfl rfl (oMv tm) (s1 rfl) <| cgB rfl rfl rfl (oMv tm) (s1 rfl) <| cgB rfl rfl rfl (oIdx u85 z3 hy13 tm tm) (s2 rfl rfl) <| cgB rfl rfl rfl (oLd t3 tm) (s1 rfl) <| cgB rfl rfl rfl (oGe rfl tm (cI (by decide))) (s1 rfl) <| cp (oPkF rfl tm tm) (s2 rfl rfl) <| .nil) (by kernel_rfl) ?_
      exact pJ1 _ (so h) ⟨rfl, rfl, rfl, trivial⟩ rfl
  · rintro x7 rfl
    replace h := hk1
    rcases ic h with ⟨hp14, h⟩ | ⟨hp14, h⟩
    · refine wBT hp14 tm (s1 rfl) ?_
      refine wSeq ?_
      obtain ⟨y15, hy15, h⟩ := bd h
      obtain ⟨y16, hy16, h⟩ := bd h
      refine rg (cp (oMv tm) (s1 rfl) <| cp (oMv tm) (s1 rfl) <| cp (oMv tm) (s1 rfl) <| cp (oSub tm (cI (by decide))) (s1 rfl) <| cp (oCall rfl (hrc hy15) b114 (opds_cons tm (opds_cons tm opds_nil))) (s2 rfl rfl) <| cp (oSub tm (cI (by decide))) (s1 rfl) <| cp (oCall rfl (hrc hy16) b114 (opds_cons tm (opds_cons tm opds_nil))) (s2 rfl rfl) <| cp (oAs tm) (s1 rfl) <| .nil) (by kernel_rfl) ?_
      refine pSeq ?_
      refine wRet ?_
      refine pThenR ?_
      obtain rfl := so h
      exact pR1 (.inl rfl) rfl (.tmp rfl <| .nil)
    · refine wBF hp14 tm (s1 rfl) ?_
      refine wSkip ?_
      refine pSeq ?_
      refine wSeq ?_
      refine rg (cp (oMv tm) (s1 rfl) <| cp (oAs tm) (s1 rfl) <| .nil) (by kernel_rfl) ?_
      refine pSeq ?_
      refine wRet ?_
      obtain rfl := so h
      exact pR1 (.inl rfl) rfl (.tmp rfl <| .nil)
theorem reticentref24_from.okF : ∀ (k : Nat) {a0 : List Int} {a1 : Int} {r : Int}, reticentref24_from.F k a0 a1 = some r → FnA Tryd.prog 114 [(kL (kI .i64)).sig a0, (kI .i64).sig a1] ((kI .i64).sig r)
  | 0, _, _, _, h => by cases h
  | k + 1, _, _, _, h => reticentref24_from.okB (fun h => reticentref24_from.okF k h) h
theorem reticentref24_from.ok {a0 : List Int} {a1 : Int} {r : Int} (h : reticentref24_from.f a0 a1 = some r) : FnA Tryd.prog 114 [(kL (kI .i64)).sig a0, (kI .i64).sig a1] ((kI .i64).sig r) := reticentref24_from.okF 1000 h

theorem reticentref24_but.ok {a0 : List Int} {a1 : Int} {a2 : Int} {a3 : Int} {r : List Int} (h : reticentref24_but.f a0 a1 a2 a3 = some r) : FnA Tryd.prog 115 [(kL (kI .i64)).sig a0, (kI .i64).sig a1, (kI .i64).sig a2, (kI .i64).sig a3] ((kL (kI .i64)).sig r) := by
  refine fnIntro Tryd.func115 rfl (by kernel_rfl) fun H0 w0 => ?_
  unfold reticentref24_but.f at h
  refine wSeq ?_
  refine rg (cp (oAs cV) trivial <| .nil) (by kernel_rfl) ?_
  refine pSeq ?_
  refine wSeq ?_
  refine rg (cw (oLitR (id := 12) (d := (kI .i64)) el85 (by decide) rfl rfl rfl e0) trivial <| cp (oAs tm) (s1 rfl) <| .nil) (by kernel_rfl) ?_
  refine pSeq ?_
  refine wSeq ?_
  refine wSeq ?_
  refine rg (cp (oMv tm) (s1 rfl) <| cp (oLenL u85 tm) (s1 rfl) <| cp (oMv (cI (by decide))) trivial <| .nil) (by kernel_rfl) ?_
  refine pSeq ?_
  refine wWeak (Γ' := [(1, .d ((kI .i64).sig a1)), (2, .d ((kI .i64).sig a2)), (3, .d ((kI .i64).sig a3)), (9, .v 12), (13, .d ((kL (kI .i64)).sig a0)), (14, .d ((kI .i64).sig (a0.length : Int))), (15, .d ((kI .i64).sig 0))]) ⟨rfl, rfl, rfl, rfl, rfl, rfl, rfl, trivial⟩ ?_
  refine wRen 12 1009 rfl ?_
  obtain ⟨o1, h, hk1⟩ := bd h
  refine wK1 (fun x39 => x39 = o1) (fun x39 => [(9, .v 1009)]) (fun x39 => [.row 1009 3 (kI .i64) x39]) ?_ ?_
  · refine wBlock (wLoop ?_)
    refine lW (pc2 o1 (fun v37 v38 => [(1, .d ((kI .i64).sig a1)), (2, .d ((kI .i64).sig a2)), (3, .d ((kI .i64).sig a3)), (9, .v 1009), (13, .d ((kL (kI .i64)).sig a0)), (14, .d ((kI .i64).sig (a0.length : Int))), (15, .d ((kI .i64).sig v38))]) (fun v37 v38 => [.row 1009 3 (kI .i64) v37]) (reticentref24_but.l0.partial_correctness a0 a1 a2 a3) ?_ _ _ h) ⟨rfl, rfl, rfl, rfl, rfl, rfl, rfl, trivial⟩ rfl
    clear h
    intro f' ih v37 v38 h
    refine wSeq ?_
    refine rg (cp (oLt rfl tm tm) (s2 rfl rfl) <| .nil) (by kernel_rfl) ?_
    refine pSeq ?_
    refine wSeq ?_
    rcases ic h with ⟨hp40, h⟩ | ⟨hp40, h⟩
    · refine wCT hp40 tm (s1 rfl) ?_
      refine wSkip ?_
      refine pSeq ?_
      obtain ⟨o2, h, hk2⟩ := bd h
      refine wJ1 (fun x49 => x49 = o2) (fun x49 => [(1, .d ((kI .i64).sig a1)), (2, .d ((kI .i64).sig a2)), (3, .d ((kI .i64).sig a3)), (9, .v 1009), (13, .d ((kL (kI .i64)).sig a0)), (14, .d ((kI .i64).sig (a0.length : Int))), (15, .d ((kI .i64).sig v38))]) (fun x49 => [.row 1009 3 (kI .i64) x49]) ?_ ?_
      · refine wBlock ?_
        refine wSeq ?_
        obtain ⟨y50, hy50, h⟩ := bd h
        refine rg (cp (oMv tm) (s1 rfl) <| cp (oIdx u85 z3 hy50 tm tm) (s2 rfl rfl) <| cp (oLd t3 tm) (s1 rfl) <| cp (oAs tm) (s1 rfl) <| cp (oAs tm) (s1 rfl) <| .nil) (by kernel_rfl) ?_
        refine pSeq ?_
        obtain ⟨o3, h, hk3⟩ := bd h
        refine wJ1 (fun x53 => x53 = o3) (fun x53 => [(1, .d ((kI .i64).sig a1)), (2, .d ((kI .i64).sig a2)), (3, .d ((kI .i64).sig a3)), (9, .v 1009), (11, .d ((kI .i64).sig y50)), (13, .d ((kL (kI .i64)).sig a0)), (14, .d ((kI .i64).sig (a0.length : Int))), (15, .d ((kI .i64).sig v38)), (32, .d (kB.sig x53))]) (fun x53 => [.row 1009 3 (kI .i64) v37]) ?_ ?_
        · rcases ic h with ⟨hp54, h⟩ | ⟨hp54, h⟩
          · refine rg (cp (oMv tm) (s1 rfl) <| cp (oMv tm) (s1 rfl) <| cp (oLt rfl tm tm) (s2 rfl rfl) <| cp (oMv tm) (s1 rfl) <| csB (decide_eq_true hp54) rfl rfl <| csB (decide_eq_true hp54) rfl rfl <| csB (decide_eq_true hp54) rfl rfl <| cp (oPkT (decide_eq_true hp54) tm cB) (s1 rfl) <| cp (oMv tm) (s1 rfl) <| cgB rfl rfl rfl (oMv tm) (s1 rfl) <| cgB rfl rfl rfl (oMv tm) (s1 rfl) <| cgB rfl rfl rfl (oNe rfl tm tm) (s2 rfl rfl) <| cp (oPkT rfl tm tm) (s2 rfl rfl) <| .nil) (by kernel_rfl) ?_
            exact pJ1 _ (so h) ⟨rfl, rfl, rfl, rfl, rfl, rfl, rfl, rfl, rfl, trivial⟩ rfl
          · rcases ic h with ⟨hp55, h⟩ | ⟨hp55, h⟩
            · refine rg (cp (oMv tm) (s1 rfl) <| cp (oMv tm) (s1 rfl) <| cp (oLt rfl tm tm) (s2 rfl rfl) <| cp (oMv tm) (s1 rfl) <| cgB (decide_eq_false hp54) rfl rfl (oMv tm) (s1 rfl) <| cgB (decide_eq_false hp54) rfl rfl (oMv tm) (s1 rfl) <| cgB (decide_eq_false hp54) rfl rfl (oGe rfl tm tm) (s2 rfl rfl) <| cp (oPkF (decide_eq_false hp54) tm tm) (s2 rfl rfl) <| cp (oMv tm) (s1 rfl) <| cgB (decide_eq_true hp55) rfl rfl (oMv tm) (s1 rfl) <| cgB (decide_eq_true hp55) rfl rfl (oMv tm) (s1 rfl) <| cgB (decide_eq_true hp55) rfl rfl (oNe rfl tm tm) (s2 rfl rfl) <| cp (oPkT (decide_eq_true hp55) tm tm) (s2 rfl rfl) <| .nil) (by kernel_rfl) ?_
              exact pJ1 _ (so h) ⟨rfl, rfl, rfl, rfl, rfl, rfl, rfl, rfl, rfl, trivial⟩ rfl
            · refine rg (cp (oMv tm) (s1 rfl) <| cp (oMv tm) (s1 rfl) <| cp (oLt rfl tm tm) (s2 rfl rfl) <| cp (oMv tm) (s1 rfl) <| cgB (decide_eq_false hp54) rfl rfl (oMv tm) (s1 rfl) <| cgB (decide_eq_false hp54) rfl rfl (oMv tm) (s1 rfl) <| cgB (decide_eq_false hp54) rfl rfl (oGe rfl tm tm) (s2 rfl rfl) <| cp (oPkF (decide_eq_false hp54) tm tm) (s2 rfl rfl) <| cp (oMv tm) (s1 rfl) <| csB (decide_eq_false hp55) rfl rfl <| csB (decide_eq_false hp55) rfl rfl <| csB (decide_eq_false hp55) rfl rfl <| cp (oPkF (decide_eq_false hp55) tm cB) (s1 rfl) <| .nil) (by kernel_rfl) ?_
              exact pJ1 _ (so h) ⟨rfl, rfl, rfl, rfl, rfl, rfl, rfl, rfl, rfl, trivial⟩ rfl
        · rintro x53 rfl
          replace h := hk3
          rcases ic h with ⟨hp56, h⟩ | ⟨hp56, h⟩
          · refine wBT hp56 tm (s1 rfl) ?_
            obtain ⟨hc57, h⟩ := ib h
            refine rg (cp (oMv tm) (s1 rfl) <| cp (oMv tm) (s1 rfl) <| cp (oLit (d := (kI .i64)) el85 (by decide) rfl rfl rfl (e1 tm e0)) (s1 rfl) <| cw (oApp (n := 0) (id' := 36) el85 (by decide) rfl (by decide) hc57 tm tm) (s2 rfl rfl) <| cp (oAs tm) (s1 rfl) <| .nil) (by kernel_rfl) ?_
            refine pBlkN ?_
            refine pSub (Γ' := [(1, .d ((kI .i64).sig a1)), (2, .d ((kI .i64).sig a2)), (3, .d ((kI .i64).sig a3)), (9, .v 36), (13, .d ((kL (kI .i64)).sig a0)), (14, .d ((kI .i64).sig (a0.length : Int))), (15, .d ((kI .i64).sig v38))]) ⟨rfl, rfl, rfl, rfl, rfl, rfl, rfl, trivial⟩ ?_
            refine pRen 36 1009 rfl ?_
            exact pJ1 _ (so h) ⟨rfl, rfl, rfl, rfl, rfl, rfl, rfl, trivial⟩ rfl
          · refine wBF hp56 tm (s1 rfl) ?_
            refine wSkip ?_
            refine pBlkN ?_
            exact pJ1 _ (so h) ⟨rfl, rfl, rfl, rfl, rfl, rfl, rfl, trivial⟩ rfl
      · rintro x49 rfl
        replace h := hk2
        refine rg (cp (oAdd tm (cI (by decide))) (s1 rfl) <| cp (oMv tm) (s1 rfl) <| .nil) (by kernel_rfl) ?_
        exact pLoop (lW (ih _ _ h) ⟨rfl, rfl, rfl, rfl, rfl, rfl, rfl, trivial⟩ rfl)
    · refine wCF hp40 tm (s1 rfl) ?_
      refine wExit ?_
      refine pThenX ?_
      refine pThenX ?_
      refine pBlkX ?_
      exact pJ1 _ (so h) ⟨rfl, trivial⟩ rfl
  · rintro x39 rfl
    replace h := hk1
    refine pSeq ?_
    refine wSeq ?_
    refine rg (cp (oMv tm) (s1 rfl) <| cp (oAs tm) (s1 rfl) <| .nil) (by kernel_rfl) ?_
    refine pSeq ?_
    refine wFrzR (n := 0) (id := 1009) [8] rfl rfl ⟨rfl, trivial⟩ ?_
    refine wRet ?_
    obtain rfl := so h
    exact pR1 (.inl rfl) rfl (.tmp rfl <| .nil)

theorem reticentref24_Weaker.ok {a0 : List Int} {r : List (List Int)} (h : reticentref24_Weaker.f a0 = some r) : FnA Tryd.prog 70 [(kL (kI .i64)).sig a0] ((kL (kL (kI .i64))).sig r) := by
  refine fnIntro Tryd.func70 rfl (by kernel_rfl) fun H0 w0 => ?_
  unfold reticentref24_Weaker.f at h
  refine wSeq ?_
  refine rg (cp (oAs cV) trivial <| .nil) (by kernel_rfl) ?_
  refine pSeq ?_
  refine wSeq ?_
  refine rg (cp (oAs (cI (by decide))) trivial <| .nil) (by kernel_rfl) ?_
  refine pSeq ?_
  refine wSeq ?_
  refine rg (cp (oAs (cI (by decide))) trivial <| .nil) (by kernel_rfl) ?_
  refine pSeq ?_
  refine wSeq ?_
  refine wSeq ?_
  obtain ⟨y1, hy1, h⟩ := bd h
  refine rg (cp (oMv tm) (s1 rfl) <| cp (oCall rfl (reticentref04_Made.ok hy1) b113 (opds_cons tm opds_nil)) (s1 rfl) <| cp (oEq rfl tm (cI (by decide))) (s1 rfl) <| .nil) (by kernel_rfl) ?_
  refine pSeq ?_
  rcases ic h with ⟨hp2, h⟩ | ⟨hp2, h⟩
  · refine wCT hp2 tm (s1 rfl) ?_
    refine wSeq ?_
    refine rg (cp (oAs (cI (by decide))) trivial <| .nil) (by kernel_rfl) ?_
    refine pSeq ?_
    refine rg (cp (oAs (cI (by decide))) trivial <| .nil) (by kernel_rfl) ?_
    refine pSeq ?_
    refine wSeq ?_
    refine rg (cw (oLitR (id := 13) (d := (kL (kI .i64))) el111 (by decide) rfl rfl rfl e0) trivial <| cp (oAs tm) (s1 rfl) <| .nil) (by kernel_rfl) ?_
    refine pSeq ?_
    refine wSeq ?_
    refine wWeak (Γ' := [(0, .d ((kL (kI .i64)).sig a0)), (3, .d ((kI .i64).sig 6)), (4, .d ((kI .i64).sig 12)), (5, .v 13)]) ⟨rfl, rfl, rfl, rfl, trivial⟩ ?_
    refine wRen 13 1005 rfl ?_
    obtain ⟨o1, h, hk1⟩ := bd h
    refine wJ1 (fun x5 => x5 = o1) (fun x5 => [(0, .d ((kL (kI .i64)).sig a0)), (3, .d ((kI .i64).sig 6)), (4, .d ((kI .i64).sig 12)), (5, .v 1005), (23, .d (kB.sig x5))]) (fun x5 => [.row 1005 85 (kL (kI .i64)) ([] : List (List Int))]) ?_ ?_
    · rcases ic h with ⟨hp6, h⟩ | ⟨hp6, h⟩
      · obtain ⟨y7, hy7, h⟩ := bd h
        refine rg (cp (oMv tm) (s1 rfl) <| cp (oLenL u85 tm) (s1 rfl) <| cp (oNe rfl tm (cI (by decide))) (s1 rfl) <| cp (oMv tm) (s1 rfl) <| cgB (nf hp6) rfl rfl (oMv tm) (s1 rfl) <| cgB (nf hp6) rfl rfl (oIdx u85 z3 hy7 tm (cI (by decide))) (s1 rfl) <| cgB (nf hp6) rfl rfl (oLd t3 tm) (s1 rfl) <| cgB (nf hp6) rfl rfl (oMv tm) (s1 rfl) <| cgB (nf hp6) rfl rfl (oNe rfl tm tm) (s2 rfl rfl) <| cp (oPkF (nf hp6) tm tm) (s2 rfl rfl) <| .nil) (by kernel_rfl) ?_
        exact pJ1 _ (so h) ⟨rfl, rfl, rfl, rfl, rfl, trivial⟩ rfl
      · refine rg (cp (oMv tm) (s1 rfl) <| cp (oLenL u85 tm) (s1 rfl) <| cp (oNe rfl tm (cI (by decide))) (s1 rfl) <| cp (oMv tm) (s1 rfl) <| csB (nt hp6) rfl rfl <| csB (nt hp6) rfl rfl <| csB (nt hp6) rfl rfl <| csB (nt hp6) rfl rfl <| csB (nt hp6) rfl rfl <| cp (oPkT (nt hp6) tm cB) (s1 rfl) <| .nil) (by kernel_rfl) ?_
        exact pJ1 _ (so h) ⟨rfl, rfl, rfl, rfl, rfl, trivial⟩ rfl
    · rintro x5 rfl
      replace h := hk1
      rcases ic h with ⟨hp8, h⟩ | ⟨hp8, h⟩
      · refine wBT hp8 tm (s1 rfl) ?_
        obtain ⟨hc9, h⟩ := ib h
        refine rg (cp (oMv tm) (s1 rfl) <| cp (oMv tm) (s1 rfl) <| cp (oLit (d := (kI .i64)) el85 (by decide) rfl rfl rfl (e1 tm e0)) (s1 rfl) <| cp (oLit (d := (kL (kI .i64))) el111 (by decide) rfl rfl rfl (e1 tm e0)) (s1 rfl) <| cw (oApp (n := 0) (id' := 28) el111 (by decide) rfl (by decide) hc9 tm tm) (s2 rfl rfl) <| cp (oAs tm) (s1 rfl) <| .nil) (by kernel_rfl) ?_
        refine pSeq ?_
        refine wSeq ?_
        refine wSeq ?_
        refine rg (cp (oMv tm) (s1 rfl) <| cp (oLenL u85 tm) (s1 rfl) <| cp (oMv (cI (by decide))) trivial <| .nil) (by kernel_rfl) ?_
        refine pSeq ?_
        refine wWeak (Γ' := [(0, .d ((kL (kI .i64)).sig a0)), (4, .d ((kI .i64).sig 12)), (5, .v 28), (29, .d ((kL (kI .i64)).sig a0)), (30, .d ((kI .i64).sig (a0.length : Int))), (31, .d ((kI .i64).sig 0))]) ⟨rfl, rfl, rfl, rfl, rfl, rfl, trivial⟩ ?_
        refine wRen 28 1005 rfl ?_
        obtain ⟨o1, h, hk1⟩ := bd h
        refine wK1 (fun x48 => x48 = o1) (fun x48 => [(5, .v 1005)]) (fun x48 => [.row 1005 85 (kL (kI .i64)) x48]) ?_ ?_
        · refine wBlock (wLoop ?_)
          refine lW (pc2 o1 (fun v46 v47 => [(0, .d ((kL (kI .i64)).sig a0)), (4, .d ((kI .i64).sig 12)), (5, .v 1005), (29, .d ((kL (kI .i64)).sig a0)), (30, .d ((kI .i64).sig (a0.length : Int))), (31, .d ((kI .i64).sig v47))]) (fun v46 v47 => [.row 1005 85 (kL (kI .i64)) v46]) (reticentref24_Weaker.l0.partial_correctness a0) ?_ _ _ h) ⟨rfl, rfl, rfl, rfl, rfl, rfl, trivial⟩ rfl
          clear h
          intro f' ih v46 v47 h
          refine wSeq ?_
          refine rg (cp (oLt rfl tm tm) (s2 rfl rfl) <| .nil) (by kernel_rfl) ?_
          refine pSeq ?_
          refine wSeq ?_
          rcases ic h with ⟨hp49, h⟩ | ⟨hp49, h⟩
          · refine wCT hp49 tm (s1 rfl) ?_
            refine wSkip ?_
            refine pSeq ?_
            obtain ⟨o2, h, hk2⟩ := bd h
            refine wJ1 (fun x58 => x58 = o2) (fun x58 => [(0, .d ((kL (kI .i64)).sig a0)), (4, .d ((kI .i64).sig 12)), (5, .v 1005), (29, .d ((kL (kI .i64)).sig a0)), (30, .d ((kI .i64).sig (a0.length : Int))), (31, .d ((kI .i64).sig v47))]) (fun x58 => [.row 1005 85 (kL (kI .i64)) x58]) ?_ ?_
            · refine wBlock ?_
              refine wSeq ?_
              obtain ⟨y59, hy59, h⟩ := bd h
              refine rg (cp (oMv tm) (s1 rfl) <| cp (oIdx u85 z3 hy59 tm tm) (s2 rfl rfl) <| cp (oLd t3 tm) (s1 rfl) <| cp (oAs tm) (s1 rfl) <| cp (oAs tm) (s1 rfl) <| .nil) (by kernel_rfl) ?_
              refine pSeq ?_
              refine wSeq ?_
              refine rg (cp (oMv tm) (s1 rfl) <| cp (oMv tm) (s1 rfl) <| cp (oEq rfl tm tm) (s2 rfl rfl) <| .nil) (by kernel_rfl) ?_
              refine pSeq ?_
              rcases ic h with ⟨hp60, h⟩ | ⟨hp60, h⟩
              · refine wCT hp60 tm (s1 rfl) ?_
                refine wSeq ?_
                obtain ⟨y61, hy61, h⟩ := bd h
                refine rg (cp (oMv tm) (s1 rfl) <| cp (oMv tm) (s1 rfl) <| cp (oSub tm (cI (by decide))) (s1 rfl) <| cp (oCall rfl (reticentref24_from.ok hy61) b114 (opds_cons tm (opds_cons tm opds_nil))) (s2 rfl rfl) <| cp (oAs tm) (s1 rfl) <| .nil) (by kernel_rfl) ?_
                refine pSeq ?_
                refine wSeq ?_
                obtain ⟨y62, hy62, h⟩ := bd h
                refine rg (cp (oMv tm) (s1 rfl) <| cp (oMv tm) (s1 rfl) <| cp (oSub tm (cI (by decide))) (s1 rfl) <| cp (oCall rfl (reticentref24_from.ok hy62) b114 (opds_cons tm (opds_cons tm opds_nil))) (s2 rfl rfl) <| cp (oAs tm) (s1 rfl) <| .nil) (by kernel_rfl) ?_
                refine pSeq ?_
                refine wSeq ?_
                obtain ⟨y63, hy63, h⟩ := bd h
                obtain ⟨hc64, h⟩ := ib h
                refine rg (cp (oMv tm) (s1 rfl) <| cp (oMv tm) (s1 rfl) <| cp (oMv tm) (s1 rfl) <| cp (oMv tm) (s1 rfl) <| cp (oMv tm) (s1 rfl) <| cp (oCall rfl (reticentref24_but.ok hy63) b115 (opds_cons tm (opds_cons tm (opds_cons tm (opds_cons tm opds_nil))))) ⟨rfl, rfl, rfl, rfl, trivial⟩ <| cp (oLit (d := (kL (kI .i64))) el111 (by decide) rfl rfl rfl (e1 tm e0)) (s1 rfl) <| cw (oApp (n := 0) (id' := 54) el111 (by decide) rfl (by decide) hc64 tm tm) (s2 rfl rfl) <| cp (oAs tm) (s1 rfl) <| .nil) (by kernel_rfl) ?_
                refine pSeq ?_
                obtain ⟨y65, hy65, h⟩ := bd h
                obtain ⟨hc66, h⟩ := ib h
                refine rg (cp (oMv tm) (s1 rfl) <| cp (oMv tm) (s1 rfl) <| cp (oMv tm) (s1 rfl) <| cp (oMv tm) (s1 rfl) <| cp (oMv tm) (s1 rfl) <| cp (oCall rfl (reticentref24_but.ok hy65) b115 (opds_cons tm (opds_cons tm (opds_cons tm (opds_cons tm opds_nil))))) ⟨rfl, rfl, rfl, rfl, trivial⟩ <| cp (oLit (d := (kL (kI .i64))) el111 (by decide) rfl rfl rfl (e1 tm e0)) (s1 rfl) <| cw (oApp (n := 0) (id' := 62) el111 (by decide) rfl (by decide) hc66 tm tm) (s2 rfl rfl) <| cp (oAs tm) (s1 rfl) <| .nil) (by kernel_rfl) ?_
                refine pBlkN ?_
                refine pSub (Γ' := [(0, .d ((kL (kI .i64)).sig a0)), (4, .d ((kI .i64).sig 12)), (5, .v 62), (29, .d ((kL (kI .i64)).sig a0)), (30, .d ((kI .i64).sig (a0.length : Int))), (31, .d ((kI .i64).sig v47))]) ⟨rfl, rfl, rfl, rfl, rfl, rfl, trivial⟩ ?_
                refine pRen 62 1005 rfl ?_
                exact pJ1 _ (so h) ⟨rfl, rfl, rfl, rfl, rfl, rfl, trivial⟩ rfl
              · refine wCF hp60 tm (s1 rfl) ?_
                refine wSkip ?_
                refine pBlkN ?_
                exact pJ1 _ (so h) ⟨rfl, rfl, rfl, rfl, rfl, rfl, trivial⟩ rfl
            · rintro x58 rfl
              replace h := hk2
              refine rg (cp (oAdd tm (cI (by decide))) (s1 rfl) <| cp (oMv tm) (s1 rfl) <| .nil) (by kernel_rfl) ?_
              exact pLoop (lW (ih _ _ h) ⟨rfl, rfl, rfl, rfl, rfl, rfl, trivial⟩ rfl)
          · refine wCF hp49 tm (s1 rfl) ?_
            refine wExit ?_
            refine pThenX ?_
            refine pThenX ?_
            refine pBlkX ?_
            exact pJ1 _ (so h) ⟨rfl, trivial⟩ rfl
        · rintro x48 rfl
          replace h := hk1
          refine pSeq ?_
          refine wSeq ?_
          refine rg (cp (oMv tm) (s1 rfl) <| cp (oAs tm) (s1 rfl) <| .nil) (by kernel_rfl) ?_
          refine pSeq ?_
          refine wFrzR (n := 0) (id := 1005) [2] rfl rfl ⟨rfl, trivial⟩ ?_
          refine wRet ?_
          obtain rfl := so h
          exact pR1 (.inl rfl) rfl (.tmp rfl <| .nil)
      · refine wBF hp8 tm (s1 rfl) ?_
        refine wSkip ?_
        refine pSeq ?_
        refine wSeq ?_
        refine wSeq ?_
        refine rg (cp (oMv tm) (s1 rfl) <| cp (oLenL u85 tm) (s1 rfl) <| cp (oMv (cI (by decide))) trivial <| .nil) (by kernel_rfl) ?_
        refine pSeq ?_
        obtain ⟨o1, h, hk1⟩ := bd h
        refine wK1 (fun x105 => x105 = o1) (fun x105 => [(5, .v 1005)]) (fun x105 => [.row 1005 85 (kL (kI .i64)) x105]) ?_ ?_
        · refine wBlock (wLoop ?_)
          refine lW (pc2 o1 (fun v103 v104 => [(0, .d ((kL (kI .i64)).sig a0)), (4, .d ((kI .i64).sig 12)), (5, .v 1005), (29, .d ((kL (kI .i64)).sig a0)), (30, .d ((kI .i64).sig (a0.length : Int))), (31, .d ((kI .i64).sig v104))]) (fun v103 v104 => [.row 1005 85 (kL (kI .i64)) v103]) (reticentref24_Weaker.l1.partial_correctness a0) ?_ _ _ h) ⟨rfl, rfl, rfl, rfl, rfl, rfl, trivial⟩ rfl
          clear h
          intro f' ih v103 v104 h
          refine wSeq ?_
          refine rg (cp (oLt rfl tm tm) (s2 rfl rfl) <| .nil) (by kernel_rfl) ?_
          refine pSeq ?_
          refine wSeq ?_
          rcases ic h with ⟨hp106, h⟩ | ⟨hp106, h⟩
          · refine wCT hp106 tm (s1 rfl) ?_
            refine wSkip ?_
            refine pSeq ?_
            obtain ⟨o2, h, hk2⟩ := bd h
            refine wJ1 (fun x115 => x115 = o2) (fun x115 => [(0, .d ((kL (kI .i64)).sig a0)), (4, .d ((kI .i64).sig 12)), (5, .v 1005), (29, .d ((kL (kI .i64)).sig a0)), (30, .d ((kI .i64).sig (a0.length : Int))), (31, .d ((kI .i64).sig v104))]) (fun x115 => [.row 1005 85 (kL (kI .i64)) x115]) ?_ ?_
            · refine wBlock ?_
              refine wSeq ?_
              obtain ⟨y116, hy116, h⟩ := bd h
              refine rg (cp (oMv tm) (s1 rfl) <| cp (oIdx u85 z3 hy116 tm tm) (s2 rfl rfl) <| cp (oLd t3 tm) (s1 rfl) <| cp (oAs tm) (s1 rfl) <| cp (oAs tm) (s1 rfl) <| .nil) (by kernel_rfl) ?_
              refine pSeq ?_
              refine wSeq ?_
              refine rg (cp (oMv tm) (s1 rfl) <| cp (oMv tm) (s1 rfl) <| cp (oEq rfl tm tm) (s2 rfl rfl) <| .nil) (by kernel_rfl) ?_
              refine pSeq ?_
              rcases ic h with ⟨hp117, h⟩ | ⟨hp117, h⟩
              · refine wCT hp117 tm (s1 rfl) ?_
                refine wSeq ?_
                obtain ⟨y118, hy118, h⟩ := bd h
                refine rg (cp (oMv tm) (s1 rfl) <| cp (oMv tm) (s1 rfl) <| cp (oSub tm (cI (by decide))) (s1 rfl) <| cp (oCall rfl (reticentref24_from.ok hy118) b114 (opds_cons tm (opds_cons tm opds_nil))) (s2 rfl rfl) <| cp (oAs tm) (s1 rfl) <| .nil) (by kernel_rfl) ?_
                refine pSeq ?_
                refine wSeq ?_
                obtain ⟨y119, hy119, h⟩ := bd h
                refine rg (cp (oMv tm) (s1 rfl) <| cp (oMv tm) (s1 rfl) <| cp (oSub tm (cI (by decide))) (s1 rfl) <| cp (oCall rfl (reticentref24_from.ok hy119) b114 (opds_cons tm (opds_cons tm opds_nil))) (s2 rfl rfl) <| cp (oAs tm) (s1 rfl) <| .nil) (by kernel_rfl) ?_
                refine pSeq ?_
                refine wSeq ?_
                obtain ⟨y120, hy120, h⟩ := bd h
                obtain ⟨hc121, h⟩ := ib h
                refine rg (cp (oMv tm) (s1 rfl) <| cp (oMv tm) (s1 rfl) <| cp (oMv tm) (s1 rfl) <| cp (oMv tm) (s1 rfl) <| cp (oMv tm) (s1 rfl) <| cp (oCall rfl (reticentref24_but.ok hy120) b115 (opds_cons tm (opds_cons tm (opds_cons tm (opds_cons tm opds_nil))))) ⟨rfl, rfl, rfl, rfl, trivial⟩ <| cp (oLit (d := (kL (kI .i64))) el111 (by decide) rfl rfl rfl (e1 tm e0)) (s1 rfl) <| cw (oApp (n := 0) (id' := 54) el111 (by decide) rfl (by decide) hc121 tm tm) (s2 rfl rfl) <| cp (oAs tm) (s1 rfl) <| .nil) (by kernel_rfl) ?_
                refine pSeq ?_
                obtain ⟨y122, hy122, h⟩ := bd h
                obtain ⟨hc123, h⟩ := ib h
                refine rg (cp (oMv tm) (s1 rfl) <| cp (oMv tm) (s1 rfl) <| cp (oMv tm) (s1 rfl) <| cp (oMv tm) (s1 rfl) <| cp (oMv tm) (s1 rfl) <| cp (oCall rfl (reticentref24_but.ok hy122) b115 (opds_cons tm (opds_cons tm (opds_cons tm (opds_cons tm opds_nil))))) ⟨rfl, rfl, rfl, rfl, trivial⟩ <| cp (oLit (d := (kL (kI .i64))) el111 (by decide) rfl rfl rfl (e1 tm e0)) (s1 rfl) <| cw (oApp (n := 0) (id' := 62) el111 (by decide) rfl (by decide) hc123 tm tm) (s2 rfl rfl) <| cp (oAs tm) (s1 rfl) <| .nil) (by kernel_rfl) ?_
                refine pBlkN ?_
                refine pSub (Γ' := [(0, .d ((kL (kI .i64)).sig a0)), (4, .d ((kI .i64).sig 12)), (5, .v 62), (29, .d ((kL (kI .i64)).sig a0)), (30, .d ((kI .i64).sig (a0.length : Int))), (31, .d ((kI .i64).sig v104))]) ⟨rfl, rfl, rfl, rfl, rfl, rfl, trivial⟩ ?_
                refine pRen 62 1005 rfl ?_
                exact pJ1 _ (so h) ⟨rfl, rfl, rfl, rfl, rfl, rfl, trivial⟩ rfl
              · refine wCF hp117 tm (s1 rfl) ?_
                refine wSkip ?_
                refine pBlkN ?_
                exact pJ1 _ (so h) ⟨rfl, rfl, rfl, rfl, rfl, rfl, trivial⟩ rfl
            · rintro x115 rfl
              replace h := hk2
              refine rg (cp (oAdd tm (cI (by decide))) (s1 rfl) <| cp (oMv tm) (s1 rfl) <| .nil) (by kernel_rfl) ?_
              exact pLoop (lW (ih _ _ h) ⟨rfl, rfl, rfl, rfl, rfl, rfl, trivial⟩ rfl)
          · refine wCF hp106 tm (s1 rfl) ?_
            refine wExit ?_
            refine pThenX ?_
            refine pThenX ?_
            refine pBlkX ?_
            exact pJ1 _ (so h) ⟨rfl, trivial⟩ rfl
        · rintro x105 rfl
          replace h := hk1
          refine pSeq ?_
          refine wSeq ?_
          refine rg (cp (oMv tm) (s1 rfl) <| cp (oAs tm) (s1 rfl) <| .nil) (by kernel_rfl) ?_
          refine pSeq ?_
          refine wFrzR (n := 0) (id := 1005) [2] rfl rfl ⟨rfl, trivial⟩ ?_
          refine wRet ?_
          obtain rfl := so h
          exact pR1 (.inl rfl) rfl (.tmp rfl <| .nil)
  · refine wCF hp2 tm (s1 rfl) ?_
    refine wSkip ?_
    refine pSeq ?_
    refine wSeq ?_
    refine rg (cw (oLitR (id := 13) (d := (kL (kI .i64))) el111 (by decide) rfl rfl rfl e0) trivial <| cp (oAs tm) (s1 rfl) <| .nil) (by kernel_rfl) ?_
    refine pSeq ?_
    refine wSeq ?_
    refine wWeak (Γ' := [(0, .d ((kL (kI .i64)).sig a0)), (3, .d ((kI .i64).sig 1)), (4, .d ((kI .i64).sig 3)), (5, .v 13)]) ⟨rfl, rfl, rfl, rfl, trivial⟩ ?_
    refine wRen 13 1005 rfl ?_
    obtain ⟨o1, h, hk1⟩ := bd h
    refine wJ1 (fun x126 => x126 = o1) (fun x126 => [(0, .d ((kL (kI .i64)).sig a0)), (3, .d ((kI .i64).sig 1)), (4, .d ((kI .i64).sig 3)), (5, .v 1005), (23, .d (kB.sig x126))]) (fun x126 => [.row 1005 85 (kL (kI .i64)) ([] : List (List Int))]) ?_ ?_
    · rcases ic h with ⟨hp127, h⟩ | ⟨hp127, h⟩
      · obtain ⟨y128, hy128, h⟩ := bd h
        refine rg (cp (oMv tm) (s1 rfl) <| cp (oLenL u85 tm) (s1 rfl) <| cp (oNe rfl tm (cI (by decide))) (s1 rfl) <| cp (oMv tm) (s1 rfl) <| cgB (nf hp127) rfl rfl (oMv tm) (s1 rfl) <| cgB (nf hp127) rfl rfl (oIdx u85 z3 hy128 tm (cI (by decide))) (s1 rfl) <| cgB (nf hp127) rfl rfl (oLd t3 tm) (s1 rfl) <| cgB (nf hp127) rfl rfl (oMv tm) (s1 rfl) <| cgB (nf hp127) rfl rfl (oNe rfl tm tm) (s2 rfl rfl) <| cp (oPkF (nf hp127) tm tm) (s2 rfl rfl) <| .nil) (by kernel_rfl) ?_
        exact pJ1 _ (so h) ⟨rfl, rfl, rfl, rfl, rfl, trivial⟩ rfl
      · refine rg (cp (oMv tm) (s1 rfl) <| cp (oLenL u85 tm) (s1 rfl) <| cp (oNe rfl tm (cI (by decide))) (s1 rfl) <| cp (oMv tm) (s1 rfl) <| csB (nt hp127) rfl rfl <| csB (nt hp127) rfl rfl <| csB (nt hp127) rfl rfl <| csB (nt hp127) rfl rfl <| csB (nt hp127) rfl rfl <| cp (oPkT (nt hp127) tm cB) (s1 rfl) <| .nil) (by kernel_rfl) ?_
        exact pJ1 _ (so h) ⟨rfl, rfl, rfl, rfl, rfl, trivial⟩ rfl
    · rintro x126 rfl
      replace h := hk1
      rcases ic h with ⟨hp129, h⟩ | ⟨hp129, h⟩
      · refine wBT hp129 tm (s1 rfl) ?_
        obtain ⟨hc130, h⟩ := ib h
        refine rg (cp (oMv tm) (s1 rfl) <| cp (oMv tm) (s1 rfl) <| cp (oLit (d := (kI .i64)) el85 (by decide) rfl rfl rfl (e1 tm e0)) (s1 rfl) <| cp (oLit (d := (kL (kI .i64))) el111 (by decide) rfl rfl rfl (e1 tm e0)) (s1 rfl) <| cw (oApp (n := 0) (id' := 28) el111 (by decide) rfl (by decide) hc130 tm tm) (s2 rfl rfl) <| cp (oAs tm) (s1 rfl) <| .nil) (by kernel_rfl) ?_
        refine pSeq ?_
        refine wSeq ?_
        refine wSeq ?_
        refine rg (cp (oMv tm) (s1 rfl) <| cp (oLenL u85 tm) (s1 rfl) <| cp (oMv (cI (by decide))) trivial <| .nil) (by kernel_rfl) ?_
        refine pSeq ?_
        refine wWeak (Γ' := [(0, .d ((kL (kI .i64)).sig a0)), (4, .d ((kI .i64).sig 3)), (5, .v 28), (29, .d ((kL (kI .i64)).sig a0)), (30, .d ((kI .i64).sig (a0.length : Int))), (31, .d ((kI .i64).sig 0))]) ⟨rfl, rfl, rfl, rfl, rfl, rfl, trivial⟩ ?_
        refine wRen 28 1005 rfl ?_
        obtain ⟨o1, h, hk1⟩ := bd h
        refine wK1 (fun x169 => x169 = o1) (fun x169 => [(5, .v 1005)]) (fun x169 => [.row 1005 85 (kL (kI .i64)) x169]) ?_ ?_
        · refine wBlock (wLoop ?_)
          refine lW (pc2 o1 (fun v167 v168 => [(0, .d ((kL (kI .i64)).sig a0)), (4, .d ((kI .i64).sig 3)), (5, .v 1005), (29, .d ((kL (kI .i64)).sig a0)), (30, .d ((kI .i64).sig (a0.length : Int))), (31, .d ((kI .i64).sig v168))]) (fun v167 v168 => [.row 1005 85 (kL (kI .i64)) v167]) (reticentref24_Weaker.l2.partial_correctness a0) ?_ _ _ h) ⟨rfl, rfl, rfl, rfl, rfl, rfl, trivial⟩ rfl
          clear h
          intro f' ih v167 v168 h
          refine wSeq ?_
          refine rg (cp (oLt rfl tm tm) (s2 rfl rfl) <| .nil) (by kernel_rfl) ?_
          refine pSeq ?_
          refine wSeq ?_
          rcases ic h with ⟨hp170, h⟩ | ⟨hp170, h⟩
          · refine wCT hp170 tm (s1 rfl) ?_
            refine wSkip ?_
            refine pSeq ?_
            obtain ⟨o2, h, hk2⟩ := bd h
            refine wJ1 (fun x179 => x179 = o2) (fun x179 => [(0, .d ((kL (kI .i64)).sig a0)), (4, .d ((kI .i64).sig 3)), (5, .v 1005), (29, .d ((kL (kI .i64)).sig a0)), (30, .d ((kI .i64).sig (a0.length : Int))), (31, .d ((kI .i64).sig v168))]) (fun x179 => [.row 1005 85 (kL (kI .i64)) x179]) ?_ ?_
            · refine wBlock ?_
              refine wSeq ?_
              obtain ⟨y180, hy180, h⟩ := bd h
              refine rg (cp (oMv tm) (s1 rfl) <| cp (oIdx u85 z3 hy180 tm tm) (s2 rfl rfl) <| cp (oLd t3 tm) (s1 rfl) <| cp (oAs tm) (s1 rfl) <| cp (oAs tm) (s1 rfl) <| .nil) (by kernel_rfl) ?_
              refine pSeq ?_
              refine wSeq ?_
              refine rg (cp (oMv tm) (s1 rfl) <| cp (oMv tm) (s1 rfl) <| cp (oEq rfl tm tm) (s2 rfl rfl) <| .nil) (by kernel_rfl) ?_
              refine pSeq ?_
              rcases ic h with ⟨hp181, h⟩ | ⟨hp181, h⟩
              · refine wCT hp181 tm (s1 rfl) ?_
                refine wSeq ?_
                obtain ⟨y182, hy182, h⟩ := bd h
                refine rg (cp (oMv tm) (s1 rfl) <| cp (oMv tm) (s1 rfl) <| cp (oSub tm (cI (by decide))) (s1 rfl) <| cp (oCall rfl (reticentref24_from.ok hy182) b114 (opds_cons tm (opds_cons tm opds_nil))) (s2 rfl rfl) <| cp (oAs tm) (s1 rfl) <| .nil) (by kernel_rfl) ?_
                refine pSeq ?_
                refine wSeq ?_
                obtain ⟨y183, hy183, h⟩ := bd h
                refine rg (cp (oMv tm) (s1 rfl) <| cp (oMv tm) (s1 rfl) <| cp (oSub tm (cI (by decide))) (s1 rfl) <| cp (oCall rfl (reticentref24_from.ok hy183) b114 (opds_cons tm (opds_cons tm opds_nil))) (s2 rfl rfl) <| cp (oAs tm) (s1 rfl) <| .nil) (by kernel_rfl) ?_
                refine pSeq ?_
                refine wSeq ?_
                obtain ⟨y184, hy184, h⟩ := bd h
                obtain ⟨hc185, h⟩ := ib h
                refine rg (cp (oMv tm) (s1 rfl) <| cp (oMv tm) (s1 rfl) <| cp (oMv tm) (s1 rfl) <| cp (oMv tm) (s1 rfl) <| cp (oMv tm) (s1 rfl) <| cp (oCall rfl (reticentref24_but.ok hy184) b115 (opds_cons tm (opds_cons tm (opds_cons tm (opds_cons tm opds_nil))))) ⟨rfl, rfl, rfl, rfl, trivial⟩ <| cp (oLit (d := (kL (kI .i64))) el111 (by decide) rfl rfl rfl (e1 tm e0)) (s1 rfl) <| cw (oApp (n := 0) (id' := 54) el111 (by decide) rfl (by decide) hc185 tm tm) (s2 rfl rfl) <| cp (oAs tm) (s1 rfl) <| .nil) (by kernel_rfl) ?_
                refine pSeq ?_
                obtain ⟨y186, hy186, h⟩ := bd h
                obtain ⟨hc187, h⟩ := ib h
                refine rg (cp (oMv tm) (s1 rfl) <| cp (oMv tm) (s1 rfl) <| cp (oMv tm) (s1 rfl) <| cp (oMv tm) (s1 rfl) <| cp (oMv tm) (s1 rfl) <| cp (oCall rfl (reticentref24_but.ok hy186) b115 (opds_cons tm (opds_cons tm (opds_cons tm (opds_cons tm opds_nil))))) ⟨rfl, rfl, rfl, rfl, trivial⟩ <| cp (oLit (d := (kL (kI .i64))) el111 (by decide) rfl rfl rfl (e1 tm e0)) (s1 rfl) <| cw (oApp (n := 0) (id' := 62) el111 (by decide) rfl (by decide) hc187 tm tm) (s2 rfl rfl) <| cp (oAs tm) (s1 rfl) <| .nil) (by kernel_rfl) ?_
                refine pBlkN ?_
                refine pSub (Γ' := [(0, .d ((kL (kI .i64)).sig a0)), (4, .d ((kI .i64).sig 3)), (5, .v 62), (29, .d ((kL (kI .i64)).sig a0)), (30, .d ((kI .i64).sig (a0.length : Int))), (31, .d ((kI .i64).sig v168))]) ⟨rfl, rfl, rfl, rfl, rfl, rfl, trivial⟩ ?_
                refine pRen 62 1005 rfl ?_
                exact pJ1 _ (so h) ⟨rfl, rfl, rfl, rfl, rfl, rfl, trivial⟩ rfl
              · refine wCF hp181 tm (s1 rfl) ?_
                refine wSkip ?_
                refine pBlkN ?_
                exact pJ1 _ (so h) ⟨rfl, rfl, rfl, rfl, rfl, rfl, trivial⟩ rfl
            · rintro x179 rfl
              replace h := hk2
              refine rg (cp (oAdd tm (cI (by decide))) (s1 rfl) <| cp (oMv tm) (s1 rfl) <| .nil) (by kernel_rfl) ?_
              exact pLoop (lW (ih _ _ h) ⟨rfl, rfl, rfl, rfl, rfl, rfl, trivial⟩ rfl)
          · refine wCF hp170 tm (s1 rfl) ?_
            refine wExit ?_
            refine pThenX ?_
            refine pThenX ?_
            refine pBlkX ?_
            exact pJ1 _ (so h) ⟨rfl, trivial⟩ rfl
        · rintro x169 rfl
          replace h := hk1
          refine pSeq ?_
          refine wSeq ?_
          refine rg (cp (oMv tm) (s1 rfl) <| cp (oAs tm) (s1 rfl) <| .nil) (by kernel_rfl) ?_
          refine pSeq ?_
          refine wFrzR (n := 0) (id := 1005) [2] rfl rfl ⟨rfl, trivial⟩ ?_
          refine wRet ?_
          obtain rfl := so h
          exact pR1 (.inl rfl) rfl (.tmp rfl <| .nil)
      · refine wBF hp129 tm (s1 rfl) ?_
        refine wSkip ?_
        refine pSeq ?_
        refine wSeq ?_
        refine wSeq ?_
        refine rg (cp (oMv tm) (s1 rfl) <| cp (oLenL u85 tm) (s1 rfl) <| cp (oMv (cI (by decide))) trivial <| .nil) (by kernel_rfl) ?_
        refine pSeq ?_
        obtain ⟨o1, h, hk1⟩ := bd h
        refine wK1 (fun x226 => x226 = o1) (fun x226 => [(5, .v 1005)]) (fun x226 => [.row 1005 85 (kL (kI .i64)) x226]) ?_ ?_
        · refine wBlock (wLoop ?_)
          refine lW (pc2 o1 (fun v224 v225 => [(0, .d ((kL (kI .i64)).sig a0)), (4, .d ((kI .i64).sig 3)), (5, .v 1005), (29, .d ((kL (kI .i64)).sig a0)), (30, .d ((kI .i64).sig (a0.length : Int))), (31, .d ((kI .i64).sig v225))]) (fun v224 v225 => [.row 1005 85 (kL (kI .i64)) v224]) (reticentref24_Weaker.l3.partial_correctness a0) ?_ _ _ h) ⟨rfl, rfl, rfl, rfl, rfl, rfl, trivial⟩ rfl
          clear h
          intro f' ih v224 v225 h
          refine wSeq ?_
          refine rg (cp (oLt rfl tm tm) (s2 rfl rfl) <| .nil) (by kernel_rfl) ?_
          refine pSeq ?_
          refine wSeq ?_
          rcases ic h with ⟨hp227, h⟩ | ⟨hp227, h⟩
          · refine wCT hp227 tm (s1 rfl) ?_
            refine wSkip ?_
            refine pSeq ?_
            obtain ⟨o2, h, hk2⟩ := bd h
            refine wJ1 (fun x236 => x236 = o2) (fun x236 => [(0, .d ((kL (kI .i64)).sig a0)), (4, .d ((kI .i64).sig 3)), (5, .v 1005), (29, .d ((kL (kI .i64)).sig a0)), (30, .d ((kI .i64).sig (a0.length : Int))), (31, .d ((kI .i64).sig v225))]) (fun x236 => [.row 1005 85 (kL (kI .i64)) x236]) ?_ ?_
            · refine wBlock ?_
              refine wSeq ?_
              obtain ⟨y237, hy237, h⟩ := bd h
              refine rg (cp (oMv tm) (s1 rfl) <| cp (oIdx u85 z3 hy237 tm tm) (s2 rfl rfl) <| cp (oLd t3 tm) (s1 rfl) <| cp (oAs tm) (s1 rfl) <| cp (oAs tm) (s1 rfl) <| .nil) (by kernel_rfl) ?_
              refine pSeq ?_
              refine wSeq ?_
              refine rg (cp (oMv tm) (s1 rfl) <| cp (oMv tm) (s1 rfl) <| cp (oEq rfl tm tm) (s2 rfl rfl) <| .nil) (by kernel_rfl) ?_
              refine pSeq ?_
              rcases ic h with ⟨hp238, h⟩ | ⟨hp238, h⟩
              · refine wCT hp238 tm (s1 rfl) ?_
                refine wSeq ?_
                obtain ⟨y239, hy239, h⟩ := bd h
                refine rg (cp (oMv tm) (s1 rfl) <| cp (oMv tm) (s1 rfl) <| cp (oSub tm (cI (by decide))) (s1 rfl) <| cp (oCall rfl (reticentref24_from.ok hy239) b114 (opds_cons tm (opds_cons tm opds_nil))) (s2 rfl rfl) <| cp (oAs tm) (s1 rfl) <| .nil) (by kernel_rfl) ?_
                refine pSeq ?_
                refine wSeq ?_
                obtain ⟨y240, hy240, h⟩ := bd h
                refine rg (cp (oMv tm) (s1 rfl) <| cp (oMv tm) (s1 rfl) <| cp (oSub tm (cI (by decide))) (s1 rfl) <| cp (oCall rfl (reticentref24_from.ok hy240) b114 (opds_cons tm (opds_cons tm opds_nil))) (s2 rfl rfl) <| cp (oAs tm) (s1 rfl) <| .nil) (by kernel_rfl) ?_
                refine pSeq ?_
                refine wSeq ?_
                obtain ⟨y241, hy241, h⟩ := bd h
                obtain ⟨hc242, h⟩ := ib h
                refine rg (cp (oMv tm) (s1 rfl) <| cp (oMv tm) (s1 rfl) <| cp (oMv tm) (s1 rfl) <| cp (oMv tm) (s1 rfl) <| cp (oMv tm) (s1 rfl) <| cp (oCall rfl (reticentref24_but.ok hy241) b115 (opds_cons tm (opds_cons tm (opds_cons tm (opds_cons tm opds_nil))))) ⟨rfl, rfl, rfl, rfl, trivial⟩ <| cp (oLit (d := (kL (kI .i64))) el111 (by decide) rfl rfl rfl (e1 tm e0)) (s1 rfl) <| cw (oApp (n := 0) (id' := 54) el111 (by decide) rfl (by decide) hc242 tm tm) (s2 rfl rfl) <| cp (oAs tm) (s1 rfl) <| .nil) (by kernel_rfl) ?_
                refine pSeq ?_
                obtain ⟨y243, hy243, h⟩ := bd h
                obtain ⟨hc244, h⟩ := ib h
                refine rg (cp (oMv tm) (s1 rfl) <| cp (oMv tm) (s1 rfl) <| cp (oMv tm) (s1 rfl) <| cp (oMv tm) (s1 rfl) <| cp (oMv tm) (s1 rfl) <| cp (oCall rfl (reticentref24_but.ok hy243) b115 (opds_cons tm (opds_cons tm (opds_cons tm (opds_cons tm opds_nil))))) ⟨rfl, rfl, rfl, rfl, trivial⟩ <| cp (oLit (d := (kL (kI .i64))) el111 (by decide) rfl rfl rfl (e1 tm e0)) (s1 rfl) <| cw (oApp (n := 0) (id' := 62) el111 (by decide) rfl (by decide) hc244 tm tm) (s2 rfl rfl) <| cp (oAs tm) (s1 rfl) <| .nil) (by kernel_rfl) ?_
                refine pBlkN ?_
                refine pSub (Γ' := [(0, .d ((kL (kI .i64)).sig a0)), (4, .d ((kI .i64).sig 3)), (5, .v 62), (29, .d ((kL (kI .i64)).sig a0)), (30, .d ((kI .i64).sig (a0.length : Int))), (31, .d ((kI .i64).sig v225))]) ⟨rfl, rfl, rfl, rfl, rfl, rfl, trivial⟩ ?_
                refine pRen 62 1005 rfl ?_
                exact pJ1 _ (so h) ⟨rfl, rfl, rfl, rfl, rfl, rfl, trivial⟩ rfl
              · refine wCF hp238 tm (s1 rfl) ?_
                refine wSkip ?_
                refine pBlkN ?_
                exact pJ1 _ (so h) ⟨rfl, rfl, rfl, rfl, rfl, rfl, trivial⟩ rfl
            · rintro x236 rfl
              replace h := hk2
              refine rg (cp (oAdd tm (cI (by decide))) (s1 rfl) <| cp (oMv tm) (s1 rfl) <| .nil) (by kernel_rfl) ?_
              exact pLoop (lW (ih _ _ h) ⟨rfl, rfl, rfl, rfl, rfl, rfl, trivial⟩ rfl)
          · refine wCF hp227 tm (s1 rfl) ?_
            refine wExit ?_
            refine pThenX ?_
            refine pThenX ?_
            refine pBlkX ?_
            exact pJ1 _ (so h) ⟨rfl, trivial⟩ rfl
        · rintro x226 rfl
          replace h := hk1
          refine pSeq ?_
          refine wSeq ?_
          refine rg (cp (oMv tm) (s1 rfl) <| cp (oAs tm) (s1 rfl) <| .nil) (by kernel_rfl) ?_
          refine pSeq ?_
          refine wFrzR (n := 0) (id := 1005) [2] rfl rfl ⟨rfl, trivial⟩ ?_
          refine wRet ?_
          obtain rfl := so h
          exact pR1 (.inl rfl) rfl (.tmp rfl <| .nil)

theorem reticentref06_Word.ok {a0 : Int} {r : Str} (h : reticentref06_Word.f a0 = some r) : FnA Tryd.prog 24 [(kI .i64).sig a0] (kS.sig r) := by
  refine fnIntro Tryd.func24 rfl (by kernel_rfl) fun H0 w0 => ?_
  unfold reticentref06_Word.f at h
  refine wSeq ?_
  refine rg (cp (oAs (cS (by decide))) trivial <| .nil) (by kernel_rfl) ?_
  refine pSeq ?_
  refine wSeq ?_
  obtain ⟨y1, hy1, h⟩ := bd h
  refine rg (cp (oLit (d := kS) el56 (by decide) rfl rfl rfl (e1 (cS (by decide)) (e1 (cS (by decide)) (e1 (cS (by decide)) (e1 (cS (by decide)) (e1 (cS (by decide)) (e1 (cS (by decide)) (e1 (cS (by decide)) (e1 (cS (by decide)) (e1 (cS (by decide)) (e1 (cS (by decide)) (e1 (cS (by decide)) (e1 (cS (by decide)) (e1 (cS (by decide)) e0)))))))))))))) trivial <| cp (oMv tm) (s1 rfl) <| cp (oIdx u56 z9 hy1 tm tm) (s2 rfl rfl) <| cp (oLd t9 tm) (s1 rfl) <| cp (oAs tm) (s1 rfl) <| .nil) (by kernel_rfl) ?_
  refine pSeq ?_
  refine wRet ?_
  obtain rfl := so h
  exact pR1 (.inl rfl) rfl (.tmp rfl <| .nil)

theorem reticentref24_with.ok {a0 : api_Table} {a1 : Int} {a2 : Int} {a3 : List Int} {r : api_Table} (h : reticentref24_with.f a0 a1 a2 a3 = some r) : FnA Tryd.prog 71 [(kR f_api_Table).sig a0, (kI .i64).sig a1, (kI .i64).sig a2, (kL (kI .i64)).sig a3] ((kR f_api_Table).sig r) := by
  refine fnIntro Tryd.func71 rfl (by kernel_rfl) fun H0 w0 => ?_
  unfold reticentref24_with.f at h
  refine wSeq ?_
  refine rg (cp (oBox tm) (s1 rfl) <| cw (oAlloc (id := 8) (ls := [.d (kN api_Row) []]) ze24 (fun g => ⟨[(.slice none 0 0)], _, rfl, zN g.H, rfl⟩)) trivial <| .nil) (by kernel_rfl) ?_
  refine pSeq ?_
  refine wSeq ?_
  refine rg (cp (oBuild (fs := f_api_Table_n0) (u := ⟨[]⟩) rfl ze24 pl24 po24_0 (.ze (zc := [(.slice none 0 0)]) zN .nil)) trivial <| cw (oAlloc (id := 9) (ls := [.d (kN api_Row) []]) ze24 (fun g => ⟨[(.slice none 0 0)], _, rfl, zN g.H, rfl⟩)) trivial <| cwn (oStA (n := 0) (fs := f_api_Table_n0) rfl rfl z24 tm tm) (s2 rfl rfl) <| .nil) (by kernel_rfl) ?_
  refine pSeq ?_
  refine wSeq ?_
  refine wSeq ?_
  refine rg (cp (oFld (fs := f_api_Table) (k := 0) rfl o24_0 tm) (s1 rfl) <| cp (oLd t22 tm) (s1 rfl) <| cp (oLenL u22 tm) (s1 rfl) <| cp (oMv (cI (by decide))) trivial <| .nil) (by kernel_rfl) ?_
  refine pSeq ?_
  refine wNilL (kR f_api_Row) 87 5450 (n := 0) (k := 0) rfl rfl rfl ?_
  obtain ⟨o1, h, hk1⟩ := bd h
  refine wK1 (fun x155 => x155 = o1) (fun x155 => [(8, .p 8 0), (9, .p 9 0)]) (fun x155 => [.row 5450 87 (kR f_api_Row) x155, .box 9 24 [.v 5450], .box 8 24 [.d (kN api_Row) []]]) ?_ ?_
  · refine wBlock (wLoop ?_)
    refine lW (pc2 o1 (fun v153 v154 => [(1, .d ((kI .i64).sig a1)), (2, .d ((kI .i64).sig a2)), (3, .d ((kL (kI .i64)).sig a3)), (8, .p 8 0), (9, .p 9 0), (14, .d ((kL (kR f_api_Row)).sig a0.Rows)), (15, .d ((kI .i64).sig (a0.Rows.length : Int))), (16, .d ((kI .i64).sig v154))]) (fun v153 v154 => [.row 5450 87 (kR f_api_Row) v153, .box 9 24 [.v 5450], .box 8 24 [.d (kN api_Row) []]]) (reticentref24_with.l0.partial_correctness a0 a1 a2 a3) ?_ _ _ h) ⟨rfl, rfl, rfl, rfl, rfl, rfl, rfl, rfl, trivial⟩ rfl
    clear h
    intro f' ih v153 v154 h
    refine wSeq ?_
    refine rg (cp (oLt rfl tm tm) (s2 rfl rfl) <| .nil) (by kernel_rfl) ?_
    refine pSeq ?_
    refine wSeq ?_
    rcases ic h with ⟨hp156, h⟩ | ⟨hp156, h⟩
    · refine wCT hp156 tm (s1 rfl) ?_
      refine wSkip ?_
      refine pSeq ?_
      obtain ⟨o2, h, hk2⟩ := bd h
      refine wJ1 (fun x194 => x194 = o2) (fun x194 => [(1, .d ((kI .i64).sig a1)), (2, .d ((kI .i64).sig a2)), (3, .d ((kL (kI .i64)).sig a3)), (8, .p 8 0), (9, .p 9 0), (14, .d ((kL (kR f_api_Row)).sig a0.Rows)), (15, .d ((kI .i64).sig (a0.Rows.length : Int))), (16, .d ((kI .i64).sig v154))]) (fun x194 => [.row 5450 87 (kR f_api_Row) x194, .box 9 24 [.v 5450], .box 8 24 [.d (kN api_Row) []]]) ?_ ?_
      · refine wBlock ?_
        refine wSeq ?_
        obtain ⟨y195, hy195, h⟩ := bd h
        refine rg (cp (oMv tm) (s1 rfl) <| cp (oIdx u22 z87 hy195 tm tm) (s2 rfl rfl) <| cp (oLd t87 tm) (s1 rfl) <| cw (oAlloc (id := 11) (ls := [.d (kL (kI .i64)) [], .d (kL (kI .i64)) [], .d (kL (kI .i64)) []]) ze87 (fun g => ⟨[(.slice none 0 0)], _, rfl, zL g.H, ⟨[(.slice none 0 0)], _, rfl, zL g.H, ⟨[(.slice none 0 0)], _, rfl, zL g.H, rfl⟩⟩⟩)) trivial <| cp (oAs tm) (s1 rfl) <| cwn (oStA (n := 0) (fs := f_api_Row) rfl rfl z87 tm tm) (s2 rfl rfl) <| .nil) (by kernel_rfl) ?_
        refine pSeq ?_
        refine wSeq ?_
        obtain ⟨o3, h, hk3⟩ := bd h
        refine wJ1 (fun x197 => x197 = o3) (fun x197 => [(1, .d ((kI .i64).sig a1)), (2, .d ((kI .i64).sig a2)), (3, .d ((kL (kI .i64)).sig a3)), (8, .p 8 0), (9, .p 9 0), (10, .d ((kI .i64).sig v154)), (11, .p 11 0), (14, .d ((kL (kR f_api_Row)).sig a0.Rows)), (15, .d ((kI .i64).sig (a0.Rows.length : Int))), (16, .d ((kI .i64).sig v154)), (27, .d (kB.sig x197))]) (fun x197 => [.box 11 87 [.d (kL (kI .i64)) y195.May, .d (kL (kI .i64)) y195.Res, .d (kL (kI .i64)) y195.Pc], .row 5450 87 (kR f_api_Row) v153, .box 9 24 [.v 5450], .box 8 24 [.d (kN api_Row) []]]) ?_ ?_
        · rcases ic h with ⟨hp198, h⟩ | ⟨hp198, h⟩
          · refine rg (cp (oMv tm) (s1 rfl) <| cp (oMv tm) (s1 rfl) <| cp (oEq rfl tm tm) (s2 rfl rfl) <| cp (oMv tm) (s1 rfl) <| cgB (decide_eq_true hp198) rfl rfl (oMv tm) (s1 rfl) <| cgB (decide_eq_true hp198) rfl rfl (oEq rfl tm (cI (by decide))) (s1 rfl) <| cp (oPkT (decide_eq_true hp198) tm tm) (s2 rfl rfl) <| .nil) (by kernel_rfl) ?_
            exact pJ1 _ (so h) ⟨rfl, rfl, rfl, rfl, rfl, rfl, rfl, rfl, rfl, rfl, rfl, trivial⟩ rfl
          · refine rg (cp (oMv tm) (s1 rfl) <| cp (oMv tm) (s1 rfl) <| cp (oEq rfl tm tm) (s2 rfl rfl) <| cp (oMv tm) (s1 rfl) <| csB (decide_eq_false hp198) rfl rfl <| csB (decide_eq_false hp198) rfl rfl <| cp (oPkF (decide_eq_false hp198) tm cB) (s1 rfl) <| .nil) (by kernel_rfl) ?_
            exact pJ1 _ (so h) ⟨rfl, rfl, rfl, rfl, rfl, rfl, rfl, rfl, rfl, rfl, rfl, trivial⟩ rfl
        · rintro x197 rfl
          replace h := hk3
          rcases ic h with ⟨hp199, h⟩ | ⟨hp199, h⟩
          · refine wBT hp199 tm (s1 rfl) ?_
            refine rg (cp (oMv tm) (s1 rfl) <| cp (oFldP o87_0 tm) (s1 rfl) <| cwn (oSt (n := 0) (k := 0) rfl rfl rfl rfl z85 tm tm) (s2 rfl rfl) <| .nil) (by kernel_rfl) ?_
            refine pSeq ?_
            refine wSeq ?_
            obtain ⟨o3, h, hk3⟩ := bd h
            refine wJ1 (fun x201 => x201 = o3) (fun x201 => [(1, .d ((kI .i64).sig a1)), (2, .d ((kI .i64).sig a2)), (3, .d ((kL (kI .i64)).sig a3)), (8, .p 8 0), (9, .p 9 0), (10, .d ((kI .i64).sig v154)), (11, .p 11 0), (14, .d ((kL (kR f_api_Row)).sig a0.Rows)), (15, .d ((kI .i64).sig (a0.Rows.length : Int))), (16, .d ((kI .i64).sig v154)), (36, .d (kB.sig x201))]) (fun x201 => [.box 11 87 [.d (kL (kI .i64)) a3, .d (kL (kI .i64)) y195.Res, .d (kL (kI .i64)) y195.Pc], .row 5450 87 (kR f_api_Row) v153, .box 9 24 [.v 5450], .box 8 24 [.d (kN api_Row) []]]) ?_ ?_
            · rcases ic h with ⟨hp202, h⟩ | ⟨hp202, h⟩
              · refine rg (cp (oMv tm) (s1 rfl) <| cp (oMv tm) (s1 rfl) <| cp (oEq rfl tm tm) (s2 rfl rfl) <| cp (oMv tm) (s1 rfl) <| cgB (decide_eq_true hp202) rfl rfl (oMv tm) (s1 rfl) <| cgB (decide_eq_true hp202) rfl rfl (oEq rfl tm (cI (by decide))) (s1 rfl) <| cp (oPkT (decide_eq_true hp202) tm tm) (s2 rfl rfl) <| .nil) (by kernel_rfl) ?_
                exact pJ1 _ (so h) ⟨rfl, rfl, rfl, rfl, rfl, rfl, rfl, rfl, rfl, rfl, rfl, trivial⟩ rfl
              · refine rg (cp (oMv tm) (s1 rfl) <| cp (oMv tm) (s1 rfl) <| cp (oEq rfl tm tm) (s2 rfl rfl) <| cp (oMv tm) (s1 rfl) <| csB (decide_eq_false hp202) rfl rfl <| csB (decide_eq_false hp202) rfl rfl <| cp (oPkF (decide_eq_false hp202) tm cB) (s1 rfl) <| .nil) (by kernel_rfl) ?_
                exact pJ1 _ (so h) ⟨rfl, rfl, rfl, rfl, rfl, rfl, rfl, rfl, rfl, rfl, rfl, trivial⟩ rfl
            · rintro x201 rfl
              replace h := hk3
              rcases ic h with ⟨hp203, h⟩ | ⟨hp203, h⟩
              · refine wBT hp203 tm (s1 rfl) ?_
                refine rg (cp (oMv tm) (s1 rfl) <| cp (oFldP o87_1 tm) (s1 rfl) <| cwn (oSt (n := 0) (k := 1) rfl rfl rfl rfl z85 tm tm) (s2 rfl rfl) <| .nil) (by kernel_rfl) ?_
                refine pSeq ?_
                refine wSeq ?_
                obtain ⟨o3, h, hk3⟩ := bd h
                refine wJ1 (fun x205 => x205 = o3) (fun x205 => [(1, .d ((kI .i64).sig a1)), (2, .d ((kI .i64).sig a2)), (3, .d ((kL (kI .i64)).sig a3)), (8, .p 8 0), (9, .p 9 0), (11, .p 11 0), (14, .d ((kL (kR f_api_Row)).sig a0.Rows)), (15, .d ((kI .i64).sig (a0.Rows.length : Int))), (16, .d ((kI .i64).sig v154)), (45, .d (kB.sig x205))]) (fun x205 => [.box 11 87 [.d (kL (kI .i64)) a3, .d (kL (kI .i64)) a3, .d (kL (kI .i64)) y195.Pc], .row 5450 87 (kR f_api_Row) v153, .box 9 24 [.v 5450], .box 8 24 [.d (kN api_Row) []]]) ?_ ?_
                · rcases ic h with ⟨hp206, h⟩ | ⟨hp206, h⟩
                  · refine rg (cp (oMv tm) (s1 rfl) <| cp (oMv tm) (s1 rfl) <| cp (oEq rfl tm tm) (s2 rfl rfl) <| cp (oMv tm) (s1 rfl) <| cgB (decide_eq_true hp206) rfl rfl (oMv tm) (s1 rfl) <| cgB (decide_eq_true hp206) rfl rfl (oEq rfl tm (cI (by decide))) (s1 rfl) <| cp (oPkT (decide_eq_true hp206) tm tm) (s2 rfl rfl) <| .nil) (by kernel_rfl) ?_
                    exact pJ1 _ (so h) ⟨rfl, rfl, rfl, rfl, rfl, rfl, rfl, rfl, rfl, rfl, trivial⟩ rfl
                  · refine rg (cp (oMv tm) (s1 rfl) <| cp (oMv tm) (s1 rfl) <| cp (oEq rfl tm tm) (s2 rfl rfl) <| cp (oMv tm) (s1 rfl) <| csB (decide_eq_false hp206) rfl rfl <| csB (decide_eq_false hp206) rfl rfl <| cp (oPkF (decide_eq_false hp206) tm cB) (s1 rfl) <| .nil) (by kernel_rfl) ?_
                    exact pJ1 _ (so h) ⟨rfl, rfl, rfl, rfl, rfl, rfl, rfl, rfl, rfl, rfl, trivial⟩ rfl
                · rintro x205 rfl
                  replace h := hk3
                  rcases ic h with ⟨hp207, h⟩ | ⟨hp207, h⟩
                  · refine wBT hp207 tm (s1 rfl) ?_
                    refine rg (cp (oMv tm) (s1 rfl) <| cp (oFldP o87_2 tm) (s1 rfl) <| cwn (oSt (n := 0) (k := 2) rfl rfl rfl rfl z85 tm tm) (s2 rfl rfl) <| .nil) (by kernel_rfl) ?_
                    refine pSeq ?_
                    obtain ⟨hc208, h⟩ := ib h
                    refine rg (cp (oFldP o24_0 tm) (s1 rfl) <| cr (oLdN (n := 2) (k := 0) rfl rfl rfl t22 tm) (s1 rfl) <| cr (oLdA (n := 0) (fs := f_api_Row) (u := ⟨a3, a3, a3⟩) rfl ⟨rfl, rfl, rfl, trivial⟩ t87 tm) (s1 rfl) <| cp (oLit (d := (kR f_api_Row)) el22 (by decide) rfl rfl rfl (e1 tm e0)) (s1 rfl) <| cw (oApp (n := 1) (id' := 52) el22 (by decide) rfl (by decide) hc208 tm tm) (s2 rfl rfl) <| cp (oFldP o24_0 tm) (s1 rfl) <| cwn (oStN (n := 2) (m := 1) (k := 0) rfl rfl rfl rfl z22 rfl tm tm) (s2 rfl rfl) <| .nil) (by kernel_rfl) ?_
                    refine pBlkN ?_
                    refine pDrop (.cons _ (.cons_cons _ (.cons_cons _ (.cons_cons _ .slnil)))) ?_
                    refine pSub (Γ' := [(1, .d ((kI .i64).sig a1)), (2, .d ((kI .i64).sig a2)), (3, .d ((kL (kI .i64)).sig a3)), (8, .p 8 0), (9, .p 9 0), (14, .d ((kL (kR f_api_Row)).sig a0.Rows)), (15, .d ((kI .i64).sig (a0.Rows.length : Int))), (16, .d ((kI .i64).sig v154))]) ⟨rfl, rfl, rfl, rfl, rfl, rfl, rfl, rfl, trivial⟩ ?_
                    refine pRen 52 5450 rfl ?_
                    exact pJ1 _ (so h) ⟨rfl, rfl, rfl, rfl, rfl, rfl, rfl, rfl, trivial⟩ rfl
                  · refine wBF hp207 tm (s1 rfl) ?_
                    refine wSkip ?_
                    refine pSeq ?_
                    obtain ⟨hc209, h⟩ := ib h
                    refine rg (cp (oFldP o24_0 tm) (s1 rfl) <| cr (oLdN (n := 2) (k := 0) rfl rfl rfl t22 tm) (s1 rfl) <| cr (oLdA (n := 0) (fs := f_api_Row) (u := ⟨a3, a3, y195.Pc⟩) rfl ⟨rfl, rfl, rfl, trivial⟩ t87 tm) (s1 rfl) <| cp (oLit (d := (kR f_api_Row)) el22 (by decide) rfl rfl rfl (e1 tm e0)) (s1 rfl) <| cw (oApp (n := 1) (id' := 52) el22 (by decide) rfl (by decide) hc209 tm tm) (s2 rfl rfl) <| cp (oFldP o24_0 tm) (s1 rfl) <| cwn (oStN (n := 2) (m := 1) (k := 0) rfl rfl rfl rfl z22 rfl tm tm) (s2 rfl rfl) <| .nil) (by kernel_rfl) ?_
                    refine pBlkN ?_
                    refine pDrop (.cons _ (.cons_cons _ (.cons_cons _ (.cons_cons _ .slnil)))) ?_
                    refine pSub (Γ' := [(1, .d ((kI .i64).sig a1)), (2, .d ((kI .i64).sig a2)), (3, .d ((kL (kI .i64)).sig a3)), (8, .p 8 0), (9, .p 9 0), (14, .d ((kL (kR f_api_Row)).sig a0.Rows)), (15, .d ((kI .i64).sig (a0.Rows.length : Int))), (16, .d ((kI .i64).sig v154))]) ⟨rfl, rfl, rfl, rfl, rfl, rfl, rfl, rfl, trivial⟩ ?_
                    refine pRen 52 5450 rfl ?_
                    exact pJ1 _ (so h) ⟨rfl, rfl, rfl, rfl, rfl, rfl, rfl, rfl, trivial⟩ rfl
              · refine wBF hp203 tm (s1 rfl) ?_
                refine wSkip ?_
                refine pSeq ?_
                refine wSeq ?_
                obtain ⟨o3, h, hk3⟩ := bd h
                refine wJ1 (fun x211 => x211 = o3) (fun x211 => [(1, .d ((kI .i64).sig a1)), (2, .d ((kI .i64).sig a2)), (3, .d ((kL (kI .i64)).sig a3)), (8, .p 8 0), (9, .p 9 0), (11, .p 11 0), (14, .d ((kL (kR f_api_Row)).sig a0.Rows)), (15, .d ((kI .i64).sig (a0.Rows.length : Int))), (16, .d ((kI .i64).sig v154)), (45, .d (kB.sig x211))]) (fun x211 => [.box 11 87 [.d (kL (kI .i64)) a3, .d (kL (kI .i64)) y195.Res, .d (kL (kI .i64)) y195.Pc], .row 5450 87 (kR f_api_Row) v153, .box 9 24 [.v 5450], .box 8 24 [.d (kN api_Row) []]]) ?_ ?_
                · rcases ic h with ⟨hp212, h⟩ | ⟨hp212, h⟩
                  · refine rg (cp (oMv tm) (s1 rfl) <| cp (oMv tm) (s1 rfl) <| cp (oEq rfl tm tm) (s2 rfl rfl) <| cp (oMv tm) (s1 rfl) <| cgB (decide_eq_true hp212) rfl rfl (oMv tm) (s1 rfl) <| cgB (decide_eq_true hp212) rfl rfl (oEq rfl tm (cI (by decide))) (s1 rfl) <| cp (oPkT (decide_eq_true hp212) tm tm) (s2 rfl rfl) <| .nil) (by kernel_rfl) ?_
                    exact pJ1 _ (so h) ⟨rfl, rfl, rfl, rfl, rfl, rfl, rfl, rfl, rfl, rfl, trivial⟩ rfl
                  · refine rg (cp (oMv tm) (s1 rfl) <| cp (oMv tm) (s1 rfl) <| cp (oEq rfl tm tm) (s2 rfl rfl) <| cp (oMv tm) (s1 rfl) <| csB (decide_eq_false hp212) rfl rfl <| csB (decide_eq_false hp212) rfl rfl <| cp (oPkF (decide_eq_false hp212) tm cB) (s1 rfl) <| .nil) (by kernel_rfl) ?_
                    exact pJ1 _ (so h) ⟨rfl, rfl, rfl, rfl, rfl, rfl, rfl, rfl, rfl, rfl, trivial⟩ rfl
                · rintro x211 rfl
                  replace h := hk3
                  rcases ic h with ⟨hp213, h⟩ | ⟨hp213, h⟩
                  · refine wBT hp213 tm (s1 rfl) ?_
                    refine rg (cp (oMv tm) (s1 rfl) <| cp (oFldP o87_2 tm) (s1 rfl) <| cwn (oSt (n := 0) (k := 2) rfl rfl rfl rfl z85 tm tm) (s2 rfl rfl) <| .nil) (by kernel_rfl) ?_
                    refine pSeq ?_
                    obtain ⟨hc214, h⟩ := ib h
                    refine rg (cp (oFldP o24_0 tm) (s1 rfl) <| cr (oLdN (n := 2) (k := 0) rfl rfl rfl t22 tm) (s1 rfl) <| cr (oLdA (n := 0) (fs := f_api_Row) (u := ⟨a3, y195.Res, a3⟩) rfl ⟨rfl, rfl, rfl, trivial⟩ t87 tm) (s1 rfl) <| cp (oLit (d := (kR f_api_Row)) el22 (by decide) rfl rfl rfl (e1 tm e0)) (s1 rfl) <| cw (oApp (n := 1) (id' := 52) el22 (by decide) rfl (by decide) hc214 tm tm) (s2 rfl rfl) <| cp (oFldP o24_0 tm) (s1 rfl) <| cwn (oStN (n := 2) (m := 1) (k := 0) rfl rfl rfl rfl z22 rfl tm tm) (s2 rfl rfl) <| .nil) (by kernel_rfl) ?_
                    refine pBlkN ?_
                    refine pDrop (.cons _ (.cons_cons _ (.cons_cons _ (.cons_cons _ .slnil)))) ?_
                    refine pSub (Γ' := [(1, .d ((kI .i64).sig a1)), (2, .d ((kI .i64).sig a2)), (3, .d ((kL (kI .i64)).sig a3)), (8, .p 8 0), (9, .p 9 0), (14, .d ((kL (kR f_api_Row)).sig a0.Rows)), (15, .d ((kI .i64).sig (a0.Rows.length : Int))), (16, .d ((kI .i64).sig v154))]) ⟨rfl, rfl, rfl, rfl, rfl, rfl, rfl, rfl, trivial⟩ ?_
                    refine pRen 52 5450 rfl ?_
                    exact pJ1 _ (so h) ⟨rfl, rfl, rfl, rfl, rfl, rfl, rfl, rfl, trivial⟩ rfl
                  · refine wBF hp213 tm (s1 rfl) ?_
                    refine wSkip ?_
                    refine pSeq ?_
                    obtain ⟨hc215, h⟩ := ib h
                    refine rg (cp (oFldP o24_0 tm) (s1 rfl) <| cr (oLdN (n := 2) (k := 0) rfl rfl rfl t22 tm) (s1 rfl) <| cr (oLdA (n := 0) (fs := f_api_Row) (u := ⟨a3, y195.Res, y195.Pc⟩) rfl ⟨rfl, rfl, rfl, trivial⟩ t87 tm) (s1 rfl) <| cp (oLit (d := (kR f_api_Row)) el22 (by decide) rfl rfl rfl (e1 tm e0)) (s1 rfl) <| cw (oApp (n := 1) (id' := 52) el22 (by decide) rfl (by decide) hc215 tm tm) (s2 rfl rfl) <| cp (oFldP o24_0 tm) (s1 rfl) <| cwn (oStN (n := 2) (m := 1) (k := 0) rfl rfl rfl rfl z22 rfl tm tm) (s2 rfl rfl) <| .nil) (by kernel_rfl) ?_
                    refine pBlkN ?_
                    refine pDrop (.cons _ (.cons_cons _ (.cons_cons _ (.cons_cons _ .slnil)))) ?_
                    refine pSub (Γ' := [(1, .d ((kI .i64).sig a1)), (2, .d ((kI .i64).sig a2)), (3, .d ((kL (kI .i64)).sig a3)), (8, .p 8 0), (9, .p 9 0), (14, .d ((kL (kR f_api_Row)).sig a0.Rows)), (15, .d ((kI .i64).sig (a0.Rows.length : Int))), (16, .d ((kI .i64).sig v154))]) ⟨rfl, rfl, rfl, rfl, rfl, rfl, rfl, rfl, trivial⟩ ?_
                    refine pRen 52 5450 rfl ?_
                    exact pJ1 _ (so h) ⟨rfl, rfl, rfl, rfl, rfl, rfl, rfl, rfl, trivial⟩ rfl
          · refine wBF hp199 tm (s1 rfl) ?_
            refine wSkip ?_
            refine pSeq ?_
            refine wSeq ?_
            obtain ⟨o3, h, hk3⟩ := bd h
            refine wJ1 (fun x217 => x217 = o3) (fun x217 => [(1, .d ((kI .i64).sig a1)), (2, .d ((kI .i64).sig a2)), (3, .d ((kL (kI .i64)).sig a3)), (8, .p 8 0), (9, .p 9 0), (10, .d ((kI .i64).sig v154)), (11, .p 11 0), (14, .d ((kL (kR f_api_Row)).sig a0.Rows)), (15, .d ((kI .i64).sig (a0.Rows.length : Int))), (16, .d ((kI .i64).sig v154)), (36, .d (kB.sig x217))]) (fun x217 => [.box 11 87 [.d (kL (kI .i64)) y195.May, .d (kL (kI .i64)) y195.Res, .d (kL (kI .i64)) y195.Pc], .row 5450 87 (kR f_api_Row) v153, .box 9 24 [.v 5450], .box 8 24 [.d (kN api_Row) []]]) ?_ ?_
            · rcases ic h with ⟨hp218, h⟩ | ⟨hp218, h⟩
              · refine rg (cp (oMv tm) (s1 rfl) <| cp (oMv tm) (s1 rfl) <| cp (oEq rfl tm tm) (s2 rfl rfl) <| cp (oMv tm) (s1 rfl) <| cgB (decide_eq_true hp218) rfl rfl (oMv tm) (s1 rfl) <| cgB (decide_eq_true hp218) rfl rfl (oEq rfl tm (cI (by decide))) (s1 rfl) <| cp (oPkT (decide_eq_true hp218) tm tm) (s2 rfl rfl) <| .nil) (by kernel_rfl) ?_
                exact pJ1 _ (so h) ⟨rfl, rfl, rfl, rfl, rfl, rfl, rfl, rfl, rfl, rfl, rfl, trivial⟩ rfl
              · refine rg (cp (oMv tm) (s1 rfl) <| cp (oMv tm) (s1 rfl) <| cp (oEq rfl tm tm) (s2 rfl rfl) <| cp (oMv tm) (s1 rfl) <| csB (decide_eq_false hp218) rfl rfl <| csB (decide_eq_false hp218) rfl rfl <| cp (oPkF (decide_eq_false hp218) tm cB) (s1 rfl) <| .nil) (by kernel_rfl) ?_
                exact pJ1 _ (so h) ⟨rfl, rfl, rfl, rfl, rfl, rfl, rfl, rfl, rfl, rfl, rfl, trivial⟩ rfl
            · rintro x217 rfl
              replace h := hk3
              rcases ic h with ⟨hp219, h⟩ | ⟨hp219, h⟩
              · refine wBT hp219 tm (s1 rfl) ?_
                refine rg (cp (oMv tm) (s1 rfl) <| cp (oFldP o87_1 tm) (s1 rfl) <| cwn (oSt (n := 0) (k := 1) rfl rfl rfl rfl z85 tm tm) (s2 rfl rfl) <| .nil) (by kernel_rfl) ?_
                refine pSeq ?_
                refine wSeq ?_
                obtain ⟨o3, h, hk3⟩ := bd h
                refine wJ1 (fun x221 => x221 = o3) (fun x221 => [(1, .d ((kI .i64).sig a1)), (2, .d ((kI .i64).sig a2)), (3, .d ((kL (kI .i64)).sig a3)), (8, .p 8 0), (9, .p 9 0), (11, .p 11 0), (14, .d ((kL (kR f_api_Row)).sig a0.Rows)), (15, .d ((kI .i64).sig (a0.Rows.length : Int))), (16, .d ((kI .i64).sig v154)), (45, .d (kB.sig x221))]) (fun x221 => [.box 11 87 [.d (kL (kI .i64)) y195.May, .d (kL (kI .i64)) a3, .d (kL (kI .i64)) y195.Pc], .row 5450 87 (kR f_api_Row) v153, .box 9 24 [.v 5450], .box 8 24 [.d (kN api_Row) []]]) ?_ ?_
                · rcases ic h with ⟨hp222, h⟩ | ⟨hp222, h⟩
                  · refine rg (cp (oMv tm) (s1 rfl) <| cp (oMv tm) (s1 rfl) <| cp (oEq rfl tm tm) (s2 rfl rfl) <| cp (oMv tm) (s1 rfl) <| cgB (decide_eq_true hp222) rfl rfl (oMv tm) (s1 rfl) <| cgB (decide_eq_true hp222) rfl rfl (oEq rfl tm (cI (by decide))) (s1 rfl) <| cp (oPkT (decide_eq_true hp222) tm tm) (s2 rfl rfl) <| .nil) (by kernel_rfl) ?_
                    exact pJ1 _ (so h) ⟨rfl, rfl, rfl, rfl, rfl, rfl, rfl, rfl, rfl, rfl, trivial⟩ rfl
                  · refine rg (cp (oMv tm) (s1 rfl) <| cp (oMv tm) (s1 rfl) <| cp (oEq rfl tm tm) (s2 rfl rfl) <| cp (oMv tm) (s1 rfl) <| csB (decide_eq_false hp222) rfl rfl <| csB (decide_eq_false hp222) rfl rfl <| cp (oPkF (decide_eq_false hp222) tm cB) (s1 rfl) <| .nil) (by kernel_rfl) ?_
                    exact pJ1 _ (so h) ⟨rfl, rfl, rfl, rfl, rfl, rfl, rfl, rfl, rfl, rfl, trivial⟩ rfl
                · rintro x221 rfl
                  replace h := hk3
                  rcases ic h with ⟨hp223, h⟩ | ⟨hp223, h⟩
                  · refine wBT hp223 tm (s1 rfl) ?_
                    refine rg (cp (oMv tm) (s1 rfl) <| cp (oFldP o87_2 tm) (s1 rfl) <| cwn (oSt (n := 0) (k := 2) rfl rfl rfl rfl z85 tm tm) (s2 rfl rfl) <| .nil) (by kernel_rfl) ?_
                    refine pSeq ?_
                    obtain ⟨hc224, h⟩ := ib h
                    refine rg (cp (oFldP o24_0 tm) (s1 rfl) <| cr (oLdN (n := 2) (k := 0) rfl rfl rfl t22 tm) (s1 rfl) <| cr (oLdA (n := 0) (fs := f_api_Row) (u := ⟨y195.May, a3, a3⟩) rfl ⟨rfl, rfl, rfl, trivial⟩ t87 tm) (s1 rfl) <| cp (oLit (d := (kR f_api_Row)) el22 (by decide) rfl rfl rfl (e1 tm e0)) (s1 rfl) <| cw (oApp (n := 1) (id' := 52) el22 (by decide) rfl (by decide) hc224 tm tm) (s2 rfl rfl) <| cp (oFldP o24_0 tm) (s1 rfl) <| cwn (oStN (n := 2) (m := 1) (k := 0) rfl rfl rfl rfl z22 rfl tm tm) (s2 rfl rfl) <| .nil) (by kernel_rfl) ?_
                    refine pBlkN ?_
                    refine pDrop (.cons _ (.cons_cons _ (.cons_cons _ (.cons_cons _ .slnil)))) ?_
                    refine pSub (Γ' := [(1, .d ((kI .i64).sig a1)), (2, .d ((kI .i64).sig a2)), (3, .d ((kL (kI .i64)).sig a3)), (8, .p 8 0), (9, .p 9 0), (14, .d ((kL (kR f_api_Row)).sig a0.Rows)), (15, .d ((kI .i64).sig (a0.Rows.length : Int))), (16, .d ((kI .i64).sig v154))]) ⟨rfl, rfl, rfl, rfl, rfl, rfl, rfl, rfl, trivial⟩ ?_
                    refine pRen 52 5450 rfl ?_
                    exact pJ1 _ (so h) ⟨rfl, rfl, rfl, rfl, rfl, rfl, rfl, rfl, trivial⟩ rfl
                  · refine wBF hp223 tm (s1 rfl) ?_
                    refine wSkip ?_
                    refine pSeq ?_
                    obtain ⟨hc225, h⟩ := ib h
                    refine rg (cp (oFldP o24_0 tm) (s1 rfl) <| cr (oLdN (n := 2) (k := 0) rfl rfl rfl t22 tm) (s1 rfl) <| cr (oLdA (n := 0) (fs := f_api_Row) (u := ⟨y195.May, a3, y195.Pc⟩) rfl ⟨rfl, rfl, rfl, trivial⟩ t87 tm) (s1 rfl) <| cp (oLit (d := (kR f_api_Row)) el22 (by decide) rfl rfl rfl (e1 tm e0)) (s1 rfl) <| cw (oApp (n := 1) (id' := 52) el22 (by decide) rfl (by decide) hc225 tm tm) (s2 rfl rfl) <| cp (oFldP o24_0 tm) (s1 rfl) <| cwn (oStN (n := 2) (m := 1) (k := 0) rfl rfl rfl rfl z22 rfl tm tm) (s2 rfl rfl) <| .nil) (by kernel_rfl) ?_
                    refine pBlkN ?_
                    refine pDrop (.cons _ (.cons_cons _ (.cons_cons _ (.cons_cons _ .slnil)))) ?_
                    refine pSub (Γ' := [(1, .d ((kI .i64).sig a1)), (2, .d ((kI .i64).sig a2)), (3, .d ((kL (kI .i64)).sig a3)), (8, .p 8 0), (9, .p 9 0), (14, .d ((kL (kR f_api_Row)).sig a0.Rows)), (15, .d ((kI .i64).sig (a0.Rows.length : Int))), (16, .d ((kI .i64).sig v154))]) ⟨rfl, rfl, rfl, rfl, rfl, rfl, rfl, rfl, trivial⟩ ?_
                    refine pRen 52 5450 rfl ?_
                    exact pJ1 _ (so h) ⟨rfl, rfl, rfl, rfl, rfl, rfl, rfl, rfl, trivial⟩ rfl
              · refine wBF hp219 tm (s1 rfl) ?_
                refine wSkip ?_
                refine pSeq ?_
                refine wSeq ?_
                obtain ⟨o3, h, hk3⟩ := bd h
                refine wJ1 (fun x227 => x227 = o3) (fun x227 => [(1, .d ((kI .i64).sig a1)), (2, .d ((kI .i64).sig a2)), (3, .d ((kL (kI .i64)).sig a3)), (8, .p 8 0), (9, .p 9 0), (11, .p 11 0), (14, .d ((kL (kR f_api_Row)).sig a0.Rows)), (15, .d ((kI .i64).sig (a0.Rows.length : Int))), (16, .d ((kI .i64).sig v154)), (45, .d (kB.sig x227))]) (fun x227 => [.box 11 87 [.d (kL (kI .i64)) y195.May, .d (kL (kI .i64)) y195.Res, .d (kL (kI .i64)) y195.Pc], .row 5450 87 (kR f_api_Row) v153, .box 9 24 [.v 5450], .box 8 24 [.d (kN api_Row) []]]) ?_ ?_
                · rcases ic h with ⟨hp228, h⟩ | ⟨hp228, h⟩
                  · refine rg (cp (oMv tm) (s1 rfl) <| cp (oMv tm) (s1 rfl) <| cp (oEq rfl tm tm) (s2 rfl rfl) <| cp (oMv tm) (s1 rfl) <| cgB (decide_eq_true hp228) rfl rfl (oMv tm) (s1 rfl) <| cgB (decide_eq_true hp228) rfl rfl (oEq rfl tm (cI (by decide))) (s1 rfl) <| cp (oPkT (decide_eq_true hp228) tm tm) (s2 rfl rfl) <| .nil) (by kernel_rfl) ?_
                    exact pJ1 _ (so h) ⟨rfl, rfl, rfl, rfl, rfl, rfl, rfl, rfl, rfl, rfl, trivial⟩ rfl
                  · refine rg (cp (oMv tm) (s1 rfl) <| cp (oMv tm) (s1 rfl) <| cp (oEq rfl tm tm) (s2 rfl rfl) <| cp (oMv tm) (s1 rfl) <| csB (decide_eq_false hp228) rfl rfl <| csB (decide_eq_false hp228) rfl rfl <| cp (oPkF (decide_eq_false hp228) tm cB) (s1 rfl) <| .nil) (by kernel_rfl) ?_
                    exact pJ1 _ (so h) ⟨rfl, rfl, rfl, rfl, rfl, rfl, rfl, rfl, rfl, rfl, trivial⟩ rfl
                · rintro x227 rfl
                  replace h := hk3
                  rcases ic h with ⟨hp229, h⟩ | ⟨hp229, h⟩
                  · refine wBT hp229 tm (s1 rfl) ?_
                    refine rg (cp (oMv tm) (s1 rfl) <| cp (oFldP o87_2 tm) (s1 rfl) <| cwn (oSt (n := 0) (k := 2) rfl rfl rfl rfl z85 tm tm) (s2 rfl rfl) <| .nil) (by kernel_rfl) ?_
                    refine pSeq ?_
                    obtain ⟨hc230, h⟩ := ib h
                    refine rg (cp (oFldP o24_0 tm) (s1 rfl) <| cr (oLdN (n := 2) (k := 0) rfl rfl rfl t22 tm) (s1 rfl) <| cr (oLdA (n := 0) (fs := f_api_Row) (u := ⟨y195.May, y195.Res, a3⟩) rfl ⟨rfl, rfl, rfl, trivial⟩ t87 tm) (s1 rfl) <| cp (oLit (d := (kR f_api_Row)) el22 (by decide) rfl rfl rfl (e1 tm e0)) (s1 rfl) <| cw (oApp (n := 1) (id' := 52) el22 (by decide) rfl (by decide) hc230 tm tm) (s2 rfl rfl) <| cp (oFldP o24_0 tm) (s1 rfl) <| cwn (oStN (n := 2) (m := 1) (k := 0) rfl rfl rfl rfl z22 rfl tm tm) (s2 rfl rfl) <| .nil) (by kernel_rfl) ?_
                    refine pBlkN ?_
                    refine pDrop (.cons _ (.cons_cons _ (.cons_cons _ (.cons_cons _ .slnil)))) ?_
                    refine pSub (Γ' := [(1, .d ((kI .i64).sig a1)), (2, .d ((kI .i64).sig a2)), (3, .d ((kL (kI .i64)).sig a3)), (8, .p 8 0), (9, .p 9 0), (14, .d ((kL (kR f_api_Row)).sig a0.Rows)), (15, .d ((kI .i64).sig (a0.Rows.length : Int))), (16, .d ((kI .i64).sig v154))]) ⟨rfl, rfl, rfl, rfl, rfl, rfl, rfl, rfl, trivial⟩ ?_
                    refine pRen 52 5450 rfl ?_
                    exact pJ1 _ (so h) ⟨rfl, rfl, rfl, rfl, rfl, rfl, rfl, rfl, trivial⟩ rfl
                  · refine wBF hp229 tm (s1 rfl) ?_
                    refine wSkip ?_
                    refine pSeq ?_
                    obtain ⟨hc231, h⟩ := ib h
                    refine rg (cp (oFldP o24_0 tm) (s1 rfl) <| cr (oLdN (n := 2) (k := 0) rfl rfl rfl t22 tm) (s1 rfl) <| cr (oLdA (n := 0) (fs := f_api_Row) (u := ⟨y195.May, y195.Res, y195.Pc⟩) rfl ⟨rfl, rfl, rfl, trivial⟩ t87 tm) (s1 rfl) <| cp (oLit (d := (kR f_api_Row)) el22 (by decide) rfl rfl rfl (e1 tm e0)) (s1 rfl) <| cw (oApp (n := 1) (id' := 52) el22 (by decide) rfl (by decide) hc231 tm tm) (s2 rfl rfl) <| cp (oFldP o24_0 tm) (s1 rfl) <| cwn (oStN (n := 2) (m := 1) (k := 0) rfl rfl rfl rfl z22 rfl tm tm) (s2 rfl rfl) <| .nil) (by kernel_rfl) ?_
                    refine pBlkN ?_
                    refine pDrop (.cons _ (.cons_cons _ (.cons_cons _ (.cons_cons _ .slnil)))) ?_
                    refine pSub (Γ' := [(1, .d ((kI .i64).sig a1)), (2, .d ((kI .i64).sig a2)), (3, .d ((kL (kI .i64)).sig a3)), (8, .p 8 0), (9, .p 9 0), (14, .d ((kL (kR f_api_Row)).sig a0.Rows)), (15, .d ((kI .i64).sig (a0.Rows.length : Int))), (16, .d ((kI .i64).sig v154))]) ⟨rfl, rfl, rfl, rfl, rfl, rfl, rfl, rfl, trivial⟩ ?_
                    refine pRen 52 5450 rfl ?_
                    exact pJ1 _ (so h) ⟨rfl, rfl, rfl, rfl, rfl, rfl, rfl, rfl, trivial⟩ rfl
      · rintro x194 rfl
        replace h := hk2
        refine rg (cp (oAdd tm (cI (by decide))) (s1 rfl) <| cp (oMv tm) (s1 rfl) <| .nil) (by kernel_rfl) ?_
        exact pLoop (lW (ih _ _ h) ⟨rfl, rfl, rfl, rfl, rfl, rfl, rfl, rfl, trivial⟩ rfl)
    · refine wCF hp156 tm (s1 rfl) ?_
      refine wExit ?_
      refine pThenX ?_
      refine pThenX ?_
      refine pBlkX ?_
      exact pJ1 _ (so h) ⟨rfl, rfl, trivial⟩ rfl
  · rintro x155 rfl
    replace h := hk1
    refine pSeq ?_
    refine wSeq ?_
    refine wFrzR (n := 0) (id := 5450) [] rfl rfl trivial ?_
    refine rg (cr (oLdA (n := 0) (fs := f_api_Table) (u := ⟨x155⟩) rfl ⟨rfl, trivial⟩ t24 tm) (s1 rfl) <| cwn (oStA (n := 1) (fs := f_api_Table) rfl rfl z24 tm tm) (s2 rfl rfl) <| .nil) (by kernel_rfl) ?_
    refine pSeq ?_
    refine wRet ?_
    obtain rfl := so h
    exact pR1 (.inl rfl) rfl (.box (n := 1) (fs := f_api_Table) (u := ⟨x155⟩) rfl rfl ⟨rfl, trivial⟩ t24 <| .nil)

theorem reticentref24_All.ok {a0 : api_Table} {r : List reticentref24_M} (h : reticentref24_All.f a0 = some r) : FnA Tryd.prog 30 [(kR f_api_Table).sig a0] ((kL (kR f_reticentref24_M)).sig r) := by
  refine fnIntro Tryd.func30 rfl (by kernel_rfl) fun H0 w0 => ?_
  unfold reticentref24_All.f at h
  refine wSeq ?_
  refine rg (cp (oBox tm) (s1 rfl) <| cp (oAs cV) trivial <| .nil) (by kernel_rfl) ?_
  refine pSeq ?_
  refine wSeq ?_
  refine rg (cw (oLitR (id := 11) (d := (kR f_reticentref24_M)) el51 (by decide) rfl rfl rfl e0) trivial <| cp (oAs tm) (s1 rfl) <| .nil) (by kernel_rfl) ?_
  refine pSeq ?_
  refine wSeq ?_
  refine wSeq ?_
  refine rg (cp (oFld (fs := f_api_Table) (k := 0) rfl o24_0 tm) (s1 rfl) <| cp (oLd t22 tm) (s1 rfl) <| cp (oLenL u22 tm) (s1 rfl) <| cp (oMv (cI (by decide))) trivial <| .nil) (by kernel_rfl) ?_
  refine pSeq ?_
  refine wWeak (Γ' := [(1, .d (sP (kR f_api_Table) a0)), (3, .v 11), (13, .d ((kL (kR f_api_Row)).sig a0.Rows)), (14, .d ((kI .i64).sig (a0.Rows.length : Int))), (15, .d ((kI .i64).sig 0))]) ⟨rfl, rfl, rfl, rfl, rfl, trivial⟩ ?_
  refine wRen 11 1003 rfl ?_
  obtain ⟨o1, h, hk1⟩ := bd h
  refine wK1 (fun x247 => x247 = o1) (fun x247 => [(3, .v 1003)]) (fun x247 => [.row 1003 54 (kR f_reticentref24_M) x247]) ?_ ?_
  · refine wBlock (wLoop ?_)
    refine lW (pc2 o1 (fun v245 v246 => [(1, .d (sP (kR f_api_Table) a0)), (3, .v 1003), (13, .d ((kL (kR f_api_Row)).sig a0.Rows)), (14, .d ((kI .i64).sig (a0.Rows.length : Int))), (15, .d ((kI .i64).sig v246))]) (fun v245 v246 => [.row 1003 54 (kR f_reticentref24_M) v245]) (reticentref24_All.l8.partial_correctness a0) ?_ _ _ h) ⟨rfl, rfl, rfl, rfl, rfl, trivial⟩ rfl
    clear h
    intro f' ih v245 v246 h
    refine wSeq ?_
    refine rg (cp (oLt rfl tm tm) (s2 rfl rfl) <| .nil) (by kernel_rfl) ?_
    refine pSeq ?_
    refine wSeq ?_
    rcases ic h with ⟨hp248, h⟩ | ⟨hp248, h⟩
    · refine wCT hp248 tm (s1 rfl) ?_
      refine wSkip ?_
      refine pSeq ?_
      refine wSeq ?_
      refine wBlock ?_
      refine wSeq ?_
      obtain ⟨y249, hy249, h⟩ := bd h
      refine rg (cp (oMv tm) (s1 rfl) <| cp (oIdx u22 z87 hy249 tm tm) (s2 rfl rfl) <| cp (oLd t87 tm) (s1 rfl) <| cw (oAlloc (id := 5) (ls := [.d (kL (kI .i64)) [], .d (kL (kI .i64)) [], .d (kL (kI .i64)) []]) ze87 (fun g => ⟨[(.slice none 0 0)], _, rfl, zL g.H, ⟨[(.slice none 0 0)], _, rfl, zL g.H, ⟨[(.slice none 0 0)], _, rfl, zL g.H, rfl⟩⟩⟩)) trivial <| cp (oAs tm) (s1 rfl) <| cwn (oStA (n := 0) (fs := f_api_Row) rfl rfl z87 tm tm) (s2 rfl rfl) <| .nil) (by kernel_rfl) ?_
      refine pSeq ?_
      refine wSeq ?_
      refine rg (cp (oAs (cI (by decide))) trivial <| .nil) (by kernel_rfl) ?_
      refine pSeq ?_
      obtain ⟨o2, h, hk2⟩ := bd h
      refine wK1 (fun x330 => x330 = o2) (fun x330 => [(1, .d (sP (kR f_api_Table) a0)), (3, .v 1003), (13, .d ((kL (kR f_api_Row)).sig a0.Rows)), (14, .d ((kI .i64).sig (a0.Rows.length : Int))), (15, .d ((kI .i64).sig v246))]) (fun x330 => [.box 5 87 [.d (kL (kI .i64)) y249.May, .d (kL (kI .i64)) y249.Res, .d (kL (kI .i64)) y249.Pc], .row 1003 54 (kR f_reticentref24_M) x330]) ?_ ?_
      · refine wBlock (wLoop ?_)
        refine lW (pc2 o2 (fun v328 v329 => [(1, .d (sP (kR f_api_Table) a0)), (3, .v 1003), (4, .d ((kI .i64).sig v246)), (5, .p 5 0), (6, .d ((kI .i64).sig v329)), (13, .d ((kL (kR f_api_Row)).sig a0.Rows)), (14, .d ((kI .i64).sig (a0.Rows.length : Int))), (15, .d ((kI .i64).sig v246))]) (fun v328 v329 => [.box 5 87 [.d (kL (kI .i64)) y249.May, .d (kL (kI .i64)) y249.Res, .d (kL (kI .i64)) y249.Pc], .row 1003 54 (kR f_reticentref24_M) v328]) (reticentref24_All.l11.partial_correctness a0 v246 y249) ?_ _ _ h) ⟨rfl, rfl, rfl, rfl, rfl, rfl, rfl, rfl, trivial⟩ rfl
        clear h
        intro f' ih v328 v329 h
        refine wSeq ?_
        refine wSeq ?_
        refine rg (cp (oMv tm) (s1 rfl) <| cp (oLt rfl tm (cI (by decide))) (s1 rfl) <| .nil) (by kernel_rfl) ?_
        refine pSeq ?_
        rcases ic h with ⟨hp331, h⟩ | ⟨hp331, h⟩
        · refine wCT hp331 tm (s1 rfl) ?_
          refine wSkip ?_
          refine pSeq ?_
          refine wSeq ?_
          refine wBlock ?_
          refine wSeq ?_
          obtain ⟨y332, hy332, h⟩ := bd h
          refine rg (cp (oFldP o87_0 tm) (s1 rfl) <| cr (oLdB (n := 0) (k := 0) rfl rfl rfl t85 tm) (s1 rfl) <| cp (oFldP o87_1 tm) (s1 rfl) <| cr (oLdB (n := 0) (k := 1) rfl rfl rfl t85 tm) (s1 rfl) <| cp (oFldP o87_2 tm) (s1 rfl) <| cr (oLdB (n := 0) (k := 2) rfl rfl rfl t85 tm) (s1 rfl) <| cp (oLit (d := (kL (kI .i64))) el111 (by decide) rfl rfl rfl (e1 tm (e1 tm (e1 tm e0)))) (s3 rfl rfl rfl) <| cp (oMv tm) (s1 rfl) <| cp (oIdx u111 z85 hy332 tm tm) (s2 rfl rfl) <| cp (oLd t85 tm) (s1 rfl) <| cp (oAs tm) (s1 rfl) <| .nil) (by kernel_rfl) ?_
          refine pSeq ?_
          refine wSeq ?_
          obtain ⟨y333, hy333, h⟩ := bd h
          refine rg (cp (oMv tm) (s1 rfl) <| cp (oCall rfl (reticentref24_Weaker.ok hy333) b70 (opds_cons tm opds_nil)) (s1 rfl) <| cp (oLenL u111 tm) (s1 rfl) <| cp (oMv (cI (by decide))) trivial <| .nil) (by kernel_rfl) ?_
          refine pSeq ?_
          obtain ⟨o3, h, hk3⟩ := bd h
          refine wK1 (fun x358 => x358 = o3) (fun x358 => [(1, .d (sP (kR f_api_Table) a0)), (3, .v 1003), (4, .d ((kI .i64).sig v246)), (5, .p 5 0), (6, .d ((kI .i64).sig v329)), (13, .d ((kL (kR f_api_Row)).sig a0.Rows)), (14, .d ((kI .i64).sig (a0.Rows.length : Int))), (15, .d ((kI .i64).sig v246))]) (fun x358 => [.box 5 87 [.d (kL (kI .i64)) y249.May, .d (kL (kI .i64)) y249.Res, .d (kL (kI .i64)) y249.Pc], .row 1003 54 (kR f_reticentref24_M) x358]) ?_ ?_
          · refine wBlock (wLoop ?_)
            refine lW (pc2 o3 (fun v356 v357 => [(1, .d (sP (kR f_api_Table) a0)), (3, .v 1003), (4, .d ((kI .i64).sig v246)), (5, .p 5 0), (6, .d ((kI .i64).sig v329)), (13, .d ((kL (kR f_api_Row)).sig a0.Rows)), (14, .d ((kI .i64).sig (a0.Rows.length : Int))), (15, .d ((kI .i64).sig v246)), (35, .d ((kL (kL (kI .i64))).sig y333)), (36, .d ((kI .i64).sig (y333.length : Int))), (37, .d ((kI .i64).sig v357))]) (fun v356 v357 => [.box 5 87 [.d (kL (kI .i64)) y249.May, .d (kL (kI .i64)) y249.Res, .d (kL (kI .i64)) y249.Pc], .row 1003 54 (kR f_reticentref24_M) v356]) (reticentref24_All.l12.partial_correctness a0 v246 v329 y333) ?_ _ _ h) ⟨rfl, rfl, rfl, rfl, rfl, rfl, rfl, rfl, rfl, rfl, rfl, trivial⟩ rfl
            clear h
            intro f' ih v356 v357 h
            refine wSeq ?_
            refine rg (cp (oLt rfl tm tm) (s2 rfl rfl) <| .nil) (by kernel_rfl) ?_
            refine pSeq ?_
            refine wSeq ?_
            rcases ic h with ⟨hp359, h⟩ | ⟨hp359, h⟩
            · refine wCT hp359 tm (s1 rfl) ?_
              refine wSkip ?_
              refine pSeq ?_
              refine wSeq ?_
              refine wBlock ?_
              refine wSeq ?_
              obtain ⟨y360, hy360, h⟩ := bd h
              refine rg (cp (oMv tm) (s1 rfl) <| cp (oIdx u111 z85 hy360 tm tm) (s2 rfl rfl) <| cp (oLd t85 tm) (s1 rfl) <| cp (oAs tm) (s1 rfl) <| cp (oAs tm) (s1 rfl) <| .nil) (by kernel_rfl) ?_
              refine pSeq ?_
              refine wSeq ?_
              obtain ⟨y361, hy361, h⟩ := bd h
              obtain ⟨hc362, h⟩ := ib h
              obtain ⟨y363, hy363, h⟩ := bd h
              obtain ⟨hc364, h⟩ := ib h
              obtain ⟨hc365, h⟩ := ib h
              obtain ⟨y366, hy366, h⟩ := bd h
              obtain ⟨hc367, h⟩ := ib h
              refine rgD hm (cp (oMv tm) (s1 rfl) <| cp (oCall rfl (reticentref06_Word.ok hy361) b24 (opds_cons tm opds_nil)) (s1 rfl) <| cp (oSAdd hc362 tm (cS (by decide))) (s1 rfl) <| cp (oLit (d := kS) el56 (by decide) rfl rfl rfl (e1 (cS (by decide)) (e1 (cS (by decide)) (e1 (cS (by decide)) e0)))) trivial <| cp (oMv tm) (s1 rfl) <| cp (oIdx u56 z9 hy363 tm tm) (s2 rfl rfl) <| cp (oLd t9 tm) (s1 rfl) <| cp (oSAdd hc364 tm tm) (s2 rfl rfl) <| cp (oSAdd hc365 tm (cS (by decide))) (s1 rfl) <| cp (oMv tm) (s1 rfl) <| cp (oCall rfl (libItoa Tryd.strconv_Itoa_small hy366) b68 (opds_cons tm opds_nil)) (s1 rfl) <| cp (oSAdd hc367 tm tm) (s2 rfl rfl) <| cp (oAs tm) (s1 rfl) <| .nil) (by kernel_rfl) (by kernel_rfl) ?_
              refine pSeq ?_
              obtain ⟨y368, hy368, h⟩ := bd h
              obtain ⟨hc369, h⟩ := ib h
              refine rg (cp (oMv tm) (s1 rfl) <| cp (oLd t24 tm) (s1 rfl) <| cp (oMv tm) (s1 rfl) <| cp (oMv tm) (s1 rfl) <| cp (oMv tm) (s1 rfl) <| cp (oCall rfl (reticentref24_with.ok hy368) b71 (opds_cons tm (opds_cons tm (opds_cons tm (opds_cons tm opds_nil))))) ⟨rfl, rfl, rfl, rfl, trivial⟩ <| cp (oMv tm) (s1 rfl) <| cp (oBuild (fs := f_reticentref24_M) (u := ⟨y368, (((y361 ++ ([32] : Str)) ++ y363) ++ ([32] : Str)) ++ y366⟩) rfl ze54 pl54 po54 (.op (zc := [(.slice none 0 0)]) tm rfl (.op (zc := [(.string ⟨⟨[]⟩⟩)]) tm rfl .nil))) (s2 rfl rfl) <| cp (oLit (d := (kR f_reticentref24_M)) el51 (by decide) rfl rfl rfl (e1 tm e0)) (s1 rfl) <| cw (oApp (n := 1) (id' := 63) el51 (by decide) rfl (by decide) hc369 tm tm) (s2 rfl rfl) <| cp (oAs tm) (s1 rfl) <| .nil) (by kernel_rfl) ?_
              refine pBlkN ?_
              refine pSeq ?_
              refine rg (cp (oAdd tm (cI (by decide))) (s1 rfl) <| cp (oMv tm) (s1 rfl) <| .nil) (by kernel_rfl) ?_
              refine pSub (Γ' := [(1, .d (sP (kR f_api_Table) a0)), (3, .v 63), (4, .d ((kI .i64).sig v246)), (5, .p 5 0), (6, .d ((kI .i64).sig v329)), (13, .d ((kL (kR f_api_Row)).sig a0.Rows)), (14, .d ((kI .i64).sig (a0.Rows.length : Int))), (15, .d ((kI .i64).sig v246)), (35, .d ((kL (kL (kI .i64))).sig y333)), (36, .d ((kI .i64).sig (y333.length : Int))), (37, .d ((kI .i64).sig (IntKind.i64.wrap (v357 + 1))))]) ⟨rfl, rfl, rfl, rfl, rfl, rfl, rfl, rfl, rfl, rfl, rfl, trivial⟩ ?_
              refine pRen 63 1003 rfl ?_
              exact pLoop (lW (ih _ _ h) ⟨rfl, rfl, rfl, rfl, rfl, rfl, rfl, rfl, rfl, rfl, rfl, trivial⟩ rfl)
            · refine wCF hp359 tm (s1 rfl) ?_
              refine wExit ?_
              refine pThenX ?_
              refine pThenX ?_
              refine pBlkX ?_
              exact pJ1 _ (so h) ⟨rfl, rfl, rfl, rfl, rfl, rfl, rfl, rfl, trivial⟩ rfl
          · rintro x358 rfl
            replace h := hk3
            refine pBlkN ?_
            refine pSeq ?_
            refine rg (cp (oMv tm) (s1 rfl) <| cp (oAdd tm (cI (by decide))) (s1 rfl) <| cp (oAs tm) (s1 rfl) <| .nil) (by kernel_rfl) ?_
            exact pLoop (lW (ih _ _ h) ⟨rfl, rfl, rfl, rfl, rfl, rfl, rfl, rfl, trivial⟩ rfl)
        · refine wCF hp331 tm (s1 rfl) ?_
          refine wExit ?_
          refine pThenX ?_
          refine pThenX ?_
          refine pBlkX ?_
          exact pJ1 _ (so h) ⟨rfl, rfl, rfl, rfl, rfl, trivial⟩ rfl
      · rintro x330 rfl
        replace h := hk2
        refine pBlkN ?_
        refine pSeq ?_
        refine rg (cp (oAdd tm (cI (by decide))) (s1 rfl) <| cp (oMv tm) (s1 rfl) <| .nil) (by kernel_rfl) ?_
        refine pDrop (.cons _ (.cons_cons _ .slnil)) ?_
        exact pLoop (lW (ih _ _ h) ⟨rfl, rfl, rfl, rfl, rfl, trivial⟩ rfl)
    · refine wCF hp248 tm (s1 rfl) ?_
      refine wExit ?_
      refine pThenX ?_
      refine pThenX ?_
      refine pBlkX ?_
      exact pJ1 _ (so h) ⟨rfl, trivial⟩ rfl
  · rintro x247 rfl
    replace h := hk1
    refine pSeq ?_
    refine wSeq ?_
    refine rg (cp (oMv tm) (s1 rfl) <| cp (oAs tm) (s1 rfl) <| .nil) (by kernel_rfl) ?_
    refine pSeq ?_
    refine wFrzR (n := 0) (id := 1003) [2] rfl rfl ⟨rfl, trivial⟩ ?_
    refine wRet ?_
    obtain rfl := so h
    exact pR1 (.inl rfl) rfl (.tmp rfl <| .nil)

theorem reticentref06_Like.ok {a0 : api_Table} {a1 : api_Table} {r : Bool} (h : reticentref06_Like.f a0 a1 = some r) : FnA Tryd.prog 23 [(kR f_api_Table).sig a0, (kR f_api_Table).sig a1] (kB.sig r) := by
  refine fnIntro Tryd.func23 rfl (by kernel_rfl) fun H0 w0 => ?_
  unfold reticentref06_Like.f at h
  refine wSeq ?_
  refine rg (cp (oBox tm) (s1 rfl) <| cp (oBox tm) (s1 rfl) <| cp (oAs cB) trivial <| .nil) (by kernel_rfl) ?_
  refine pSeq ?_
  refine wSeq ?_
  refine wSeq ?_
  refine rg (cp (oFld (fs := f_api_Table) (k := 0) rfl o24_0 tm) (s1 rfl) <| cp (oLd t22 tm) (s1 rfl) <| cp (oLenL u22 tm) (s1 rfl) <| cp (oFld (fs := f_api_Table) (k := 0) rfl o24_0 tm) (s1 rfl) <| cp (oLd t22 tm) (s1 rfl) <| cp (oLenL u22 tm) (s1 rfl) <| cp (oNe rfl tm tm) (s2 rfl rfl) <| .nil) (by kernel_rfl) ?_
  refine pSeq ?_
  rcases ic h with ⟨hp1, h⟩ | ⟨hp1, h⟩
  · refine wNT hp1 tm (s1 rfl) ?_
    refine wSkip ?_
    refine pSeq ?_
    refine wSeq ?_
    refine wSeq ?_
    refine rg (cp (oFld (fs := f_api_Table) (k := 0) rfl o24_0 tm) (s1 rfl) <| cp (oLd t22 tm) (s1 rfl) <| cp (oLenL u22 tm) (s1 rfl) <| cp (oMv (cI (by decide))) trivial <| .nil) (by kernel_rfl) ?_
    refine pSeq ?_
    obtain ⟨o1, h, hk1⟩ := bd h
    refine wK0 (.inr () = o1) ([]) ([]) ?_ ?_
    · refine wBlock (wLoop ?_)
      refine lW (pc1 o1 (fun v52 => [(2, .d (sP (kR f_api_Table) a0)), (3, .d (sP (kR f_api_Table) a1)), (15, .d ((kI .i64).sig (a0.Rows.length : Int))), (16, .d ((kI .i64).sig v52))]) (fun v52 => []) (reticentref06_Like.l0.partial_correctness a0 a1) ?_ _ h) ⟨rfl, rfl, rfl, rfl, trivial⟩ rfl
      clear h
      intro f' ih v52 h
      refine wSeq ?_
      refine rg (cp (oLt rfl tm tm) (s2 rfl rfl) <| .nil) (by kernel_rfl) ?_
      refine pSeq ?_
      refine wSeq ?_
      rcases ic h with ⟨hp53, h⟩ | ⟨hp53, h⟩
      · refine wCT hp53 tm (s1 rfl) ?_
        refine wSkip ?_
        refine pSeq ?_
        refine wSeq ?_
        refine wBlock ?_
        refine wSeq ?_
        refine rg (cp (oMv tm) (s1 rfl) <| cp (oAs tm) (s1 rfl) <| .nil) (by kernel_rfl) ?_
        refine pSeq ?_
        obtain ⟨o2, h, hk2⟩ := bd h
        refine wJ1 (fun x65 => x65 = o2) (fun x65 => [(2, .d (sP (kR f_api_Table) a0)), (3, .d (sP (kR f_api_Table) a1)), (15, .d ((kI .i64).sig (a0.Rows.length : Int))), (16, .d ((kI .i64).sig v52)), (64, .d (kB.sig x65))]) (fun x65 => []) ?_ ?_
        · obtain ⟨y66, hy66, h⟩ := bd h
          obtain ⟨y67, hy67, h⟩ := bd h
          obtain ⟨y68, hy68, h⟩ := bd h
          rcases ic h with ⟨hp69, h⟩ | ⟨hp69, h⟩
          · refine rgD hm (cp (oFld (fs := f_api_Table) (k := 0) rfl o24_0 tm) (s1 rfl) <| cp (oLd t22 tm) (s1 rfl) <| cp (oMv tm) (s1 rfl) <| cp (oIdx u22 z87 hy66 tm tm) (s2 rfl rfl) <| cp (oFld (fs := f_api_Row) (k := 0) rfl o87_0 tm) (s1 rfl) <| cp (oLd t85 tm) (s1 rfl) <| cp (oFld (fs := f_api_Table) (k := 0) rfl o24_0 tm) (s1 rfl) <| cp (oLd t22 tm) (s1 rfl) <| cp (oMv tm) (s1 rfl) <| cp (oIdx u22 z87 hy67 tm tm) (s2 rfl rfl) <| cp (oFld (fs := f_api_Row) (k := 0) rfl o87_0 tm) (s1 rfl) <| cp (oLd t85 tm) (s1 rfl) <| cp (oCall rfl (reticentref04_Same.ok hy68) b66 (opds_cons tm (opds_cons tm opds_nil))) (s2 rfl rfl) <| cp (oNot tm) (s1 rfl) <| cp (oMv tm) (s1 rfl) <| csB hp69 rfl rfl <| csB hp69 rfl rfl <| csB hp69 rfl rfl <| csB hp69 rfl rfl <| csB hp69 rfl rfl <| csB hp69 rfl rfl <| csB hp69 rfl rfl <| csB hp69 rfl rfl <| csB hp69 rfl rfl <| csB hp69 rfl rfl <| csB hp69 rfl rfl <| csB hp69 rfl rfl <| csB hp69 rfl rfl <| csB hp69 rfl rfl <| cp (oPkT hp69 tm cB) (s1 rfl) <| cp (oMv tm) (s1 rfl) <| csB rfl rfl rfl <| csB rfl rfl rfl <| csB rfl rfl rfl <| csB rfl rfl rfl <| csB rfl rfl rfl <| csB rfl rfl rfl <| csB rfl rfl rfl <| csB rfl rfl rfl <| csB rfl rfl rfl <| csB rfl rfl rfl <| csB rfl rfl rfl <| csB rfl rfl rfl <| csB rfl rfl rfl <| csB rfl rfl rfl <| cp (oPkT rfl tm cB) (s1 rfl) <| .nil) (by kernel_rfl) (by kernel_rfl) ?_
            exact pJ1 _ (so h) ⟨rfl, rfl, rfl, rfl, rfl, trivial⟩ rfl
          · obtain ⟨y70, hy70, h⟩ := bd h
            obtain ⟨y71, hy71, h⟩ := bd h
            obtain ⟨y72, hy72, h⟩ := bd h
            rcases ic h with ⟨hp73, h⟩ | ⟨hp73, h⟩
            · refine rgD hm (cp (oFld (fs := f_api_Table) (k := 0) rfl o24_0 tm) (s1 rfl) <| cp (oLd t22 tm) (s1 rfl) <| cp (oMv tm) (s1 rfl) <| cp (oIdx u22 z87 hy66 tm tm) (s2 rfl rfl) <| cp (oFld (fs := f_api_Row) (k := 0) rfl o87_0 tm) (s1 rfl) <| cp (oLd t85 tm) (s1 rfl) <| cp (oFld (fs := f_api_Table) (k := 0) rfl o24_0 tm) (s1 rfl) <| cp (oLd t22 tm) (s1 rfl) <| cp (oMv tm) (s1 rfl) <| cp (oIdx u22 z87 hy67 tm tm) (s2 rfl rfl) <| cp (oFld (fs := f_api_Row) (k := 0) rfl o87_0 tm) (s1 rfl) <| cp (oLd t85 tm) (s1 rfl) <| cp (oCall rfl (reticentref04_Same.ok hy68) b66 (opds_cons tm (opds_cons tm opds_nil))) (s2 rfl rfl) <| cp (oNot tm) (s1 rfl) <| cp (oMv tm) (s1 rfl) <| cgB (nb hp69) rfl rfl (oFld (fs := f_api_Table) (k := 0) rfl o24_0 tm) (s1 rfl) <| cgB (nb hp69) rfl rfl (oLd t22 tm) (s1 rfl) <| cgB (nb hp69) rfl rfl (oMv tm) (s1 rfl) <| cgB (nb hp69) rfl rfl (oIdx u22 z87 hy70 tm tm) (s2 rfl rfl) <| cgB (nb hp69) rfl rfl (oFld (fs := f_api_Row) (k := 1) rfl o87_1 tm) (s1 rfl) <| cgB (nb hp69) rfl rfl (oLd t85 tm) (s1 rfl) <| cgB (nb hp69) rfl rfl (oFld (fs := f_api_Table) (k := 0) rfl o24_0 tm) (s1 rfl) <| cgB (nb hp69) rfl rfl (oLd t22 tm) (s1 rfl) <| cgB (nb hp69) rfl rfl (oMv tm) (s1 rfl) <| cgB (nb hp69) rfl rfl (oIdx u22 z87 hy71 tm tm) (s2 rfl rfl) <| cgB (nb hp69) rfl rfl (oFld (fs := f_api_Row) (k := 1) rfl o87_1 tm) (s1 rfl) <| cgB (nb hp69) rfl rfl (oLd t85 tm) (s1 rfl) <| cgB (nb hp69) rfl rfl (oCall rfl (reticentref04_Same.ok hy72) b66 (opds_cons tm (opds_cons tm opds_nil))) (s2 rfl rfl) <| cgB (nb hp69) rfl rfl (oNot tm) (s1 rfl) <| cp (oPkF (nb hp69) tm tm) (s2 rfl rfl) <| cp (oMv tm) (s1 rfl) <| csB hp73 rfl rfl <| csB hp73 rfl rfl <| csB hp73 rfl rfl <| csB hp73 rfl rfl <| csB hp73 rfl rfl <| csB hp73 rfl rfl <| csB hp73 rfl rfl <| csB hp73 rfl rfl <| csB hp73 rfl rfl <| csB hp73 rfl rfl <| csB hp73 rfl rfl <| csB hp73 rfl rfl <| csB hp73 rfl rfl <| csB hp73 rfl rfl <| cp (oPkT hp73 tm cB) (s1 rfl) <| .nil) (by kernel_rfl) (by kernel_rfl) ?_
              exact pJ1 _ (so h) ⟨rfl, rfl, rfl, rfl, rfl, trivial⟩ rfl
            · obtain ⟨y74, hy74, h⟩ := bd h
              obtain ⟨y75, hy75, h⟩ := bd h
              obtain ⟨y76, hy76, h⟩ := bd h
              refine rgD hm (cp (oFld (fs := f_api_Table) (k := 0) rfl o24_0 tm) (s1 rfl) <| cp (oLd t22 tm) (s1 rfl) <| cp (oMv tm) (s1 rfl) <| cp (oIdx u22 z87 hy66 tm tm) (s2 rfl rfl) <| cp (oFld (fs := f_api_Row) (k := 0) rfl o87_0 tm) (s1 rfl) <| cp (oLd t85 tm) (s1 rfl) <| cp (oFld (fs := f_api_Table) (k := 0) rfl o24_0 tm) (s1 rfl) <| cp (oLd t22 tm) (s1 rfl) <| cp (oMv tm) (s1 rfl) <| cp (oIdx u22 z87 hy67 tm tm) (s2 rfl rfl) <| cp (oFld (fs := f_api_Row) (k := 0) rfl o87_0 tm) (s1 rfl) <| cp (oLd t85 tm) (s1 rfl) <| cp (oCall rfl (reticentref04_Same.ok hy68) b66 (opds_cons tm (opds_cons tm opds_nil))) (s2 rfl rfl) <| cp (oNot tm) (s1 rfl) <| cp (oMv tm) (s1 rfl) <| cgB (nb hp69) rfl rfl (oFld (fs := f_api_Table) (k := 0) rfl o24_0 tm) (s1 rfl) <| cgB (nb hp69) rfl rfl (oLd t22 tm) (s1 rfl) <| cgB (nb hp69) rfl rfl (oMv tm) (s1 rfl) <| cgB (nb hp69) rfl rfl (oIdx u22 z87 hy70 tm tm) (s2 rfl rfl) <| cgB (nb hp69) rfl rfl (oFld (fs := f_api_Row) (k := 1) rfl o87_1 tm) (s1 rfl) <| cgB (nb hp69) rfl rfl (oLd t85 tm) (s1 rfl) <| cgB (nb hp69) rfl rfl (oFld (fs := f_api_Table) (k := 0) rfl o24_0 tm) (s1 rfl) <| cgB (nb hp69) rfl rfl (oLd t22 tm) (s1 rfl) <| cgB (nb hp69) rfl rfl (oMv tm) (s1 rfl) <| cgB (nb hp69) rfl rfl (oIdx u22 z87 hy71 tm tm) (s2 rfl rfl) <| cgB (nb hp69) rfl rfl (oFld (fs := f_api_Row) (k := 1) rfl o87_1 tm) (s1 rfl) <| cgB (nb hp69) rfl rfl (oLd t85 tm) (s1 rfl) <| cgB (nb hp69) rfl rfl (oCall rfl (reticentref04_Same.ok hy72) b66 (opds_cons tm (opds_cons tm opds_nil))) (s2 rfl rfl) <| cgB (nb hp69) rfl rfl (oNot tm) (s1 rfl) <| cp (oPkF (nb hp69) tm tm) (s2 rfl rfl) <| cp (oMv tm) (s1 rfl) <| cgB (nb hp73) rfl rfl (oFld (fs := f_api_Table) (k := 0) rfl o24_0 tm) (s1 rfl) <| cgB (nb hp73) rfl rfl (oLd t22 tm) (s1 rfl) <| cgB (nb hp73) rfl rfl (oMv tm) (s1 rfl) <| cgB (nb hp73) rfl rfl (oIdx u22 z87 hy74 tm tm) (s2 rfl rfl) <| cgB (nb hp73) rfl rfl (oFld (fs := f_api_Row) (k := 2) rfl o87_2 tm) (s1 rfl) <| cgB (nb hp73) rfl rfl (oLd t85 tm) (s1 rfl) <| cgB (nb hp73) rfl rfl (oFld (fs := f_api_Table) (k := 0) rfl o24_0 tm) (s1 rfl) <| cgB (nb hp73) rfl rfl (oLd t22 tm) (s1 rfl) <| cgB (nb hp73) rfl rfl (oMv tm) (s1 rfl) <| cgB (nb hp73) rfl rfl (oIdx u22 z87 hy75 tm tm) (s2 rfl rfl) <| cgB (nb hp73) rfl rfl (oFld (fs := f_api_Row) (k := 2) rfl o87_2 tm) (s1 rfl) <| cgB (nb hp73) rfl rfl (oLd t85 tm) (s1 rfl) <| cgB (nb hp73) rfl rfl (oCall rfl (reticentref04_Same.ok hy76) b66 (opds_cons tm (opds_cons tm opds_nil))) (s2 rfl rfl) <| cgB (nb hp73) rfl rfl (oNot tm) (s1 rfl) <| cp (oPkF (nb hp73) tm tm) (s2 rfl rfl) <| .nil) (by kernel_rfl) (by kernel_rfl) ?_
              exact pJ1 _ (so h) ⟨rfl, rfl, rfl, rfl, rfl, trivial⟩ rfl
        · rintro x65 rfl
          replace h := hk2
          rcases ic h with ⟨hp77, h⟩ | ⟨hp77, h⟩
          · refine wBT hp77 tm (s1 rfl) ?_
            refine wSeq ?_
            refine rg (cp (oAs cB) trivial <| .nil) (by kernel_rfl) ?_
            refine pSeq ?_
            refine wRet ?_
            refine pBlkR ?_
            refine pThenR ?_
            refine pThenR ?_
            refine pBlkR ?_
            refine pThenR ?_
            obtain rfl := so h
            replace h := hk1
            refine pThenR ?_
            obtain rfl := so h
            exact pR1 (.inl rfl) rfl (.tmp rfl <| .nil)
          · refine wBF hp77 tm (s1 rfl) ?_
            refine wSkip ?_
            refine pBlkN ?_
            refine pSeq ?_
            refine rg (cp (oAdd tm (cI (by decide))) (s1 rfl) <| cp (oMv tm) (s1 rfl) <| .nil) (by kernel_rfl) ?_
            exact pLoop (lW (ih _ h) ⟨rfl, rfl, rfl, rfl, trivial⟩ rfl)
      · refine wCF hp53 tm (s1 rfl) ?_
        refine wExit ?_
        refine pThenX ?_
        refine pThenX ?_
        refine pBlkX ?_
        exact pJ0 (so h) trivial rfl
    · rintro rfl
      replace h := hk1
      refine pSeq ?_
      refine wSeq ?_
      refine rg (cp (oAs cB) trivial <| .nil) (by kernel_rfl) ?_
      refine pSeq ?_
      refine wRet ?_
      obtain rfl := so h
      exact pR1 (.inl rfl) rfl (.tmp rfl <| .nil)
  · refine wNF hp1 tm (s1 rfl) ?_
    refine wSeq ?_
    refine rg (cp (oAs cB) trivial <| .nil) (by kernel_rfl) ?_
    refine pSeq ?_
    refine wRet ?_
    refine pThenR ?_
    obtain rfl := so h
    exact pR1 (.inl rfl) rfl (.tmp rfl <| .nil)

theorem reticentlaw24_MutantAll.ok {a0 : api_Table} {a1 : Int} {r : Bool} (h : reticentlaw24_MutantAll.f a0 a1 = some r) : FnA Tryd.prog 5 [(kR f_api_Table).sig a0, (kI .i64).sig a1] (kB.sig r) := by
  refine fnIntro Tryd.func5 rfl (by kernel_rfl) fun H0 w0 => ?_
  unfold reticentlaw24_MutantAll.f at h
  refine wSeq ?_
  refine rg (cw (oBoxS (id := 2) (fs := f_api_Table) tm) (s1 rfl) <| cp (oAs cB) trivial <| .nil) (by kernel_rfl) ?_
  refine pSeq ?_
  refine wSeq ?_
  obtain ⟨y1, hy1, h⟩ := bd h
  refine rg (cr (oLdA (n := 0) (fs := f_api_Table) (u := ⟨a0.Rows⟩) rfl ⟨rfl, trivial⟩ t24 tm) (s1 rfl) <| cp (oCall rfl (reticentlaw24_few.ok hy1) b26 (opds_cons tm opds_nil)) (s1 rfl) <| cwn (oStA (n := 0) (fs := f_api_Table) rfl rfl z24 tm tm) (s2 rfl rfl) <| .nil) (by kernel_rfl) ?_
  refine pSeq ?_
  refine wSeq ?_
  obtain ⟨y2, hy2, h⟩ := bd h
  refine rg (cr (oLdA (n := 0) (fs := f_api_Table) (u := ⟨y1.Rows⟩) rfl ⟨rfl, trivial⟩ t24 tm) (s1 rfl) <| cp (oCall rfl (mutant_All.ok hy2) b27 (opds_cons tm opds_nil)) (s1 rfl) <| cp (oMv tm) (s1 rfl) <| cp (oExt (k := 0) rfl tm) (s1 rfl) <| cp (oExt (k := 1) rfl tm) (s1 rfl) <| cp (oAs tm) (s1 rfl) <| cp (oAs tm) (s1 rfl) <| .nil) (by kernel_rfl) ?_
  refine pSeq ?_
  refine wSeq ?_
  obtain ⟨y3, hy3, h⟩ := bd h
  refine rg (cr (oLdA (n := 0) (fs := f_api_Table) (u := ⟨y1.Rows⟩) rfl ⟨rfl, trivial⟩ t24 tm) (s1 rfl) <| cp (oMv tm) (s1 rfl) <| cp (oCall rfl (mutant_Name.ok hy3) b28 (opds_cons tm (opds_cons tm opds_nil))) (s2 rfl rfl) <| cp (oMv tm) (s1 rfl) <| cp (oExt (k := 0) rfl tm) (s1 rfl) <| cp (oExt (k := 1) rfl tm) (s1 rfl) <| cp (oAs tm) (s1 rfl) <| cp (oAs tm) (s1 rfl) <| .nil) (by kernel_rfl) ?_
  refine pSeq ?_
  refine wSeq ?_
  refine wSeq ?_
  obtain ⟨y4, hy4, h⟩ := bd h
  refine rg (cr (oLdA (n := 0) (fs := f_api_Table) (u := ⟨y1.Rows⟩) rfl ⟨rfl, trivial⟩ t24 tm) (s1 rfl) <| cp (oCall rfl (reticentref06_Check.ok hy4) b14 (opds_cons tm opds_nil)) (s1 rfl) <| cw (oAlloc (id := 9) (ls := [.d (kI .i64) 0, .d (kI .i64) 0]) ze32 (fun g => ⟨[(.int .i64 0)], _, rfl, zI_i64 g.H, ⟨[(.int .i64 0)], _, rfl, zI_i64 g.H, rfl⟩⟩)) trivial <| cwn (oStA (n := 0) (fs := f_reticentref06_W) rfl rfl z32 tm tm) (s2 rfl rfl) <| .nil) (by kernel_rfl) ?_
  refine pSeq ?_
  refine wSeq ?_
  refine rg (cp (oFldP o32_1 tm) (s1 rfl) <| cr (oLdB (n := 0) (k := 1) rfl rfl rfl t26 tm) (s1 rfl) <| cp (oNe rfl tm (cI (by decide))) (s1 rfl) <| .nil) (by kernel_rfl) ?_
  refine pSeq ?_
  rcases ic h with ⟨hp5, h⟩ | ⟨hp5, h⟩
  · refine wNT hp5 tm (s1 rfl) ?_
    refine wSkip ?_
    refine pSeq ?_
    refine wSeq ?_
    obtain ⟨y6, hy6, h⟩ := bd h
    refine rg (cr (oLdA (n := 1) (fs := f_api_Table) (u := ⟨y1.Rows⟩) rfl ⟨rfl, trivial⟩ t24 tm) (s1 rfl) <| cp (oCall rfl (reticentref24_All.ok hy6) b30 (opds_cons tm opds_nil)) (s1 rfl) <| cp (oAs tm) (s1 rfl) <| .nil) (by kernel_rfl) ?_
    refine pSeq ?_
    refine wSeq ?_
    obtain ⟨o1, h, hk1⟩ := bd h
    refine wJ1 (fun x10 => x10 = o1) (fun x10 => [(1, .d ((kI .i64).sig a1)), (5, .d ((kL (kR f_api_Table)).sig y2.1)), (7, .d (kS.sig y3.1)), (8, .d ((kI .i64).sig y3.2)), (10, .d ((kL (kR f_reticentref24_M)).sig y6)), (66, .d (kB.sig x10))]) (fun x10 => [.box 9 32 [.d (kI .i64) y4.I, .d (kI .i64) y4.E], .box 2 24 [.d (kL (kR f_api_Row)) y1.Rows]]) ?_ ?_
    · rcases ic h with ⟨hp11, h⟩ | ⟨hp11, h⟩
      · rcases ic h with ⟨hp12, h⟩ | ⟨hp12, h⟩
        · obtain ⟨y13, hy13, h⟩ := bd h
          refine rg (cp (oMv tm) (s1 rfl) <| cp (oNe rfl tm (cI (by decide))) (s1 rfl) <| cp (oMv tm) (s1 rfl) <| cgB (nf hp11) rfl rfl (oMv tm) (s1 rfl) <| cgB (nf hp11) rfl rfl (oLenL u47 tm) (s1 rfl) <| cgB (nf hp11) rfl rfl (oMv tm) (s1 rfl) <| cgB (nf hp11) rfl rfl (oLenL u51 tm) (s1 rfl) <| cgB (nf hp11) rfl rfl (oNe rfl tm tm) (s2 rfl rfl) <| cp (oPkF (nf hp11) tm tm) (s2 rfl rfl) <| cp (oMv tm) (s1 rfl) <| cgB (nf hp12) rfl rfl (oCall rfl (reticentlaw24_alive.ok hy13) b29 opds_nil) trivial <| cgB (nf hp12) rfl rfl (oNot tm) (s1 rfl) <| cp (oPkF (nf hp12) tm tm) (s2 rfl rfl) <| .nil) (by kernel_rfl) ?_
          exact pJ1 _ (so h) ⟨rfl, rfl, rfl, rfl, rfl, rfl, trivial⟩ rfl
        · refine rg (cp (oMv tm) (s1 rfl) <| cp (oNe rfl tm (cI (by decide))) (s1 rfl) <| cp (oMv tm) (s1 rfl) <| cgB (nf hp11) rfl rfl (oMv tm) (s1 rfl) <| cgB (nf hp11) rfl rfl (oLenL u47 tm) (s1 rfl) <| cgB (nf hp11) rfl rfl (oMv tm) (s1 rfl) <| cgB (nf hp11) rfl rfl (oLenL u51 tm) (s1 rfl) <| cgB (nf hp11) rfl rfl (oNe rfl tm tm) (s2 rfl rfl) <| cp (oPkF (nf hp11) tm tm) (s2 rfl rfl) <| cp (oMv tm) (s1 rfl) <| csB (nt hp12) rfl rfl <| csB (nt hp12) rfl rfl <| cp (oPkT (nt hp12) tm cB) (s1 rfl) <| .nil) (by kernel_rfl) ?_
          exact pJ1 _ (so h) ⟨rfl, rfl, rfl, rfl, rfl, rfl, trivial⟩ rfl
      · refine rg (cp (oMv tm) (s1 rfl) <| cp (oNe rfl tm (cI (by decide))) (s1 rfl) <| cp (oMv tm) (s1 rfl) <| csB (nt hp11) rfl rfl <| csB (nt hp11) rfl rfl <| csB (nt hp11) rfl rfl <| csB (nt hp11) rfl rfl <| csB (nt hp11) rfl rfl <| cp (oPkT (nt hp11) tm cB) (s1 rfl) <| cp (oMv tm) (s1 rfl) <| csB rfl rfl rfl <| csB rfl rfl rfl <| cp (oPkT rfl tm cB) (s1 rfl) <| .nil) (by kernel_rfl) ?_
        exact pJ1 _ (so h) ⟨rfl, rfl, rfl, rfl, rfl, rfl, trivial⟩ rfl
    · rintro x10 rfl
      replace h := hk1
      rcases ic h with ⟨hp14, h⟩ | ⟨hp14, h⟩
      · refine wBT hp14 tm (s1 rfl) ?_
        refine wSeq ?_
        refine rg (cp (oAs cB) trivial <| .nil) (by kernel_rfl) ?_
        refine pSeq ?_
        refine wRet ?_
        refine pThenR ?_
        obtain rfl := so h
        exact pR1 (.inl rfl) rfl (.tmp rfl <| .nil)
      · refine wBF hp14 tm (s1 rfl) ?_
        refine wSkip ?_
        refine pSeq ?_
        refine wSeq ?_
        refine wSeq ?_
        refine rg (cp (oMv tm) (s1 rfl) <| cp (oLenL u47 tm) (s1 rfl) <| cp (oMv (cI (by decide))) trivial <| .nil) (by kernel_rfl) ?_
        refine pSeq ?_
        obtain ⟨o1, h, hk1⟩ := bd h
        refine wK0 (.inr () = o1) ([(1, .d ((kI .i64).sig a1)), (7, .d (kS.sig y3.1)), (8, .d ((kI .i64).sig y3.2)), (10, .d ((kL (kR f_reticentref24_M)).sig y6))]) ([.box 9 32 [.d (kI .i64) y4.I, .d (kI .i64) y4.E], .box 2 24 [.d (kL (kR f_api_Row)) y1.Rows]]) ?_ ?_
        · refine wBlock (wLoop ?_)
          refine lW (pc1 o1 (fun v25 => [(1, .d ((kI .i64).sig a1)), (5, .d ((kL (kR f_api_Table)).sig y2.1)), (7, .d (kS.sig y3.1)), (8, .d ((kI .i64).sig y3.2)), (10, .d ((kL (kR f_reticentref24_M)).sig y6)), (68, .d ((kI .i64).sig (y2.1.length : Int))), (69, .d ((kI .i64).sig v25))]) (fun v25 => [.box 9 32 [.d (kI .i64) y4.I, .d (kI .i64) y4.E], .box 2 24 [.d (kL (kR f_api_Row)) y1.Rows]]) (reticentlaw24_MutantAll.l0.partial_correctness y2 y6) ?_ _ h) ⟨rfl, rfl, rfl, rfl, rfl, rfl, rfl, trivial⟩ rfl
          clear h
          intro f' ih v25 h
          refine wSeq ?_
          refine rg (cp (oLt rfl tm tm) (s2 rfl rfl) <| .nil) (by kernel_rfl) ?_
          refine pSeq ?_
          refine wSeq ?_
          rcases ic h with ⟨hp26, h⟩ | ⟨hp26, h⟩
          · refine wCT hp26 tm (s1 rfl) ?_
            refine wSkip ?_
            refine pSeq ?_
            refine wSeq ?_
            refine wBlock ?_
            refine wSeq ?_
            refine rg (cp (oMv tm) (s1 rfl) <| cp (oAs tm) (s1 rfl) <| .nil) (by kernel_rfl) ?_
            refine pSeq ?_
            refine wSeq ?_
            obtain ⟨y27, hy27, h⟩ := bd h
            obtain ⟨y28, hy28, h⟩ := bd h
            obtain ⟨y29, hy29, h⟩ := bd h
            refine rgD hm (cp (oMv tm) (s1 rfl) <| cp (oMv tm) (s1 rfl) <| cp (oIdx u47 z24 hy27 tm tm) (s2 rfl rfl) <| cp (oLd t24 tm) (s1 rfl) <| cp (oMv tm) (s1 rfl) <| cp (oMv tm) (s1 rfl) <| cp (oIdx u51 z54 hy28 tm tm) (s2 rfl rfl) <| cp (oFld (fs := f_reticentref24_M) (k := 0) rfl o54_0 tm) (s1 rfl) <| cp (oLd t24 tm) (s1 rfl) <| cp (oCall rfl (reticentref06_Like.ok hy29) b23 (opds_cons tm (opds_cons tm opds_nil))) (s2 rfl rfl) <| cp (oNot tm) (s1 rfl) <| .nil) (by kernel_rfl) (by kernel_rfl) ?_
            refine pSeq ?_
            rcases ic h with ⟨hp30, h⟩ | ⟨hp30, h⟩
            · refine wBT hp30 tm (s1 rfl) ?_
              refine wSeq ?_
              refine rg (cp (oAs cB) trivial <| .nil) (by kernel_rfl) ?_
              refine pSeq ?_
              refine wRet ?_
              refine pBlkR ?_
              refine pThenR ?_
              refine pThenR ?_
              refine pBlkR ?_
              refine pThenR ?_
              obtain rfl := so h
              replace h := hk1
              refine pThenR ?_
              obtain rfl := so h
              exact pR1 (.inl rfl) rfl (.tmp rfl <| .nil)
            · refine wBF hp30 tm (s1 rfl) ?_
              refine wSkip ?_
              refine pBlkN ?_
              refine pSeq ?_
              refine rg (cp (oAdd tm (cI (by decide))) (s1 rfl) <| cp (oMv tm) (s1 rfl) <| .nil) (by kernel_rfl) ?_
              exact pLoop (lW (ih _ h) ⟨rfl, rfl, rfl, rfl, rfl, rfl, rfl, trivial⟩ rfl)
          · refine wCF hp26 tm (s1 rfl) ?_
            refine wExit ?_
            refine pThenX ?_
            refine pThenX ?_
            refine pBlkX ?_
            exact pJ0 (so h) ⟨rfl, rfl, rfl, rfl, trivial⟩ rfl
        · rintro rfl
          replace h := hk1
          refine pSeq ?_
          refine wSeq ?_
          obtain ⟨o1, h, hk1⟩ := bd h
          refine wJ1 (fun x32 => x32 = o1) (fun x32 => [(1, .d ((kI .i64).sig a1)), (7, .d (kS.sig y3.1)), (8, .d ((kI .i64).sig y3.2)), (10, .d ((kL (kR f_reticentref24_M)).sig y6)), (91, .d (kB.sig x32))]) (fun x32 => [.box 9 32 [.d (kI .i64) y4.I, .d (kI .i64) y4.E], .box 2 24 [.d (kL (kR f_api_Row)) y1.Rows]]) ?_ ?_
          · rcases ic h with ⟨hp33, h⟩ | ⟨hp33, h⟩
            · refine rg (cp (oMv tm) (s1 rfl) <| cp (oLt rfl tm (cI (by decide))) (s1 rfl) <| cp (oMv tm) (s1 rfl) <| csB (decide_eq_true hp33) rfl rfl <| csB (decide_eq_true hp33) rfl rfl <| csB (decide_eq_true hp33) rfl rfl <| csB (decide_eq_true hp33) rfl rfl <| cp (oPkT (decide_eq_true hp33) tm cB) (s1 rfl) <| .nil) (by kernel_rfl) ?_
              exact pJ1 _ (so h) ⟨rfl, rfl, rfl, rfl, rfl, trivial⟩ rfl
            · refine rg (cp (oMv tm) (s1 rfl) <| cp (oLt rfl tm (cI (by decide))) (s1 rfl) <| cp (oMv tm) (s1 rfl) <| cgB (decide_eq_false hp33) rfl rfl (oMv tm) (s1 rfl) <| cgB (decide_eq_false hp33) rfl rfl (oMv tm) (s1 rfl) <| cgB (decide_eq_false hp33) rfl rfl (oLenL u51 tm) (s1 rfl) <| cgB (decide_eq_false hp33) rfl rfl (oGe rfl tm tm) (s2 rfl rfl) <| cp (oPkF (decide_eq_false hp33) tm tm) (s2 rfl rfl) <| .nil) (by kernel_rfl) ?_
              exact pJ1 _ (so h) ⟨rfl, rfl, rfl, rfl, rfl, trivial⟩ rfl
          · rintro x32 rfl
            replace h := hk1
            rcases ic h with ⟨hp34, h⟩ | ⟨hp34, h⟩
            · refine wBT hp34 tm (s1 rfl) ?_
              obtain ⟨o1, h, hk1⟩ := bd h
              refine wJ1 (fun x36 => x36 = o1) (fun x36 => [(4, .d (kB.sig x36))]) (fun x36 => [.box 9 32 [.d (kI .i64) y4.I, .d (kI .i64) y4.E], .box 2 24 [.d (kL (kR f_api_Row)) y1.Rows]]) ?_ ?_
              · rcases ic h with ⟨hp37, h⟩ | ⟨hp37, h⟩
                · refine rg (cp (oMv tm) (s1 rfl) <| cp (oEq rfl tm (cI (by decide))) (s1 rfl) <| cp (oMv tm) (s1 rfl) <| cgB (decide_eq_true hp37) rfl rfl (oMv tm) (s1 rfl) <| cgB (decide_eq_true hp37) rfl rfl (oSEq rfl tm (cS (by decide))) (s1 rfl) <| cp (oPkT (decide_eq_true hp37) tm tm) (s2 rfl rfl) <| cp (oAs tm) (s1 rfl) <| .nil) (by kernel_rfl) ?_
                  exact pJ1 _ (so h) ⟨rfl, trivial⟩ rfl
                · refine rg (cp (oMv tm) (s1 rfl) <| cp (oEq rfl tm (cI (by decide))) (s1 rfl) <| cp (oMv tm) (s1 rfl) <| csB (decide_eq_false hp37) rfl rfl <| csB (decide_eq_false hp37) rfl rfl <| cp (oPkF (decide_eq_false hp37) tm cB) (s1 rfl) <| cp (oAs tm) (s1 rfl) <| .nil) (by kernel_rfl) ?_
                  exact pJ1 _ (so h) ⟨rfl, trivial⟩ rfl
              · rintro x36 rfl
                replace h := hk1
                refine wRet ?_
                refine pThenR ?_
                obtain rfl := so h
                exact pR1 (.inl rfl) rfl (.tmp rfl <| .nil)
            · refine wBF hp34 tm (s1 rfl) ?_
              refine wSkip ?_
              refine pSeq ?_
              obtain ⟨o1, h, hk1⟩ := bd h
              refine wJ1 (fun x40 => x40 = o1) (fun x40 => [(4, .d (kB.sig x40))]) (fun x40 => [.box 9 32 [.d (kI .i64) y4.I, .d (kI .i64) y4.E], .box 2 24 [.d (kL (kR f_api_Row)) y1.Rows]]) ?_ ?_
              · rcases ic h with ⟨hp41, h⟩ | ⟨hp41, h⟩
                · obtain ⟨y42, hy42, h⟩ := bd h
                  refine rg (cp (oMv tm) (s1 rfl) <| cp (oEq rfl tm (cI (by decide))) (s1 rfl) <| cp (oMv tm) (s1 rfl) <| cgB (decide_eq_true hp41) rfl rfl (oMv tm) (s1 rfl) <| cgB (decide_eq_true hp41) rfl rfl (oMv tm) (s1 rfl) <| cgB (decide_eq_true hp41) rfl rfl (oMv tm) (s1 rfl) <| cgB (decide_eq_true hp41) rfl rfl (oIdx u51 z54 hy42 tm tm) (s2 rfl rfl) <| cgB (decide_eq_true hp41) rfl rfl (oFld (fs := f_reticentref24_M) (k := 1) rfl o54_1 tm) (s1 rfl) <| cgB (decide_eq_true hp41) rfl rfl (oLd t9 tm) (s1 rfl) <| cgB (decide_eq_true hp41) rfl rfl (oSEq rfl tm tm) (s2 rfl rfl) <| cp (oPkT (decide_eq_true hp41) tm tm) (s2 rfl rfl) <| cp (oAs tm) (s1 rfl) <| .nil) (by kernel_rfl) ?_
                  exact pJ1 _ (so h) ⟨rfl, trivial⟩ rfl
                · refine rg (cp (oMv tm) (s1 rfl) <| cp (oEq rfl tm (cI (by decide))) (s1 rfl) <| cp (oMv tm) (s1 rfl) <| csB (decide_eq_false hp41) rfl rfl <| csB (decide_eq_false hp41) rfl rfl <| csB (decide_eq_false hp41) rfl rfl <| csB (decide_eq_false hp41) rfl rfl <| csB (decide_eq_false hp41) rfl rfl <| csB (decide_eq_false hp41) rfl rfl <| csB (decide_eq_false hp41) rfl rfl <| cp (oPkF (decide_eq_false hp41) tm cB) (s1 rfl) <| cp (oAs tm) (s1 rfl) <| .nil) (by kernel_rfl) ?_
                  exact pJ1 _ (so h) ⟨rfl, trivial⟩ rfl
              · rintro x40 rfl
                replace h := hk1
                refine wRet ?_
                obtain rfl := so h
                exact pR1 (.inl rfl) rfl (.tmp rfl <| .nil)
  · refine wNF hp5 tm (s1 rfl) ?_
    obtain ⟨o1, h, hk1⟩ := bd h
    refine wJ1 (fun x48 => x48 = o1) (fun x48 => [(4, .d (kB.sig x48))]) (fun x48 => [.box 9 32 [.d (kI .i64) y4.I, .d (kI .i64) y4.E], .box 2 24 [.d (kL (kR f_api_Row)) y1.Rows]]) ?_ ?_
    · obtain ⟨y49, hy49, h⟩ := bd h
      rcases ic h with ⟨hp50, h⟩ | ⟨hp50, h⟩
      · rcases ic h with ⟨hp51, h⟩ | ⟨hp51, h⟩
        · rcases ic h with ⟨hp52, h⟩ | ⟨hp52, h⟩
          · rcases ic h with ⟨hp53, h⟩ | ⟨hp53, h⟩
            · refine rg (cp (oCall rfl (reticentlaw24_alive.ok hy49) b29 opds_nil) trivial <| cp (oMv tm) (s1 rfl) <| cgB hp50 rfl rfl (oMv tm) (s1 rfl) <| cgB hp50 rfl rfl (oFldP o32_1 tm) (s1 rfl) <| crgB hp50 rfl rfl (oLdB (n := 0) (k := 1) rfl rfl rfl t26 tm) (s1 rfl) <| cgB hp50 rfl rfl (oEq rfl tm tm) (s2 rfl rfl) <| cp (oPkT hp50 tm tm) (s2 rfl rfl) <| cp (oMv tm) (s1 rfl) <| cgB (decide_eq_true hp51) rfl rfl (oMv tm) (s1 rfl) <| cgB (decide_eq_true hp51) rfl rfl (oFldP o32_1 tm) (s1 rfl) <| crgB (decide_eq_true hp51) rfl rfl (oLdB (n := 0) (k := 1) rfl rfl rfl t26 tm) (s1 rfl) <| cgB (decide_eq_true hp51) rfl rfl (oEq rfl tm tm) (s2 rfl rfl) <| cp (oPkT (decide_eq_true hp51) tm tm) (s2 rfl rfl) <| cp (oMv tm) (s1 rfl) <| cgB (decide_eq_true hp52) rfl rfl (oMv tm) (s1 rfl) <| cgB (decide_eq_true hp52) rfl rfl (oLenL u47 tm) (s1 rfl) <| cgB (decide_eq_true hp52) rfl rfl (oEq rfl tm (cI (by decide))) (s1 rfl) <| cp (oPkT (decide_eq_true hp52) tm tm) (s2 rfl rfl) <| cp (oMv tm) (s1 rfl) <| cgB (decide_eq_true hp53) rfl rfl (oMv tm) (s1 rfl) <| cgB (decide_eq_true hp53) rfl rfl (oSEq rfl tm (cS (by decide))) (s1 rfl) <| cp (oPkT (decide_eq_true hp53) tm tm) (s2 rfl rfl) <| cp (oAs tm) (s1 rfl) <| .nil) (by kernel_rfl) ?_
              exact pJ1 _ (so h) ⟨rfl, trivial⟩ rfl
            · refine rg (cp (oCall rfl (reticentlaw24_alive.ok hy49) b29 opds_nil) trivial <| cp (oMv tm) (s1 rfl) <| cgB hp50 rfl rfl (oMv tm) (s1 rfl) <| cgB hp50 rfl rfl (oFldP o32_1 tm) (s1 rfl) <| crgB hp50 rfl rfl (oLdB (n := 0) (k := 1) rfl rfl rfl t26 tm) (s1 rfl) <| cgB hp50 rfl rfl (oEq rfl tm tm) (s2 rfl rfl) <| cp (oPkT hp50 tm tm) (s2 rfl rfl) <| cp (oMv tm) (s1 rfl) <| cgB (decide_eq_true hp51) rfl rfl (oMv tm) (s1 rfl) <| cgB (decide_eq_true hp51) rfl rfl (oFldP o32_1 tm) (s1 rfl) <| crgB (decide_eq_true hp51) rfl rfl (oLdB (n := 0) (k := 1) rfl rfl rfl t26 tm) (s1 rfl) <| cgB (decide_eq_true hp51) rfl rfl (oEq rfl tm tm) (s2 rfl rfl) <| cp (oPkT (decide_eq_true hp51) tm tm) (s2 rfl rfl) <| cp (oMv tm) (s1 rfl) <| cgB (decide_eq_true hp52) rfl rfl (oMv tm) (s1 rfl) <| cgB (decide_eq_true hp52) rfl rfl (oLenL u47 tm) (s1 rfl) <| cgB (decide_eq_true hp52) rfl rfl (oEq rfl tm (cI (by decide))) (s1 rfl) <| cp (oPkT (decide_eq_true hp52) tm tm) (s2 rfl rfl) <| cp (oMv tm) (s1 rfl) <| csB (decide_eq_false hp53) rfl rfl <| csB (decide_eq_false hp53) rfl rfl <| cp (oPkF (decide_eq_false hp53) tm cB) (s1 rfl) <| cp (oAs tm) (s1 rfl) <| .nil) (by kernel_rfl) ?_
              exact pJ1 _ (so h) ⟨rfl, trivial⟩ rfl
          · refine rg (cp (oCall rfl (reticentlaw24_alive.ok hy49) b29 opds_nil) trivial <| cp (oMv tm) (s1 rfl) <| cgB hp50 rfl rfl (oMv tm) (s1 rfl) <| cgB hp50 rfl rfl (oFldP o32_1 tm) (s1 rfl) <| crgB hp50 rfl rfl (oLdB (n := 0) (k := 1) rfl rfl rfl t26 tm) (s1 rfl) <| cgB hp50 rfl rfl (oEq rfl tm tm) (s2 rfl rfl) <| cp (oPkT hp50 tm tm) (s2 rfl rfl) <| cp (oMv tm) (s1 rfl) <| cgB (decide_eq_true hp51) rfl rfl (oMv tm) (s1 rfl) <| cgB (decide_eq_true hp51) rfl rfl (oFldP o32_1 tm) (s1 rfl) <| crgB (decide_eq_true hp51) rfl rfl (oLdB (n := 0) (k := 1) rfl rfl rfl t26 tm) (s1 rfl) <| cgB (decide_eq_true hp51) rfl rfl (oEq rfl tm tm) (s2 rfl rfl) <| cp (oPkT (decide_eq_true hp51) tm tm) (s2 rfl rfl) <| cp (oMv tm) (s1 rfl) <| csB (decide_eq_false hp52) rfl rfl <| csB (decide_eq_false hp52) rfl rfl <| csB (decide_eq_false hp52) rfl rfl <| cp (oPkF (decide_eq_false hp52) tm cB) (s1 rfl) <| cp (oMv tm) (s1 rfl) <| csB rfl rfl rfl <| csB rfl rfl rfl <| cp (oPkF rfl tm cB) (s1 rfl) <| cp (oAs tm) (s1 rfl) <| .nil) (by kernel_rfl) ?_
            exact pJ1 _ (so h) ⟨rfl, trivial⟩ rfl
        · refine rg (cp (oCall rfl (reticentlaw24_alive.ok hy49) b29 opds_nil) trivial <| cp (oMv tm) (s1 rfl) <| cgB hp50 rfl rfl (oMv tm) (s1 rfl) <| cgB hp50 rfl rfl (oFldP o32_1 tm) (s1 rfl) <| crgB hp50 rfl rfl (oLdB (n := 0) (k := 1) rfl rfl rfl t26 tm) (s1 rfl) <| cgB hp50 rfl rfl (oEq rfl tm tm) (s2 rfl rfl) <| cp (oPkT hp50 tm tm) (s2 rfl rfl) <| cp (oMv tm) (s1 rfl) <| csB (decide_eq_false hp51) rfl rfl <| csB (decide_eq_false hp51) rfl rfl <| csB (decide_eq_false hp51) rfl rfl <| csB (decide_eq_false hp51) rfl rfl <| cp (oPkF (decide_eq_false hp51) tm cB) (s1 rfl) <| cp (oMv tm) (s1 rfl) <| csB rfl rfl rfl <| csB rfl rfl rfl <| csB rfl rfl rfl <| cp (oPkF rfl tm cB) (s1 rfl) <| cp (oMv tm) (s1 rfl) <| csB rfl rfl rfl <| csB rfl rfl rfl <| cp (oPkF rfl tm cB) (s1 rfl) <| cp (oAs tm) (s1 rfl) <| .nil) (by kernel_rfl) ?_
          exact pJ1 _ (so h) ⟨rfl, trivial⟩ rfl
      · refine rg (cp (oCall rfl (reticentlaw24_alive.ok hy49) b29 opds_nil) trivial <| cp (oMv tm) (s1 rfl) <| csB (nb hp50) rfl rfl <| csB (nb hp50) rfl rfl <| csB (nb hp50) rfl rfl <| csB (nb hp50) rfl rfl <| cp (oPkF (nb hp50) tm cB) (s1 rfl) <| cp (oMv tm) (s1 rfl) <| csB rfl rfl rfl <| csB rfl rfl rfl <| csB rfl rfl rfl <| csB rfl rfl rfl <| cp (oPkF rfl tm cB) (s1 rfl) <| cp (oMv tm) (s1 rfl) <| csB rfl rfl rfl <| csB rfl rfl rfl <| csB rfl rfl rfl <| cp (oPkF rfl tm cB) (s1 rfl) <| cp (oMv tm) (s1 rfl) <| csB rfl rfl rfl <| csB rfl rfl rfl <| cp (oPkF rfl tm cB) (s1 rfl) <| cp (oAs tm) (s1 rfl) <| .nil) (by kernel_rfl) ?_
        exact pJ1 _ (so h) ⟨rfl, trivial⟩ rfl
    · rintro x48 rfl
      replace h := hk1
      refine wRet ?_
      refine pThenR ?_
      obtain rfl := so h
      exact pR1 (.inl rfl) rfl (.tmp rfl <| .nil)

end Go.Proofs.YtjkijjhjffodcaaDoor.MA
