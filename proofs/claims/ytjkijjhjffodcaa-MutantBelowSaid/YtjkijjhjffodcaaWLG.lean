import Derived.Test.YtjkijjhjffodcaaWLGp1
import Derived.Test.YtjkijjhjffodcaaProg
set_option linter.unusedVariables false
set_option maxRecDepth 10000
namespace Go.Proofs.Ytjkijjhjffodcaa.LG
open Go Go.Proofs.Ytjkijjhjffodcaa.Ab

theorem judge_judge_comes.ok {a0 : judge_judge} {a1 : List Int} {r : judge_judge × If57} (h : judge_judge_comes.f a0 a1 = some r) : FnS Try.prog 20 [.p 70000 0, .d ((kL (kI .i64)).sig a1)] [.box 70000 61 [.d (kR f_api_Lattice) a0.l_, .d (kL (kI .i64)) a0.labels_, .v 70003], .row 70003 57 (kF vIf57) a0.pile_] [70000] (.d ((kF vIf57).sig r.2)) [.box 70000 61 [.d (kR f_api_Lattice) r.1.l_, .d (kL (kI .i64)) r.1.labels_, .v 70003], .row 70003 57 (kF vIf57) r.1.pile_] := by
  refine fnIntroS Try.func20 rfl (by kernel_rfl) fun X H0 w0 pv => ?_
  unfold judge_judge_comes.f at h
  refine wSeq ?_
  refine rg (cp (oAs (cNil (view := vIf57) (x := .nil) rfl)) trivial <| .nil) (by kernel_rfl) ?_
  refine pSeq ?_
  refine wSeq ?_
  refine wSeq ?_
  refine rg (cp (oMv tm) (s1 rfl) <| cp (oLenL u26 tm) (s1 rfl) <| cp (oMv (cI (by decide))) trivial <| .nil) (by kernel_rfl) ?_
  refine pSeq ?_
  refine wWeak (Γ' := [(0, .p 70000 0), (13, .d ((kL (kI .i64)).sig a1)), (14, .d ((kI .i64).sig (a1.length : Int))), (15, .d ((kI .i64).sig 0))]) ⟨rfl, rfl, rfl, rfl, trivial⟩ ?_
  refine wRen 70003 3505002 rfl ?_
  obtain ⟨o1, h, hk1⟩ := bd h
  refine wK3 (fun x229 x230 x231 => (x229, x230, x231) = o1) (fun x229 x230 x231 => [(0, .p 70000 0)]) (fun x229 x230 x231 => [.box 70000 61 [.d (kR f_api_Lattice) x229, .d (kL (kI .i64)) x230, .v 3505002], .row 3505002 57 (kF vIf57) x231]) ?_ ?_
  · refine wBlock (wLoop ?_)
    refine lW (pc4 o1 (fun v225 v226 v227 v228 => [(0, .p 70000 0), (13, .d ((kL (kI .i64)).sig a1)), (14, .d ((kI .i64).sig (a1.length : Int))), (15, .d ((kI .i64).sig v228))]) (fun v225 v226 v227 v228 => [.box 70000 61 [.d (kR f_api_Lattice) v225, .d (kL (kI .i64)) v226, .v 3505002], .row 3505002 57 (kF vIf57) v227]) (judge_judge_comes.l0.partial_correctness a1) ?_ _ _ _ _ h) ⟨rfl, rfl, rfl, rfl, trivial⟩ rfl
    clear h
    intro f' ih v225 v226 v227 v228 h
    refine wSeq ?_
    refine rg (cp (oLt rfl tm tm) (s2 rfl rfl) <| .nil) (by kernel_rfl) ?_
    refine pSeq ?_
    refine wSeq ?_
    rcases ic h with ⟨hp232, h⟩ | ⟨hp232, h⟩
    · refine wCT hp232 tm (s1 rfl) ?_
      refine wSkip ?_
      refine pSeq ?_
      obtain ⟨o2, h, hk2⟩ := bd h
      refine wJ3 (fun x287 x288 x289 => (x287, x288, x289) = o2) (fun x287 x288 x289 => [(0, .p 70000 0), (13, .d ((kL (kI .i64)).sig a1)), (14, .d ((kI .i64).sig (a1.length : Int))), (15, .d ((kI .i64).sig v228))]) (fun x287 x288 x289 => [.box 70000 61 [.d (kR f_api_Lattice) x287, .d (kL (kI .i64)) x288, .v 3505002], .row 3505002 57 (kF vIf57) x289]) ?_ ?_
      · refine wBlock ?_
        refine wSeq ?_
        obtain ⟨y290, hy290, h⟩ := bd h
        refine rg (cp (oIdx u26 z3 hy290 tm tm) (s2 rfl rfl) <| cp (oLd t3 tm) (s1 rfl) <| cp (oAs tm) (s1 rfl) <| .nil) (by kernel_rfl) ?_
        refine pSeq ?_
        refine wSeq ?_
        refine rg (cp (oMv tm) (s1 rfl) <| .nil) (by kernel_rfl) ?_
        refine pSeq ?_
        obtain ⟨o3, h, hk3⟩ := bd h
        refine wK3 (fun x316 x317 x318 => (x316, x317, x318) = o3) (fun x316 x317 x318 => [(0, .p 70000 0), (13, .d ((kL (kI .i64)).sig a1)), (14, .d ((kI .i64).sig (a1.length : Int))), (15, .d ((kI .i64).sig v228))]) (fun x316 x317 x318 => [.box 70000 61 [.d (kR f_api_Lattice) x316, .d (kL (kI .i64)) x317, .v 3505002], .row 3505002 57 (kF vIf57) x318]) ?_ ?_
        · refine wBlock ?_
          refine wSeq ?_
          refine wSeq ?_
          refine rg (cp (oEq rfl tm (cI (by decide))) (s1 rfl) <| cp (oAs tm) (s1 rfl) <| .nil) (by kernel_rfl) ?_
          refine pSeq ?_
          rcases ic h with ⟨hp319, h⟩ | ⟨hp319, h⟩
          · refine wCT hp319 tm (s1 rfl) ?_
            refine wSkip ?_
            refine pSeq ?_
            refine wCT hp319 tm (s1 rfl) ?_
            obtain ⟨y320, hy320, h⟩ := bd h
            refine rg (cp (oMv tm) (s1 rfl) <| cp (oMv tm) (s1 rfl) <| cp (oEq rfl tm (cI (by decide))) (s1 rfl) <| cp (oMkI (view := vIf57) (x0 := If57.c63 (decide (y290 = 1))) rfl cb63 tm) (s1 rfl) <| cm (oCallS (rest := []) (R' := [.box 70000 61 [.d (kR f_api_Lattice) y320.l_, .d (kL (kI .i64)) y320.labels_, .v 390160], .row 390160 57 (kF vIf57) y320.pile_]) (out' := .d (tup [])) [(70000, 70000), (70003, 3505002)] [(70003, 390160)] [0, 1] [] [0, 1] rfl (judge_judge_put.ok hy320) b37 (oE1 tm (oE1 tm oE0)) rfl rfl rfl rfl rfl rfl rfl rfl) (s2 rfl rfl) <| .nil) (by kernel_rfl) ?_
            refine pBlkN ?_
            refine pSub (Γ' := [(0, .p 70000 0), (13, .d ((kL (kI .i64)).sig a1)), (14, .d ((kI .i64).sig (a1.length : Int))), (15, .d ((kI .i64).sig v228))]) ⟨rfl, rfl, rfl, rfl, trivial⟩ ?_
            refine pRen 390160 3505002 rfl ?_
            exact pJ3 _ _ _ (so h) ⟨rfl, rfl, rfl, rfl, trivial⟩ rfl
          · refine wCF hp319 tm (s1 rfl) ?_
            refine rg (cp (oEq rfl tm (cI (by decide))) (s1 rfl) <| cp (oAs tm) (s1 rfl) <| .nil) (by kernel_rfl) ?_
            refine pSeq ?_
            rcases ic h with ⟨hp321, h⟩ | ⟨hp321, h⟩
            · refine wCT hp321 tm (s1 rfl) ?_
              obtain ⟨y322, hy322, h⟩ := bd h
              refine rg (cp (oMv tm) (s1 rfl) <| cp (oMv tm) (s1 rfl) <| cp (oEq rfl tm (cI (by decide))) (s1 rfl) <| cp (oMkI (view := vIf57) (x0 := If57.c63 (decide (y290 = 1))) rfl cb63 tm) (s1 rfl) <| cm (oCallS (rest := []) (R' := [.box 70000 61 [.d (kR f_api_Lattice) y322.l_, .d (kL (kI .i64)) y322.labels_, .v 390160], .row 390160 57 (kF vIf57) y322.pile_]) (out' := .d (tup [])) [(70000, 70000), (70003, 3505002)] [(70003, 390160)] [0, 1] [] [0, 1] rfl (judge_judge_put.ok hy322) b37 (oE1 tm (oE1 tm oE0)) rfl rfl rfl rfl rfl rfl rfl rfl) (s2 rfl rfl) <| .nil) (by kernel_rfl) ?_
              refine pBlkN ?_
              refine pSub (Γ' := [(0, .p 70000 0), (13, .d ((kL (kI .i64)).sig a1)), (14, .d ((kI .i64).sig (a1.length : Int))), (15, .d ((kI .i64).sig v228))]) ⟨rfl, rfl, rfl, rfl, trivial⟩ ?_
              refine pRen 390160 3505002 rfl ?_
              exact pJ3 _ _ _ (so h) ⟨rfl, rfl, rfl, rfl, trivial⟩ rfl
            · refine wCF hp321 tm (s1 rfl) ?_
              refine wSeq ?_
              refine rg (cp (oEq rfl tm (cI (by decide))) (s1 rfl) <| cp (oAs tm) (s1 rfl) <| .nil) (by kernel_rfl) ?_
              refine pSeq ?_
              rcases ic h with ⟨hp323, h⟩ | ⟨hp323, h⟩
              · refine wCT hp323 tm (s1 rfl) ?_
                refine wSeq ?_
                obtain ⟨y324, hy324, h⟩ := bd h
                refine rg (cp (oMv tm) (s1 rfl) <| cp (oNilP tm) (s1 rfl) <| cp (oFldP o61_0 tm) (s1 rfl) <| cr (oLdB (n := 0) (k := 0) rfl rfl rfl t25 tm) (s1 rfl) <| cp (oCall rfl (lattice_Bottom.ok hy324) b38 (opds_cons tm opds_nil)) (s1 rfl) <| cp (oMv tm) (s1 rfl) <| cp (oExt (k := 0) rfl tm) (s1 rfl) <| cp (oExt (k := 1) rfl tm) (s1 rfl) <| cp (oAs tm) (s1 rfl) <| cp (oAs tm) (s1 rfl) <| .nil) (by kernel_rfl) ?_
                refine pSeq ?_
                obtain ⟨y325, hy325, h⟩ := bd h
                refine rg (cp (oMv tm) (s1 rfl) <| cp (oMv tm) (s1 rfl) <| cp (oMkI (view := vIf57) (x0 := If57.c54 y324.1) rfl cb54 tm) (s1 rfl) <| cm (oCallS (rest := []) (R' := [.box 70000 61 [.d (kR f_api_Lattice) y325.l_, .d (kL (kI .i64)) y325.labels_, .v 420120], .row 420120 57 (kF vIf57) y325.pile_]) (out' := .d (tup [])) [(70000, 70000), (70003, 3505002)] [(70003, 420120)] [0, 1] [] [0, 1] rfl (judge_judge_put.ok hy325) b37 (oE1 tm (oE1 tm oE0)) rfl rfl rfl rfl rfl rfl rfl rfl) (s2 rfl rfl) <| .nil) (by kernel_rfl) ?_
                refine pBlkN ?_
                refine pSub (Γ' := [(0, .p 70000 0), (13, .d ((kL (kI .i64)).sig a1)), (14, .d ((kI .i64).sig (a1.length : Int))), (15, .d ((kI .i64).sig v228))]) ⟨rfl, rfl, rfl, rfl, trivial⟩ ?_
                refine pRen 420120 3505002 rfl ?_
                exact pJ3 _ _ _ (so h) ⟨rfl, rfl, rfl, rfl, trivial⟩ rfl
              · refine wCF hp323 tm (s1 rfl) ?_
                refine wSeq ?_
                refine rg (cp (oEq rfl tm (cI (by decide))) (s1 rfl) <| cp (oAs tm) (s1 rfl) <| .nil) (by kernel_rfl) ?_
                refine pSeq ?_
                rcases ic h with ⟨hp326, h⟩ | ⟨hp326, h⟩
                · refine wCT hp326 tm (s1 rfl) ?_
                  refine wSeq ?_
                  obtain ⟨y327, hy327, h⟩ := bd h
                  refine rg (cp (oMv tm) (s1 rfl) <| cp (oNilP tm) (s1 rfl) <| cp (oFldP o61_0 tm) (s1 rfl) <| cr (oLdB (n := 0) (k := 0) rfl rfl rfl t25 tm) (s1 rfl) <| cp (oCall rfl (lattice_Top.ok hy327) b39 (opds_cons tm opds_nil)) (s1 rfl) <| cp (oMv tm) (s1 rfl) <| cp (oExt (k := 0) rfl tm) (s1 rfl) <| cp (oExt (k := 1) rfl tm) (s1 rfl) <| cp (oAs tm) (s1 rfl) <| cp (oAs tm) (s1 rfl) <| .nil) (by kernel_rfl) ?_
                  refine pSeq ?_
                  obtain ⟨y328, hy328, h⟩ := bd h
                  refine rg (cp (oMv tm) (s1 rfl) <| cp (oMv tm) (s1 rfl) <| cp (oMkI (view := vIf57) (x0 := If57.c54 y327.1) rfl cb54 tm) (s1 rfl) <| cm (oCallS (rest := []) (R' := [.box 70000 61 [.d (kR f_api_Lattice) y328.l_, .d (kL (kI .i64)) y328.labels_, .v 450120], .row 450120 57 (kF vIf57) y328.pile_]) (out' := .d (tup [])) [(70000, 70000), (70003, 3505002)] [(70003, 450120)] [0, 1] [] [0, 1] rfl (judge_judge_put.ok hy328) b37 (oE1 tm (oE1 tm oE0)) rfl rfl rfl rfl rfl rfl rfl rfl) (s2 rfl rfl) <| .nil) (by kernel_rfl) ?_
                  refine pBlkN ?_
                  refine pSub (Γ' := [(0, .p 70000 0), (13, .d ((kL (kI .i64)).sig a1)), (14, .d ((kI .i64).sig (a1.length : Int))), (15, .d ((kI .i64).sig v228))]) ⟨rfl, rfl, rfl, rfl, trivial⟩ ?_
                  refine pRen 450120 3505002 rfl ?_
                  exact pJ3 _ _ _ (so h) ⟨rfl, rfl, rfl, rfl, trivial⟩ rfl
                · refine wCF hp326 tm (s1 rfl) ?_
                  refine wSeq ?_
                  refine wSeq ?_
                  refine rg (cp (oEq rfl tm (cI (by decide))) (s1 rfl) <| cp (oAs tm) (s1 rfl) <| .nil) (by kernel_rfl) ?_
                  refine pSeq ?_
                  rcases ic h with ⟨hp329, h⟩ | ⟨hp329, h⟩
                  · refine wCT hp329 tm (s1 rfl) ?_
                    refine wSkip ?_
                    refine pSeq ?_
                    refine wCT hp329 tm (s1 rfl) ?_
                    obtain ⟨y330, hy330, h⟩ := bd h
                    obtain ⟨y331, hy331, h⟩ := bd h
                    refine rg (cp (oMv tm) (s1 rfl) <| cp (oMv tm) (s1 rfl) <| cp (oNilP tm) (s1 rfl) <| cp (oFldP o61_1 tm) (s1 rfl) <| cr (oLdB (n := 0) (k := 1) rfl rfl rfl t26 tm) (s1 rfl) <| cp (oMv tm) (s1 rfl) <| cp (oSub tm (cI (by decide))) (s1 rfl) <| cp (oIdx u26 z3 hy330 tm tm) (s2 rfl rfl) <| cp (oLd t3 tm) (s1 rfl) <| cp (oMkI (view := vIf57) (x0 := If57.c54 y330) rfl cb54 tm) (s1 rfl) <| cm (oCallS (rest := []) (R' := [.box 70000 61 [.d (kR f_api_Lattice) y331.l_, .d (kL (kI .i64)) y331.labels_, .v 500400], .row 500400 57 (kF vIf57) y331.pile_]) (out' := .d (tup [])) [(70000, 70000), (70003, 3505002)] [(70003, 500400)] [0, 1] [] [0, 1] rfl (judge_judge_put.ok hy331) b37 (oE1 tm (oE1 tm oE0)) rfl rfl rfl rfl rfl rfl rfl rfl) (s2 rfl rfl) <| .nil) (by kernel_rfl) ?_
                    refine pBlkN ?_
                    refine pSub (Γ' := [(0, .p 70000 0), (13, .d ((kL (kI .i64)).sig a1)), (14, .d ((kI .i64).sig (a1.length : Int))), (15, .d ((kI .i64).sig v228))]) ⟨rfl, rfl, rfl, rfl, trivial⟩ ?_
                    refine pRen 500400 3505002 rfl ?_
                    exact pJ3 _ _ _ (so h) ⟨rfl, rfl, rfl, rfl, trivial⟩ rfl
                  · refine wCF hp329 tm (s1 rfl) ?_
                    refine wSeq ?_
                    refine rg (cp (oEq rfl tm (cI (by decide))) (s1 rfl) <| cp (oAs tm) (s1 rfl) <| .nil) (by kernel_rfl) ?_
                    refine pSeq ?_
                    rcases ic h with ⟨hp332, h⟩ | ⟨hp332, h⟩
                    · refine wCT hp332 tm (s1 rfl) ?_
                      refine wSkip ?_
                      refine pSeq ?_
                      refine wCT hp332 tm (s1 rfl) ?_
                      obtain ⟨y333, hy333, h⟩ := bd h
                      obtain ⟨y334, hy334, h⟩ := bd h
                      refine rg (cp (oMv tm) (s1 rfl) <| cp (oMv tm) (s1 rfl) <| cp (oNilP tm) (s1 rfl) <| cp (oFldP o61_1 tm) (s1 rfl) <| cr (oLdB (n := 0) (k := 1) rfl rfl rfl t26 tm) (s1 rfl) <| cp (oMv tm) (s1 rfl) <| cp (oSub tm (cI (by decide))) (s1 rfl) <| cp (oIdx u26 z3 hy333 tm tm) (s2 rfl rfl) <| cp (oLd t3 tm) (s1 rfl) <| cp (oMkI (view := vIf57) (x0 := If57.c54 y333) rfl cb54 tm) (s1 rfl) <| cm (oCallS (rest := []) (R' := [.box 70000 61 [.d (kR f_api_Lattice) y334.l_, .d (kL (kI .i64)) y334.labels_, .v 500400], .row 500400 57 (kF vIf57) y334.pile_]) (out' := .d (tup [])) [(70000, 70000), (70003, 3505002)] [(70003, 500400)] [0, 1] [] [0, 1] rfl (judge_judge_put.ok hy334) b37 (oE1 tm (oE1 tm oE0)) rfl rfl rfl rfl rfl rfl rfl rfl) (s2 rfl rfl) <| .nil) (by kernel_rfl) ?_
                      refine pBlkN ?_
                      refine pSub (Γ' := [(0, .p 70000 0), (13, .d ((kL (kI .i64)).sig a1)), (14, .d ((kI .i64).sig (a1.length : Int))), (15, .d ((kI .i64).sig v228))]) ⟨rfl, rfl, rfl, rfl, trivial⟩ ?_
                      refine pRen 500400 3505002 rfl ?_
                      exact pJ3 _ _ _ (so h) ⟨rfl, rfl, rfl, rfl, trivial⟩ rfl
                    · refine wCF hp332 tm (s1 rfl) ?_
                      refine wSeq ?_
                      refine rg (cp (oEq rfl tm (cI (by decide))) (s1 rfl) <| cp (oAs tm) (s1 rfl) <| .nil) (by kernel_rfl) ?_
                      refine pSeq ?_
                      rcases ic h with ⟨hp335, h⟩ | ⟨hp335, h⟩
                      · refine wCT hp335 tm (s1 rfl) ?_
                        refine wSkip ?_
                        refine pSeq ?_
                        refine wCT hp335 tm (s1 rfl) ?_
                        obtain ⟨y336, hy336, h⟩ := bd h
                        obtain ⟨y337, hy337, h⟩ := bd h
                        refine rg (cp (oMv tm) (s1 rfl) <| cp (oMv tm) (s1 rfl) <| cp (oNilP tm) (s1 rfl) <| cp (oFldP o61_1 tm) (s1 rfl) <| cr (oLdB (n := 0) (k := 1) rfl rfl rfl t26 tm) (s1 rfl) <| cp (oMv tm) (s1 rfl) <| cp (oSub tm (cI (by decide))) (s1 rfl) <| cp (oIdx u26 z3 hy336 tm tm) (s2 rfl rfl) <| cp (oLd t3 tm) (s1 rfl) <| cp (oMkI (view := vIf57) (x0 := If57.c54 y336) rfl cb54 tm) (s1 rfl) <| cm (oCallS (rest := []) (R' := [.box 70000 61 [.d (kR f_api_Lattice) y337.l_, .d (kL (kI .i64)) y337.labels_, .v 500400], .row 500400 57 (kF vIf57) y337.pile_]) (out' := .d (tup [])) [(70000, 70000), (70003, 3505002)] [(70003, 500400)] [0, 1] [] [0, 1] rfl (judge_judge_put.ok hy337) b37 (oE1 tm (oE1 tm oE0)) rfl rfl rfl rfl rfl rfl rfl rfl) (s2 rfl rfl) <| .nil) (by kernel_rfl) ?_
                        refine pBlkN ?_
                        refine pSub (Γ' := [(0, .p 70000 0), (13, .d ((kL (kI .i64)).sig a1)), (14, .d ((kI .i64).sig (a1.length : Int))), (15, .d ((kI .i64).sig v228))]) ⟨rfl, rfl, rfl, rfl, trivial⟩ ?_
                        refine pRen 500400 3505002 rfl ?_
                        exact pJ3 _ _ _ (so h) ⟨rfl, rfl, rfl, rfl, trivial⟩ rfl
                      · refine wCF hp335 tm (s1 rfl) ?_
                        refine rg (cp (oEq rfl tm (cI (by decide))) (s1 rfl) <| cp (oAs tm) (s1 rfl) <| .nil) (by kernel_rfl) ?_
                        refine pSeq ?_
                        rcases ic h with ⟨hp338, h⟩ | ⟨hp338, h⟩
                        · refine wCT hp338 tm (s1 rfl) ?_
                          obtain ⟨y339, hy339, h⟩ := bd h
                          obtain ⟨y340, hy340, h⟩ := bd h
                          refine rg (cp (oMv tm) (s1 rfl) <| cp (oMv tm) (s1 rfl) <| cp (oNilP tm) (s1 rfl) <| cp (oFldP o61_1 tm) (s1 rfl) <| cr (oLdB (n := 0) (k := 1) rfl rfl rfl t26 tm) (s1 rfl) <| cp (oMv tm) (s1 rfl) <| cp (oSub tm (cI (by decide))) (s1 rfl) <| cp (oIdx u26 z3 hy339 tm tm) (s2 rfl rfl) <| cp (oLd t3 tm) (s1 rfl) <| cp (oMkI (view := vIf57) (x0 := If57.c54 y339) rfl cb54 tm) (s1 rfl) <| cm (oCallS (rest := []) (R' := [.box 70000 61 [.d (kR f_api_Lattice) y340.l_, .d (kL (kI .i64)) y340.labels_, .v 500400], .row 500400 57 (kF vIf57) y340.pile_]) (out' := .d (tup [])) [(70000, 70000), (70003, 3505002)] [(70003, 500400)] [0, 1] [] [0, 1] rfl (judge_judge_put.ok hy340) b37 (oE1 tm (oE1 tm oE0)) rfl rfl rfl rfl rfl rfl rfl rfl) (s2 rfl rfl) <| .nil) (by kernel_rfl) ?_
                          refine pBlkN ?_
                          refine pSub (Γ' := [(0, .p 70000 0), (13, .d ((kL (kI .i64)).sig a1)), (14, .d ((kI .i64).sig (a1.length : Int))), (15, .d ((kI .i64).sig v228))]) ⟨rfl, rfl, rfl, rfl, trivial⟩ ?_
                          refine pRen 500400 3505002 rfl ?_
                          exact pJ3 _ _ _ (so h) ⟨rfl, rfl, rfl, rfl, trivial⟩ rfl
                        · refine wCF hp338 tm (s1 rfl) ?_
                          refine wSeq ?_
                          obtain ⟨y341, hy341, h⟩ := bd h
                          refine rg (cp (oMv tm) (s1 rfl) <| cm (oCallS (rest := []) (R' := [.box 70000 61 [.d (kR f_api_Lattice) y341.1.l_, .d (kL (kI .i64)) y341.1.labels_, .v 350040], .row 350040 57 (kF vIf57) y341.1.pile_]) (out' := .d (tup [(kF vIf57).sig y341.2.1, (kF vIf57).sig y341.2.2])) [(70000, 70000), (70003, 3505002)] [(70003, 350040)] [0, 1] [] [0, 1] rfl (judge_judge_two.ok hy341) b40 (oE1 tm oE0) rfl rfl rfl rfl rfl rfl rfl rfl) (s1 rfl) <| cp (oMv tm) (s1 rfl) <| cp (oExt (k := 0) rfl tm) (s1 rfl) <| cp (oExt (k := 1) rfl tm) (s1 rfl) <| cp (oAs tm) (s1 rfl) <| cp (oAs tm) (s1 rfl) <| .nil) (by kernel_rfl) ?_
                          refine pSeq ?_
                          obtain ⟨y342, hy342, h⟩ := bd h
                          obtain ⟨y343, hy343, h⟩ := bd h
                          refine rg (cp (oMv tm) (s1 rfl) <| cp (oMv tm) (s1 rfl) <| cp (oMv tm) (s1 rfl) <| cp (oMv tm) (s1 rfl) <| cp (oMv tm) (s1 rfl) <| cm (oCallS (rest := []) (R' := [.box 70000 61 [.d (kR f_api_Lattice) y342.1.l_, .d (kL (kI .i64)) y342.1.labels_, .v 360200], .row 360200 57 (kF vIf57) y342.1.pile_]) (out' := .d ((kF vIf57).sig y342.2)) [(70000, 70000), (70003, 350040)] [(70003, 360200)] [0, 1] [] [0, 1] rfl (judge_judge_both.ok hy342) b41 (oE1 tm (oE1 tm (oE1 tm (oE1 tm oE0)))) rfl rfl rfl rfl rfl rfl rfl rfl) ⟨rfl, rfl, rfl, rfl, trivial⟩ <| cm (oCallS (rest := []) (R' := [.box 70000 61 [.d (kR f_api_Lattice) y343.l_, .d (kL (kI .i64)) y343.labels_, .v 360240], .row 360240 57 (kF vIf57) y343.pile_]) (out' := .d (tup [])) [(70000, 70000), (70003, 360200)] [(70003, 360240)] [0, 1] [] [0, 1] rfl (judge_judge_put.ok hy343) b37 (oE1 tm (oE1 tm oE0)) rfl rfl rfl rfl rfl rfl rfl rfl) (s2 rfl rfl) <| .nil) (by kernel_rfl) ?_
                          refine pBlkN ?_
                          refine pSub (Γ' := [(0, .p 70000 0), (13, .d ((kL (kI .i64)).sig a1)), (14, .d ((kI .i64).sig (a1.length : Int))), (15, .d ((kI .i64).sig v228))]) ⟨rfl, rfl, rfl, rfl, trivial⟩ ?_
                          refine pRen 360240 3505002 rfl ?_
                          exact pJ3 _ _ _ (so h) ⟨rfl, rfl, rfl, rfl, trivial⟩ rfl
        · rintro x316 x317 x318 rfl
          replace h := hk3
          refine pBlkN ?_
          exact pJ3 _ _ _ (so h) ⟨rfl, rfl, rfl, rfl, trivial⟩ rfl
      · rintro x287 x288 x289 rfl
        replace h := hk2
        refine rg (cp (oAdd tm (cI (by decide))) (s1 rfl) <| cp (oMv tm) (s1 rfl) <| .nil) (by kernel_rfl) ?_
        exact pLoop (lW (ih _ _ _ _ h) ⟨rfl, rfl, rfl, rfl, trivial⟩ rfl)
    · refine wCF hp232 tm (s1 rfl) ?_
      refine wExit ?_
      refine pThenX ?_
      refine pThenX ?_
      refine pBlkX ?_
      exact pJ3 _ _ _ (so h) ⟨rfl, trivial⟩ rfl
  · rintro x229 x230 x231 rfl
    replace h := hk1
    refine pSeq ?_
    refine wSeq ?_
    obtain ⟨y344, hy344, h⟩ := bd h
    refine rg (cp (oMv tm) (s1 rfl) <| cp (oNilP tm) (s1 rfl) <| cp (oFldP o61_2 tm) (s1 rfl) <| cr (oLdN (n := 0) (k := 2) rfl rfl rfl t59 tm) (s1 rfl) <| cr (oIdxR (n := 1) u59 z57 rfl hy344 tm (cI (by decide))) (s1 rfl) <| cr (oLdE (n := 1) rfl hy344 rfl t57 tm) (s1 rfl) <| cp (oAs tm) (s1 rfl) <| .nil) (by kernel_rfl) ?_
    refine pSeq ?_
    refine wRet ?_
    obtain rfl := so h
    refine pSub (Γ' := [(4, .d ((kF vIf57).sig y344))]) ⟨rfl, trivial⟩ ?_
    refine pRen 3505002 70003 rfl ?_
    exact pS1 [0, 1] rfl rfl (.inl rfl) rfl (.tmp rfl <| .nil)

theorem judge_Label.ok {a0 : api_Lattice} {a1 : List Int} {a2 : List Int} {r : Int × Int} (h : judge_Label.f a0 a1 a2 = some r) : FnA Try.prog 8 [(kR f_api_Lattice).sig a0, (kL (kI .i64)).sig a1, (kL (kI .i64)).sig a2] (tup [(kI .i64).sig r.1, (kI .i64).sig r.2]) := by
  refine fnIntro Try.func8 rfl (by kernel_rfl) fun H0 w0 => ?_
  unfold judge_Label.f at h
  refine wSeq ?_
  refine rg (cp (oBox tm) (s1 rfl) <| cp (oAs (cI (by decide))) trivial <| cp (oAs (cI (by decide))) trivial <| .nil) (by kernel_rfl) ?_
  refine pSeq ?_
  refine wSeq ?_
  refine wSeq ?_
  obtain ⟨y1, hy1, h⟩ := bd h
  refine rg (cp (oLd t25 tm) (s1 rfl) <| cp (oMv tm) (s1 rfl) <| cp (oMv tm) (s1 rfl) <| cp (oCall rfl (judge_may.ok hy1) b19 (opds_cons tm (opds_cons tm (opds_cons tm (opds_cons cB opds_nil))))) (s3 rfl rfl rfl) <| cp (oAs tm) (s1 rfl) <| .nil) (by kernel_rfl) ?_
  refine pSeq ?_
  refine wSeq ?_
  refine rg (cp (oMv tm) (s1 rfl) <| cp (oNe rfl tm (cI (by decide))) (s1 rfl) <| .nil) (by kernel_rfl) ?_
  refine pSeq ?_
  rcases ic h with ⟨hp2, h⟩ | ⟨hp2, h⟩
  · refine wNT hp2 tm (s1 rfl) ?_
    refine wSkip ?_
    refine pSeq ?_
    refine wSeq ?_
    obtain ⟨y3, hy3, h⟩ := bd h
    refine rg (cp (oLd t25 tm) (s1 rfl) <| cp (oMv tm) (s1 rfl) <| cp (oBuild (fs := f_judge_judge_n2) (u := ⟨a0, a2, []⟩) rfl ze61 pl61 po61_2 (.op (zc := [(.slice none 0 0), (.slice none 0 0)]) tm rfl (.op (zc := [(.slice none 0 0)]) tm rfl (.ze (zc := [(.slice none 0 0)]) zN .nil)))) (s2 rfl rfl) <| cm (okNil (n := 0) (k := 2) (id := 6102) (kF vIf57) 57 ((Ok.toL (oBoxS (id := 22) (fs := f_judge_judge_n2) tm) (fun c e => by cases e))) rfl rfl rfl) (s1 rfl) <| cp (oMv tm) (s1 rfl) <| cm (oCallS (rest := []) (R' := [.row 340200 57 (kF vIf57) y3.1.pile_, .box 22 61 [.d (kR f_api_Lattice) y3.1.l_, .d (kL (kI .i64)) y3.1.labels_, .v 340200]]) (out' := .d ((kF vIf57).sig y3.2)) [(70000, 22), (70003, 6102)] [(70003, 340200)] [1, 0] [] [1, 0] rfl (judge_judge_comes.ok hy3) b20 (oE1 tm (oE1 tm oE0)) rfl rfl rfl rfl rfl rfl rfl rfl) (s2 rfl rfl) <| cp (oTA asOk57_54 cb54 zv54 (zvI (by decide)) tm) (s1 rfl) <| cp (oMv tm) (s1 rfl) <| cp (oExt (k := 0) rfl tm) (s1 rfl) <| cp (oExt (k := 1) rfl tm) (s1 rfl) <| cp (oAs tm) (s1 rfl) <| cp (oAs tm) (s1 rfl) <| .nil) (by kernel_rfl) ?_
    refine pSeq ?_
    refine wSeq ?_
    refine rg (cp (oMv tm) (s1 rfl) <| cp (oAs tm) (s1 rfl) <| cp (oAs (cI (by decide))) trivial <| .nil) (by kernel_rfl) ?_
    refine pSeq ?_
    refine wRet ?_
    obtain rfl := so h
    exact pRn (.inl rfl) rfl rfl (.tmp rfl <| .tmp rfl <| .nil)
  · refine wNF hp2 tm (s1 rfl) ?_
    refine wSeq ?_
    refine rg (cp (oMv tm) (s1 rfl) <| cp (oAs (cI (by decide))) trivial <| cp (oAs tm) (s1 rfl) <| .nil) (by kernel_rfl) ?_
    refine pSeq ?_
    refine wRet ?_
    refine pThenR ?_
    obtain rfl := so h
    exact pRn (.inl rfl) rfl rfl (.tmp rfl <| .tmp rfl <| .nil)

theorem judge_Cond.ok {a0 : api_Lattice} {a1 : List Int} {a2 : List Int} {r : Bool × Int} (h : judge_Cond.f a0 a1 a2 = some r) : FnA Try.prog 9 [(kR f_api_Lattice).sig a0, (kL (kI .i64)).sig a1, (kL (kI .i64)).sig a2] (tup [kB.sig r.1, (kI .i64).sig r.2]) := by
  refine fnIntro Try.func9 rfl (by kernel_rfl) fun H0 w0 => ?_
  unfold judge_Cond.f at h
  refine wSeq ?_
  refine rg (cp (oBox tm) (s1 rfl) <| cp (oAs cB) trivial <| cp (oAs (cI (by decide))) trivial <| .nil) (by kernel_rfl) ?_
  refine pSeq ?_
  refine wSeq ?_
  refine wSeq ?_
  obtain ⟨y1, hy1, h⟩ := bd h
  refine rg (cp (oLd t25 tm) (s1 rfl) <| cp (oMv tm) (s1 rfl) <| cp (oMv tm) (s1 rfl) <| cp (oCall rfl (judge_may.ok hy1) b19 (opds_cons tm (opds_cons tm (opds_cons tm (opds_cons cB opds_nil))))) (s3 rfl rfl rfl) <| cp (oAs tm) (s1 rfl) <| .nil) (by kernel_rfl) ?_
  refine pSeq ?_
  refine wSeq ?_
  refine rg (cp (oMv tm) (s1 rfl) <| cp (oNe rfl tm (cI (by decide))) (s1 rfl) <| .nil) (by kernel_rfl) ?_
  refine pSeq ?_
  rcases ic h with ⟨hp2, h⟩ | ⟨hp2, h⟩
  · refine wNT hp2 tm (s1 rfl) ?_
    refine wSkip ?_
    refine pSeq ?_
    refine wSeq ?_
    obtain ⟨y3, hy3, h⟩ := bd h
    refine rg (cp (oLd t25 tm) (s1 rfl) <| cp (oMv tm) (s1 rfl) <| cp (oBuild (fs := f_judge_judge_n2) (u := ⟨a0, a2, []⟩) rfl ze61 pl61 po61_2 (.op (zc := [(.slice none 0 0), (.slice none 0 0)]) tm rfl (.op (zc := [(.slice none 0 0)]) tm rfl (.ze (zc := [(.slice none 0 0)]) zN .nil)))) (s2 rfl rfl) <| cm (okNil (n := 0) (k := 2) (id := 6102) (kF vIf57) 57 ((Ok.toL (oBoxS (id := 22) (fs := f_judge_judge_n2) tm) (fun c e => by cases e))) rfl rfl rfl) (s1 rfl) <| cp (oMv tm) (s1 rfl) <| cm (oCallS (rest := []) (R' := [.row 340200 57 (kF vIf57) y3.1.pile_, .box 22 61 [.d (kR f_api_Lattice) y3.1.l_, .d (kL (kI .i64)) y3.1.labels_, .v 340200]]) (out' := .d ((kF vIf57).sig y3.2)) [(70000, 22), (70003, 6102)] [(70003, 340200)] [1, 0] [] [1, 0] rfl (judge_judge_comes.ok hy3) b20 (oE1 tm (oE1 tm oE0)) rfl rfl rfl rfl rfl rfl rfl rfl) (s2 rfl rfl) <| cp (oTA asOk57_63 cb63 zv63 zvB tm) (s1 rfl) <| cp (oMv tm) (s1 rfl) <| cp (oExt (k := 0) rfl tm) (s1 rfl) <| cp (oExt (k := 1) rfl tm) (s1 rfl) <| cp (oAs tm) (s1 rfl) <| cp (oAs tm) (s1 rfl) <| .nil) (by kernel_rfl) ?_
    refine pSeq ?_
    refine wSeq ?_
    refine rg (cp (oMv tm) (s1 rfl) <| cp (oAs tm) (s1 rfl) <| cp (oAs (cI (by decide))) trivial <| .nil) (by kernel_rfl) ?_
    refine pSeq ?_
    refine wRet ?_
    obtain rfl := so h
    exact pRn (.inl rfl) rfl rfl (.tmp rfl <| .tmp rfl <| .nil)
  · refine wNF hp2 tm (s1 rfl) ?_
    refine wSeq ?_
    refine rg (cp (oMv tm) (s1 rfl) <| cp (oAs cB) trivial <| cp (oAs tm) (s1 rfl) <| .nil) (by kernel_rfl) ?_
    refine pSeq ?_
    refine wRet ?_
    refine pThenR ?_
    obtain rfl := so h
    exact pRn (.inl rfl) rfl rfl (.tmp rfl <| .tmp rfl <| .nil)

theorem reticentlaw24_MutantBelow.ok {a0 : api_Lattice} {a1 : List Int} {a2 : List Int} {r : Bool} (h : reticentlaw24_MutantBelow.f a0 a1 a2 = some r) : FnA Try.prog 3 [(kR f_api_Lattice).sig a0, (kL (kI .i64)).sig a1, (kL (kI .i64)).sig a2] (kB.sig r) := by
  refine fnIntro Try.func3 rfl (by kernel_rfl) fun H0 w0 => ?_
  unfold reticentlaw24_MutantBelow.f at h
  refine wSeq ?_
  refine rg (cw (oBoxS (id := 3) (fs := f_api_Lattice) tm) (s1 rfl) <| cp (oAs cB) trivial <| .nil) (by kernel_rfl) ?_
  refine pSeq ?_
  refine wSeq ?_
  obtain ⟨hc1, h⟩ := ib h
  obtain ⟨hc2, h⟩ := ib h
  obtain ⟨hc3, h⟩ := ib h
  obtain ⟨hc4, h⟩ := ib h
  refine rgD hm (cp (oFldP o25_0 tm) (s1 rfl) <| cr (oLdB (n := 0) (k := 0) rfl rfl rfl t22 tm) (s1 rfl) <| cp (oFldP o25_0 tm) (s1 rfl) <| cr (oLdB (n := 0) (k := 0) rfl rfl rfl t22 tm) (s1 rfl) <| cp (oLenL u22 tm) (s1 rfl) <| cp (oMin tm (cI (by decide))) (s1 rfl) <| cp (oCutHi u22 z9 hc1.1 hc1.2 tm tm) (s2 rfl rfl) <| cp (oFldP o25_1 tm) (s1 rfl) <| cr (oLdB (n := 0) (k := 1) rfl rfl rfl t23 tm) (s1 rfl) <| cp (oFldP o25_1 tm) (s1 rfl) <| cr (oLdB (n := 0) (k := 1) rfl rfl rfl t23 tm) (s1 rfl) <| cp (oLenL u23 tm) (s1 rfl) <| cp (oMin tm (cI (by decide))) (s1 rfl) <| cp (oCutHi u23 z96 hc2.1 hc2.2 tm tm) (s2 rfl rfl) <| cp (oMv tm) (s1 rfl) <| cp (oMv tm) (s1 rfl) <| cp (oLenL u26 tm) (s1 rfl) <| cp (oMin tm (cI (by decide))) (s1 rfl) <| cp (oCutHi u26 z3 hc3.1 hc3.2 tm tm) (s2 rfl rfl) <| cp (oMv tm) (s1 rfl) <| cp (oMv tm) (s1 rfl) <| cp (oLenL u26 tm) (s1 rfl) <| cp (oMin tm (cI (by decide))) (s1 rfl) <| cp (oCutHi u26 z3 hc4.1 hc4.2 tm tm) (s2 rfl rfl) <| cp (oFldP o25_0 tm) (s1 rfl) <| cwn (oSt (n := 0) (k := 0) rfl rfl rfl rfl z22 tm tm) (s2 rfl rfl) <| cp (oFldP o25_1 tm) (s1 rfl) <| cwn (oSt (n := 0) (k := 1) rfl rfl rfl rfl z23 tm tm) (s2 rfl rfl) <| cp (oAs tm) (s1 rfl) <| cp (oAs tm) (s1 rfl) <| .nil) (by kernel_rfl) (by kernel_rfl) ?_
  refine pSeq ?_
  refine wSeq ?_
  refine wSeq ?_
  refine rg (cp (oFldP o25_0 tm) (s1 rfl) <| cr (oLdB (n := 0) (k := 0) rfl rfl rfl t22 tm) (s1 rfl) <| cp (oLenL u22 tm) (s1 rfl) <| cp (oMv (cI (by decide))) trivial <| .nil) (by kernel_rfl) ?_
  refine pSeq ?_
  obtain ⟨o1, h, hk1⟩ := bd h
  refine wK0 (.inr () = o1) ([(1, .d ((kL (kI .i64)).sig (lCut a1 0 (if 45 < (a1.length : Int) then 45 else (a1.length : Int))))), (2, .d ((kL (kI .i64)).sig (lCut a2 0 (if 6 < (a2.length : Int) then 6 else (a2.length : Int))))), (3, .p 3 0)]) ([.box 3 25 [.d (kL kS) (lCut a0.Names 0 (if 10 < (a0.Names.length : Int) then 10 else (a0.Names.length : Int))), .d (kL (kI .u32)) (lCut a0.Up 0 (if 10 < (a0.Up.length : Int) then 10 else (a0.Up.length : Int)))]]) ?_ ?_
  · refine wBlock (wLoop ?_)
    refine lW (pc1 o1 (fun v13 => [(1, .d ((kL (kI .i64)).sig (lCut a1 0 (if 45 < (a1.length : Int) then 45 else (a1.length : Int))))), (2, .d ((kL (kI .i64)).sig (lCut a2 0 (if 6 < (a2.length : Int) then 6 else (a2.length : Int))))), (3, .p 3 0), (51, .d ((kL kS).sig (lCut a0.Names 0 (if 10 < (a0.Names.length : Int) then 10 else (a0.Names.length : Int))))), (52, .d ((kI .i64).sig ((lCut a0.Names 0 (if 10 < (a0.Names.length : Int) then 10 else (a0.Names.length : Int))).length : Int))), (53, .d ((kI .i64).sig v13))]) (fun v13 => [.box 3 25 [.d (kL kS) (lCut a0.Names 0 (if 10 < (a0.Names.length : Int) then 10 else (a0.Names.length : Int))), .d (kL (kI .u32)) (lCut a0.Up 0 (if 10 < (a0.Up.length : Int) then 10 else (a0.Up.length : Int)))]]) (reticentlaw24_MutantBelow.l0.partial_correctness a0) ?_ _ h) ⟨rfl, rfl, rfl, rfl, rfl, rfl, trivial⟩ rfl
    clear h
    intro f' ih v13 h
    refine wSeq ?_
    refine rg (cp (oLt rfl tm tm) (s2 rfl rfl) <| .nil) (by kernel_rfl) ?_
    refine pSeq ?_
    refine wSeq ?_
    rcases ic h with ⟨hp14, h⟩ | ⟨hp14, h⟩
    · refine wCT hp14 tm (s1 rfl) ?_
      refine wSkip ?_
      refine pSeq ?_
      refine wSeq ?_
      refine wBlock ?_
      refine wSeq ?_
      obtain ⟨y15, hy15, h⟩ := bd h
      refine rg (cp (oIdx u22 z9 hy15 tm tm) (s2 rfl rfl) <| cp (oLd t9 tm) (s1 rfl) <| cp (oAs tm) (s1 rfl) <| .nil) (by kernel_rfl) ?_
      refine pSeq ?_
      refine wSeq ?_
      refine rg (cp (oMv tm) (s1 rfl) <| cp (oLenS u9 tm) (s1 rfl) <| cp (oGt rfl tm (cI (by decide))) (s1 rfl) <| .nil) (by kernel_rfl) ?_
      refine pSeq ?_
      rcases ic h with ⟨hp16, h⟩ | ⟨hp16, h⟩
      · refine wCT hp16 tm (s1 rfl) ?_
        refine wSeq ?_
        obtain ⟨y17, hy17, h⟩ := bd h
        refine rg (cp (oCall rfl (reticentlaw24_alive.ok hy17) b5 opds_nil) trivial <| cp (oAs tm) (s1 rfl) <| .nil) (by kernel_rfl) ?_
        refine pSeq ?_
        refine wRet ?_
        refine pBlkR ?_
        refine pThenR ?_
        refine pThenR ?_
        refine pBlkR ?_
        refine pThenR ?_
        obtain rfl := so h
        replace h := hk1
        refine pThenR ?_
        obtain rfl := so h
        exact pR1 (.inl rfl) rfl (.tmp rfl <| .nil)
      · refine wCF hp16 tm (s1 rfl) ?_
        refine wSkip ?_
        refine pBlkN ?_
        refine pSeq ?_
        refine rg (cp (oAdd tm (cI (by decide))) (s1 rfl) <| cp (oMv tm) (s1 rfl) <| .nil) (by kernel_rfl) ?_
        exact pLoop (lW (ih _ h) ⟨rfl, rfl, rfl, rfl, rfl, rfl, trivial⟩ rfl)
    · refine wCF hp14 tm (s1 rfl) ?_
      refine wExit ?_
      refine pThenX ?_
      refine pThenX ?_
      refine pBlkX ?_
      exact pJ0 (so h) ⟨rfl, rfl, rfl, trivial⟩ rfl
  · rintro rfl
    replace h := hk1
    refine pSeq ?_
    refine wSeq ?_
    obtain ⟨y18, hy18, h⟩ := bd h
    refine rg (cp (oMv tm) (s1 rfl) <| cp (oCall rfl (mutant_Weaker.ok hy18) b6 (opds_cons tm opds_nil)) (s1 rfl) <| cp (oMv tm) (s1 rfl) <| cp (oExt (k := 0) rfl tm) (s1 rfl) <| cp (oExt (k := 1) rfl tm) (s1 rfl) <| cp (oAs tm) (s1 rfl) <| cp (oAs tm) (s1 rfl) <| .nil) (by kernel_rfl) ?_
    refine pSeq ?_
    refine wSeq ?_
    refine wSeq ?_
    refine rg (cp (oMv tm) (s1 rfl) <| cp (oNe rfl tm (cI (by decide))) (s1 rfl) <| .nil) (by kernel_rfl) ?_
    refine pSeq ?_
    rcases ic h with ⟨hp19, h⟩ | ⟨hp19, h⟩
    · refine wNT hp19 tm (s1 rfl) ?_
      refine wSkip ?_
      refine pSeq ?_
      refine wSeq ?_
      obtain ⟨y20, hy20, h⟩ := bd h
      refine rg (cp (oMv tm) (s1 rfl) <| cp (oCall rfl (rule_Right.ok hy20) b7 (opds_cons tm (opds_cons cB opds_nil))) (s1 rfl) <| cp (oAs tm) (s1 rfl) <| .nil) (by kernel_rfl) ?_
      refine pSeq ?_
      refine wSeq ?_
      obtain ⟨y21, hy21, h⟩ := bd h
      refine rg (cr (oLdA (n := 0) (fs := f_api_Lattice) (u := ⟨lCut a0.Names 0 (if 10 < (a0.Names.length : Int) then 10 else (a0.Names.length : Int)), lCut a0.Up 0 (if 10 < (a0.Up.length : Int) then 10 else (a0.Up.length : Int))⟩) rfl ⟨rfl, rfl, trivial⟩ t25 tm) (s1 rfl) <| cp (oMv tm) (s1 rfl) <| cp (oMv tm) (s1 rfl) <| cp (oCall rfl (judge_Label.ok hy21) b8 (opds_cons tm (opds_cons tm (opds_cons tm opds_nil)))) (s3 rfl rfl rfl) <| cp (oMv tm) (s1 rfl) <| cp (oExt (k := 0) rfl tm) (s1 rfl) <| cp (oExt (k := 1) rfl tm) (s1 rfl) <| cp (oAs tm) (s1 rfl) <| cp (oAs tm) (s1 rfl) <| .nil) (by kernel_rfl) ?_
      refine pSeq ?_
      refine wSeq ?_
      obtain ⟨y22, hy22, h⟩ := bd h
      refine rg (cr (oLdA (n := 0) (fs := f_api_Lattice) (u := ⟨lCut a0.Names 0 (if 10 < (a0.Names.length : Int) then 10 else (a0.Names.length : Int)), lCut a0.Up 0 (if 10 < (a0.Up.length : Int) then 10 else (a0.Up.length : Int))⟩) rfl ⟨rfl, rfl, trivial⟩ t25 tm) (s1 rfl) <| cp (oMv tm) (s1 rfl) <| cp (oMv tm) (s1 rfl) <| cp (oCall rfl (judge_Cond.ok hy22) b9 (opds_cons tm (opds_cons tm (opds_cons tm opds_nil)))) (s3 rfl rfl rfl) <| cp (oMv tm) (s1 rfl) <| cp (oExt (k := 0) rfl tm) (s1 rfl) <| cp (oExt (k := 1) rfl tm) (s1 rfl) <| cp (oAs tm) (s1 rfl) <| cp (oAs tm) (s1 rfl) <| .nil) (by kernel_rfl) ?_
      refine pSeq ?_
      refine wSeq ?_
      refine wSeq ?_
      refine rg (cp (oMv tm) (s1 rfl) <| cp (oLenL u28 tm) (s1 rfl) <| cp (oMv (cI (by decide))) trivial <| .nil) (by kernel_rfl) ?_
      refine pSeq ?_
      obtain ⟨o1, h, hk1⟩ := bd h
      refine wK0 (.inr () = o1) ([]) ([.box 3 25 [.d (kL kS) (lCut a0.Names 0 (if 10 < (a0.Names.length : Int) then 10 else (a0.Names.length : Int))), .d (kL (kI .u32)) (lCut a0.Up 0 (if 10 < (a0.Up.length : Int) then 10 else (a0.Up.length : Int)))]]) ?_ ?_
      · refine wBlock (wLoop ?_)
        refine lW (pc1 o1 (fun v173 => [(1, .d ((kL (kI .i64)).sig (lCut a1 0 (if 45 < (a1.length : Int) then 45 else (a1.length : Int))))), (2, .d ((kL (kI .i64)).sig (lCut a2 0 (if 6 < (a2.length : Int) then 6 else (a2.length : Int))))), (3, .p 3 0), (11, .d (kB.sig y20)), (12, .d ((kI .i64).sig y21.1)), (13, .d ((kI .i64).sig y21.2)), (14, .d (kB.sig y22.1)), (15, .d ((kI .i64).sig y22.2)), (91, .d ((kL (kL (kI .i64))).sig y18.1)), (92, .d ((kI .i64).sig (y18.1.length : Int))), (93, .d ((kI .i64).sig v173))]) (fun v173 => [.box 3 25 [.d (kL kS) (lCut a0.Names 0 (if 10 < (a0.Names.length : Int) then 10 else (a0.Names.length : Int))), .d (kL (kI .u32)) (lCut a0.Up 0 (if 10 < (a0.Up.length : Int) then 10 else (a0.Up.length : Int)))]]) (reticentlaw24_MutantBelow.l1.partial_correctness a0 a1 a2 y18 y20 y21 y22) ?_ _ h) ⟨rfl, rfl, rfl, rfl, rfl, rfl, rfl, rfl, rfl, rfl, rfl, trivial⟩ rfl
        clear h
        intro f' ih v173 h
        refine wSeq ?_
        refine rg (cp (oLt rfl tm tm) (s2 rfl rfl) <| .nil) (by kernel_rfl) ?_
        refine pSeq ?_
        refine wSeq ?_
        rcases ic h with ⟨hp174, h⟩ | ⟨hp174, h⟩
        · refine wCT hp174 tm (s1 rfl) ?_
          refine wSkip ?_
          refine pSeq ?_
          obtain ⟨o2, h, hk2⟩ := bd h
          refine wJ0 (.inr () = o2) ([(1, .d ((kL (kI .i64)).sig (lCut a1 0 (if 45 < (a1.length : Int) then 45 else (a1.length : Int))))), (2, .d ((kL (kI .i64)).sig (lCut a2 0 (if 6 < (a2.length : Int) then 6 else (a2.length : Int))))), (3, .p 3 0), (11, .d (kB.sig y20)), (12, .d ((kI .i64).sig y21.1)), (13, .d ((kI .i64).sig y21.2)), (14, .d (kB.sig y22.1)), (15, .d ((kI .i64).sig y22.2)), (91, .d ((kL (kL (kI .i64))).sig y18.1)), (92, .d ((kI .i64).sig (y18.1.length : Int))), (93, .d ((kI .i64).sig v173))]) ([.box 3 25 [.d (kL kS) (lCut a0.Names 0 (if 10 < (a0.Names.length : Int) then 10 else (a0.Names.length : Int))), .d (kL (kI .u32)) (lCut a0.Up 0 (if 10 < (a0.Up.length : Int) then 10 else (a0.Up.length : Int)))]]) ?_ ?_
          · refine wBlock ?_
            refine wSeq ?_
            obtain ⟨y212, hy212, h⟩ := bd h
            refine rg (cp (oIdx u28 z26 hy212 tm tm) (s2 rfl rfl) <| cp (oLd t26 tm) (s1 rfl) <| cp (oAs tm) (s1 rfl) <| .nil) (by kernel_rfl) ?_
            refine pSeq ?_
            refine wSeq ?_
            obtain ⟨o3, h, hk3⟩ := bd h
            refine wJ1 (fun x218 => x218 = o3) (fun x218 => [(1, .d ((kL (kI .i64)).sig (lCut a1 0 (if 45 < (a1.length : Int) then 45 else (a1.length : Int))))), (2, .d ((kL (kI .i64)).sig (lCut a2 0 (if 6 < (a2.length : Int) then 6 else (a2.length : Int))))), (3, .p 3 0), (11, .d (kB.sig y20)), (12, .d ((kI .i64).sig y21.1)), (13, .d ((kI .i64).sig y21.2)), (14, .d (kB.sig y22.1)), (15, .d ((kI .i64).sig y22.2)), (17, .d ((kL (kI .i64)).sig y212)), (91, .d ((kL (kL (kI .i64))).sig y18.1)), (92, .d ((kI .i64).sig (y18.1.length : Int))), (93, .d ((kI .i64).sig v173)), (111, .d (kB.sig x218))]) (fun x218 => [.box 3 25 [.d (kL kS) (lCut a0.Names 0 (if 10 < (a0.Names.length : Int) then 10 else (a0.Names.length : Int))), .d (kL (kI .u32)) (lCut a0.Up 0 (if 10 < (a0.Up.length : Int) then 10 else (a0.Up.length : Int)))]]) ?_ ?_
            · obtain ⟨y219, hy219, h⟩ := bd h
              rcases ic h with ⟨hp220, h⟩ | ⟨hp220, h⟩
              · refine rg (cp (oMv tm) (s1 rfl) <| cp (oMv tm) (s1 rfl) <| cp (oCall rfl (rule_Right.ok hy219) b7 (opds_cons tm (opds_cons tm opds_nil))) (s2 rfl rfl) <| cp (oNot tm) (s1 rfl) <| cp (oMv tm) (s1 rfl) <| csB hp220 rfl rfl <| csB hp220 rfl rfl <| csB hp220 rfl rfl <| csB hp220 rfl rfl <| cp (oPkT hp220 tm cB) (s1 rfl) <| cp (oMv tm) (s1 rfl) <| csB rfl rfl rfl <| csB rfl rfl rfl <| csB rfl rfl rfl <| cp (oPkT rfl tm cB) (s1 rfl) <| .nil) (by kernel_rfl) ?_
                exact pJ1 _ (so h) ⟨rfl, rfl, rfl, rfl, rfl, rfl, rfl, rfl, rfl, rfl, rfl, rfl, rfl, trivial⟩ rfl
              · obtain ⟨y221, hy221, h⟩ := bd h
                rcases ic h with ⟨hp222, h⟩ | ⟨hp222, h⟩
                · refine rg (cp (oMv tm) (s1 rfl) <| cp (oMv tm) (s1 rfl) <| cp (oCall rfl (rule_Right.ok hy219) b7 (opds_cons tm (opds_cons tm opds_nil))) (s2 rfl rfl) <| cp (oNot tm) (s1 rfl) <| cp (oMv tm) (s1 rfl) <| cgB (nb hp220) rfl rfl (oMv tm) (s1 rfl) <| cgB (nb hp220) rfl rfl (oMv tm) (s1 rfl) <| cgB (nb hp220) rfl rfl (oNot tm) (s1 rfl) <| cgB (nb hp220) rfl rfl (oCall rfl (rule_Right.ok hy221) b7 (opds_cons tm (opds_cons tm opds_nil))) (s2 rfl rfl) <| cp (oPkF (nb hp220) tm tm) (s2 rfl rfl) <| cp (oMv tm) (s1 rfl) <| csB hp222 rfl rfl <| csB hp222 rfl rfl <| csB hp222 rfl rfl <| cp (oPkT hp222 tm cB) (s1 rfl) <| .nil) (by kernel_rfl) ?_
                  exact pJ1 _ (so h) ⟨rfl, rfl, rfl, rfl, rfl, rfl, rfl, rfl, rfl, rfl, rfl, rfl, rfl, trivial⟩ rfl
                · obtain ⟨y223, hy223, h⟩ := bd h
                  refine rg (cp (oMv tm) (s1 rfl) <| cp (oMv tm) (s1 rfl) <| cp (oCall rfl (rule_Right.ok hy219) b7 (opds_cons tm (opds_cons tm opds_nil))) (s2 rfl rfl) <| cp (oNot tm) (s1 rfl) <| cp (oMv tm) (s1 rfl) <| cgB (nb hp220) rfl rfl (oMv tm) (s1 rfl) <| cgB (nb hp220) rfl rfl (oMv tm) (s1 rfl) <| cgB (nb hp220) rfl rfl (oNot tm) (s1 rfl) <| cgB (nb hp220) rfl rfl (oCall rfl (rule_Right.ok hy221) b7 (opds_cons tm (opds_cons tm opds_nil))) (s2 rfl rfl) <| cp (oPkF (nb hp220) tm tm) (s2 rfl rfl) <| cp (oMv tm) (s1 rfl) <| cgB (nb hp222) rfl rfl (oMv tm) (s1 rfl) <| cgB (nb hp222) rfl rfl (oMv tm) (s1 rfl) <| cgB (nb hp222) rfl rfl (oCall rfl (reticentref04_Same.ok hy223) b10 (opds_cons tm (opds_cons tm opds_nil))) (s2 rfl rfl) <| cp (oPkF (nb hp222) tm tm) (s2 rfl rfl) <| .nil) (by kernel_rfl) ?_
                  exact pJ1 _ (so h) ⟨rfl, rfl, rfl, rfl, rfl, rfl, rfl, rfl, rfl, rfl, rfl, rfl, rfl, trivial⟩ rfl
            · rintro x218 rfl
              replace h := hk3
              rcases ic h with ⟨hp224, h⟩ | ⟨hp224, h⟩
              · refine wBT hp224 tm (s1 rfl) ?_
                refine wSeq ?_
                refine rg (cp (oAs cB) trivial <| .nil) (by kernel_rfl) ?_
                refine pSeq ?_
                refine wRet ?_
                refine pThenR ?_
                refine pBlkR ?_
                refine pThenR ?_
                obtain rfl := so h
                replace h := hk2
                refine pThenR ?_
                refine pBlkR ?_
                refine pThenR ?_
                obtain rfl := so h
                replace h := hk1
                refine pThenR ?_
                obtain rfl := so h
                exact pR1 (.inl rfl) rfl (.tmp rfl <| .nil)
              · refine wBF hp224 tm (s1 rfl) ?_
                refine wSkip ?_
                refine pSeq ?_
                refine wSeq ?_
                obtain ⟨y225, hy225, h⟩ := bd h
                refine rg (cr (oLdA (n := 0) (fs := f_api_Lattice) (u := ⟨lCut a0.Names 0 (if 10 < (a0.Names.length : Int) then 10 else (a0.Names.length : Int)), lCut a0.Up 0 (if 10 < (a0.Up.length : Int) then 10 else (a0.Up.length : Int))⟩) rfl ⟨rfl, rfl, trivial⟩ t25 tm) (s1 rfl) <| cp (oMv tm) (s1 rfl) <| cp (oMv tm) (s1 rfl) <| cp (oCall rfl (judge_Label.ok hy225) b8 (opds_cons tm (opds_cons tm (opds_cons tm opds_nil)))) (s3 rfl rfl rfl) <| cp (oMv tm) (s1 rfl) <| cp (oExt (k := 0) rfl tm) (s1 rfl) <| cp (oExt (k := 1) rfl tm) (s1 rfl) <| cp (oAs tm) (s1 rfl) <| cp (oAs tm) (s1 rfl) <| .nil) (by kernel_rfl) ?_
                refine pSeq ?_
                refine wSeq ?_
                obtain ⟨y226, hy226, h⟩ := bd h
                refine rg (cr (oLdA (n := 0) (fs := f_api_Lattice) (u := ⟨lCut a0.Names 0 (if 10 < (a0.Names.length : Int) then 10 else (a0.Names.length : Int)), lCut a0.Up 0 (if 10 < (a0.Up.length : Int) then 10 else (a0.Up.length : Int))⟩) rfl ⟨rfl, rfl, trivial⟩ t25 tm) (s1 rfl) <| cp (oMv tm) (s1 rfl) <| cp (oMv tm) (s1 rfl) <| cp (oCall rfl (judge_Cond.ok hy226) b9 (opds_cons tm (opds_cons tm (opds_cons tm opds_nil)))) (s3 rfl rfl rfl) <| cp (oMv tm) (s1 rfl) <| cp (oExt (k := 0) rfl tm) (s1 rfl) <| cp (oExt (k := 1) rfl tm) (s1 rfl) <| cp (oAs tm) (s1 rfl) <| cp (oAs tm) (s1 rfl) <| .nil) (by kernel_rfl) ?_
                refine pSeq ?_
                refine wSeq ?_
                obtain ⟨o3, h, hk3⟩ := bd h
                refine wJ1 (fun x228 => x228 = o3) (fun x228 => [(1, .d ((kL (kI .i64)).sig (lCut a1 0 (if 45 < (a1.length : Int) then 45 else (a1.length : Int))))), (2, .d ((kL (kI .i64)).sig (lCut a2 0 (if 6 < (a2.length : Int) then 6 else (a2.length : Int))))), (3, .p 3 0), (11, .d (kB.sig y20)), (12, .d ((kI .i64).sig y21.1)), (13, .d ((kI .i64).sig y21.2)), (14, .d (kB.sig y22.1)), (15, .d ((kI .i64).sig y22.2)), (18, .d ((kI .i64).sig y225.1)), (20, .d (kB.sig y226.1)), (91, .d ((kL (kL (kI .i64))).sig y18.1)), (92, .d ((kI .i64).sig (y18.1.length : Int))), (93, .d ((kI .i64).sig v173)), (133, .d (kB.sig x228))]) (fun x228 => [.box 3 25 [.d (kL kS) (lCut a0.Names 0 (if 10 < (a0.Names.length : Int) then 10 else (a0.Names.length : Int))), .d (kL (kI .u32)) (lCut a0.Up 0 (if 10 < (a0.Up.length : Int) then 10 else (a0.Up.length : Int)))]]) ?_ ?_
                · rcases ic h with ⟨hp229, h⟩ | ⟨hp229, h⟩
                  · refine rg (cp (oMv tm) (s1 rfl) <| cp (oMv tm) (s1 rfl) <| cp (oNe rfl tm tm) (s2 rfl rfl) <| cp (oMv tm) (s1 rfl) <| cgB (nf hp229) rfl rfl (oMv tm) (s1 rfl) <| cgB (nf hp229) rfl rfl (oMv tm) (s1 rfl) <| cgB (nf hp229) rfl rfl (oNe rfl tm tm) (s2 rfl rfl) <| cp (oPkF (nf hp229) tm tm) (s2 rfl rfl) <| .nil) (by kernel_rfl) ?_
                    exact pJ1 _ (so h) ⟨rfl, rfl, rfl, rfl, rfl, rfl, rfl, rfl, rfl, rfl, rfl, rfl, rfl, rfl, trivial⟩ rfl
                  · refine rg (cp (oMv tm) (s1 rfl) <| cp (oMv tm) (s1 rfl) <| cp (oNe rfl tm tm) (s2 rfl rfl) <| cp (oMv tm) (s1 rfl) <| csB (nt hp229) rfl rfl <| csB (nt hp229) rfl rfl <| csB (nt hp229) rfl rfl <| cp (oPkT (nt hp229) tm cB) (s1 rfl) <| .nil) (by kernel_rfl) ?_
                    exact pJ1 _ (so h) ⟨rfl, rfl, rfl, rfl, rfl, rfl, rfl, rfl, rfl, rfl, rfl, rfl, rfl, rfl, trivial⟩ rfl
                · rintro x228 rfl
                  replace h := hk3
                  rcases ic h with ⟨hp230, h⟩ | ⟨hp230, h⟩
                  · refine wBT hp230 tm (s1 rfl) ?_
                    refine wSeq ?_
                    refine rg (cp (oAs cB) trivial <| .nil) (by kernel_rfl) ?_
                    refine pSeq ?_
                    refine wRet ?_
                    refine pThenR ?_
                    refine pBlkR ?_
                    refine pThenR ?_
                    obtain rfl := so h
                    replace h := hk2
                    refine pThenR ?_
                    refine pBlkR ?_
                    refine pThenR ?_
                    obtain rfl := so h
                    replace h := hk1
                    refine pThenR ?_
                    obtain rfl := so h
                    exact pR1 (.inl rfl) rfl (.tmp rfl <| .nil)
                  · refine wBF hp230 tm (s1 rfl) ?_
                    refine wSkip ?_
                    refine pSeq ?_
                    refine wSeq ?_
                    refine wSeq ?_
                    refine rg (cp (oMv tm) (s1 rfl) <| cp (oEq rfl tm (cI (by decide))) (s1 rfl) <| .nil) (by kernel_rfl) ?_
                    refine pSeq ?_
                    rcases ic h with ⟨hp231, h⟩ | ⟨hp231, h⟩
                    · refine wCT hp231 tm (s1 rfl) ?_
                      refine wSeq ?_
                      obtain ⟨y232, hy232, h⟩ := bd h
                      refine rg (cr (oLdA (n := 0) (fs := f_api_Lattice) (u := ⟨lCut a0.Names 0 (if 10 < (a0.Names.length : Int) then 10 else (a0.Names.length : Int)), lCut a0.Up 0 (if 10 < (a0.Up.length : Int) then 10 else (a0.Up.length : Int))⟩) rfl ⟨rfl, rfl, trivial⟩ t25 tm) (s1 rfl) <| cp (oMv tm) (s1 rfl) <| cp (oMv tm) (s1 rfl) <| cp (oCall rfl (lattice_Flows.ok hy232) b11 (opds_cons tm (opds_cons tm (opds_cons tm opds_nil)))) (s3 rfl rfl rfl) <| cp (oMv tm) (s1 rfl) <| cp (oExt (k := 0) rfl tm) (s1 rfl) <| cp (oExt (k := 1) rfl tm) (s1 rfl) <| cp (oAs tm) (s1 rfl) <| cp (oAs tm) (s1 rfl) <| .nil) (by kernel_rfl) ?_
                      refine pSeq ?_
                      obtain ⟨o3, h, hk3⟩ := bd h
                      refine wJ1 (fun x234 => x234 = o3) (fun x234 => [(1, .d ((kL (kI .i64)).sig (lCut a1 0 (if 45 < (a1.length : Int) then 45 else (a1.length : Int))))), (2, .d ((kL (kI .i64)).sig (lCut a2 0 (if 6 < (a2.length : Int) then 6 else (a2.length : Int))))), (3, .p 3 0), (11, .d (kB.sig y20)), (12, .d ((kI .i64).sig y21.1)), (13, .d ((kI .i64).sig y21.2)), (14, .d (kB.sig y22.1)), (15, .d ((kI .i64).sig y22.2)), (20, .d (kB.sig y226.1)), (91, .d ((kL (kL (kI .i64))).sig y18.1)), (92, .d ((kI .i64).sig (y18.1.length : Int))), (93, .d ((kI .i64).sig v173)), (148, .d (kB.sig x234))]) (fun x234 => [.box 3 25 [.d (kL kS) (lCut a0.Names 0 (if 10 < (a0.Names.length : Int) then 10 else (a0.Names.length : Int))), .d (kL (kI .u32)) (lCut a0.Up 0 (if 10 < (a0.Up.length : Int) then 10 else (a0.Up.length : Int)))]]) ?_ ?_
                      · rcases ic h with ⟨hp235, h⟩ | ⟨hp235, h⟩
                        · refine rg (cp (oMv tm) (s1 rfl) <| cp (oNe rfl tm (cI (by decide))) (s1 rfl) <| cp (oMv tm) (s1 rfl) <| cgB (nf hp235) rfl rfl (oMv tm) (s1 rfl) <| cgB (nf hp235) rfl rfl (oNot tm) (s1 rfl) <| cp (oPkF (nf hp235) tm tm) (s2 rfl rfl) <| .nil) (by kernel_rfl) ?_
                          exact pJ1 _ (so h) ⟨rfl, rfl, rfl, rfl, rfl, rfl, rfl, rfl, rfl, rfl, rfl, rfl, rfl, trivial⟩ rfl
                        · refine rg (cp (oMv tm) (s1 rfl) <| cp (oNe rfl tm (cI (by decide))) (s1 rfl) <| cp (oMv tm) (s1 rfl) <| csB (nt hp235) rfl rfl <| csB (nt hp235) rfl rfl <| cp (oPkT (nt hp235) tm cB) (s1 rfl) <| .nil) (by kernel_rfl) ?_
                          exact pJ1 _ (so h) ⟨rfl, rfl, rfl, rfl, rfl, rfl, rfl, rfl, rfl, rfl, rfl, rfl, rfl, trivial⟩ rfl
                      · rintro x234 rfl
                        replace h := hk3
                        rcases ic h with ⟨hp236, h⟩ | ⟨hp236, h⟩
                        · refine wBT hp236 tm (s1 rfl) ?_
                          refine wSeq ?_
                          refine rg (cp (oAs cB) trivial <| .nil) (by kernel_rfl) ?_
                          refine pSeq ?_
                          refine wRet ?_
                          refine pThenR ?_
                          refine pBlkR ?_
                          refine pThenR ?_
                          obtain rfl := so h
                          replace h := hk2
                          refine pThenR ?_
                          refine pBlkR ?_
                          refine pThenR ?_
                          obtain rfl := so h
                          replace h := hk1
                          refine pThenR ?_
                          obtain rfl := so h
                          exact pR1 (.inl rfl) rfl (.tmp rfl <| .nil)
                        · refine wBF hp236 tm (s1 rfl) ?_
                          refine wSkip ?_
                          refine pSeq ?_
                          obtain ⟨o3, h, hk3⟩ := bd h
                          refine wJ1 (fun x239 => x239 = o3) (fun x239 => [(1, .d ((kL (kI .i64)).sig (lCut a1 0 (if 45 < (a1.length : Int) then 45 else (a1.length : Int))))), (2, .d ((kL (kI .i64)).sig (lCut a2 0 (if 6 < (a2.length : Int) then 6 else (a2.length : Int))))), (3, .p 3 0), (11, .d (kB.sig y20)), (12, .d ((kI .i64).sig y21.1)), (13, .d ((kI .i64).sig y21.2)), (14, .d (kB.sig y22.1)), (15, .d ((kI .i64).sig y22.2)), (91, .d ((kL (kL (kI .i64))).sig y18.1)), (92, .d ((kI .i64).sig (y18.1.length : Int))), (93, .d ((kI .i64).sig v173)), (157, .d (kB.sig x239))]) (fun x239 => [.box 3 25 [.d (kL kS) (lCut a0.Names 0 (if 10 < (a0.Names.length : Int) then 10 else (a0.Names.length : Int))), .d (kL (kI .u32)) (lCut a0.Up 0 (if 10 < (a0.Up.length : Int) then 10 else (a0.Up.length : Int)))]]) ?_ ?_
                          · rcases ic h with ⟨hp240, h⟩ | ⟨hp240, h⟩
                            · rcases ic h with ⟨hp241, h⟩ | ⟨hp241, h⟩
                              · refine rg (cp (oMv tm) (s1 rfl) <| cp (oEq rfl tm (cI (by decide))) (s1 rfl) <| cp (oMv tm) (s1 rfl) <| cgB (decide_eq_true hp240) rfl rfl (oMv tm) (s1 rfl) <| cp (oPkT (decide_eq_true hp240) tm tm) (s2 rfl rfl) <| cp (oMv tm) (s1 rfl) <| cgB hp241 rfl rfl (oMv tm) (s1 rfl) <| cgB hp241 rfl rfl (oNot tm) (s1 rfl) <| cp (oPkT hp241 tm tm) (s2 rfl rfl) <| .nil) (by kernel_rfl) ?_
                                exact pJ1 _ (so h) ⟨rfl, rfl, rfl, rfl, rfl, rfl, rfl, rfl, rfl, rfl, rfl, rfl, trivial⟩ rfl
                              · refine rg (cp (oMv tm) (s1 rfl) <| cp (oEq rfl tm (cI (by decide))) (s1 rfl) <| cp (oMv tm) (s1 rfl) <| cgB (decide_eq_true hp240) rfl rfl (oMv tm) (s1 rfl) <| cp (oPkT (decide_eq_true hp240) tm tm) (s2 rfl rfl) <| cp (oMv tm) (s1 rfl) <| csB (nb hp241) rfl rfl <| csB (nb hp241) rfl rfl <| cp (oPkF (nb hp241) tm cB) (s1 rfl) <| .nil) (by kernel_rfl) ?_
                                exact pJ1 _ (so h) ⟨rfl, rfl, rfl, rfl, rfl, rfl, rfl, rfl, rfl, rfl, rfl, rfl, trivial⟩ rfl
                            · refine rg (cp (oMv tm) (s1 rfl) <| cp (oEq rfl tm (cI (by decide))) (s1 rfl) <| cp (oMv tm) (s1 rfl) <| csB (decide_eq_false hp240) rfl rfl <| cp (oPkF (decide_eq_false hp240) tm cB) (s1 rfl) <| cp (oMv tm) (s1 rfl) <| csB rfl rfl rfl <| csB rfl rfl rfl <| cp (oPkF rfl tm cB) (s1 rfl) <| .nil) (by kernel_rfl) ?_
                              exact pJ1 _ (so h) ⟨rfl, rfl, rfl, rfl, rfl, rfl, rfl, rfl, rfl, rfl, rfl, rfl, trivial⟩ rfl
                          · rintro x239 rfl
                            replace h := hk3
                            rcases ic h with ⟨hp242, h⟩ | ⟨hp242, h⟩
                            · refine wBT hp242 tm (s1 rfl) ?_
                              refine wSeq ?_
                              refine rg (cp (oAs cB) trivial <| .nil) (by kernel_rfl) ?_
                              refine pSeq ?_
                              refine wRet ?_
                              refine pBlkR ?_
                              refine pThenR ?_
                              obtain rfl := so h
                              replace h := hk2
                              refine pThenR ?_
                              refine pBlkR ?_
                              refine pThenR ?_
                              obtain rfl := so h
                              replace h := hk1
                              refine pThenR ?_
                              obtain rfl := so h
                              exact pR1 (.inl rfl) rfl (.tmp rfl <| .nil)
                            · refine wBF hp242 tm (s1 rfl) ?_
                              refine wSkip ?_
                              refine pBlkN ?_
                              exact pJ0 (so h) ⟨rfl, rfl, rfl, rfl, rfl, rfl, rfl, rfl, rfl, rfl, rfl, trivial⟩ rfl
                    · refine wCF hp231 tm (s1 rfl) ?_
                      refine wSkip ?_
                      refine pSeq ?_
                      obtain ⟨o3, h, hk3⟩ := bd h
                      refine wJ1 (fun x245 => x245 = o3) (fun x245 => [(1, .d ((kL (kI .i64)).sig (lCut a1 0 (if 45 < (a1.length : Int) then 45 else (a1.length : Int))))), (2, .d ((kL (kI .i64)).sig (lCut a2 0 (if 6 < (a2.length : Int) then 6 else (a2.length : Int))))), (3, .p 3 0), (11, .d (kB.sig y20)), (12, .d ((kI .i64).sig y21.1)), (13, .d ((kI .i64).sig y21.2)), (14, .d (kB.sig y22.1)), (15, .d ((kI .i64).sig y22.2)), (91, .d ((kL (kL (kI .i64))).sig y18.1)), (92, .d ((kI .i64).sig (y18.1.length : Int))), (93, .d ((kI .i64).sig v173)), (157, .d (kB.sig x245))]) (fun x245 => [.box 3 25 [.d (kL kS) (lCut a0.Names 0 (if 10 < (a0.Names.length : Int) then 10 else (a0.Names.length : Int))), .d (kL (kI .u32)) (lCut a0.Up 0 (if 10 < (a0.Up.length : Int) then 10 else (a0.Up.length : Int)))]]) ?_ ?_
                      · rcases ic h with ⟨hp246, h⟩ | ⟨hp246, h⟩
                        · rcases ic h with ⟨hp247, h⟩ | ⟨hp247, h⟩
                          · refine rg (cp (oMv tm) (s1 rfl) <| cp (oEq rfl tm (cI (by decide))) (s1 rfl) <| cp (oMv tm) (s1 rfl) <| cgB (decide_eq_true hp246) rfl rfl (oMv tm) (s1 rfl) <| cp (oPkT (decide_eq_true hp246) tm tm) (s2 rfl rfl) <| cp (oMv tm) (s1 rfl) <| cgB hp247 rfl rfl (oMv tm) (s1 rfl) <| cgB hp247 rfl rfl (oNot tm) (s1 rfl) <| cp (oPkT hp247 tm tm) (s2 rfl rfl) <| .nil) (by kernel_rfl) ?_
                            exact pJ1 _ (so h) ⟨rfl, rfl, rfl, rfl, rfl, rfl, rfl, rfl, rfl, rfl, rfl, rfl, trivial⟩ rfl
                          · refine rg (cp (oMv tm) (s1 rfl) <| cp (oEq rfl tm (cI (by decide))) (s1 rfl) <| cp (oMv tm) (s1 rfl) <| cgB (decide_eq_true hp246) rfl rfl (oMv tm) (s1 rfl) <| cp (oPkT (decide_eq_true hp246) tm tm) (s2 rfl rfl) <| cp (oMv tm) (s1 rfl) <| csB (nb hp247) rfl rfl <| csB (nb hp247) rfl rfl <| cp (oPkF (nb hp247) tm cB) (s1 rfl) <| .nil) (by kernel_rfl) ?_
                            exact pJ1 _ (so h) ⟨rfl, rfl, rfl, rfl, rfl, rfl, rfl, rfl, rfl, rfl, rfl, rfl, trivial⟩ rfl
                        · refine rg (cp (oMv tm) (s1 rfl) <| cp (oEq rfl tm (cI (by decide))) (s1 rfl) <| cp (oMv tm) (s1 rfl) <| csB (decide_eq_false hp246) rfl rfl <| cp (oPkF (decide_eq_false hp246) tm cB) (s1 rfl) <| cp (oMv tm) (s1 rfl) <| csB rfl rfl rfl <| csB rfl rfl rfl <| cp (oPkF rfl tm cB) (s1 rfl) <| .nil) (by kernel_rfl) ?_
                          exact pJ1 _ (so h) ⟨rfl, rfl, rfl, rfl, rfl, rfl, rfl, rfl, rfl, rfl, rfl, rfl, trivial⟩ rfl
                      · rintro x245 rfl
                        replace h := hk3
                        rcases ic h with ⟨hp248, h⟩ | ⟨hp248, h⟩
                        · refine wBT hp248 tm (s1 rfl) ?_
                          refine wSeq ?_
                          refine rg (cp (oAs cB) trivial <| .nil) (by kernel_rfl) ?_
                          refine pSeq ?_
                          refine wRet ?_
                          refine pBlkR ?_
                          refine pThenR ?_
                          obtain rfl := so h
                          replace h := hk2
                          refine pThenR ?_
                          refine pBlkR ?_
                          refine pThenR ?_
                          obtain rfl := so h
                          replace h := hk1
                          refine pThenR ?_
                          obtain rfl := so h
                          exact pR1 (.inl rfl) rfl (.tmp rfl <| .nil)
                        · refine wBF hp248 tm (s1 rfl) ?_
                          refine wSkip ?_
                          refine pBlkN ?_
                          exact pJ0 (so h) ⟨rfl, rfl, rfl, rfl, rfl, rfl, rfl, rfl, rfl, rfl, rfl, trivial⟩ rfl
          · rintro rfl
            replace h := hk2
            refine rg (cp (oAdd tm (cI (by decide))) (s1 rfl) <| cp (oMv tm) (s1 rfl) <| .nil) (by kernel_rfl) ?_
            exact pLoop (lW (ih _ h) ⟨rfl, rfl, rfl, rfl, rfl, rfl, rfl, rfl, rfl, rfl, rfl, trivial⟩ rfl)
        · refine wCF hp174 tm (s1 rfl) ?_
          refine wExit ?_
          refine pThenX ?_
          refine pThenX ?_
          refine pBlkX ?_
          exact pJ0 (so h) trivial rfl
      · rintro rfl
        replace h := hk1
        refine pSeq ?_
        refine wSeq ?_
        obtain ⟨y249, hy249, h⟩ := bd h
        refine rg (cp (oCall rfl (reticentlaw24_alive.ok hy249) b5 opds_nil) trivial <| cp (oAs tm) (s1 rfl) <| .nil) (by kernel_rfl) ?_
        refine pSeq ?_
        refine wRet ?_
        obtain rfl := so h
        exact pR1 (.inl rfl) rfl (.tmp rfl <| .nil)
    · refine wNF hp19 tm (s1 rfl) ?_
      obtain ⟨o1, h, hk1⟩ := bd h
      refine wJ1 (fun x252 => x252 = o1) (fun x252 => [(6, .d (kB.sig x252))]) (fun x252 => [.box 3 25 [.d (kL kS) (lCut a0.Names 0 (if 10 < (a0.Names.length : Int) then 10 else (a0.Names.length : Int))), .d (kL (kI .u32)) (lCut a0.Up 0 (if 10 < (a0.Up.length : Int) then 10 else (a0.Up.length : Int)))]]) ?_ ?_
      · obtain ⟨y253, hy253, h⟩ := bd h
        rcases ic h with ⟨hp254, h⟩ | ⟨hp254, h⟩
        · refine rg (cp (oCall rfl (reticentlaw24_alive.ok hy253) b5 opds_nil) trivial <| cp (oMv tm) (s1 rfl) <| cgB hp254 rfl rfl (oMv tm) (s1 rfl) <| cgB hp254 rfl rfl (oLenL u28 tm) (s1 rfl) <| cgB hp254 rfl rfl (oEq rfl tm (cI (by decide))) (s1 rfl) <| cp (oPkT hp254 tm tm) (s2 rfl rfl) <| cp (oAs tm) (s1 rfl) <| .nil) (by kernel_rfl) ?_
          exact pJ1 _ (so h) ⟨rfl, trivial⟩ rfl
        · refine rg (cp (oCall rfl (reticentlaw24_alive.ok hy253) b5 opds_nil) trivial <| cp (oMv tm) (s1 rfl) <| csB (nb hp254) rfl rfl <| csB (nb hp254) rfl rfl <| csB (nb hp254) rfl rfl <| cp (oPkF (nb hp254) tm cB) (s1 rfl) <| cp (oAs tm) (s1 rfl) <| .nil) (by kernel_rfl) ?_
          exact pJ1 _ (so h) ⟨rfl, trivial⟩ rfl
      · rintro x252 rfl
        replace h := hk1
        refine wRet ?_
        refine pThenR ?_
        obtain rfl := so h
        exact pR1 (.inl rfl) rfl (.tmp rfl <| .nil)

end Go.Proofs.Ytjkijjhjffodcaa.LG
