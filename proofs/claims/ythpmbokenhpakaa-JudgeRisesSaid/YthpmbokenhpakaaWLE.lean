import Derived.Test.YthpmbokenhpakaaShelf
import Derived.Test.YthpmbokenhpakaaWLEp1
import Derived.Test.YthpmbokenhpakaaProg
set_option linter.unusedVariables false
set_option maxRecDepth 10000
namespace Go.Proofs.Ythpmbokenhpakaa.LE
open Go Go.Proofs.Ythpmbokenhpakaa.Ab

theorem reticentref01_order.ok {a0 : api_Lattice} {r : Bool} (h : reticentref01_order.f a0 = some r) : FnA Try.prog 75 [(kR f_api_Lattice).sig a0] (kB.sig r) := by
  refine fnIntro Try.func75 rfl (by kernel_rfl) fun H0 w0 => ?_
  unfold reticentref01_order.f at h
  refine wSeq ?_
  refine rg (cp (oBox tm) (s1 rfl) <| cp (oAs cB) trivial <| .nil) (by kernel_rfl) ?_
  refine pSeq ?_
  refine wSeq ?_
  refine wSeq ?_
  refine rg (cp (oFld (fs := f_api_Lattice) (k := 1) rfl o42_1 tm) (s1 rfl) <| cp (oLd t40 tm) (s1 rfl) <| cp (oLenL u40 tm) (s1 rfl) <| cp (oMv (cI (by decide))) trivial <| .nil) (by kernel_rfl) ?_
  refine pSeq ?_
  obtain ⟨o1, h, hk1⟩ := bd h
  refine wK0 (.inr () = o1) ([]) ([]) ?_ ?_
  · refine wBlock (wLoop ?_)
    refine lW (pc1 o1 (fun v315 => [(1, .d (sP (kR f_api_Lattice) a0)), (8, .d ((kI .i64).sig (a0.Up.length : Int))), (9, .d ((kI .i64).sig v315))]) (fun v315 => []) (reticentref01_order.l8.partial_correctness a0) ?_ _ h) ⟨rfl, rfl, rfl, trivial⟩ rfl
    clear h
    intro f' ih v315 h
    refine wSeq ?_
    refine rg (cp (oLt rfl tm tm) (s2 rfl rfl) <| .nil) (by kernel_rfl) ?_
    refine pSeq ?_
    refine wSeq ?_
    rcases ic h with ⟨hp316, h⟩ | ⟨hp316, h⟩
    · refine wCT hp316 tm (s1 rfl) ?_
      refine wSkip ?_
      refine pSeq ?_
      refine wSeq ?_
      refine wBlock ?_
      refine wSeq ?_
      refine rg (cp (oMv tm) (s1 rfl) <| cp (oAs tm) (s1 rfl) <| .nil) (by kernel_rfl) ?_
      refine pSeq ?_
      refine wSeq ?_
      refine wSeq ?_
      obtain ⟨y317, hy317, h⟩ := bd h
      refine rg (cp (oLd t42 tm) (s1 rfl) <| cp (oMv tm) (s1 rfl) <| cp (oMv tm) (s1 rfl) <| cp (oCall rfl (reticentref01_Flows.ok hy317) b34 (opds_cons tm (opds_cons tm (opds_cons tm opds_nil)))) (s3 rfl rfl rfl) <| cp (oNot tm) (s1 rfl) <| .nil) (by kernel_rfl) ?_
      refine pSeq ?_
      rcases ic h with ⟨hp318, h⟩ | ⟨hp318, h⟩
      · refine wBT hp318 tm (s1 rfl) ?_
        refine wSeq ?_
        refine rg (cp (oAs cB) trivial <| .nil) (by kernel_rfl) ?_
        refine pSeq ?_
        refine wRet ?_
        refine pThenR ?_
        refine pBlkR ?_
        refine pThenR ?_
        refine pThenR ?_
        refine pBlkR ?_
        refine pThenR ?_
        obtain rfl := so h
        replace h := hk1
        refine pThenR ?_
        obtain rfl := so h
        exact pR1 (.inl rfl) rfl (.tmp rfl <| .nil)
      · refine wBF hp318 tm (s1 rfl) ?_
        refine wSkip ?_
        refine pSeq ?_
        refine wSeq ?_
        refine rg (cp (oFld (fs := f_api_Lattice) (k := 1) rfl o42_1 tm) (s1 rfl) <| cp (oLd t40 tm) (s1 rfl) <| cp (oLenL u40 tm) (s1 rfl) <| cp (oMv (cI (by decide))) trivial <| .nil) (by kernel_rfl) ?_
        refine pSeq ?_
        obtain ⟨o2, h, hk2⟩ := bd h
        refine wK0 (.inr () = o2) ([(1, .d (sP (kR f_api_Lattice) a0)), (8, .d ((kI .i64).sig (a0.Up.length : Int))), (9, .d ((kI .i64).sig v315))]) ([]) ?_ ?_
        · refine wBlock (wLoop ?_)
          refine lW (pc1 o2 (fun v421 => [(1, .d (sP (kR f_api_Lattice) a0)), (3, .d ((kI .i64).sig v315)), (8, .d ((kI .i64).sig (a0.Up.length : Int))), (9, .d ((kI .i64).sig v315)), (19, .d ((kI .i64).sig (a0.Up.length : Int))), (20, .d ((kI .i64).sig v421))]) (fun v421 => []) (reticentref01_order.l11.partial_correctness a0 v315) ?_ _ h) ⟨rfl, rfl, rfl, rfl, rfl, rfl, trivial⟩ rfl
          clear h
          intro f' ih v421 h
          refine wSeq ?_
          refine rg (cp (oLt rfl tm tm) (s2 rfl rfl) <| .nil) (by kernel_rfl) ?_
          refine pSeq ?_
          refine wSeq ?_
          rcases ic h with ⟨hp422, h⟩ | ⟨hp422, h⟩
          · refine wCT hp422 tm (s1 rfl) ?_
            refine wSkip ?_
            refine pSeq ?_
            refine wSeq ?_
            refine wBlock ?_
            refine wSeq ?_
            refine rg (cp (oMv tm) (s1 rfl) <| cp (oAs tm) (s1 rfl) <| .nil) (by kernel_rfl) ?_
            refine pSeq ?_
            refine wSeq ?_
            obtain ⟨o3, h, hk3⟩ := bd h
            refine wJ1 (fun x427 => x427 = o3) (fun x427 => [(1, .d (sP (kR f_api_Lattice) a0)), (3, .d ((kI .i64).sig v315)), (4, .d ((kI .i64).sig v421)), (8, .d ((kI .i64).sig (a0.Up.length : Int))), (9, .d ((kI .i64).sig v315)), (19, .d ((kI .i64).sig (a0.Up.length : Int))), (20, .d ((kI .i64).sig v421)), (37, .d (kB.sig x427))]) (fun x427 => []) ?_ ?_
            · rcases ic h with ⟨hp428, h⟩ | ⟨hp428, h⟩
              · refine rg (cp (oMv tm) (s1 rfl) <| cp (oMv tm) (s1 rfl) <| cp (oNe rfl tm tm) (s2 rfl rfl) <| cp (oMv tm) (s1 rfl) <| csB (nf hp428) rfl rfl <| csB (nf hp428) rfl rfl <| csB (nf hp428) rfl rfl <| csB (nf hp428) rfl rfl <| cp (oPkF (nf hp428) tm cB) (s1 rfl) <| cp (oMv tm) (s1 rfl) <| csB rfl rfl rfl <| csB rfl rfl rfl <| csB rfl rfl rfl <| csB rfl rfl rfl <| cp (oPkF rfl tm cB) (s1 rfl) <| .nil) (by kernel_rfl) ?_
                exact pJ1 _ (so h) ⟨rfl, rfl, rfl, rfl, rfl, rfl, rfl, rfl, trivial⟩ rfl
              · obtain ⟨y429, hy429, h⟩ := bd h
                rcases ic h with ⟨hp430, h⟩ | ⟨hp430, h⟩
                · obtain ⟨y431, hy431, h⟩ := bd h
                  refine rg (cp (oMv tm) (s1 rfl) <| cp (oMv tm) (s1 rfl) <| cp (oNe rfl tm tm) (s2 rfl rfl) <| cp (oMv tm) (s1 rfl) <| cgB (nt hp428) rfl rfl (oLd t42 tm) (s1 rfl) <| cgB (nt hp428) rfl rfl (oMv tm) (s1 rfl) <| cgB (nt hp428) rfl rfl (oMv tm) (s1 rfl) <| cgB (nt hp428) rfl rfl (oCall rfl (reticentref01_Flows.ok hy429) b34 (opds_cons tm (opds_cons tm (opds_cons tm opds_nil)))) (s3 rfl rfl rfl) <| cp (oPkT (nt hp428) tm tm) (s2 rfl rfl) <| cp (oMv tm) (s1 rfl) <| cgB hp430 rfl rfl (oLd t42 tm) (s1 rfl) <| cgB hp430 rfl rfl (oMv tm) (s1 rfl) <| cgB hp430 rfl rfl (oMv tm) (s1 rfl) <| cgB hp430 rfl rfl (oCall rfl (reticentref01_Flows.ok hy431) b34 (opds_cons tm (opds_cons tm (opds_cons tm opds_nil)))) (s3 rfl rfl rfl) <| cp (oPkT hp430 tm tm) (s2 rfl rfl) <| .nil) (by kernel_rfl) ?_
                  exact pJ1 _ (so h) ⟨rfl, rfl, rfl, rfl, rfl, rfl, rfl, rfl, trivial⟩ rfl
                · refine rg (cp (oMv tm) (s1 rfl) <| cp (oMv tm) (s1 rfl) <| cp (oNe rfl tm tm) (s2 rfl rfl) <| cp (oMv tm) (s1 rfl) <| cgB (nt hp428) rfl rfl (oLd t42 tm) (s1 rfl) <| cgB (nt hp428) rfl rfl (oMv tm) (s1 rfl) <| cgB (nt hp428) rfl rfl (oMv tm) (s1 rfl) <| cgB (nt hp428) rfl rfl (oCall rfl (reticentref01_Flows.ok hy429) b34 (opds_cons tm (opds_cons tm (opds_cons tm opds_nil)))) (s3 rfl rfl rfl) <| cp (oPkT (nt hp428) tm tm) (s2 rfl rfl) <| cp (oMv tm) (s1 rfl) <| csB (nb hp430) rfl rfl <| csB (nb hp430) rfl rfl <| csB (nb hp430) rfl rfl <| csB (nb hp430) rfl rfl <| cp (oPkF (nb hp430) tm cB) (s1 rfl) <| .nil) (by kernel_rfl) ?_
                  exact pJ1 _ (so h) ⟨rfl, rfl, rfl, rfl, rfl, rfl, rfl, rfl, trivial⟩ rfl
            · rintro x427 rfl
              replace h := hk3
              rcases ic h with ⟨hp432, h⟩ | ⟨hp432, h⟩
              · refine wBT hp432 tm (s1 rfl) ?_
                refine wSeq ?_
                refine rg (cp (oAs cB) trivial <| .nil) (by kernel_rfl) ?_
                refine pSeq ?_
                refine wRet ?_
                refine pThenR ?_
                refine pBlkR ?_
                refine pThenR ?_
                refine pThenR ?_
                refine pBlkR ?_
                refine pThenR ?_
                obtain rfl := so h
                replace h := hk2
                refine pBlkR ?_
                refine pThenR ?_
                refine pThenR ?_
                refine pBlkR ?_
                refine pThenR ?_
                obtain rfl := so h
                replace h := hk1
                refine pThenR ?_
                obtain rfl := so h
                exact pR1 (.inl rfl) rfl (.tmp rfl <| .nil)
              · refine wBF hp432 tm (s1 rfl) ?_
                refine wSkip ?_
                refine pSeq ?_
                refine wSeq ?_
                refine rg (cp (oFld (fs := f_api_Lattice) (k := 1) rfl o42_1 tm) (s1 rfl) <| cp (oLd t40 tm) (s1 rfl) <| cp (oLenL u40 tm) (s1 rfl) <| cp (oMv (cI (by decide))) trivial <| .nil) (by kernel_rfl) ?_
                refine pSeq ?_
                obtain ⟨o3, h, hk3⟩ := bd h
                refine wK0 (.inr () = o3) ([(1, .d (sP (kR f_api_Lattice) a0)), (3, .d ((kI .i64).sig v315)), (8, .d ((kI .i64).sig (a0.Up.length : Int))), (9, .d ((kI .i64).sig v315)), (19, .d ((kI .i64).sig (a0.Up.length : Int))), (20, .d ((kI .i64).sig v421))]) ([]) ?_ ?_
                · refine wBlock (wLoop ?_)
                  refine lW (pc1 o3 (fun v459 => [(1, .d (sP (kR f_api_Lattice) a0)), (3, .d ((kI .i64).sig v315)), (4, .d ((kI .i64).sig v421)), (8, .d ((kI .i64).sig (a0.Up.length : Int))), (9, .d ((kI .i64).sig v315)), (19, .d ((kI .i64).sig (a0.Up.length : Int))), (20, .d ((kI .i64).sig v421)), (40, .d ((kI .i64).sig (a0.Up.length : Int))), (41, .d ((kI .i64).sig v459))]) (fun v459 => []) (reticentref01_order.l12.partial_correctness a0 v315 v421) ?_ _ h) ⟨rfl, rfl, rfl, rfl, rfl, rfl, rfl, rfl, rfl, trivial⟩ rfl
                  clear h
                  intro f' ih v459 h
                  refine wSeq ?_
                  refine rg (cp (oLt rfl tm tm) (s2 rfl rfl) <| .nil) (by kernel_rfl) ?_
                  refine pSeq ?_
                  refine wSeq ?_
                  rcases ic h with ⟨hp460, h⟩ | ⟨hp460, h⟩
                  · refine wCT hp460 tm (s1 rfl) ?_
                    refine wSkip ?_
                    refine pSeq ?_
                    refine wSeq ?_
                    refine wBlock ?_
                    refine wSeq ?_
                    refine rg (cp (oMv tm) (s1 rfl) <| cp (oAs tm) (s1 rfl) <| .nil) (by kernel_rfl) ?_
                    refine pSeq ?_
                    obtain ⟨o4, h, hk4⟩ := bd h
                    refine wJ1 (fun x466 => x466 = o4) (fun x466 => [(1, .d (sP (kR f_api_Lattice) a0)), (3, .d ((kI .i64).sig v315)), (4, .d ((kI .i64).sig v421)), (8, .d ((kI .i64).sig (a0.Up.length : Int))), (9, .d ((kI .i64).sig v315)), (19, .d ((kI .i64).sig (a0.Up.length : Int))), (20, .d ((kI .i64).sig v421)), (40, .d ((kI .i64).sig (a0.Up.length : Int))), (41, .d ((kI .i64).sig v459)), (60, .d (kB.sig x466))]) (fun x466 => []) ?_ ?_
                    · obtain ⟨y467, hy467, h⟩ := bd h
                      rcases ic h with ⟨hp468, h⟩ | ⟨hp468, h⟩
                      · obtain ⟨y469, hy469, h⟩ := bd h
                        rcases ic h with ⟨hp470, h⟩ | ⟨hp470, h⟩
                        · obtain ⟨y471, hy471, h⟩ := bd h
                          refine rg (cp (oLd t42 tm) (s1 rfl) <| cp (oMv tm) (s1 rfl) <| cp (oMv tm) (s1 rfl) <| cp (oCall rfl (reticentref01_Flows.ok hy467) b34 (opds_cons tm (opds_cons tm (opds_cons tm opds_nil)))) (s3 rfl rfl rfl) <| cp (oMv tm) (s1 rfl) <| cgB hp468 rfl rfl (oLd t42 tm) (s1 rfl) <| cgB hp468 rfl rfl (oMv tm) (s1 rfl) <| cgB hp468 rfl rfl (oMv tm) (s1 rfl) <| cgB hp468 rfl rfl (oCall rfl (reticentref01_Flows.ok hy469) b34 (opds_cons tm (opds_cons tm (opds_cons tm opds_nil)))) (s3 rfl rfl rfl) <| cp (oPkT hp468 tm tm) (s2 rfl rfl) <| cp (oMv tm) (s1 rfl) <| cgB hp470 rfl rfl (oLd t42 tm) (s1 rfl) <| cgB hp470 rfl rfl (oMv tm) (s1 rfl) <| cgB hp470 rfl rfl (oMv tm) (s1 rfl) <| cgB hp470 rfl rfl (oCall rfl (reticentref01_Flows.ok hy471) b34 (opds_cons tm (opds_cons tm (opds_cons tm opds_nil)))) (s3 rfl rfl rfl) <| cgB hp470 rfl rfl (oNot tm) (s1 rfl) <| cp (oPkT hp470 tm tm) (s2 rfl rfl) <| .nil) (by kernel_rfl) ?_
                          exact pJ1 _ (so h) ⟨rfl, rfl, rfl, rfl, rfl, rfl, rfl, rfl, rfl, rfl, trivial⟩ rfl
                        · refine rg (cp (oLd t42 tm) (s1 rfl) <| cp (oMv tm) (s1 rfl) <| cp (oMv tm) (s1 rfl) <| cp (oCall rfl (reticentref01_Flows.ok hy467) b34 (opds_cons tm (opds_cons tm (opds_cons tm opds_nil)))) (s3 rfl rfl rfl) <| cp (oMv tm) (s1 rfl) <| cgB hp468 rfl rfl (oLd t42 tm) (s1 rfl) <| cgB hp468 rfl rfl (oMv tm) (s1 rfl) <| cgB hp468 rfl rfl (oMv tm) (s1 rfl) <| cgB hp468 rfl rfl (oCall rfl (reticentref01_Flows.ok hy469) b34 (opds_cons tm (opds_cons tm (opds_cons tm opds_nil)))) (s3 rfl rfl rfl) <| cp (oPkT hp468 tm tm) (s2 rfl rfl) <| cp (oMv tm) (s1 rfl) <| csB (nb hp470) rfl rfl <| csB (nb hp470) rfl rfl <| csB (nb hp470) rfl rfl <| csB (nb hp470) rfl rfl <| csB (nb hp470) rfl rfl <| cp (oPkF (nb hp470) tm cB) (s1 rfl) <| .nil) (by kernel_rfl) ?_
                          exact pJ1 _ (so h) ⟨rfl, rfl, rfl, rfl, rfl, rfl, rfl, rfl, rfl, rfl, trivial⟩ rfl
                      · refine rg (cp (oLd t42 tm) (s1 rfl) <| cp (oMv tm) (s1 rfl) <| cp (oMv tm) (s1 rfl) <| cp (oCall rfl (reticentref01_Flows.ok hy467) b34 (opds_cons tm (opds_cons tm (opds_cons tm opds_nil)))) (s3 rfl rfl rfl) <| cp (oMv tm) (s1 rfl) <| csB (nb hp468) rfl rfl <| csB (nb hp468) rfl rfl <| csB (nb hp468) rfl rfl <| csB (nb hp468) rfl rfl <| cp (oPkF (nb hp468) tm cB) (s1 rfl) <| cp (oMv tm) (s1 rfl) <| csB rfl rfl rfl <| csB rfl rfl rfl <| csB rfl rfl rfl <| csB rfl rfl rfl <| csB rfl rfl rfl <| cp (oPkF rfl tm cB) (s1 rfl) <| .nil) (by kernel_rfl) ?_
                        exact pJ1 _ (so h) ⟨rfl, rfl, rfl, rfl, rfl, rfl, rfl, rfl, rfl, rfl, trivial⟩ rfl
                    · rintro x466 rfl
                      replace h := hk4
                      rcases ic h with ⟨hp472, h⟩ | ⟨hp472, h⟩
                      · refine wBT hp472 tm (s1 rfl) ?_
                        refine wSeq ?_
                        refine rg (cp (oAs cB) trivial <| .nil) (by kernel_rfl) ?_
                        refine pSeq ?_
                        refine wRet ?_
                        refine pBlkR ?_
                        refine pThenR ?_
                        refine pThenR ?_
                        refine pBlkR ?_
                        refine pThenR ?_
                        obtain rfl := so h
                        replace h := hk3
                        refine pBlkR ?_
                        refine pThenR ?_
                        refine pThenR ?_
                        refine pBlkR ?_
                        refine pThenR ?_
                        obtain rfl := so h
                        replace h := hk2
                        refine pBlkR ?_
                        refine pThenR ?_
                        refine pThenR ?_
                        refine pBlkR ?_
                        refine pThenR ?_
                        obtain rfl := so h
                        replace h := hk1
                        refine pThenR ?_
                        obtain rfl := so h
                        exact pR1 (.inl rfl) rfl (.tmp rfl <| .nil)
                      · refine wBF hp472 tm (s1 rfl) ?_
                        refine wSkip ?_
                        refine pBlkN ?_
                        refine pSeq ?_
                        refine rg (cp (oAdd tm (cI (by decide))) (s1 rfl) <| cp (oMv tm) (s1 rfl) <| .nil) (by kernel_rfl) ?_
                        exact pLoop (lW (ih _ h) ⟨rfl, rfl, rfl, rfl, rfl, rfl, rfl, rfl, rfl, trivial⟩ rfl)
                  · refine wCF hp460 tm (s1 rfl) ?_
                    refine wExit ?_
                    refine pThenX ?_
                    refine pThenX ?_
                    refine pBlkX ?_
                    exact pJ0 (so h) ⟨rfl, rfl, rfl, rfl, rfl, rfl, trivial⟩ rfl
                · rintro rfl
                  replace h := hk3
                  refine pBlkN ?_
                  refine pSeq ?_
                  refine rg (cp (oAdd tm (cI (by decide))) (s1 rfl) <| cp (oMv tm) (s1 rfl) <| .nil) (by kernel_rfl) ?_
                  exact pLoop (lW (ih _ h) ⟨rfl, rfl, rfl, rfl, rfl, rfl, trivial⟩ rfl)
          · refine wCF hp422 tm (s1 rfl) ?_
            refine wExit ?_
            refine pThenX ?_
            refine pThenX ?_
            refine pBlkX ?_
            exact pJ0 (so h) ⟨rfl, rfl, rfl, trivial⟩ rfl
        · rintro rfl
          replace h := hk2
          refine pBlkN ?_
          refine pSeq ?_
          refine rg (cp (oAdd tm (cI (by decide))) (s1 rfl) <| cp (oMv tm) (s1 rfl) <| .nil) (by kernel_rfl) ?_
          exact pLoop (lW (ih _ h) ⟨rfl, rfl, rfl, trivial⟩ rfl)
    · refine wCF hp316 tm (s1 rfl) ?_
      refine wExit ?_
      refine pThenX ?_
      refine pThenX ?_
      refine pBlkX ?_
      exact pJ0 (so h) trivial rfl
  · rintro rfl
    replace h := hk1
    refine pSeq ?_
    refine wSeq ?_
    refine rg (cp (oAs cB) trivial <| .nil) (by kernel_rfl) ?_
    refine pSeq ?_
    refine wRet ?_
    obtain rfl := so h
    exact pR1 (.inl rfl) rfl (.tmp rfl <| .nil)

theorem reticentref01_Join.ok {a0 : api_Lattice} {a1 : Int} {a2 : Int} {r : Int} (h : reticentref01_Join.f a0 a1 a2 = some r) : FnA Try.prog 35 [(kR f_api_Lattice).sig a0, (kI .i64).sig a1, (kI .i64).sig a2] ((kI .i64).sig r) := by
  refine fnIntro Try.func35 rfl (by kernel_rfl) fun H0 w0 => ?_
  unfold reticentref01_Join.f at h
  refine wSeq ?_
  refine rg (cp (oBox tm) (s1 rfl) <| cp (oAs (cI (by decide))) trivial <| .nil) (by kernel_rfl) ?_
  refine pSeq ?_
  refine wSeq ?_
  refine wSeq ?_
  refine rg (cp (oFld (fs := f_api_Lattice) (k := 1) rfl o42_1 tm) (s1 rfl) <| cp (oLd t40 tm) (s1 rfl) <| cp (oLenL u40 tm) (s1 rfl) <| cp (oMv (cI (by decide))) trivial <| .nil) (by kernel_rfl) ?_
  refine pSeq ?_
  obtain ⟨o1, h, hk1⟩ := bd h
  refine wK0 (.inr () = o1) ([]) ([]) ?_ ?_
  · refine wBlock (wLoop ?_)
    refine lW (pc1 o1 (fun v181 => [(1, .d ((kI .i64).sig a1)), (2, .d ((kI .i64).sig a2)), (3, .d (sP (kR f_api_Lattice) a0)), (12, .d ((kI .i64).sig (a0.Up.length : Int))), (13, .d ((kI .i64).sig v181))]) (fun v181 => []) (reticentref01_Join.l2.partial_correctness a0 a1 a2) ?_ _ h) ⟨rfl, rfl, rfl, rfl, rfl, trivial⟩ rfl
    clear h
    intro f' ih v181 h
    refine wSeq ?_
    refine rg (cp (oLt rfl tm tm) (s2 rfl rfl) <| .nil) (by kernel_rfl) ?_
    refine pSeq ?_
    refine wSeq ?_
    rcases ic h with ⟨hp182, h⟩ | ⟨hp182, h⟩
    · refine wCT hp182 tm (s1 rfl) ?_
      refine wSkip ?_
      refine pSeq ?_
      refine wSeq ?_
      refine wBlock ?_
      refine wSeq ?_
      refine rg (cp (oMv tm) (s1 rfl) <| cp (oAs tm) (s1 rfl) <| .nil) (by kernel_rfl) ?_
      refine pSeq ?_
      obtain ⟨o2, h, hk2⟩ := bd h
      refine wJ1 (fun x186 => x186 = o2) (fun x186 => [(1, .d ((kI .i64).sig a1)), (2, .d ((kI .i64).sig a2)), (3, .d (sP (kR f_api_Lattice) a0)), (7, .d ((kI .i64).sig v181)), (8, .d (kB.sig x186)), (12, .d ((kI .i64).sig (a0.Up.length : Int))), (13, .d ((kI .i64).sig v181))]) (fun x186 => []) ?_ ?_
      · obtain ⟨y187, hy187, h⟩ := bd h
        rcases ic h with ⟨hp188, h⟩ | ⟨hp188, h⟩
        · obtain ⟨y189, hy189, h⟩ := bd h
          refine rg (cp (oLd t42 tm) (s1 rfl) <| cp (oMv tm) (s1 rfl) <| cp (oMv tm) (s1 rfl) <| cp (oCall rfl (reticentref01_Flows.ok hy187) b34 (opds_cons tm (opds_cons tm (opds_cons tm opds_nil)))) (s3 rfl rfl rfl) <| cp (oMv tm) (s1 rfl) <| cgB hp188 rfl rfl (oLd t42 tm) (s1 rfl) <| cgB hp188 rfl rfl (oMv tm) (s1 rfl) <| cgB hp188 rfl rfl (oMv tm) (s1 rfl) <| cgB hp188 rfl rfl (oCall rfl (reticentref01_Flows.ok hy189) b34 (opds_cons tm (opds_cons tm (opds_cons tm opds_nil)))) (s3 rfl rfl rfl) <| cp (oPkT hp188 tm tm) (s2 rfl rfl) <| cp (oAs tm) (s1 rfl) <| .nil) (by kernel_rfl) ?_
          exact pJ1 _ (so h) ⟨rfl, rfl, rfl, rfl, rfl, rfl, rfl, trivial⟩ rfl
        · refine rg (cp (oLd t42 tm) (s1 rfl) <| cp (oMv tm) (s1 rfl) <| cp (oMv tm) (s1 rfl) <| cp (oCall rfl (reticentref01_Flows.ok hy187) b34 (opds_cons tm (opds_cons tm (opds_cons tm opds_nil)))) (s3 rfl rfl rfl) <| cp (oMv tm) (s1 rfl) <| csB (nb hp188) rfl rfl <| csB (nb hp188) rfl rfl <| csB (nb hp188) rfl rfl <| csB (nb hp188) rfl rfl <| cp (oPkF (nb hp188) tm cB) (s1 rfl) <| cp (oAs tm) (s1 rfl) <| .nil) (by kernel_rfl) ?_
          exact pJ1 _ (so h) ⟨rfl, rfl, rfl, rfl, rfl, rfl, rfl, trivial⟩ rfl
      · rintro x186 rfl
        replace h := hk2
        refine wSeq ?_
        refine wSeq ?_
        refine rg (cp (oFld (fs := f_api_Lattice) (k := 1) rfl o42_1 tm) (s1 rfl) <| cp (oLd t40 tm) (s1 rfl) <| cp (oLenL u40 tm) (s1 rfl) <| cp (oMv (cI (by decide))) trivial <| .nil) (by kernel_rfl) ?_
        refine pSeq ?_
        obtain ⟨o2, h, hk2⟩ := bd h
        refine wK1 (fun x244 => x244 = o2) (fun x244 => [(1, .d ((kI .i64).sig a1)), (2, .d ((kI .i64).sig a2)), (3, .d (sP (kR f_api_Lattice) a0)), (7, .d ((kI .i64).sig v181)), (8, .d (kB.sig x244)), (12, .d ((kI .i64).sig (a0.Up.length : Int))), (13, .d ((kI .i64).sig v181))]) (fun x244 => []) ?_ ?_
        · refine wBlock (wLoop ?_)
          refine lW (pc2 o2 (fun v242 v243 => [(1, .d ((kI .i64).sig a1)), (2, .d ((kI .i64).sig a2)), (3, .d (sP (kR f_api_Lattice) a0)), (7, .d ((kI .i64).sig v181)), (8, .d (kB.sig v243)), (12, .d ((kI .i64).sig (a0.Up.length : Int))), (13, .d ((kI .i64).sig v181)), (28, .d ((kI .i64).sig (a0.Up.length : Int))), (29, .d ((kI .i64).sig v242))]) (fun v242 v243 => []) (reticentref01_Join.l3.partial_correctness a0 a1 a2 v181) ?_ _ _ h) ⟨rfl, rfl, rfl, rfl, rfl, rfl, rfl, rfl, rfl, trivial⟩ rfl
          clear h
          intro f' ih v242 v243 h
          refine wSeq ?_
          refine rg (cp (oLt rfl tm tm) (s2 rfl rfl) <| .nil) (by kernel_rfl) ?_
          refine pSeq ?_
          refine wSeq ?_
          rcases ic h with ⟨hp245, h⟩ | ⟨hp245, h⟩
          · refine wCT hp245 tm (s1 rfl) ?_
            refine wSkip ?_
            refine pSeq ?_
            obtain ⟨o3, h, hk3⟩ := bd h
            refine wJ1 (fun x258 => x258 = o3) (fun x258 => [(1, .d ((kI .i64).sig a1)), (2, .d ((kI .i64).sig a2)), (3, .d (sP (kR f_api_Lattice) a0)), (7, .d ((kI .i64).sig v181)), (8, .d (kB.sig x258)), (12, .d ((kI .i64).sig (a0.Up.length : Int))), (13, .d ((kI .i64).sig v181)), (28, .d ((kI .i64).sig (a0.Up.length : Int))), (29, .d ((kI .i64).sig v242))]) (fun x258 => []) ?_ ?_
            · refine wBlock ?_
              refine wSeq ?_
              refine rg (cp (oMv tm) (s1 rfl) <| cp (oAs tm) (s1 rfl) <| .nil) (by kernel_rfl) ?_
              refine pSeq ?_
              obtain ⟨o4, h, hk4⟩ := bd h
              refine wJ1 (fun x264 => x264 = o4) (fun x264 => [(1, .d ((kI .i64).sig a1)), (2, .d ((kI .i64).sig a2)), (3, .d (sP (kR f_api_Lattice) a0)), (7, .d ((kI .i64).sig v181)), (8, .d (kB.sig v243)), (12, .d ((kI .i64).sig (a0.Up.length : Int))), (13, .d ((kI .i64).sig v181)), (28, .d ((kI .i64).sig (a0.Up.length : Int))), (29, .d ((kI .i64).sig v242)), (48, .d (kB.sig x264))]) (fun x264 => []) ?_ ?_
              · obtain ⟨y265, hy265, h⟩ := bd h
                rcases ic h with ⟨hp266, h⟩ | ⟨hp266, h⟩
                · obtain ⟨y267, hy267, h⟩ := bd h
                  rcases ic h with ⟨hp268, h⟩ | ⟨hp268, h⟩
                  · obtain ⟨y269, hy269, h⟩ := bd h
                    refine rg (cp (oLd t42 tm) (s1 rfl) <| cp (oMv tm) (s1 rfl) <| cp (oMv tm) (s1 rfl) <| cp (oCall rfl (reticentref01_Flows.ok hy265) b34 (opds_cons tm (opds_cons tm (opds_cons tm opds_nil)))) (s3 rfl rfl rfl) <| cp (oMv tm) (s1 rfl) <| cgB hp266 rfl rfl (oLd t42 tm) (s1 rfl) <| cgB hp266 rfl rfl (oMv tm) (s1 rfl) <| cgB hp266 rfl rfl (oMv tm) (s1 rfl) <| cgB hp266 rfl rfl (oCall rfl (reticentref01_Flows.ok hy267) b34 (opds_cons tm (opds_cons tm (opds_cons tm opds_nil)))) (s3 rfl rfl rfl) <| cp (oPkT hp266 tm tm) (s2 rfl rfl) <| cp (oMv tm) (s1 rfl) <| cgB hp268 rfl rfl (oLd t42 tm) (s1 rfl) <| cgB hp268 rfl rfl (oMv tm) (s1 rfl) <| cgB hp268 rfl rfl (oMv tm) (s1 rfl) <| cgB hp268 rfl rfl (oCall rfl (reticentref01_Flows.ok hy269) b34 (opds_cons tm (opds_cons tm (opds_cons tm opds_nil)))) (s3 rfl rfl rfl) <| cgB hp268 rfl rfl (oNot tm) (s1 rfl) <| cp (oPkT hp268 tm tm) (s2 rfl rfl) <| .nil) (by kernel_rfl) ?_
                    exact pJ1 _ (so h) ⟨rfl, rfl, rfl, rfl, rfl, rfl, rfl, rfl, rfl, rfl, trivial⟩ rfl
                  · refine rg (cp (oLd t42 tm) (s1 rfl) <| cp (oMv tm) (s1 rfl) <| cp (oMv tm) (s1 rfl) <| cp (oCall rfl (reticentref01_Flows.ok hy265) b34 (opds_cons tm (opds_cons tm (opds_cons tm opds_nil)))) (s3 rfl rfl rfl) <| cp (oMv tm) (s1 rfl) <| cgB hp266 rfl rfl (oLd t42 tm) (s1 rfl) <| cgB hp266 rfl rfl (oMv tm) (s1 rfl) <| cgB hp266 rfl rfl (oMv tm) (s1 rfl) <| cgB hp266 rfl rfl (oCall rfl (reticentref01_Flows.ok hy267) b34 (opds_cons tm (opds_cons tm (opds_cons tm opds_nil)))) (s3 rfl rfl rfl) <| cp (oPkT hp266 tm tm) (s2 rfl rfl) <| cp (oMv tm) (s1 rfl) <| csB (nb hp268) rfl rfl <| csB (nb hp268) rfl rfl <| csB (nb hp268) rfl rfl <| csB (nb hp268) rfl rfl <| csB (nb hp268) rfl rfl <| cp (oPkF (nb hp268) tm cB) (s1 rfl) <| .nil) (by kernel_rfl) ?_
                    exact pJ1 _ (so h) ⟨rfl, rfl, rfl, rfl, rfl, rfl, rfl, rfl, rfl, rfl, trivial⟩ rfl
                · refine rg (cp (oLd t42 tm) (s1 rfl) <| cp (oMv tm) (s1 rfl) <| cp (oMv tm) (s1 rfl) <| cp (oCall rfl (reticentref01_Flows.ok hy265) b34 (opds_cons tm (opds_cons tm (opds_cons tm opds_nil)))) (s3 rfl rfl rfl) <| cp (oMv tm) (s1 rfl) <| csB (nb hp266) rfl rfl <| csB (nb hp266) rfl rfl <| csB (nb hp266) rfl rfl <| csB (nb hp266) rfl rfl <| cp (oPkF (nb hp266) tm cB) (s1 rfl) <| cp (oMv tm) (s1 rfl) <| csB rfl rfl rfl <| csB rfl rfl rfl <| csB rfl rfl rfl <| csB rfl rfl rfl <| csB rfl rfl rfl <| cp (oPkF rfl tm cB) (s1 rfl) <| .nil) (by kernel_rfl) ?_
                  exact pJ1 _ (so h) ⟨rfl, rfl, rfl, rfl, rfl, rfl, rfl, rfl, rfl, rfl, trivial⟩ rfl
              · rintro x264 rfl
                replace h := hk4
                rcases ic h with ⟨hp270, h⟩ | ⟨hp270, h⟩
                · refine wBT hp270 tm (s1 rfl) ?_
                  refine rg (cp (oAs cB) trivial <| .nil) (by kernel_rfl) ?_
                  refine pBlkN ?_
                  exact pJ1 _ (so h) ⟨rfl, rfl, rfl, rfl, rfl, rfl, rfl, rfl, rfl, trivial⟩ rfl
                · refine wBF hp270 tm (s1 rfl) ?_
                  refine wSkip ?_
                  refine pBlkN ?_
                  exact pJ1 _ (so h) ⟨rfl, rfl, rfl, rfl, rfl, rfl, rfl, rfl, rfl, trivial⟩ rfl
            · rintro x258 rfl
              replace h := hk3
              refine rg (cp (oAdd tm (cI (by decide))) (s1 rfl) <| cp (oMv tm) (s1 rfl) <| .nil) (by kernel_rfl) ?_
              exact pLoop (lW (ih _ _ h) ⟨rfl, rfl, rfl, rfl, rfl, rfl, rfl, rfl, rfl, trivial⟩ rfl)
          · refine wCF hp245 tm (s1 rfl) ?_
            refine wExit ?_
            refine pThenX ?_
            refine pThenX ?_
            refine pBlkX ?_
            exact pJ1 _ (so h) ⟨rfl, rfl, rfl, rfl, rfl, rfl, rfl, trivial⟩ rfl
        · rintro x244 rfl
          replace h := hk2
          refine pSeq ?_
          refine wSeq ?_
          refine rg (cp (oMv tm) (s1 rfl) <| .nil) (by kernel_rfl) ?_
          refine pSeq ?_
          rcases ic h with ⟨hp271, h⟩ | ⟨hp271, h⟩
          · refine wBT hp271 tm (s1 rfl) ?_
            refine wSeq ?_
            refine rg (cp (oMv tm) (s1 rfl) <| cp (oAs tm) (s1 rfl) <| .nil) (by kernel_rfl) ?_
            refine pSeq ?_
            refine wRet ?_
            refine pBlkR ?_
            refine pThenR ?_
            refine pThenR ?_
            refine pBlkR ?_
            refine pThenR ?_
            obtain rfl := so h
            replace h := hk1
            refine pThenR ?_
            obtain rfl := so h
            exact pR1 (.inl rfl) rfl (.tmp rfl <| .nil)
          · refine wBF hp271 tm (s1 rfl) ?_
            refine wSkip ?_
            refine pBlkN ?_
            refine pSeq ?_
            refine rg (cp (oAdd tm (cI (by decide))) (s1 rfl) <| cp (oMv tm) (s1 rfl) <| .nil) (by kernel_rfl) ?_
            exact pLoop (lW (ih _ h) ⟨rfl, rfl, rfl, rfl, rfl, trivial⟩ rfl)
    · refine wCF hp182 tm (s1 rfl) ?_
      refine wExit ?_
      refine pThenX ?_
      refine pThenX ?_
      refine pBlkX ?_
      exact pJ0 (so h) trivial rfl
  · rintro rfl
    replace h := hk1
    refine pSeq ?_
    refine wSeq ?_
    refine rg (cp (oAs (cI (by decide))) trivial <| .nil) (by kernel_rfl) ?_
    refine pSeq ?_
    refine wRet ?_
    obtain rfl := so h
    exact pR1 (.inl rfl) rfl (.tmp rfl <| .nil)

theorem reticentref01_Meet.ok {a0 : api_Lattice} {a1 : Int} {a2 : Int} {r : Int} (h : reticentref01_Meet.f a0 a1 a2 = some r) : FnA Try.prog 36 [(kR f_api_Lattice).sig a0, (kI .i64).sig a1, (kI .i64).sig a2] ((kI .i64).sig r) := by
  refine fnIntro Try.func36 rfl (by kernel_rfl) fun H0 w0 => ?_
  unfold reticentref01_Meet.f at h
  refine wSeq ?_
  refine rg (cp (oBox tm) (s1 rfl) <| cp (oAs (cI (by decide))) trivial <| .nil) (by kernel_rfl) ?_
  refine pSeq ?_
  refine wSeq ?_
  refine wSeq ?_
  refine rg (cp (oFld (fs := f_api_Lattice) (k := 1) rfl o42_1 tm) (s1 rfl) <| cp (oLd t40 tm) (s1 rfl) <| cp (oLenL u40 tm) (s1 rfl) <| cp (oMv (cI (by decide))) trivial <| .nil) (by kernel_rfl) ?_
  refine pSeq ?_
  obtain ⟨o1, h, hk1⟩ := bd h
  refine wK0 (.inr () = o1) ([]) ([]) ?_ ?_
  · refine wBlock (wLoop ?_)
    refine lW (pc1 o1 (fun v181 => [(1, .d ((kI .i64).sig a1)), (2, .d ((kI .i64).sig a2)), (3, .d (sP (kR f_api_Lattice) a0)), (12, .d ((kI .i64).sig (a0.Up.length : Int))), (13, .d ((kI .i64).sig v181))]) (fun v181 => []) (reticentref01_Meet.l2.partial_correctness a0 a1 a2) ?_ _ h) ⟨rfl, rfl, rfl, rfl, rfl, trivial⟩ rfl
    clear h
    intro f' ih v181 h
    refine wSeq ?_
    refine rg (cp (oLt rfl tm tm) (s2 rfl rfl) <| .nil) (by kernel_rfl) ?_
    refine pSeq ?_
    refine wSeq ?_
    rcases ic h with ⟨hp182, h⟩ | ⟨hp182, h⟩
    · refine wCT hp182 tm (s1 rfl) ?_
      refine wSkip ?_
      refine pSeq ?_
      refine wSeq ?_
      refine wBlock ?_
      refine wSeq ?_
      refine rg (cp (oMv tm) (s1 rfl) <| cp (oAs tm) (s1 rfl) <| .nil) (by kernel_rfl) ?_
      refine pSeq ?_
      obtain ⟨o2, h, hk2⟩ := bd h
      refine wJ1 (fun x186 => x186 = o2) (fun x186 => [(1, .d ((kI .i64).sig a1)), (2, .d ((kI .i64).sig a2)), (3, .d (sP (kR f_api_Lattice) a0)), (7, .d ((kI .i64).sig v181)), (8, .d (kB.sig x186)), (12, .d ((kI .i64).sig (a0.Up.length : Int))), (13, .d ((kI .i64).sig v181))]) (fun x186 => []) ?_ ?_
      · obtain ⟨y187, hy187, h⟩ := bd h
        rcases ic h with ⟨hp188, h⟩ | ⟨hp188, h⟩
        · obtain ⟨y189, hy189, h⟩ := bd h
          refine rg (cp (oLd t42 tm) (s1 rfl) <| cp (oMv tm) (s1 rfl) <| cp (oMv tm) (s1 rfl) <| cp (oCall rfl (reticentref01_Flows.ok hy187) b34 (opds_cons tm (opds_cons tm (opds_cons tm opds_nil)))) (s3 rfl rfl rfl) <| cp (oMv tm) (s1 rfl) <| cgB hp188 rfl rfl (oLd t42 tm) (s1 rfl) <| cgB hp188 rfl rfl (oMv tm) (s1 rfl) <| cgB hp188 rfl rfl (oMv tm) (s1 rfl) <| cgB hp188 rfl rfl (oCall rfl (reticentref01_Flows.ok hy189) b34 (opds_cons tm (opds_cons tm (opds_cons tm opds_nil)))) (s3 rfl rfl rfl) <| cp (oPkT hp188 tm tm) (s2 rfl rfl) <| cp (oAs tm) (s1 rfl) <| .nil) (by kernel_rfl) ?_
          exact pJ1 _ (so h) ⟨rfl, rfl, rfl, rfl, rfl, rfl, rfl, trivial⟩ rfl
        · refine rg (cp (oLd t42 tm) (s1 rfl) <| cp (oMv tm) (s1 rfl) <| cp (oMv tm) (s1 rfl) <| cp (oCall rfl (reticentref01_Flows.ok hy187) b34 (opds_cons tm (opds_cons tm (opds_cons tm opds_nil)))) (s3 rfl rfl rfl) <| cp (oMv tm) (s1 rfl) <| csB (nb hp188) rfl rfl <| csB (nb hp188) rfl rfl <| csB (nb hp188) rfl rfl <| csB (nb hp188) rfl rfl <| cp (oPkF (nb hp188) tm cB) (s1 rfl) <| cp (oAs tm) (s1 rfl) <| .nil) (by kernel_rfl) ?_
          exact pJ1 _ (so h) ⟨rfl, rfl, rfl, rfl, rfl, rfl, rfl, trivial⟩ rfl
      · rintro x186 rfl
        replace h := hk2
        refine wSeq ?_
        refine wSeq ?_
        refine rg (cp (oFld (fs := f_api_Lattice) (k := 1) rfl o42_1 tm) (s1 rfl) <| cp (oLd t40 tm) (s1 rfl) <| cp (oLenL u40 tm) (s1 rfl) <| cp (oMv (cI (by decide))) trivial <| .nil) (by kernel_rfl) ?_
        refine pSeq ?_
        obtain ⟨o2, h, hk2⟩ := bd h
        refine wK1 (fun x244 => x244 = o2) (fun x244 => [(1, .d ((kI .i64).sig a1)), (2, .d ((kI .i64).sig a2)), (3, .d (sP (kR f_api_Lattice) a0)), (7, .d ((kI .i64).sig v181)), (8, .d (kB.sig x244)), (12, .d ((kI .i64).sig (a0.Up.length : Int))), (13, .d ((kI .i64).sig v181))]) (fun x244 => []) ?_ ?_
        · refine wBlock (wLoop ?_)
          refine lW (pc2 o2 (fun v242 v243 => [(1, .d ((kI .i64).sig a1)), (2, .d ((kI .i64).sig a2)), (3, .d (sP (kR f_api_Lattice) a0)), (7, .d ((kI .i64).sig v181)), (8, .d (kB.sig v243)), (12, .d ((kI .i64).sig (a0.Up.length : Int))), (13, .d ((kI .i64).sig v181)), (28, .d ((kI .i64).sig (a0.Up.length : Int))), (29, .d ((kI .i64).sig v242))]) (fun v242 v243 => []) (reticentref01_Meet.l3.partial_correctness a0 a1 a2 v181) ?_ _ _ h) ⟨rfl, rfl, rfl, rfl, rfl, rfl, rfl, rfl, rfl, trivial⟩ rfl
          clear h
          intro f' ih v242 v243 h
          refine wSeq ?_
          refine rg (cp (oLt rfl tm tm) (s2 rfl rfl) <| .nil) (by kernel_rfl) ?_
          refine pSeq ?_
          refine wSeq ?_
          rcases ic h with ⟨hp245, h⟩ | ⟨hp245, h⟩
          · refine wCT hp245 tm (s1 rfl) ?_
            refine wSkip ?_
            refine pSeq ?_
            obtain ⟨o3, h, hk3⟩ := bd h
            refine wJ1 (fun x258 => x258 = o3) (fun x258 => [(1, .d ((kI .i64).sig a1)), (2, .d ((kI .i64).sig a2)), (3, .d (sP (kR f_api_Lattice) a0)), (7, .d ((kI .i64).sig v181)), (8, .d (kB.sig x258)), (12, .d ((kI .i64).sig (a0.Up.length : Int))), (13, .d ((kI .i64).sig v181)), (28, .d ((kI .i64).sig (a0.Up.length : Int))), (29, .d ((kI .i64).sig v242))]) (fun x258 => []) ?_ ?_
            · refine wBlock ?_
              refine wSeq ?_
              refine rg (cp (oMv tm) (s1 rfl) <| cp (oAs tm) (s1 rfl) <| .nil) (by kernel_rfl) ?_
              refine pSeq ?_
              obtain ⟨o4, h, hk4⟩ := bd h
              refine wJ1 (fun x264 => x264 = o4) (fun x264 => [(1, .d ((kI .i64).sig a1)), (2, .d ((kI .i64).sig a2)), (3, .d (sP (kR f_api_Lattice) a0)), (7, .d ((kI .i64).sig v181)), (8, .d (kB.sig v243)), (12, .d ((kI .i64).sig (a0.Up.length : Int))), (13, .d ((kI .i64).sig v181)), (28, .d ((kI .i64).sig (a0.Up.length : Int))), (29, .d ((kI .i64).sig v242)), (48, .d (kB.sig x264))]) (fun x264 => []) ?_ ?_
              · obtain ⟨y265, hy265, h⟩ := bd h
                rcases ic h with ⟨hp266, h⟩ | ⟨hp266, h⟩
                · obtain ⟨y267, hy267, h⟩ := bd h
                  rcases ic h with ⟨hp268, h⟩ | ⟨hp268, h⟩
                  · obtain ⟨y269, hy269, h⟩ := bd h
                    refine rg (cp (oLd t42 tm) (s1 rfl) <| cp (oMv tm) (s1 rfl) <| cp (oMv tm) (s1 rfl) <| cp (oCall rfl (reticentref01_Flows.ok hy265) b34 (opds_cons tm (opds_cons tm (opds_cons tm opds_nil)))) (s3 rfl rfl rfl) <| cp (oMv tm) (s1 rfl) <| cgB hp266 rfl rfl (oLd t42 tm) (s1 rfl) <| cgB hp266 rfl rfl (oMv tm) (s1 rfl) <| cgB hp266 rfl rfl (oMv tm) (s1 rfl) <| cgB hp266 rfl rfl (oCall rfl (reticentref01_Flows.ok hy267) b34 (opds_cons tm (opds_cons tm (opds_cons tm opds_nil)))) (s3 rfl rfl rfl) <| cp (oPkT hp266 tm tm) (s2 rfl rfl) <| cp (oMv tm) (s1 rfl) <| cgB hp268 rfl rfl (oLd t42 tm) (s1 rfl) <| cgB hp268 rfl rfl (oMv tm) (s1 rfl) <| cgB hp268 rfl rfl (oMv tm) (s1 rfl) <| cgB hp268 rfl rfl (oCall rfl (reticentref01_Flows.ok hy269) b34 (opds_cons tm (opds_cons tm (opds_cons tm opds_nil)))) (s3 rfl rfl rfl) <| cgB hp268 rfl rfl (oNot tm) (s1 rfl) <| cp (oPkT hp268 tm tm) (s2 rfl rfl) <| .nil) (by kernel_rfl) ?_
                    exact pJ1 _ (so h) ⟨rfl, rfl, rfl, rfl, rfl, rfl, rfl, rfl, rfl, rfl, trivial⟩ rfl
                  · refine rg (cp (oLd t42 tm) (s1 rfl) <| cp (oMv tm) (s1 rfl) <| cp (oMv tm) (s1 rfl) <| cp (oCall rfl (reticentref01_Flows.ok hy265) b34 (opds_cons tm (opds_cons tm (opds_cons tm opds_nil)))) (s3 rfl rfl rfl) <| cp (oMv tm) (s1 rfl) <| cgB hp266 rfl rfl (oLd t42 tm) (s1 rfl) <| cgB hp266 rfl rfl (oMv tm) (s1 rfl) <| cgB hp266 rfl rfl (oMv tm) (s1 rfl) <| cgB hp266 rfl rfl (oCall rfl (reticentref01_Flows.ok hy267) b34 (opds_cons tm (opds_cons tm (opds_cons tm opds_nil)))) (s3 rfl rfl rfl) <| cp (oPkT hp266 tm tm) (s2 rfl rfl) <| cp (oMv tm) (s1 rfl) <| csB (nb hp268) rfl rfl <| csB (nb hp268) rfl rfl <| csB (nb hp268) rfl rfl <| csB (nb hp268) rfl rfl <| csB (nb hp268) rfl rfl <| cp (oPkF (nb hp268) tm cB) (s1 rfl) <| .nil) (by kernel_rfl) ?_
                    exact pJ1 _ (so h) ⟨rfl, rfl, rfl, rfl, rfl, rfl, rfl, rfl, rfl, rfl, trivial⟩ rfl
                · refine rg (cp (oLd t42 tm) (s1 rfl) <| cp (oMv tm) (s1 rfl) <| cp (oMv tm) (s1 rfl) <| cp (oCall rfl (reticentref01_Flows.ok hy265) b34 (opds_cons tm (opds_cons tm (opds_cons tm opds_nil)))) (s3 rfl rfl rfl) <| cp (oMv tm) (s1 rfl) <| csB (nb hp266) rfl rfl <| csB (nb hp266) rfl rfl <| csB (nb hp266) rfl rfl <| csB (nb hp266) rfl rfl <| cp (oPkF (nb hp266) tm cB) (s1 rfl) <| cp (oMv tm) (s1 rfl) <| csB rfl rfl rfl <| csB rfl rfl rfl <| csB rfl rfl rfl <| csB rfl rfl rfl <| csB rfl rfl rfl <| cp (oPkF rfl tm cB) (s1 rfl) <| .nil) (by kernel_rfl) ?_
                  exact pJ1 _ (so h) ⟨rfl, rfl, rfl, rfl, rfl, rfl, rfl, rfl, rfl, rfl, trivial⟩ rfl
              · rintro x264 rfl
                replace h := hk4
                rcases ic h with ⟨hp270, h⟩ | ⟨hp270, h⟩
                · refine wBT hp270 tm (s1 rfl) ?_
                  refine rg (cp (oAs cB) trivial <| .nil) (by kernel_rfl) ?_
                  refine pBlkN ?_
                  exact pJ1 _ (so h) ⟨rfl, rfl, rfl, rfl, rfl, rfl, rfl, rfl, rfl, trivial⟩ rfl
                · refine wBF hp270 tm (s1 rfl) ?_
                  refine wSkip ?_
                  refine pBlkN ?_
                  exact pJ1 _ (so h) ⟨rfl, rfl, rfl, rfl, rfl, rfl, rfl, rfl, rfl, trivial⟩ rfl
            · rintro x258 rfl
              replace h := hk3
              refine rg (cp (oAdd tm (cI (by decide))) (s1 rfl) <| cp (oMv tm) (s1 rfl) <| .nil) (by kernel_rfl) ?_
              exact pLoop (lW (ih _ _ h) ⟨rfl, rfl, rfl, rfl, rfl, rfl, rfl, rfl, rfl, trivial⟩ rfl)
          · refine wCF hp245 tm (s1 rfl) ?_
            refine wExit ?_
            refine pThenX ?_
            refine pThenX ?_
            refine pBlkX ?_
            exact pJ1 _ (so h) ⟨rfl, rfl, rfl, rfl, rfl, rfl, rfl, trivial⟩ rfl
        · rintro x244 rfl
          replace h := hk2
          refine pSeq ?_
          refine wSeq ?_
          refine rg (cp (oMv tm) (s1 rfl) <| .nil) (by kernel_rfl) ?_
          refine pSeq ?_
          rcases ic h with ⟨hp271, h⟩ | ⟨hp271, h⟩
          · refine wBT hp271 tm (s1 rfl) ?_
            refine wSeq ?_
            refine rg (cp (oMv tm) (s1 rfl) <| cp (oAs tm) (s1 rfl) <| .nil) (by kernel_rfl) ?_
            refine pSeq ?_
            refine wRet ?_
            refine pBlkR ?_
            refine pThenR ?_
            refine pThenR ?_
            refine pBlkR ?_
            refine pThenR ?_
            obtain rfl := so h
            replace h := hk1
            refine pThenR ?_
            obtain rfl := so h
            exact pR1 (.inl rfl) rfl (.tmp rfl <| .nil)
          · refine wBF hp271 tm (s1 rfl) ?_
            refine wSkip ?_
            refine pBlkN ?_
            refine pSeq ?_
            refine rg (cp (oAdd tm (cI (by decide))) (s1 rfl) <| cp (oMv tm) (s1 rfl) <| .nil) (by kernel_rfl) ?_
            exact pLoop (lW (ih _ h) ⟨rfl, rfl, rfl, rfl, rfl, trivial⟩ rfl)
    · refine wCF hp182 tm (s1 rfl) ?_
      refine wExit ?_
      refine pThenX ?_
      refine pThenX ?_
      refine pBlkX ?_
      exact pJ0 (so h) trivial rfl
  · rintro rfl
    replace h := hk1
    refine pSeq ?_
    refine wSeq ?_
    refine rg (cp (oAs (cI (by decide))) trivial <| .nil) (by kernel_rfl) ?_
    refine pSeq ?_
    refine wRet ?_
    obtain rfl := so h
    exact pR1 (.inl rfl) rfl (.tmp rfl <| .nil)

theorem reticentref01_Check.ok {a0 : api_Lattice} {r : Int} (h : reticentref01_Check.f a0 = some r) : FnA Try.prog 30 [(kR f_api_Lattice).sig a0] ((kI .i64).sig r) := by
  refine fnIntro Try.func30 rfl (by kernel_rfl) fun H0 w0 => ?_
  unfold reticentref01_Check.f at h
  refine wSeq ?_
  refine rg (cp (oBox tm) (s1 rfl) <| cp (oAs (cI (by decide))) trivial <| .nil) (by kernel_rfl) ?_
  refine pSeq ?_
  refine wSeq ?_
  refine wSeq ?_
  obtain ⟨y1, hy1, h⟩ := bd h
  refine rg (cp (oLd t42 tm) (s1 rfl) <| cp (oCall rfl (reticentref01_may.ok hy1) b74 (opds_cons tm opds_nil)) (s1 rfl) <| cp (oNot tm) (s1 rfl) <| .nil) (by kernel_rfl) ?_
  refine pSeq ?_
  rcases ic h with ⟨hp2, h⟩ | ⟨hp2, h⟩
  · refine wBT hp2 tm (s1 rfl) ?_
    refine wSeq ?_
    refine rg (cp (oAs (cI (by decide))) trivial <| .nil) (by kernel_rfl) ?_
    refine pSeq ?_
    refine wRet ?_
    refine pThenR ?_
    obtain rfl := so h
    exact pR1 (.inl rfl) rfl (.tmp rfl <| .nil)
  · refine wBF hp2 tm (s1 rfl) ?_
    refine wSkip ?_
    refine pSeq ?_
    refine wSeq ?_
    refine wSeq ?_
    obtain ⟨y3, hy3, h⟩ := bd h
    refine rg (cp (oLd t42 tm) (s1 rfl) <| cp (oCall rfl (reticentref01_order.ok hy3) b75 (opds_cons tm opds_nil)) (s1 rfl) <| cp (oNot tm) (s1 rfl) <| .nil) (by kernel_rfl) ?_
    refine pSeq ?_
    rcases ic h with ⟨hp4, h⟩ | ⟨hp4, h⟩
    · refine wBT hp4 tm (s1 rfl) ?_
      refine wSeq ?_
      refine rg (cp (oAs (cI (by decide))) trivial <| .nil) (by kernel_rfl) ?_
      refine pSeq ?_
      refine wRet ?_
      refine pThenR ?_
      obtain rfl := so h
      exact pR1 (.inl rfl) rfl (.tmp rfl <| .nil)
    · refine wBF hp4 tm (s1 rfl) ?_
      refine wSkip ?_
      refine pSeq ?_
      refine wSeq ?_
      refine wSeq ?_
      refine rg (cp (oFld (fs := f_api_Lattice) (k := 1) rfl o42_1 tm) (s1 rfl) <| cp (oLd t40 tm) (s1 rfl) <| cp (oLenL u40 tm) (s1 rfl) <| cp (oMv (cI (by decide))) trivial <| .nil) (by kernel_rfl) ?_
      refine pSeq ?_
      obtain ⟨o1, h, hk1⟩ := bd h
      refine wK0 (.inr () = o1) ([]) ([]) ?_ ?_
      · refine wBlock (wLoop ?_)
        refine lW (pc1 o1 (fun v63 => [(1, .d (sP (kR f_api_Lattice) a0)), (13, .d ((kI .i64).sig (a0.Up.length : Int))), (14, .d ((kI .i64).sig v63))]) (fun v63 => []) (reticentref01_Check.l2.partial_correctness a0) ?_ _ h) ⟨rfl, rfl, rfl, trivial⟩ rfl
        clear h
        intro f' ih v63 h
        refine wSeq ?_
        refine rg (cp (oLt rfl tm tm) (s2 rfl rfl) <| .nil) (by kernel_rfl) ?_
        refine pSeq ?_
        refine wSeq ?_
        rcases ic h with ⟨hp64, h⟩ | ⟨hp64, h⟩
        · refine wCT hp64 tm (s1 rfl) ?_
          refine wSkip ?_
          refine pSeq ?_
          refine wSeq ?_
          refine wBlock ?_
          refine wSeq ?_
          refine rg (cp (oMv tm) (s1 rfl) <| cp (oAs tm) (s1 rfl) <| .nil) (by kernel_rfl) ?_
          refine pSeq ?_
          refine wSeq ?_
          refine rg (cp (oFld (fs := f_api_Lattice) (k := 1) rfl o42_1 tm) (s1 rfl) <| cp (oLd t40 tm) (s1 rfl) <| cp (oLenL u40 tm) (s1 rfl) <| cp (oMv (cI (by decide))) trivial <| .nil) (by kernel_rfl) ?_
          refine pSeq ?_
          obtain ⟨o2, h, hk2⟩ := bd h
          refine wK0 (.inr () = o2) ([(1, .d (sP (kR f_api_Lattice) a0)), (13, .d ((kI .i64).sig (a0.Up.length : Int))), (14, .d ((kI .i64).sig v63))]) ([]) ?_ ?_
          · refine wBlock (wLoop ?_)
            refine lW (pc1 o2 (fun v83 => [(1, .d (sP (kR f_api_Lattice) a0)), (3, .d ((kI .i64).sig v63)), (13, .d ((kI .i64).sig (a0.Up.length : Int))), (14, .d ((kI .i64).sig v63)), (19, .d ((kI .i64).sig (a0.Up.length : Int))), (20, .d ((kI .i64).sig v83))]) (fun v83 => []) (reticentref01_Check.l3.partial_correctness a0 v63) ?_ _ h) ⟨rfl, rfl, rfl, rfl, rfl, rfl, trivial⟩ rfl
            clear h
            intro f' ih v83 h
            refine wSeq ?_
            refine rg (cp (oLt rfl tm tm) (s2 rfl rfl) <| .nil) (by kernel_rfl) ?_
            refine pSeq ?_
            refine wSeq ?_
            rcases ic h with ⟨hp84, h⟩ | ⟨hp84, h⟩
            · refine wCT hp84 tm (s1 rfl) ?_
              refine wSkip ?_
              refine pSeq ?_
              refine wSeq ?_
              refine wBlock ?_
              refine wSeq ?_
              refine rg (cp (oMv tm) (s1 rfl) <| cp (oAs tm) (s1 rfl) <| .nil) (by kernel_rfl) ?_
              refine pSeq ?_
              obtain ⟨o3, h, hk3⟩ := bd h
              refine wJ1 (fun x88 => x88 = o3) (fun x88 => [(1, .d (sP (kR f_api_Lattice) a0)), (3, .d ((kI .i64).sig v63)), (13, .d ((kI .i64).sig (a0.Up.length : Int))), (14, .d ((kI .i64).sig v63)), (19, .d ((kI .i64).sig (a0.Up.length : Int))), (20, .d ((kI .i64).sig v83)), (34, .d (kB.sig x88))]) (fun x88 => []) ?_ ?_
              · obtain ⟨y89, hy89, h⟩ := bd h
                rcases ic h with ⟨hp90, h⟩ | ⟨hp90, h⟩
                · refine rg (cp (oLd t42 tm) (s1 rfl) <| cp (oMv tm) (s1 rfl) <| cp (oMv tm) (s1 rfl) <| cp (oCall rfl (reticentref01_Join.ok hy89) b35 (opds_cons tm (opds_cons tm (opds_cons tm opds_nil)))) (s3 rfl rfl rfl) <| cp (oLt rfl tm (cI (by decide))) (s1 rfl) <| cp (oMv tm) (s1 rfl) <| csB (decide_eq_true hp90) rfl rfl <| csB (decide_eq_true hp90) rfl rfl <| csB (decide_eq_true hp90) rfl rfl <| csB (decide_eq_true hp90) rfl rfl <| csB (decide_eq_true hp90) rfl rfl <| cp (oPkT (decide_eq_true hp90) tm cB) (s1 rfl) <| .nil) (by kernel_rfl) ?_
                  exact pJ1 _ (so h) ⟨rfl, rfl, rfl, rfl, rfl, rfl, rfl, trivial⟩ rfl
                · obtain ⟨y91, hy91, h⟩ := bd h
                  refine rg (cp (oLd t42 tm) (s1 rfl) <| cp (oMv tm) (s1 rfl) <| cp (oMv tm) (s1 rfl) <| cp (oCall rfl (reticentref01_Join.ok hy89) b35 (opds_cons tm (opds_cons tm (opds_cons tm opds_nil)))) (s3 rfl rfl rfl) <| cp (oLt rfl tm (cI (by decide))) (s1 rfl) <| cp (oMv tm) (s1 rfl) <| cgB (decide_eq_false hp90) rfl rfl (oLd t42 tm) (s1 rfl) <| cgB (decide_eq_false hp90) rfl rfl (oMv tm) (s1 rfl) <| cgB (decide_eq_false hp90) rfl rfl (oMv tm) (s1 rfl) <| cgB (decide_eq_false hp90) rfl rfl (oCall rfl (reticentref01_Meet.ok hy91) b36 (opds_cons tm (opds_cons tm (opds_cons tm opds_nil)))) (s3 rfl rfl rfl) <| cgB (decide_eq_false hp90) rfl rfl (oLt rfl tm (cI (by decide))) (s1 rfl) <| cp (oPkF (decide_eq_false hp90) tm tm) (s2 rfl rfl) <| .nil) (by kernel_rfl) ?_
                  exact pJ1 _ (so h) ⟨rfl, rfl, rfl, rfl, rfl, rfl, rfl, trivial⟩ rfl
              · rintro x88 rfl
                replace h := hk3
                rcases ic h with ⟨hp92, h⟩ | ⟨hp92, h⟩
                · refine wBT hp92 tm (s1 rfl) ?_
                  refine wSeq ?_
                  refine rg (cp (oAs (cI (by decide))) trivial <| .nil) (by kernel_rfl) ?_
                  refine pSeq ?_
                  refine wRet ?_
                  refine pBlkR ?_
                  refine pThenR ?_
                  refine pThenR ?_
                  refine pBlkR ?_
                  refine pThenR ?_
                  obtain rfl := so h
                  replace h := hk2
                  refine pBlkR ?_
                  refine pThenR ?_
                  refine pThenR ?_
                  refine pBlkR ?_
                  refine pThenR ?_
                  obtain rfl := so h
                  replace h := hk1
                  refine pThenR ?_
                  obtain rfl := so h
                  exact pR1 (.inl rfl) rfl (.tmp rfl <| .nil)
                · refine wBF hp92 tm (s1 rfl) ?_
                  refine wSkip ?_
                  refine pBlkN ?_
                  refine pSeq ?_
                  refine rg (cp (oAdd tm (cI (by decide))) (s1 rfl) <| cp (oMv tm) (s1 rfl) <| .nil) (by kernel_rfl) ?_
                  exact pLoop (lW (ih _ h) ⟨rfl, rfl, rfl, rfl, rfl, rfl, trivial⟩ rfl)
            · refine wCF hp84 tm (s1 rfl) ?_
              refine wExit ?_
              refine pThenX ?_
              refine pThenX ?_
              refine pBlkX ?_
              exact pJ0 (so h) ⟨rfl, rfl, rfl, trivial⟩ rfl
          · rintro rfl
            replace h := hk2
            refine pBlkN ?_
            refine pSeq ?_
            refine rg (cp (oAdd tm (cI (by decide))) (s1 rfl) <| cp (oMv tm) (s1 rfl) <| .nil) (by kernel_rfl) ?_
            exact pLoop (lW (ih _ h) ⟨rfl, rfl, rfl, trivial⟩ rfl)
        · refine wCF hp64 tm (s1 rfl) ?_
          refine wExit ?_
          refine pThenX ?_
          refine pThenX ?_
          refine pBlkX ?_
          exact pJ0 (so h) trivial rfl
      · rintro rfl
        replace h := hk1
        refine pSeq ?_
        refine wSeq ?_
        refine rg (cp (oAs (cI (by decide))) trivial <| .nil) (by kernel_rfl) ?_
        refine pSeq ?_
        refine wRet ?_
        obtain rfl := so h
        exact pR1 (.inl rfl) rfl (.tmp rfl <| .nil)

theorem reticentref04_two.ok {a0 : List Int} {a1 : Int} {r : Bool} (h : reticentref04_two.f a0 a1 = some r) : FnA Try.prog 63 [(kL (kI .i64)).sig a0, (kI .i64).sig a1] (kB.sig r) := by
  refine fnIntro Try.func63 rfl (by kernel_rfl) fun H0 w0 => ?_
  unfold reticentref04_two.f at h
  refine wSeq ?_
  refine rg (cp (oAs cB) trivial <| .nil) (by kernel_rfl) ?_
  refine pSeq ?_
  refine wSeq ?_
  refine rg (cp (oMv tm) (s1 rfl) <| cp (oLenL u22 tm) (s1 rfl) <| cp (oAs tm) (s1 rfl) <| .nil) (by kernel_rfl) ?_
  refine pSeq ?_
  obtain ⟨o1, h, hk1⟩ := bd h
  refine wJ1 (fun x5 => x5 = o1) (fun x5 => [(4, .d (kB.sig x5))]) (fun x5 => []) ?_ ?_
  · rcases ic h with ⟨hp6, h⟩ | ⟨hp6, h⟩
    · obtain ⟨y7, hy7, h⟩ := bd h
      rcases ic h with ⟨hp8, h⟩ | ⟨hp8, h⟩
      · obtain ⟨y9, hy9, h⟩ := bd h
        refine rg (cp (oMv tm) (s1 rfl) <| cp (oGe rfl tm (cI (by decide))) (s1 rfl) <| cp (oMv tm) (s1 rfl) <| cgB (decide_eq_true hp6) rfl rfl (oMv tm) (s1 rfl) <| cgB (decide_eq_true hp6) rfl rfl (oMv tm) (s1 rfl) <| cgB (decide_eq_true hp6) rfl rfl (oSub tm (cI (by decide))) (s1 rfl) <| cgB (decide_eq_true hp6) rfl rfl (oIdx u22 z3 hy7 tm tm) (s2 rfl rfl) <| cgB (decide_eq_true hp6) rfl rfl (oLd t3 tm) (s1 rfl) <| cgB (decide_eq_true hp6) rfl rfl (oMv tm) (s1 rfl) <| cgB (decide_eq_true hp6) rfl rfl (oEq rfl tm tm) (s2 rfl rfl) <| cp (oPkT (decide_eq_true hp6) tm tm) (s2 rfl rfl) <| cp (oMv tm) (s1 rfl) <| cgB (decide_eq_true hp8) rfl rfl (oMv tm) (s1 rfl) <| cgB (decide_eq_true hp8) rfl rfl (oMv tm) (s1 rfl) <| cgB (decide_eq_true hp8) rfl rfl (oSub tm (cI (by decide))) (s1 rfl) <| cgB (decide_eq_true hp8) rfl rfl (oIdx u22 z3 hy9 tm tm) (s2 rfl rfl) <| cgB (decide_eq_true hp8) rfl rfl (oLd t3 tm) (s1 rfl) <| cgB (decide_eq_true hp8) rfl rfl (oMv tm) (s1 rfl) <| cgB (decide_eq_true hp8) rfl rfl (oEq rfl tm tm) (s2 rfl rfl) <| cp (oPkT (decide_eq_true hp8) tm tm) (s2 rfl rfl) <| cp (oAs tm) (s1 rfl) <| .nil) (by kernel_rfl) ?_
        exact pJ1 _ (so h) ⟨rfl, trivial⟩ rfl
      · refine rg (cp (oMv tm) (s1 rfl) <| cp (oGe rfl tm (cI (by decide))) (s1 rfl) <| cp (oMv tm) (s1 rfl) <| cgB (decide_eq_true hp6) rfl rfl (oMv tm) (s1 rfl) <| cgB (decide_eq_true hp6) rfl rfl (oMv tm) (s1 rfl) <| cgB (decide_eq_true hp6) rfl rfl (oSub tm (cI (by decide))) (s1 rfl) <| cgB (decide_eq_true hp6) rfl rfl (oIdx u22 z3 hy7 tm tm) (s2 rfl rfl) <| cgB (decide_eq_true hp6) rfl rfl (oLd t3 tm) (s1 rfl) <| cgB (decide_eq_true hp6) rfl rfl (oMv tm) (s1 rfl) <| cgB (decide_eq_true hp6) rfl rfl (oEq rfl tm tm) (s2 rfl rfl) <| cp (oPkT (decide_eq_true hp6) tm tm) (s2 rfl rfl) <| cp (oMv tm) (s1 rfl) <| csB (decide_eq_false hp8) rfl rfl <| csB (decide_eq_false hp8) rfl rfl <| csB (decide_eq_false hp8) rfl rfl <| csB (decide_eq_false hp8) rfl rfl <| csB (decide_eq_false hp8) rfl rfl <| csB (decide_eq_false hp8) rfl rfl <| csB (decide_eq_false hp8) rfl rfl <| cp (oPkF (decide_eq_false hp8) tm cB) (s1 rfl) <| cp (oAs tm) (s1 rfl) <| .nil) (by kernel_rfl) ?_
        exact pJ1 _ (so h) ⟨rfl, trivial⟩ rfl
    · refine rg (cp (oMv tm) (s1 rfl) <| cp (oGe rfl tm (cI (by decide))) (s1 rfl) <| cp (oMv tm) (s1 rfl) <| csB (decide_eq_false hp6) rfl rfl <| csB (decide_eq_false hp6) rfl rfl <| csB (decide_eq_false hp6) rfl rfl <| csB (decide_eq_false hp6) rfl rfl <| csB (decide_eq_false hp6) rfl rfl <| csB (decide_eq_false hp6) rfl rfl <| csB (decide_eq_false hp6) rfl rfl <| cp (oPkF (decide_eq_false hp6) tm cB) (s1 rfl) <| cp (oMv tm) (s1 rfl) <| csB rfl rfl rfl <| csB rfl rfl rfl <| csB rfl rfl rfl <| csB rfl rfl rfl <| csB rfl rfl rfl <| csB rfl rfl rfl <| csB rfl rfl rfl <| cp (oPkF rfl tm cB) (s1 rfl) <| cp (oAs tm) (s1 rfl) <| .nil) (by kernel_rfl) ?_
      exact pJ1 _ (so h) ⟨rfl, trivial⟩ rfl
  · rintro x5 rfl
    replace h := hk1
    refine wRet ?_
    obtain rfl := so h
    exact pR1 (.inl rfl) rfl (.tmp rfl <| .nil)

theorem reticentref04_Made.ok {a0 : List Int} {r : Int} (h : reticentref04_Made.f a0 = some r) : FnA Try.prog 15 [(kL (kI .i64)).sig a0] ((kI .i64).sig r) := by
  refine fnIntro Try.func15 rfl (by kernel_rfl) fun H0 w0 => ?_
  unfold reticentref04_Made.f at h
  refine wSeq ?_
  refine rg (cp (oAs (cI (by decide))) trivial <| .nil) (by kernel_rfl) ?_
  refine pSeq ?_
  refine wSeq ?_
  refine rg (cw (oLitR (id := 7) (d := (kI .i64)) el22 (by decide) rfl rfl rfl e0) trivial <| cp (oAs tm) (s1 rfl) <| .nil) (by kernel_rfl) ?_
  refine pSeq ?_
  refine wSeq ?_
  refine wSeq ?_
  refine rg (cp (oMv tm) (s1 rfl) <| cp (oLenL u22 tm) (s1 rfl) <| cp (oMv (cI (by decide))) trivial <| .nil) (by kernel_rfl) ?_
  refine pSeq ?_
  refine wWeak (Γ' := [(0, .d ((kL (kI .i64)).sig a0)), (3, .v 7), (8, .d ((kL (kI .i64)).sig a0)), (9, .d ((kI .i64).sig (a0.length : Int))), (10, .d ((kI .i64).sig 0))]) ⟨rfl, rfl, rfl, rfl, rfl, trivial⟩ ?_
  refine wRen 7 1003 rfl ?_
  obtain ⟨o1, h, hk1⟩ := bd h
  refine wK1 (fun x171 => .inr x171 = o1) (fun x171 => [(0, .d ((kL (kI .i64)).sig a0)), (3, .v 1003)]) (fun x171 => [.row 1003 3 (kI .i64) x171]) ?_ ?_
  · refine wBlock (wLoop ?_)
    refine lW (pc2 o1 (fun v169 v170 => [(0, .d ((kL (kI .i64)).sig a0)), (3, .v 1003), (8, .d ((kL (kI .i64)).sig a0)), (9, .d ((kI .i64).sig (a0.length : Int))), (10, .d ((kI .i64).sig v170))]) (fun v169 v170 => [.row 1003 3 (kI .i64) v169]) (reticentref04_Made.l0.partial_correctness a0) ?_ _ _ h) ⟨rfl, rfl, rfl, rfl, rfl, trivial⟩ rfl
    clear h
    intro f' ih v169 v170 h
    refine wSeq ?_
    refine rg (cp (oLt rfl tm tm) (s2 rfl rfl) <| .nil) (by kernel_rfl) ?_
    refine pSeq ?_
    refine wSeq ?_
    rcases ic h with ⟨hp172, h⟩ | ⟨hp172, h⟩
    · refine wCT hp172 tm (s1 rfl) ?_
      refine wSkip ?_
      refine pSeq ?_
      obtain ⟨o2, h, hk2⟩ := bd h
      refine wJ1 (fun x214 => .inr x214 = o2) (fun x214 => [(0, .d ((kL (kI .i64)).sig a0)), (3, .v 1003), (8, .d ((kL (kI .i64)).sig a0)), (9, .d ((kI .i64).sig (a0.length : Int))), (10, .d ((kI .i64).sig v170))]) (fun x214 => [.row 1003 3 (kI .i64) x214]) ?_ ?_
      · refine wBlock ?_
        refine wSeq ?_
        obtain ⟨y215, hy215, h⟩ := bd h
        refine rg (cp (oIdx u22 z3 hy215 tm tm) (s2 rfl rfl) <| cp (oLd t3 tm) (s1 rfl) <| cp (oAs tm) (s1 rfl) <| .nil) (by kernel_rfl) ?_
        refine pSeq ?_
        refine wSeq ?_
        refine rg (cp (oMv tm) (s1 rfl) <| cr (oLenR (n := 0) u22 rfl tm) (s1 rfl) <| cp (oAs tm) (s1 rfl) <| .nil) (by kernel_rfl) ?_
        refine pSeq ?_
        obtain ⟨o3, h, hk3⟩ := bd h
        refine wJ1 (fun x217 => x217 = o3) (fun x217 => [(0, .d ((kL (kI .i64)).sig a0)), (3, .v 1003), (5, .d ((kI .i64).sig y215)), (6, .d ((kI .i64).sig (v169.length : Int))), (8, .d ((kL (kI .i64)).sig a0)), (9, .d ((kI .i64).sig (a0.length : Int))), (10, .d ((kI .i64).sig v170)), (21, .d (kB.sig x217))]) (fun x217 => [.row 1003 3 (kI .i64) v169]) ?_ ?_
        · rcases ic h with ⟨hp218, h⟩ | ⟨hp218, h⟩
          · refine rg (cp (oMv tm) (s1 rfl) <| cp (oEq rfl tm (cI (by decide))) (s1 rfl) <| cp (oMv tm) (s1 rfl) <| csB (decide_eq_true hp218) rfl rfl <| csB (decide_eq_true hp218) rfl rfl <| cp (oPkT (decide_eq_true hp218) tm cB) (s1 rfl) <| .nil) (by kernel_rfl) ?_
            exact pJ1 _ (so h) ⟨rfl, rfl, rfl, rfl, rfl, rfl, rfl, rfl, trivial⟩ rfl
          · refine rg (cp (oMv tm) (s1 rfl) <| cp (oEq rfl tm (cI (by decide))) (s1 rfl) <| cp (oMv tm) (s1 rfl) <| cgB (decide_eq_false hp218) rfl rfl (oMv tm) (s1 rfl) <| cgB (decide_eq_false hp218) rfl rfl (oEq rfl tm (cI (by decide))) (s1 rfl) <| cp (oPkF (decide_eq_false hp218) tm tm) (s2 rfl rfl) <| .nil) (by kernel_rfl) ?_
            exact pJ1 _ (so h) ⟨rfl, rfl, rfl, rfl, rfl, rfl, rfl, rfl, trivial⟩ rfl
        · rintro x217 rfl
          replace h := hk3
          rcases ic h with ⟨hp219, h⟩ | ⟨hp219, h⟩
          · refine wBT hp219 tm (s1 rfl) ?_
            obtain ⟨hc220, h⟩ := ib h
            refine rg (cp (oMv tm) (s1 rfl) <| cp (oLit (d := (kI .i64)) el22 (by decide) rfl rfl rfl (e1 (cI (by decide)) e0)) trivial <| cw (oApp (n := 0) (id' := 24) el22 (by decide) rfl (by decide) hc220 tm tm) (s2 rfl rfl) <| cp (oAs tm) (s1 rfl) <| .nil) (by kernel_rfl) ?_
            refine pBlkN ?_
            refine pSub (Γ' := [(0, .d ((kL (kI .i64)).sig a0)), (3, .v 24), (8, .d ((kL (kI .i64)).sig a0)), (9, .d ((kI .i64).sig (a0.length : Int))), (10, .d ((kI .i64).sig v170))]) ⟨rfl, rfl, rfl, rfl, rfl, trivial⟩ ?_
            refine pRen 24 1003 rfl ?_
            exact pJ1 _ (so h) ⟨rfl, rfl, rfl, rfl, rfl, trivial⟩ rfl
          · refine wBF hp219 tm (s1 rfl) ?_
            obtain ⟨o3, h, hk3⟩ := bd h
            refine wJ1 (fun x222 => x222 = o3) (fun x222 => [(0, .d ((kL (kI .i64)).sig a0)), (3, .v 1003), (5, .d ((kI .i64).sig y215)), (6, .d ((kI .i64).sig (v169.length : Int))), (8, .d ((kL (kI .i64)).sig a0)), (9, .d ((kI .i64).sig (a0.length : Int))), (10, .d ((kI .i64).sig v170)), (30, .d (kB.sig x222))]) (fun x222 => [.row 1003 3 (kI .i64) v169]) ?_ ?_
            · rcases ic h with ⟨hp223, h⟩ | ⟨hp223, h⟩
              · refine rg (cp (oMv tm) (s1 rfl) <| cp (oGe rfl tm (cI (by decide))) (s1 rfl) <| cp (oMv tm) (s1 rfl) <| cgB (decide_eq_true hp223) rfl rfl (oMv tm) (s1 rfl) <| cgB (decide_eq_true hp223) rfl rfl (oLe rfl tm (cI (by decide))) (s1 rfl) <| cp (oPkT (decide_eq_true hp223) tm tm) (s2 rfl rfl) <| .nil) (by kernel_rfl) ?_
                exact pJ1 _ (so h) ⟨rfl, rfl, rfl, rfl, rfl, rfl, rfl, rfl, trivial⟩ rfl
              · refine rg (cp (oMv tm) (s1 rfl) <| cp (oGe rfl tm (cI (by decide))) (s1 rfl) <| cp (oMv tm) (s1 rfl) <| csB (decide_eq_false hp223) rfl rfl <| csB (decide_eq_false hp223) rfl rfl <| cp (oPkF (decide_eq_false hp223) tm cB) (s1 rfl) <| .nil) (by kernel_rfl) ?_
                exact pJ1 _ (so h) ⟨rfl, rfl, rfl, rfl, rfl, rfl, rfl, rfl, trivial⟩ rfl
            · rintro x222 rfl
              replace h := hk3
              rcases ic h with ⟨hp224, h⟩ | ⟨hp224, h⟩
              · refine wBT hp224 tm (s1 rfl) ?_
                obtain ⟨hc225, h⟩ := ib h
                refine rg (cp (oMv tm) (s1 rfl) <| cp (oLit (d := (kI .i64)) el22 (by decide) rfl rfl rfl (e1 (cI (by decide)) e0)) trivial <| cw (oApp (n := 0) (id' := 33) el22 (by decide) rfl (by decide) hc225 tm tm) (s2 rfl rfl) <| cp (oAs tm) (s1 rfl) <| .nil) (by kernel_rfl) ?_
                refine pBlkN ?_
                refine pSub (Γ' := [(0, .d ((kL (kI .i64)).sig a0)), (3, .v 33), (8, .d ((kL (kI .i64)).sig a0)), (9, .d ((kI .i64).sig (a0.length : Int))), (10, .d ((kI .i64).sig v170))]) ⟨rfl, rfl, rfl, rfl, rfl, trivial⟩ ?_
                refine pRen 33 1003 rfl ?_
                exact pJ1 _ (so h) ⟨rfl, rfl, rfl, rfl, rfl, trivial⟩ rfl
              · refine wBF hp224 tm (s1 rfl) ?_
                obtain ⟨o3, h, hk3⟩ := bd h
                refine wJ1 (fun x230 => x230 = o3) (fun x230 => [(0, .d ((kL (kI .i64)).sig a0)), (3, .v 1003), (5, .d ((kI .i64).sig y215)), (6, .d ((kI .i64).sig (v169.length : Int))), (8, .d ((kL (kI .i64)).sig a0)), (9, .d ((kI .i64).sig (a0.length : Int))), (10, .d ((kI .i64).sig v170)), (43, .d (kB.sig x230))]) (fun x230 => [.row 1003 3 (kI .i64) v169]) ?_ ?_
                · rcases ic h with ⟨hp231, h⟩ | ⟨hp231, h⟩
                  · obtain ⟨y232, hy232, h⟩ := bd h
                    refine rg (cp (oMv tm) (s1 rfl) <| cp (oEq rfl tm (cI (by decide))) (s1 rfl) <| cp (oMv tm) (s1 rfl) <| csB (decide_eq_true hp231) rfl rfl <| csB (decide_eq_true hp231) rfl rfl <| cp (oPkT (decide_eq_true hp231) tm cB) (s1 rfl) <| cp (oMv tm) (s1 rfl) <| cgB rfl rfl rfl (oMv tm) (s1 rfl) <| crgB rfl rfl rfl (oCallB rfl (reticentref04_two.ok hy232) (fK fB) b63 (rc1 (rR (n := 0) rfl) (rc1 (rD (cI (by decide))) rn0))) (s1 rfl) <| cp (oPkT rfl tm tm) (s2 rfl rfl) <| .nil) (by kernel_rfl) ?_
                    exact pJ1 _ (so h) ⟨rfl, rfl, rfl, rfl, rfl, rfl, rfl, rfl, trivial⟩ rfl
                  · rcases ic h with ⟨hp233, h⟩ | ⟨hp233, h⟩
                    · obtain ⟨y234, hy234, h⟩ := bd h
                      refine rg (cp (oMv tm) (s1 rfl) <| cp (oEq rfl tm (cI (by decide))) (s1 rfl) <| cp (oMv tm) (s1 rfl) <| cgB (decide_eq_false hp231) rfl rfl (oMv tm) (s1 rfl) <| cgB (decide_eq_false hp231) rfl rfl (oEq rfl tm (cI (by decide))) (s1 rfl) <| cp (oPkF (decide_eq_false hp231) tm tm) (s2 rfl rfl) <| cp (oMv tm) (s1 rfl) <| cgB (decide_eq_true hp233) rfl rfl (oMv tm) (s1 rfl) <| crgB (decide_eq_true hp233) rfl rfl (oCallB rfl (reticentref04_two.ok hy234) (fK fB) b63 (rc1 (rR (n := 0) rfl) (rc1 (rD (cI (by decide))) rn0))) (s1 rfl) <| cp (oPkT (decide_eq_true hp233) tm tm) (s2 rfl rfl) <| .nil) (by kernel_rfl) ?_
                      exact pJ1 _ (so h) ⟨rfl, rfl, rfl, rfl, rfl, rfl, rfl, rfl, trivial⟩ rfl
                    · refine rg (cp (oMv tm) (s1 rfl) <| cp (oEq rfl tm (cI (by decide))) (s1 rfl) <| cp (oMv tm) (s1 rfl) <| cgB (decide_eq_false hp231) rfl rfl (oMv tm) (s1 rfl) <| cgB (decide_eq_false hp231) rfl rfl (oEq rfl tm (cI (by decide))) (s1 rfl) <| cp (oPkF (decide_eq_false hp231) tm tm) (s2 rfl rfl) <| cp (oMv tm) (s1 rfl) <| csB (decide_eq_false hp233) rfl rfl <| csB (decide_eq_false hp233) rfl rfl <| cp (oPkF (decide_eq_false hp233) tm cB) (s1 rfl) <| .nil) (by kernel_rfl) ?_
                      exact pJ1 _ (so h) ⟨rfl, rfl, rfl, rfl, rfl, rfl, rfl, rfl, trivial⟩ rfl
                · rintro x230 rfl
                  replace h := hk3
                  rcases ic h with ⟨hp235, h⟩ | ⟨hp235, h⟩
                  · refine wBT hp235 tm (s1 rfl) ?_
                    obtain ⟨hc236, h⟩ := ib h
                    refine rg (cp (oMv tm) (s1 rfl) <| cp (oMv tm) (s1 rfl) <| cp (oSub tm (cI (by decide))) (s1 rfl) <| cw (oCutR (n := 0) (id' := 47) u22 z3 rfl hc236.1 hc236.2 tm tm) (s2 rfl rfl) <| cp (oAs tm) (s1 rfl) <| .nil) (by kernel_rfl) ?_
                    refine pBlkN ?_
                    refine pSub (Γ' := [(0, .d ((kL (kI .i64)).sig a0)), (3, .v 47), (8, .d ((kL (kI .i64)).sig a0)), (9, .d ((kI .i64).sig (a0.length : Int))), (10, .d ((kI .i64).sig v170))]) ⟨rfl, rfl, rfl, rfl, rfl, trivial⟩ ?_
                    refine pRen 47 1003 rfl ?_
                    exact pJ1 _ (so h) ⟨rfl, rfl, rfl, rfl, rfl, trivial⟩ rfl
                  · refine wBF hp235 tm (s1 rfl) ?_
                    obtain ⟨o3, h, hk3⟩ := bd h
                    refine wJ1 (fun x239 => x239 = o3) (fun x239 => [(0, .d ((kL (kI .i64)).sig a0)), (3, .v 1003), (5, .d ((kI .i64).sig y215)), (6, .d ((kI .i64).sig (v169.length : Int))), (8, .d ((kL (kI .i64)).sig a0)), (9, .d ((kI .i64).sig (a0.length : Int))), (10, .d ((kI .i64).sig v170)), (53, .d (kB.sig x239))]) (fun x239 => [.row 1003 3 (kI .i64) v169]) ?_ ?_
                    · rcases ic h with ⟨hp240, h⟩ | ⟨hp240, h⟩
                      · obtain ⟨y241, hy241, h⟩ := bd h
                        refine rg (cp (oMv tm) (s1 rfl) <| cp (oEq rfl tm (cI (by decide))) (s1 rfl) <| cp (oMv tm) (s1 rfl) <| cgB (decide_eq_true hp240) rfl rfl (oMv tm) (s1 rfl) <| crgB (decide_eq_true hp240) rfl rfl (oCallB rfl (reticentref04_two.ok hy241) (fK fB) b63 (rc1 (rR (n := 0) rfl) (rc1 (rD (cI (by decide))) rn0))) (s1 rfl) <| cp (oPkT (decide_eq_true hp240) tm tm) (s2 rfl rfl) <| .nil) (by kernel_rfl) ?_
                        exact pJ1 _ (so h) ⟨rfl, rfl, rfl, rfl, rfl, rfl, rfl, rfl, trivial⟩ rfl
                      · refine rg (cp (oMv tm) (s1 rfl) <| cp (oEq rfl tm (cI (by decide))) (s1 rfl) <| cp (oMv tm) (s1 rfl) <| csB (decide_eq_false hp240) rfl rfl <| csB (decide_eq_false hp240) rfl rfl <| cp (oPkF (decide_eq_false hp240) tm cB) (s1 rfl) <| .nil) (by kernel_rfl) ?_
                        exact pJ1 _ (so h) ⟨rfl, rfl, rfl, rfl, rfl, rfl, rfl, rfl, trivial⟩ rfl
                    · rintro x239 rfl
                      replace h := hk3
                      rcases ic h with ⟨hp242, h⟩ | ⟨hp242, h⟩
                      · refine wBT hp242 tm (s1 rfl) ?_
                        refine wSeq ?_
                        obtain ⟨hc243, h⟩ := ib h
                        refine rg (cp (oMv tm) (s1 rfl) <| cp (oMv tm) (s1 rfl) <| cp (oSub tm (cI (by decide))) (s1 rfl) <| cw (oCutR (n := 0) (id' := 57) u22 z3 rfl hc243.1 hc243.2 tm tm) (s2 rfl rfl) <| cp (oAs tm) (s1 rfl) <| .nil) (by kernel_rfl) ?_
                        refine pSeq ?_
                        obtain ⟨hc244, h⟩ := ib h
                        refine rg (cp (oMv tm) (s1 rfl) <| cp (oLit (d := (kI .i64)) el22 (by decide) rfl rfl rfl (e1 (cI (by decide)) e0)) trivial <| cw (oApp (n := 0) (id' := 60) el22 (by decide) rfl (by decide) hc244 tm tm) (s2 rfl rfl) <| cp (oAs tm) (s1 rfl) <| .nil) (by kernel_rfl) ?_
                        refine pBlkN ?_
                        refine pSub (Γ' := [(0, .d ((kL (kI .i64)).sig a0)), (3, .v 60), (8, .d ((kL (kI .i64)).sig a0)), (9, .d ((kI .i64).sig (a0.length : Int))), (10, .d ((kI .i64).sig v170))]) ⟨rfl, rfl, rfl, rfl, rfl, trivial⟩ ?_
                        refine pRen 60 1003 rfl ?_
                        exact pJ1 _ (so h) ⟨rfl, rfl, rfl, rfl, rfl, trivial⟩ rfl
                      · refine wBF hp242 tm (s1 rfl) ?_
                        obtain ⟨o3, h, hk3⟩ := bd h
                        refine wJ1 (fun x249 => x249 = o3) (fun x249 => [(0, .d ((kL (kI .i64)).sig a0)), (3, .v 1003), (6, .d ((kI .i64).sig (v169.length : Int))), (8, .d ((kL (kI .i64)).sig a0)), (9, .d ((kI .i64).sig (a0.length : Int))), (10, .d ((kI .i64).sig v170)), (70, .d (kB.sig x249))]) (fun x249 => [.row 1003 3 (kI .i64) v169]) ?_ ?_
                        · rcases ic h with ⟨hp250, h⟩ | ⟨hp250, h⟩
                          · obtain ⟨y251, hy251, h⟩ := bd h
                            refine rg (cp (oMv tm) (s1 rfl) <| cp (oEq rfl tm (cI (by decide))) (s1 rfl) <| cp (oMv tm) (s1 rfl) <| csB (decide_eq_true hp250) rfl rfl <| csB (decide_eq_true hp250) rfl rfl <| cp (oPkT (decide_eq_true hp250) tm cB) (s1 rfl) <| cp (oMv tm) (s1 rfl) <| cgB rfl rfl rfl (oMv tm) (s1 rfl) <| crgB rfl rfl rfl (oCallB rfl (reticentref04_two.ok hy251) (fK fB) b63 (rc1 (rR (n := 0) rfl) (rc1 (rD (cI (by decide))) rn0))) (s1 rfl) <| cp (oPkT rfl tm tm) (s2 rfl rfl) <| .nil) (by kernel_rfl) ?_
                            exact pJ1 _ (so h) ⟨rfl, rfl, rfl, rfl, rfl, rfl, rfl, trivial⟩ rfl
                          · rcases ic h with ⟨hp252, h⟩ | ⟨hp252, h⟩
                            · obtain ⟨y253, hy253, h⟩ := bd h
                              refine rg (cp (oMv tm) (s1 rfl) <| cp (oEq rfl tm (cI (by decide))) (s1 rfl) <| cp (oMv tm) (s1 rfl) <| cgB (decide_eq_false hp250) rfl rfl (oMv tm) (s1 rfl) <| cgB (decide_eq_false hp250) rfl rfl (oEq rfl tm (cI (by decide))) (s1 rfl) <| cp (oPkF (decide_eq_false hp250) tm tm) (s2 rfl rfl) <| cp (oMv tm) (s1 rfl) <| cgB (decide_eq_true hp252) rfl rfl (oMv tm) (s1 rfl) <| crgB (decide_eq_true hp252) rfl rfl (oCallB rfl (reticentref04_two.ok hy253) (fK fB) b63 (rc1 (rR (n := 0) rfl) (rc1 (rD (cI (by decide))) rn0))) (s1 rfl) <| cp (oPkT (decide_eq_true hp252) tm tm) (s2 rfl rfl) <| .nil) (by kernel_rfl) ?_
                              exact pJ1 _ (so h) ⟨rfl, rfl, rfl, rfl, rfl, rfl, rfl, trivial⟩ rfl
                            · refine rg (cp (oMv tm) (s1 rfl) <| cp (oEq rfl tm (cI (by decide))) (s1 rfl) <| cp (oMv tm) (s1 rfl) <| cgB (decide_eq_false hp250) rfl rfl (oMv tm) (s1 rfl) <| cgB (decide_eq_false hp250) rfl rfl (oEq rfl tm (cI (by decide))) (s1 rfl) <| cp (oPkF (decide_eq_false hp250) tm tm) (s2 rfl rfl) <| cp (oMv tm) (s1 rfl) <| csB (decide_eq_false hp252) rfl rfl <| csB (decide_eq_false hp252) rfl rfl <| cp (oPkF (decide_eq_false hp252) tm cB) (s1 rfl) <| .nil) (by kernel_rfl) ?_
                              exact pJ1 _ (so h) ⟨rfl, rfl, rfl, rfl, rfl, rfl, rfl, trivial⟩ rfl
                        · rintro x249 rfl
                          replace h := hk3
                          rcases ic h with ⟨hp254, h⟩ | ⟨hp254, h⟩
                          · refine wBT hp254 tm (s1 rfl) ?_
                            obtain ⟨hc255, h⟩ := ib h
                            refine rg (cp (oMv tm) (s1 rfl) <| cp (oMv tm) (s1 rfl) <| cp (oSub tm (cI (by decide))) (s1 rfl) <| cw (oCutR (n := 0) (id' := 74) u22 z3 rfl hc255.1 hc255.2 tm tm) (s2 rfl rfl) <| cp (oAs tm) (s1 rfl) <| .nil) (by kernel_rfl) ?_
                            refine pBlkN ?_
                            refine pSub (Γ' := [(0, .d ((kL (kI .i64)).sig a0)), (3, .v 74), (8, .d ((kL (kI .i64)).sig a0)), (9, .d ((kI .i64).sig (a0.length : Int))), (10, .d ((kI .i64).sig v170))]) ⟨rfl, rfl, rfl, rfl, rfl, trivial⟩ ?_
                            refine pRen 74 1003 rfl ?_
                            exact pJ1 _ (so h) ⟨rfl, rfl, rfl, rfl, rfl, trivial⟩ rfl
                          · refine wBF hp254 tm (s1 rfl) ?_
                            refine wSeq ?_
                            refine rg (cp (oAs (cI (by decide))) trivial <| .nil) (by kernel_rfl) ?_
                            refine pSeq ?_
                            refine wRet ?_
                            refine pBlkR ?_
                            refine pThenR ?_
                            obtain rfl := so h
                            replace h := hk2
                            refine pThenR ?_
                            refine pBlkR ?_
                            refine pThenR ?_
                            obtain rfl := so h
                            replace h := hk1
                            refine pThenR ?_
                            obtain rfl := so h
                            exact pR1 (.inl rfl) rfl (.tmp rfl <| .nil)
      · rintro x214 rfl
        replace h := hk2
        refine rg (cp (oAdd tm (cI (by decide))) (s1 rfl) <| cp (oMv tm) (s1 rfl) <| .nil) (by kernel_rfl) ?_
        exact pLoop (lW (ih _ _ h) ⟨rfl, rfl, rfl, rfl, rfl, trivial⟩ rfl)
    · refine wCF hp172 tm (s1 rfl) ?_
      refine wExit ?_
      refine pThenX ?_
      refine pThenX ?_
      refine pBlkX ?_
      exact pJ1 _ (so h) ⟨rfl, rfl, trivial⟩ rfl
  · rintro x171 rfl
    replace h := hk1
    refine pSeq ?_
    refine wSeq ?_
    obtain ⟨o1, h, hk1⟩ := bd h
    refine wJ1 (fun x257 => x257 = o1) (fun x257 => [(3, .v 1003), (83, .d (kB.sig x257))]) (fun x257 => [.row 1003 3 (kI .i64) x171]) ?_ ?_
    · rcases ic h with ⟨hp258, h⟩ | ⟨hp258, h⟩
      · refine rg (cp (oMv tm) (s1 rfl) <| cr (oLenR (n := 0) u22 rfl tm) (s1 rfl) <| cp (oNe rfl tm (cI (by decide))) (s1 rfl) <| cp (oMv tm) (s1 rfl) <| cgB (nf hp258) rfl rfl (oMv tm) (s1 rfl) <| cgB (nf hp258) rfl rfl (oLenL u22 tm) (s1 rfl) <| cgB (nf hp258) rfl rfl (oGt rfl tm (cI (by decide))) (s1 rfl) <| cp (oPkF (nf hp258) tm tm) (s2 rfl rfl) <| .nil) (by kernel_rfl) ?_
        exact pJ1 _ (so h) ⟨rfl, rfl, trivial⟩ rfl
      · refine rg (cp (oMv tm) (s1 rfl) <| cr (oLenR (n := 0) u22 rfl tm) (s1 rfl) <| cp (oNe rfl tm (cI (by decide))) (s1 rfl) <| cp (oMv tm) (s1 rfl) <| csB (nt hp258) rfl rfl <| csB (nt hp258) rfl rfl <| csB (nt hp258) rfl rfl <| cp (oPkT (nt hp258) tm cB) (s1 rfl) <| .nil) (by kernel_rfl) ?_
        exact pJ1 _ (so h) ⟨rfl, rfl, trivial⟩ rfl
    · rintro x257 rfl
      replace h := hk1
      rcases ic h with ⟨hp259, h⟩ | ⟨hp259, h⟩
      · refine wBT hp259 tm (s1 rfl) ?_
        refine wSeq ?_
        refine rg (cp (oAs (cI (by decide))) trivial <| .nil) (by kernel_rfl) ?_
        refine pSeq ?_
        refine wRet ?_
        refine pThenR ?_
        obtain rfl := so h
        exact pR1 (.inl rfl) rfl (.tmp rfl <| .nil)
      · refine wBF hp259 tm (s1 rfl) ?_
        refine wSkip ?_
        refine pSeq ?_
        refine wSeq ?_
        obtain ⟨y260, hy260, h⟩ := bd h
        refine rg (cp (oMv tm) (s1 rfl) <| cr (oIdxR (n := 0) u22 z3 rfl hy260 tm (cI (by decide))) (s1 rfl) <| cr (oLdE (n := 0) rfl hy260 rfl t3 tm) (s1 rfl) <| cp (oAs tm) (s1 rfl) <| .nil) (by kernel_rfl) ?_
        refine pSeq ?_
        refine wRet ?_
        obtain rfl := so h
        exact pR1 (.inl rfl) rfl (.tmp rfl <| .nil)

theorem reticentref04_Right.ok {a0 : List Int} {a1 : Bool} {r : Bool} (h : reticentref04_Right.f a0 a1 = some r) : FnA Try.prog 49 [(kL (kI .i64)).sig a0, kB.sig a1] (kB.sig r) := by
  refine fnIntro Try.func49 rfl (by kernel_rfl) fun H0 w0 => ?_
  unfold reticentref04_Right.f at h
  refine wSeq ?_
  refine rg (cp (oAs cB) trivial <| .nil) (by kernel_rfl) ?_
  refine pSeq ?_
  refine wSeq ?_
  refine wSeq ?_
  refine rg (cp (oMv tm) (s1 rfl) <| .nil) (by kernel_rfl) ?_
  refine pSeq ?_
  rcases ic h with ⟨hp1, h⟩ | ⟨hp1, h⟩
  · refine wBT hp1 tm (s1 rfl) ?_
    refine wSeq ?_
    obtain ⟨y2, hy2, h⟩ := bd h
    refine rg (cp (oMv tm) (s1 rfl) <| cp (oCall rfl (reticentref04_Made.ok hy2) b15 (opds_cons tm opds_nil)) (s1 rfl) <| cp (oEq rfl tm (cI (by decide))) (s1 rfl) <| cp (oAs tm) (s1 rfl) <| .nil) (by kernel_rfl) ?_
    refine pSeq ?_
    refine wRet ?_
    refine pThenR ?_
    obtain rfl := so h
    exact pR1 (.inl rfl) rfl (.tmp rfl <| .nil)
  · refine wBF hp1 tm (s1 rfl) ?_
    refine wSkip ?_
    refine pSeq ?_
    refine wSeq ?_
    obtain ⟨y3, hy3, h⟩ := bd h
    refine rg (cp (oMv tm) (s1 rfl) <| cp (oCall rfl (reticentref04_Made.ok hy3) b15 (opds_cons tm opds_nil)) (s1 rfl) <| cp (oEq rfl tm (cI (by decide))) (s1 rfl) <| cp (oAs tm) (s1 rfl) <| .nil) (by kernel_rfl) ?_
    refine pSeq ?_
    refine wRet ?_
    obtain rfl := so h
    exact pR1 (.inl rfl) rfl (.tmp rfl <| .nil)

theorem reticentref07_May.ok {a0 : api_Lattice} {a1 : List Int} {a2 : List Int} {a3 : Bool} {r : Int} (h : reticentref07_May.f a0 a1 a2 a3 = some r) : FnA Try.prog 54 [(kR f_api_Lattice).sig a0, (kL (kI .i64)).sig a1, (kL (kI .i64)).sig a2, kB.sig a3] ((kI .i64).sig r) := by
  refine fnIntro Try.func54 rfl (by kernel_rfl) fun H0 w0 => ?_
  unfold reticentref07_May.f at h
  refine wSeq ?_
  refine rg (cp (oBox tm) (s1 rfl) <| cp (oAs (cI (by decide))) trivial <| .nil) (by kernel_rfl) ?_
  refine pSeq ?_
  refine wSeq ?_
  obtain ⟨y1, hy1, h⟩ := bd h
  refine rg (cp (oLd t42 tm) (s1 rfl) <| cp (oCall rfl (reticentref01_Check.ok hy1) b30 (opds_cons tm opds_nil)) (s1 rfl) <| cp (oAs tm) (s1 rfl) <| .nil) (by kernel_rfl) ?_
  refine pSeq ?_
  refine wSeq ?_
  refine wSeq ?_
  refine rg (cp (oMv tm) (s1 rfl) <| cp (oNe rfl tm (cI (by decide))) (s1 rfl) <| .nil) (by kernel_rfl) ?_
  refine pSeq ?_
  rcases ic h with ⟨hp2, h⟩ | ⟨hp2, h⟩
  · refine wNT hp2 tm (s1 rfl) ?_
    refine wSkip ?_
    refine pSeq ?_
    refine wSeq ?_
    refine wSeq ?_
    obtain ⟨y3, hy3, h⟩ := bd h
    refine rg (cp (oMv tm) (s1 rfl) <| cp (oMv tm) (s1 rfl) <| cp (oCall rfl (reticentref04_Right.ok hy3) b49 (opds_cons tm (opds_cons tm opds_nil))) (s2 rfl rfl) <| cp (oNot tm) (s1 rfl) <| .nil) (by kernel_rfl) ?_
    refine pSeq ?_
    rcases ic h with ⟨hp4, h⟩ | ⟨hp4, h⟩
    · refine wBT hp4 tm (s1 rfl) ?_
      refine wSeq ?_
      refine rg (cp (oAs (cI (by decide))) trivial <| .nil) (by kernel_rfl) ?_
      refine pSeq ?_
      refine wRet ?_
      refine pThenR ?_
      obtain rfl := so h
      exact pR1 (.inl rfl) rfl (.tmp rfl <| .nil)
    · refine wBF hp4 tm (s1 rfl) ?_
      refine wSkip ?_
      refine pSeq ?_
      refine wSeq ?_
      refine wSeq ?_
      refine rg (cp (oMv tm) (s1 rfl) <| cp (oLenL u22 tm) (s1 rfl) <| cp (oMv (cI (by decide))) trivial <| .nil) (by kernel_rfl) ?_
      refine pSeq ?_
      obtain ⟨o1, h, hk1⟩ := bd h
      refine wK0 (.inr () = o1) ([(2, .d ((kL (kI .i64)).sig a2))]) ([]) ?_ ?_
      · refine wBlock (wLoop ?_)
        refine lW (pc1 o1 (fun v17 => [(2, .d ((kL (kI .i64)).sig a2)), (4, .d (sP (kR f_api_Lattice) a0)), (21, .d ((kL (kI .i64)).sig a2)), (22, .d ((kI .i64).sig (a2.length : Int))), (23, .d ((kI .i64).sig v17))]) (fun v17 => []) (reticentref07_May.l0.partial_correctness a0 a2) ?_ _ h) ⟨rfl, rfl, rfl, rfl, rfl, trivial⟩ rfl
        clear h
        intro f' ih v17 h
        refine wSeq ?_
        refine rg (cp (oLt rfl tm tm) (s2 rfl rfl) <| .nil) (by kernel_rfl) ?_
        refine pSeq ?_
        refine wSeq ?_
        rcases ic h with ⟨hp18, h⟩ | ⟨hp18, h⟩
        · refine wCT hp18 tm (s1 rfl) ?_
          refine wSkip ?_
          refine pSeq ?_
          refine wSeq ?_
          refine wBlock ?_
          refine wSeq ?_
          obtain ⟨y19, hy19, h⟩ := bd h
          refine rg (cp (oIdx u22 z3 hy19 tm tm) (s2 rfl rfl) <| cp (oLd t3 tm) (s1 rfl) <| cp (oAs tm) (s1 rfl) <| .nil) (by kernel_rfl) ?_
          refine pSeq ?_
          obtain ⟨o2, h, hk2⟩ := bd h
          refine wJ1 (fun x21 => x21 = o2) (fun x21 => [(2, .d ((kL (kI .i64)).sig a2)), (4, .d (sP (kR f_api_Lattice) a0)), (21, .d ((kL (kI .i64)).sig a2)), (22, .d ((kI .i64).sig (a2.length : Int))), (23, .d ((kI .i64).sig v17)), (35, .d (kB.sig x21))]) (fun x21 => []) ?_ ?_
          · rcases ic h with ⟨hp22, h⟩ | ⟨hp22, h⟩
            · refine rg (cp (oMv tm) (s1 rfl) <| cp (oLt rfl tm (cI (by decide))) (s1 rfl) <| cp (oMv tm) (s1 rfl) <| csB (decide_eq_true hp22) rfl rfl <| csB (decide_eq_true hp22) rfl rfl <| csB (decide_eq_true hp22) rfl rfl <| csB (decide_eq_true hp22) rfl rfl <| csB (decide_eq_true hp22) rfl rfl <| cp (oPkT (decide_eq_true hp22) tm cB) (s1 rfl) <| .nil) (by kernel_rfl) ?_
              exact pJ1 _ (so h) ⟨rfl, rfl, rfl, rfl, rfl, rfl, trivial⟩ rfl
            · refine rg (cp (oMv tm) (s1 rfl) <| cp (oLt rfl tm (cI (by decide))) (s1 rfl) <| cp (oMv tm) (s1 rfl) <| cgB (decide_eq_false hp22) rfl rfl (oMv tm) (s1 rfl) <| cgB (decide_eq_false hp22) rfl rfl (oFld (fs := f_api_Lattice) (k := 1) rfl o42_1 tm) (s1 rfl) <| cgB (decide_eq_false hp22) rfl rfl (oLd t40 tm) (s1 rfl) <| cgB (decide_eq_false hp22) rfl rfl (oLenL u40 tm) (s1 rfl) <| cgB (decide_eq_false hp22) rfl rfl (oGe rfl tm tm) (s2 rfl rfl) <| cp (oPkF (decide_eq_false hp22) tm tm) (s2 rfl rfl) <| .nil) (by kernel_rfl) ?_
              exact pJ1 _ (so h) ⟨rfl, rfl, rfl, rfl, rfl, rfl, trivial⟩ rfl
          · rintro x21 rfl
            replace h := hk2
            rcases ic h with ⟨hp23, h⟩ | ⟨hp23, h⟩
            · refine wBT hp23 tm (s1 rfl) ?_
              refine wSeq ?_
              refine rg (cp (oAs (cI (by decide))) trivial <| .nil) (by kernel_rfl) ?_
              refine pSeq ?_
              refine wRet ?_
              refine pBlkR ?_
              refine pThenR ?_
              refine pThenR ?_
              refine pBlkR ?_
              refine pThenR ?_
              obtain rfl := so h
              replace h := hk1
              refine pThenR ?_
              obtain rfl := so h
              exact pR1 (.inl rfl) rfl (.tmp rfl <| .nil)
            · refine wBF hp23 tm (s1 rfl) ?_
              refine wSkip ?_
              refine pBlkN ?_
              refine pSeq ?_
              refine rg (cp (oAdd tm (cI (by decide))) (s1 rfl) <| cp (oMv tm) (s1 rfl) <| .nil) (by kernel_rfl) ?_
              exact pLoop (lW (ih _ h) ⟨rfl, rfl, rfl, rfl, rfl, trivial⟩ rfl)
        · refine wCF hp18 tm (s1 rfl) ?_
          refine wExit ?_
          refine pThenX ?_
          refine pThenX ?_
          refine pBlkX ?_
          exact pJ0 (so h) ⟨rfl, trivial⟩ rfl
      · rintro rfl
        replace h := hk1
        refine pSeq ?_
        refine wSeq ?_
        refine wSeq ?_
        refine rg (cp (oMv tm) (s1 rfl) <| cp (oLenL u22 tm) (s1 rfl) <| cp (oNe rfl tm (cI (by decide))) (s1 rfl) <| .nil) (by kernel_rfl) ?_
        refine pSeq ?_
        rcases ic h with ⟨hp24, h⟩ | ⟨hp24, h⟩
        · refine wNT hp24 tm (s1 rfl) ?_
          refine wSkip ?_
          refine pSeq ?_
          refine wSeq ?_
          refine rg (cp (oAs (cI (by decide))) trivial <| .nil) (by kernel_rfl) ?_
          refine pSeq ?_
          refine wRet ?_
          obtain rfl := so h
          exact pR1 (.inl rfl) rfl (.tmp rfl <| .nil)
        · refine wNF hp24 tm (s1 rfl) ?_
          refine wSeq ?_
          refine rg (cp (oAs (cI (by decide))) trivial <| .nil) (by kernel_rfl) ?_
          refine pSeq ?_
          refine wRet ?_
          refine pThenR ?_
          obtain rfl := so h
          exact pR1 (.inl rfl) rfl (.tmp rfl <| .nil)
  · refine wNF hp2 tm (s1 rfl) ?_
    refine wSeq ?_
    refine rg (cp (oMv tm) (s1 rfl) <| cp (oAs tm) (s1 rfl) <| .nil) (by kernel_rfl) ?_
    refine pSeq ?_
    refine wRet ?_
    refine pThenR ?_
    obtain rfl := so h
    exact pR1 (.inl rfl) rfl (.tmp rfl <| .nil)

theorem reticentlaw07_alive.ok {r : Bool} (h : reticentlaw07_alive.f = some r) : FnA Try.prog 55 [] (kB.sig r) := by
  refine fnIntro Try.func55 rfl (by kernel_rfl) fun H0 w0 => ?_
  unfold reticentlaw07_alive.f at h
  refine wSeq ?_
  refine rg (cp (oAs cB) trivial <| .nil) (by kernel_rfl) ?_
  refine pSeq ?_
  refine wSeq ?_
  refine rg (cp (oLit (d := kS) el39 (by decide) rfl rfl rfl (e1 (cS (by decide)) (e1 (cS (by decide)) (e1 (cS (by decide)) (e1 (cS (by decide)) e0))))) trivial <| cp (oLit (d := (kI .u32)) el40 (by decide) rfl rfl rfl (e1 (cI (by decide)) (e1 (cI (by decide)) (e1 (cI (by decide)) (e1 (cI (by decide)) e0))))) trivial <| cp (oBuild (fs := f_api_Lattice) (u := ⟨([([97] : Str), ([98] : Str), ([99] : Str), ([100] : Str)] : List Str), ([15, 10, 12, 8] : List Int)⟩) rfl ze42 pl42 po42 (.op (zc := [(.slice none 0 0)]) tm rfl (.op (zc := [(.slice none 0 0)]) tm rfl .nil))) (s2 rfl rfl) <| cw (oAlloc (id := 1) (ls := [.d (kL kS) [], .d (kL (kI .u32)) []]) ze42 (fun g => ⟨[(.slice none 0 0)], _, rfl, zL g.H, ⟨[(.slice none 0 0)], _, rfl, zL g.H, rfl⟩⟩)) trivial <| cwn (oStA (n := 0) (fs := f_api_Lattice) rfl rfl z42 tm tm) (s2 rfl rfl) <| .nil) (by kernel_rfl) ?_
  refine pSeq ?_
  refine wSeq ?_
  obtain ⟨y1, hy1, h⟩ := bd h
  refine rg (cr (oLdA (n := 0) (fs := f_api_Lattice) (u := ⟨(⟨([([97] : Str), ([98] : Str), ([99] : Str), ([100] : Str)] : List Str), ([15, 10, 12, 8] : List Int)⟩ : api_Lattice).Names, (⟨([([97] : Str), ([98] : Str), ([99] : Str), ([100] : Str)] : List Str), ([15, 10, 12, 8] : List Int)⟩ : api_Lattice).Up⟩) rfl ⟨rfl, rfl, trivial⟩ t42 tm) (s1 rfl) <| cp (oLit (d := (kI .i64)) el22 (by decide) rfl rfl rfl (e1 (cI (by decide)) (e1 (cI (by decide)) (e1 (cI (by decide)) e0)))) trivial <| cp (oLit (d := (kI .i64)) el22 (by decide) rfl rfl rfl (e1 (cI (by decide)) (e1 (cI (by decide)) (e1 (cI (by decide)) (e1 (cI (by decide)) e0))))) trivial <| cp (oCall rfl (judge_Label.ok hy1) b53 (opds_cons tm (opds_cons tm (opds_cons tm opds_nil)))) (s3 rfl rfl rfl) <| cp (oMv tm) (s1 rfl) <| cp (oExt (k := 0) rfl tm) (s1 rfl) <| cp (oExt (k := 1) rfl tm) (s1 rfl) <| cp (oAs tm) (s1 rfl) <| cp (oAs tm) (s1 rfl) <| .nil) (by kernel_rfl) ?_
  refine pSeq ?_
  obtain ⟨o1, h, hk1⟩ := bd h
  refine wJ1 (fun x3 => x3 = o1) (fun x3 => [(0, .d (kB.sig x3))]) (fun x3 => [.box 1 42 [.d (kL kS) ((⟨([([97] : Str), ([98] : Str), ([99] : Str), ([100] : Str)] : List Str), ([15, 10, 12, 8] : List Int)⟩ : api_Lattice).Names), .d (kL (kI .u32)) ((⟨([([97] : Str), ([98] : Str), ([99] : Str), ([100] : Str)] : List Str), ([15, 10, 12, 8] : List Int)⟩ : api_Lattice).Up)]]) ?_ ?_
  · rcases ic h with ⟨hp4, h⟩ | ⟨hp4, h⟩
    · refine rg (cp (oMv tm) (s1 rfl) <| cp (oEq rfl tm (cI (by decide))) (s1 rfl) <| cp (oMv tm) (s1 rfl) <| cgB (decide_eq_true hp4) rfl rfl (oMv tm) (s1 rfl) <| cgB (decide_eq_true hp4) rfl rfl (oEq rfl tm (cI (by decide))) (s1 rfl) <| cp (oPkT (decide_eq_true hp4) tm tm) (s2 rfl rfl) <| cp (oAs tm) (s1 rfl) <| .nil) (by kernel_rfl) ?_
      exact pJ1 _ (so h) ⟨rfl, trivial⟩ rfl
    · refine rg (cp (oMv tm) (s1 rfl) <| cp (oEq rfl tm (cI (by decide))) (s1 rfl) <| cp (oMv tm) (s1 rfl) <| csB (decide_eq_false hp4) rfl rfl <| csB (decide_eq_false hp4) rfl rfl <| cp (oPkF (decide_eq_false hp4) tm cB) (s1 rfl) <| cp (oAs tm) (s1 rfl) <| .nil) (by kernel_rfl) ?_
      exact pJ1 _ (so h) ⟨rfl, trivial⟩ rfl
  · rintro x3 rfl
    replace h := hk1
    refine wRet ?_
    obtain rfl := so h
    exact pR1 (.inl rfl) rfl (.tmp rfl <| .nil)

theorem reticentref01_Bottom.ok {a0 : api_Lattice} {r : Int} (h : reticentref01_Bottom.f a0 = some r) : FnA Try.prog 40 [(kR f_api_Lattice).sig a0] ((kI .i64).sig r) := by
  refine fnIntro Try.func40 rfl (by kernel_rfl) fun H0 w0 => ?_
  unfold reticentref01_Bottom.f at h
  refine wSeq ?_
  refine rg (cp (oBox tm) (s1 rfl) <| cp (oAs (cI (by decide))) trivial <| .nil) (by kernel_rfl) ?_
  refine pSeq ?_
  refine wSeq ?_
  refine rg (cp (oAs (cI (by decide))) trivial <| .nil) (by kernel_rfl) ?_
  refine pSeq ?_
  refine wSeq ?_
  refine wSeq ?_
  refine rg (cp (oFld (fs := f_api_Lattice) (k := 1) rfl o42_1 tm) (s1 rfl) <| cp (oLd t40 tm) (s1 rfl) <| cp (oLenL u40 tm) (s1 rfl) <| cp (oMv (cI (by decide))) trivial <| .nil) (by kernel_rfl) ?_
  refine pSeq ?_
  obtain ⟨o1, h, hk1⟩ := bd h
  refine wK1 (fun x7 => x7 = o1) (fun x7 => [(3, .d ((kI .i64).sig x7))]) (fun x7 => []) ?_ ?_
  · refine wBlock (wLoop ?_)
    refine lW (pc2 o1 (fun v5 v6 => [(1, .d (sP (kR f_api_Lattice) a0)), (3, .d ((kI .i64).sig v5)), (7, .d ((kI .i64).sig (a0.Up.length : Int))), (8, .d ((kI .i64).sig v6))]) (fun v5 v6 => []) (reticentref01_Bottom.l0.partial_correctness a0) ?_ _ _ h) ⟨rfl, rfl, rfl, rfl, trivial⟩ rfl
    clear h
    intro f' ih v5 v6 h
    refine wSeq ?_
    refine rg (cp (oLt rfl tm tm) (s2 rfl rfl) <| .nil) (by kernel_rfl) ?_
    refine pSeq ?_
    refine wSeq ?_
    rcases ic h with ⟨hp8, h⟩ | ⟨hp8, h⟩
    · refine wCT hp8 tm (s1 rfl) ?_
      refine wSkip ?_
      refine pSeq ?_
      refine wSeq ?_
      refine wBlock ?_
      refine wSeq ?_
      refine rg (cp (oMv tm) (s1 rfl) <| cp (oAs tm) (s1 rfl) <| .nil) (by kernel_rfl) ?_
      refine pSeq ?_
      obtain ⟨y9, hy9, h⟩ := bd h
      refine rg (cp (oLd t42 tm) (s1 rfl) <| cp (oMv tm) (s1 rfl) <| cp (oMv tm) (s1 rfl) <| cp (oCall rfl (reticentref01_Meet.ok hy9) b36 (opds_cons tm (opds_cons tm (opds_cons tm opds_nil)))) (s3 rfl rfl rfl) <| cp (oAs tm) (s1 rfl) <| .nil) (by kernel_rfl) ?_
      refine pBlkN ?_
      refine pSeq ?_
      refine rg (cp (oAdd tm (cI (by decide))) (s1 rfl) <| cp (oMv tm) (s1 rfl) <| .nil) (by kernel_rfl) ?_
      exact pLoop (lW (ih _ _ h) ⟨rfl, rfl, rfl, rfl, trivial⟩ rfl)
    · refine wCF hp8 tm (s1 rfl) ?_
      refine wExit ?_
      refine pThenX ?_
      refine pThenX ?_
      refine pBlkX ?_
      exact pJ1 _ (so h) ⟨rfl, trivial⟩ rfl
  · rintro x7 rfl
    replace h := hk1
    refine pSeq ?_
    refine wSeq ?_
    refine rg (cp (oMv tm) (s1 rfl) <| cp (oAs tm) (s1 rfl) <| .nil) (by kernel_rfl) ?_
    refine pSeq ?_
    refine wRet ?_
    obtain rfl := so h
    exact pR1 (.inl rfl) rfl (.tmp rfl <| .nil)

theorem reticentref01_Top.ok {a0 : api_Lattice} {r : Int} (h : reticentref01_Top.f a0 = some r) : FnA Try.prog 41 [(kR f_api_Lattice).sig a0] ((kI .i64).sig r) := by
  refine fnIntro Try.func41 rfl (by kernel_rfl) fun H0 w0 => ?_
  unfold reticentref01_Top.f at h
  refine wSeq ?_
  refine rg (cp (oBox tm) (s1 rfl) <| cp (oAs (cI (by decide))) trivial <| .nil) (by kernel_rfl) ?_
  refine pSeq ?_
  refine wSeq ?_
  refine rg (cp (oAs (cI (by decide))) trivial <| .nil) (by kernel_rfl) ?_
  refine pSeq ?_
  refine wSeq ?_
  refine wSeq ?_
  refine rg (cp (oFld (fs := f_api_Lattice) (k := 1) rfl o42_1 tm) (s1 rfl) <| cp (oLd t40 tm) (s1 rfl) <| cp (oLenL u40 tm) (s1 rfl) <| cp (oMv (cI (by decide))) trivial <| .nil) (by kernel_rfl) ?_
  refine pSeq ?_
  obtain ⟨o1, h, hk1⟩ := bd h
  refine wK1 (fun x7 => x7 = o1) (fun x7 => [(3, .d ((kI .i64).sig x7))]) (fun x7 => []) ?_ ?_
  · refine wBlock (wLoop ?_)
    refine lW (pc2 o1 (fun v5 v6 => [(1, .d (sP (kR f_api_Lattice) a0)), (3, .d ((kI .i64).sig v5)), (7, .d ((kI .i64).sig (a0.Up.length : Int))), (8, .d ((kI .i64).sig v6))]) (fun v5 v6 => []) (reticentref01_Top.l0.partial_correctness a0) ?_ _ _ h) ⟨rfl, rfl, rfl, rfl, trivial⟩ rfl
    clear h
    intro f' ih v5 v6 h
    refine wSeq ?_
    refine rg (cp (oLt rfl tm tm) (s2 rfl rfl) <| .nil) (by kernel_rfl) ?_
    refine pSeq ?_
    refine wSeq ?_
    rcases ic h with ⟨hp8, h⟩ | ⟨hp8, h⟩
    · refine wCT hp8 tm (s1 rfl) ?_
      refine wSkip ?_
      refine pSeq ?_
      refine wSeq ?_
      refine wBlock ?_
      refine wSeq ?_
      refine rg (cp (oMv tm) (s1 rfl) <| cp (oAs tm) (s1 rfl) <| .nil) (by kernel_rfl) ?_
      refine pSeq ?_
      obtain ⟨y9, hy9, h⟩ := bd h
      refine rg (cp (oLd t42 tm) (s1 rfl) <| cp (oMv tm) (s1 rfl) <| cp (oMv tm) (s1 rfl) <| cp (oCall rfl (reticentref01_Join.ok hy9) b35 (opds_cons tm (opds_cons tm (opds_cons tm opds_nil)))) (s3 rfl rfl rfl) <| cp (oAs tm) (s1 rfl) <| .nil) (by kernel_rfl) ?_
      refine pBlkN ?_
      refine pSeq ?_
      refine rg (cp (oAdd tm (cI (by decide))) (s1 rfl) <| cp (oMv tm) (s1 rfl) <| .nil) (by kernel_rfl) ?_
      exact pLoop (lW (ih _ _ h) ⟨rfl, rfl, rfl, rfl, trivial⟩ rfl)
    · refine wCF hp8 tm (s1 rfl) ?_
      refine wExit ?_
      refine pThenX ?_
      refine pThenX ?_
      refine pBlkX ?_
      exact pJ1 _ (so h) ⟨rfl, trivial⟩ rfl
  · rintro x7 rfl
    replace h := hk1
    refine pSeq ?_
    refine wSeq ?_
    refine rg (cp (oMv tm) (s1 rfl) <| cp (oAs tm) (s1 rfl) <| .nil) (by kernel_rfl) ?_
    refine pSeq ?_
    refine wRet ?_
    obtain rfl := so h
    exact pR1 (.inl rfl) rfl (.tmp rfl <| .nil)

theorem reticentref07_Thing.okB {rc : api_Lattice → (List Int) → (List Int) → Int → Option reticentref07_V} (hrc : ∀ {a0 : api_Lattice} {a1 : List Int} {a2 : List Int} {a3 : Int} {r : reticentref07_V}, rc a0 a1 a2 a3 = some r → FnA Try.prog 89 [(kR f_api_Lattice).sig a0, (kL (kI .i64)).sig a1, (kL (kI .i64)).sig a2, (kI .i64).sig a3] ((kR f_reticentref07_V).sig r)) {a0 : api_Lattice} {a1 : List Int} {a2 : List Int} {a3 : Int} {r : reticentref07_V} (h : reticentref07_Thing.B rc a0 a1 a2 a3 = some r) : FnA Try.prog 89 [(kR f_api_Lattice).sig a0, (kL (kI .i64)).sig a1, (kL (kI .i64)).sig a2, (kI .i64).sig a3] ((kR f_reticentref07_V).sig r) := by
  refine fnIntro Try.func89 rfl (by kernel_rfl) fun H0 w0 => ?_
  unfold reticentref07_Thing.B at h
  refine wSeq ?_
  refine rg (cp (oBox tm) (s1 rfl) <| cw (oAlloc (id := 8) (ls := [.d kB false, .d (kI .i64) 0, .d (kI .i64) 0]) ze72 (fun g => ⟨[(.bool false)], _, rfl, zB g.H, ⟨[(.int .i64 0)], _, rfl, zI_i64 g.H, ⟨[(.int .i64 0)], _, rfl, zI_i64 g.H, rfl⟩⟩⟩)) trivial <| .nil) (by kernel_rfl) ?_
  refine pSeq ?_
  refine wSeq ?_
  obtain ⟨y1, hy1, h⟩ := bd h
  refine rg (cp (oMv tm) (s1 rfl) <| cp (oMv tm) (s1 rfl) <| cp (oIdx u22 z3 hy1 tm tm) (s2 rfl rfl) <| cp (oLd t3 tm) (s1 rfl) <| cp (oAs tm) (s1 rfl) <| .nil) (by kernel_rfl) ?_
  refine pSeq ?_
  refine wSeq ?_
  refine wSeq ?_
  refine rg (cp (oMv tm) (s1 rfl) <| cp (oLe rfl tm (cI (by decide))) (s1 rfl) <| .nil) (by kernel_rfl) ?_
  refine pSeq ?_
  rcases ic h with ⟨hp2, h⟩ | ⟨hp2, h⟩
  · refine wCT hp2 tm (s1 rfl) ?_
    refine wSeq ?_
    refine rg (cp (oMv tm) (s1 rfl) <| cp (oEq rfl tm (cI (by decide))) (s1 rfl) <| cp (oMv tm) (s1 rfl) <| cp (oBuild (fs := f_reticentref07_V) (u := ⟨decide (y1 = 1), 0, a3⟩) rfl ze72 pl72 po72 (.op (zc := [(.bool false)]) tm rfl (.ze (zc := [(.int .i64 0)]) zI_i64 (.op (zc := [(.int .i64 0)]) tm rfl .nil)))) (s2 rfl rfl) <| cwn (oStA (n := 0) (fs := f_reticentref07_V) rfl rfl z72 tm tm) (s2 rfl rfl) <| .nil) (by kernel_rfl) ?_
    refine pSeq ?_
    refine wRet ?_
    refine pThenR ?_
    obtain rfl := so h
    exact pR1 (.inl rfl) rfl (.box (n := 0) (fs := f_reticentref07_V) (u := ⟨(⟨decide (y1 = 1), 0, a3⟩ : reticentref07_V).Is, (⟨decide (y1 = 1), 0, a3⟩ : reticentref07_V).A, (⟨decide (y1 = 1), 0, a3⟩ : reticentref07_V).From⟩) rfl rfl ⟨rfl, rfl, rfl, trivial⟩ t72 <| .nil)
  · refine wCF hp2 tm (s1 rfl) ?_
    refine wSkip ?_
    refine pSeq ?_
    refine wSeq ?_
    refine wSeq ?_
    refine rg (cp (oMv tm) (s1 rfl) <| cp (oEq rfl tm (cI (by decide))) (s1 rfl) <| .nil) (by kernel_rfl) ?_
    refine pSeq ?_
    rcases ic h with ⟨hp3, h⟩ | ⟨hp3, h⟩
    · refine wCT hp3 tm (s1 rfl) ?_
      refine wSeq ?_
      obtain ⟨y4, hy4, h⟩ := bd h
      refine rg (cp (oLd t42 tm) (s1 rfl) <| cp (oCall rfl (reticentref01_Bottom.ok hy4) b40 (opds_cons tm opds_nil)) (s1 rfl) <| cp (oMv tm) (s1 rfl) <| cp (oBuild (fs := f_reticentref07_V) (u := ⟨false, y4, a3⟩) rfl ze72 pl72 po72 (.ze (zc := [(.bool false)]) zB (.op (zc := [(.int .i64 0)]) tm rfl (.op (zc := [(.int .i64 0)]) tm rfl .nil)))) (s2 rfl rfl) <| cwn (oStA (n := 0) (fs := f_reticentref07_V) rfl rfl z72 tm tm) (s2 rfl rfl) <| .nil) (by kernel_rfl) ?_
      refine pSeq ?_
      refine wRet ?_
      refine pThenR ?_
      obtain rfl := so h
      exact pR1 (.inl rfl) rfl (.box (n := 0) (fs := f_reticentref07_V) (u := ⟨(⟨false, y4, a3⟩ : reticentref07_V).Is, (⟨false, y4, a3⟩ : reticentref07_V).A, (⟨false, y4, a3⟩ : reticentref07_V).From⟩) rfl rfl ⟨rfl, rfl, rfl, trivial⟩ t72 <| .nil)
    · refine wCF hp3 tm (s1 rfl) ?_
      refine wSkip ?_
      refine pSeq ?_
      refine wSeq ?_
      refine wSeq ?_
      refine rg (cp (oMv tm) (s1 rfl) <| cp (oEq rfl tm (cI (by decide))) (s1 rfl) <| .nil) (by kernel_rfl) ?_
      refine pSeq ?_
      rcases ic h with ⟨hp5, h⟩ | ⟨hp5, h⟩
      · refine wCT hp5 tm (s1 rfl) ?_
        refine wSeq ?_
        obtain ⟨y6, hy6, h⟩ := bd h
        refine rg (cp (oLd t42 tm) (s1 rfl) <| cp (oCall rfl (reticentref01_Top.ok hy6) b41 (opds_cons tm opds_nil)) (s1 rfl) <| cp (oMv tm) (s1 rfl) <| cp (oBuild (fs := f_reticentref07_V) (u := ⟨false, y6, a3⟩) rfl ze72 pl72 po72 (.ze (zc := [(.bool false)]) zB (.op (zc := [(.int .i64 0)]) tm rfl (.op (zc := [(.int .i64 0)]) tm rfl .nil)))) (s2 rfl rfl) <| cwn (oStA (n := 0) (fs := f_reticentref07_V) rfl rfl z72 tm tm) (s2 rfl rfl) <| .nil) (by kernel_rfl) ?_
        refine pSeq ?_
        refine wRet ?_
        refine pThenR ?_
        obtain rfl := so h
        exact pR1 (.inl rfl) rfl (.box (n := 0) (fs := f_reticentref07_V) (u := ⟨(⟨false, y6, a3⟩ : reticentref07_V).Is, (⟨false, y6, a3⟩ : reticentref07_V).A, (⟨false, y6, a3⟩ : reticentref07_V).From⟩) rfl rfl ⟨rfl, rfl, rfl, trivial⟩ t72 <| .nil)
      · refine wCF hp5 tm (s1 rfl) ?_
        refine wSkip ?_
        refine pSeq ?_
        refine wSeq ?_
        obtain ⟨o1, h, hk1⟩ := bd h
        refine wJ1 (fun x8 => x8 = o1) (fun x8 => [(1, .d ((kL (kI .i64)).sig a1)), (2, .d ((kL (kI .i64)).sig a2)), (3, .d ((kI .i64).sig a3)), (4, .d (sP (kR f_api_Lattice) a0)), (8, .p 8 0), (9, .d ((kI .i64).sig y1)), (40, .d (kB.sig x8))]) (fun x8 => [.box 8 72 [.d kB false, .d (kI .i64) 0, .d (kI .i64) 0]]) ?_ ?_
        · rcases ic h with ⟨hp9, h⟩ | ⟨hp9, h⟩
          · refine rg (cp (oMv tm) (s1 rfl) <| cp (oGe rfl tm (cI (by decide))) (s1 rfl) <| cp (oMv tm) (s1 rfl) <| cgB (decide_eq_true hp9) rfl rfl (oMv tm) (s1 rfl) <| cgB (decide_eq_true hp9) rfl rfl (oLe rfl tm (cI (by decide))) (s1 rfl) <| cp (oPkT (decide_eq_true hp9) tm tm) (s2 rfl rfl) <| .nil) (by kernel_rfl) ?_
            exact pJ1 _ (so h) ⟨rfl, rfl, rfl, rfl, rfl, rfl, rfl, trivial⟩ rfl
          · refine rg (cp (oMv tm) (s1 rfl) <| cp (oGe rfl tm (cI (by decide))) (s1 rfl) <| cp (oMv tm) (s1 rfl) <| csB (decide_eq_false hp9) rfl rfl <| csB (decide_eq_false hp9) rfl rfl <| cp (oPkF (decide_eq_false hp9) tm cB) (s1 rfl) <| .nil) (by kernel_rfl) ?_
            exact pJ1 _ (so h) ⟨rfl, rfl, rfl, rfl, rfl, rfl, rfl, trivial⟩ rfl
        · rintro x8 rfl
          replace h := hk1
          rcases ic h with ⟨hp10, h⟩ | ⟨hp10, h⟩
          · refine wBT hp10 tm (s1 rfl) ?_
            refine wSeq ?_
            obtain ⟨y11, hy11, h⟩ := bd h
            refine rg (cp (oMv tm) (s1 rfl) <| cp (oMv tm) (s1 rfl) <| cp (oSub tm (cI (by decide))) (s1 rfl) <| cp (oIdx u22 z3 hy11 tm tm) (s2 rfl rfl) <| cp (oLd t3 tm) (s1 rfl) <| cp (oMv tm) (s1 rfl) <| cp (oBuild (fs := f_reticentref07_V) (u := ⟨false, y11, a3⟩) rfl ze72 pl72 po72 (.ze (zc := [(.bool false)]) zB (.op (zc := [(.int .i64 0)]) tm rfl (.op (zc := [(.int .i64 0)]) tm rfl .nil)))) (s2 rfl rfl) <| cwn (oStA (n := 0) (fs := f_reticentref07_V) rfl rfl z72 tm tm) (s2 rfl rfl) <| .nil) (by kernel_rfl) ?_
            refine pSeq ?_
            refine wRet ?_
            refine pThenR ?_
            obtain rfl := so h
            exact pR1 (.inl rfl) rfl (.box (n := 0) (fs := f_reticentref07_V) (u := ⟨(⟨false, y11, a3⟩ : reticentref07_V).Is, (⟨false, y11, a3⟩ : reticentref07_V).A, (⟨false, y11, a3⟩ : reticentref07_V).From⟩) rfl rfl ⟨rfl, rfl, rfl, trivial⟩ t72 <| .nil)
          · refine wBF hp10 tm (s1 rfl) ?_
            refine wSkip ?_
            refine pSeq ?_
            refine wSeq ?_
            obtain ⟨y12, hy12, h⟩ := bd h
            refine rg (cp (oLd t42 tm) (s1 rfl) <| cp (oMv tm) (s1 rfl) <| cp (oMv tm) (s1 rfl) <| cp (oMv tm) (s1 rfl) <| cp (oSub tm (cI (by decide))) (s1 rfl) <| cp (oCall rfl (hrc hy12) b89 (opds_cons tm (opds_cons tm (opds_cons tm (opds_cons tm opds_nil))))) ⟨rfl, rfl, rfl, rfl, trivial⟩ <| cw (oAlloc (id := 10) (ls := [.d kB false, .d (kI .i64) 0, .d (kI .i64) 0]) ze72 (fun g => ⟨[(.bool false)], _, rfl, zB g.H, ⟨[(.int .i64 0)], _, rfl, zI_i64 g.H, ⟨[(.int .i64 0)], _, rfl, zI_i64 g.H, rfl⟩⟩⟩)) trivial <| cwn (oStA (n := 0) (fs := f_reticentref07_V) rfl rfl z72 tm tm) (s2 rfl rfl) <| .nil) (by kernel_rfl) ?_
            refine pSeq ?_
            refine wSeq ?_
            obtain ⟨y13, hy13, h⟩ := bd h
            refine rg (cp (oLd t42 tm) (s1 rfl) <| cp (oMv tm) (s1 rfl) <| cp (oMv tm) (s1 rfl) <| cp (oFldP o72_2 tm) (s1 rfl) <| cr (oLdB (n := 0) (k := 2) rfl rfl rfl t3 tm) (s1 rfl) <| cp (oSub tm (cI (by decide))) (s1 rfl) <| cp (oCall rfl (hrc hy13) b89 (opds_cons tm (opds_cons tm (opds_cons tm (opds_cons tm opds_nil))))) ⟨rfl, rfl, rfl, rfl, trivial⟩ <| cw (oAlloc (id := 11) (ls := [.d kB false, .d (kI .i64) 0, .d (kI .i64) 0]) ze72 (fun g => ⟨[(.bool false)], _, rfl, zB g.H, ⟨[(.int .i64 0)], _, rfl, zI_i64 g.H, ⟨[(.int .i64 0)], _, rfl, zI_i64 g.H, rfl⟩⟩⟩)) trivial <| cwn (oStA (n := 0) (fs := f_reticentref07_V) rfl rfl z72 tm tm) (s2 rfl rfl) <| .nil) (by kernel_rfl) ?_
            refine pSeq ?_
            refine wSeq ?_
            refine rg (cp (oFldP o72_2 tm) (s1 rfl) <| cr (oLdB (n := 0) (k := 2) rfl rfl rfl t3 tm) (s1 rfl) <| cp (oBuild (fs := f_reticentref07_V) (u := ⟨false, 0, y13.From⟩) rfl ze72 pl72 po72 (.ze (zc := [(.bool false)]) zB (.ze (zc := [(.int .i64 0)]) zI_i64 (.op (zc := [(.int .i64 0)]) tm rfl .nil)))) (s1 rfl) <| cw (oAlloc (id := 12) (ls := [.d kB false, .d (kI .i64) 0, .d (kI .i64) 0]) ze72 (fun g => ⟨[(.bool false)], _, rfl, zB g.H, ⟨[(.int .i64 0)], _, rfl, zI_i64 g.H, ⟨[(.int .i64 0)], _, rfl, zI_i64 g.H, rfl⟩⟩⟩)) trivial <| cwn (oStA (n := 0) (fs := f_reticentref07_V) rfl rfl z72 tm tm) (s2 rfl rfl) <| .nil) (by kernel_rfl) ?_
            refine pSeq ?_
            refine wSeq ?_
            refine wSeq ?_
            refine rg (cp (oMv tm) (s1 rfl) <| .nil) (by kernel_rfl) ?_
            refine pSeq ?_
            obtain ⟨o1, h, hk1⟩ := bd h
            refine wK2 (fun x28 x29 => (x28, x29) = o1) (fun x28 x29 => [(8, .p 8 0), (12, .p 12 0)]) (fun x28 x29 => [.box 12 72 [.d kB x28, .d (kI .i64) x29, .d (kI .i64) ((⟨false, 0, y13.From⟩ : reticentref07_V).From)], .box 11 72 [.d kB y13.Is, .d (kI .i64) y13.A, .d (kI .i64) y13.From], .box 10 72 [.d kB y12.Is, .d (kI .i64) y12.A, .d (kI .i64) y12.From], .box 8 72 [.d kB false, .d (kI .i64) 0, .d (kI .i64) 0]]) ?_ ?_
            · refine wBlock ?_
              refine wSeq ?_
              refine rg (cp (oEq rfl tm (cI (by decide))) (s1 rfl) <| cp (oAs tm) (s1 rfl) <| .nil) (by kernel_rfl) ?_
              refine pSeq ?_
              rcases ic h with ⟨hp30, h⟩ | ⟨hp30, h⟩
              · refine wCT hp30 tm (s1 rfl) ?_
                obtain ⟨o2, h, hk2⟩ := bd h
                refine wK1 (fun x32 => x32 = o2) (fun x32 => [(8, .p 8 0), (12, .p 12 0)]) (fun x32 => [.box 12 72 [.d kB x32, .d (kI .i64) ((⟨false, 0, y13.From⟩ : reticentref07_V).A), .d (kI .i64) ((⟨false, 0, y13.From⟩ : reticentref07_V).From)], .box 11 72 [.d kB y13.Is, .d (kI .i64) y13.A, .d (kI .i64) y13.From], .box 10 72 [.d kB y12.Is, .d (kI .i64) y12.A, .d (kI .i64) y12.From], .box 8 72 [.d kB false, .d (kI .i64) 0, .d (kI .i64) 0]]) ?_ ?_
                · rcases ic h with ⟨hp33, h⟩ | ⟨hp33, h⟩
                  · refine rg (cp (oFldP o72_0 tm) (s1 rfl) <| cr (oLdB (n := 1) (k := 0) rfl rfl rfl t4 tm) (s1 rfl) <| cp (oMv tm) (s1 rfl) <| cgB hp33 rfl rfl (oFldP o72_0 tm) (s1 rfl) <| crgB hp33 rfl rfl (oLdB (n := 2) (k := 0) rfl rfl rfl t4 tm) (s1 rfl) <| cp (oPkT hp33 tm tm) (s2 rfl rfl) <| cp (oFldP o72_0 tm) (s1 rfl) <| cwn (oSt (n := 0) (k := 0) rfl rfl rfl rfl z4 tm tm) (s2 rfl rfl) <| .nil) (by kernel_rfl) ?_
                    exact pJ1 _ (so h) ⟨rfl, rfl, trivial⟩ rfl
                  · refine rg (cp (oFldP o72_0 tm) (s1 rfl) <| cr (oLdB (n := 1) (k := 0) rfl rfl rfl t4 tm) (s1 rfl) <| cp (oMv tm) (s1 rfl) <| csB (nb hp33) rfl rfl <| csB (nb hp33) rfl rfl <| cp (oPkF (nb hp33) tm cB) (s1 rfl) <| cp (oFldP o72_0 tm) (s1 rfl) <| cwn (oSt (n := 0) (k := 0) rfl rfl rfl rfl z4 tm tm) (s2 rfl rfl) <| .nil) (by kernel_rfl) ?_
                    exact pJ1 _ (so h) ⟨rfl, rfl, trivial⟩ rfl
                · rintro x32 rfl
                  replace h := hk2
                  refine pBlkN ?_
                  exact pJ2 _ _ (so h) ⟨rfl, rfl, trivial⟩ rfl
              · refine wCF hp30 tm (s1 rfl) ?_
                refine wSeq ?_
                refine rg (cp (oEq rfl tm (cI (by decide))) (s1 rfl) <| cp (oAs tm) (s1 rfl) <| .nil) (by kernel_rfl) ?_
                refine pSeq ?_
                rcases ic h with ⟨hp34, h⟩ | ⟨hp34, h⟩
                · refine wCT hp34 tm (s1 rfl) ?_
                  obtain ⟨o2, h, hk2⟩ := bd h
                  refine wK1 (fun x36 => x36 = o2) (fun x36 => [(8, .p 8 0), (12, .p 12 0)]) (fun x36 => [.box 12 72 [.d kB x36, .d (kI .i64) ((⟨false, 0, y13.From⟩ : reticentref07_V).A), .d (kI .i64) ((⟨false, 0, y13.From⟩ : reticentref07_V).From)], .box 11 72 [.d kB y13.Is, .d (kI .i64) y13.A, .d (kI .i64) y13.From], .box 10 72 [.d kB y12.Is, .d (kI .i64) y12.A, .d (kI .i64) y12.From], .box 8 72 [.d kB false, .d (kI .i64) 0, .d (kI .i64) 0]]) ?_ ?_
                  · rcases ic h with ⟨hp37, h⟩ | ⟨hp37, h⟩
                    · refine rg (cp (oFldP o72_0 tm) (s1 rfl) <| cr (oLdB (n := 1) (k := 0) rfl rfl rfl t4 tm) (s1 rfl) <| cp (oMv tm) (s1 rfl) <| csB hp37 rfl rfl <| csB hp37 rfl rfl <| cp (oPkT hp37 tm cB) (s1 rfl) <| cp (oFldP o72_0 tm) (s1 rfl) <| cwn (oSt (n := 0) (k := 0) rfl rfl rfl rfl z4 tm tm) (s2 rfl rfl) <| .nil) (by kernel_rfl) ?_
                      exact pJ1 _ (so h) ⟨rfl, rfl, trivial⟩ rfl
                    · refine rg (cp (oFldP o72_0 tm) (s1 rfl) <| cr (oLdB (n := 1) (k := 0) rfl rfl rfl t4 tm) (s1 rfl) <| cp (oMv tm) (s1 rfl) <| cgB (nb hp37) rfl rfl (oFldP o72_0 tm) (s1 rfl) <| crgB (nb hp37) rfl rfl (oLdB (n := 2) (k := 0) rfl rfl rfl t4 tm) (s1 rfl) <| cp (oPkF (nb hp37) tm tm) (s2 rfl rfl) <| cp (oFldP o72_0 tm) (s1 rfl) <| cwn (oSt (n := 0) (k := 0) rfl rfl rfl rfl z4 tm tm) (s2 rfl rfl) <| .nil) (by kernel_rfl) ?_
                      exact pJ1 _ (so h) ⟨rfl, rfl, trivial⟩ rfl
                  · rintro x36 rfl
                    replace h := hk2
                    refine pBlkN ?_
                    exact pJ2 _ _ (so h) ⟨rfl, rfl, trivial⟩ rfl
                · refine wCF hp34 tm (s1 rfl) ?_
                  refine wSeq ?_
                  refine rg (cp (oEq rfl tm (cI (by decide))) (s1 rfl) <| cp (oAs tm) (s1 rfl) <| .nil) (by kernel_rfl) ?_
                  refine pSeq ?_
                  rcases ic h with ⟨hp38, h⟩ | ⟨hp38, h⟩
                  · refine wCT hp38 tm (s1 rfl) ?_
                    obtain ⟨y39, hy39, h⟩ := bd h
                    refine rg (cp (oLd t42 tm) (s1 rfl) <| cp (oFldP o72_1 tm) (s1 rfl) <| cr (oLdB (n := 1) (k := 1) rfl rfl rfl t3 tm) (s1 rfl) <| cp (oFldP o72_1 tm) (s1 rfl) <| cr (oLdB (n := 2) (k := 1) rfl rfl rfl t3 tm) (s1 rfl) <| cp (oCall rfl (reticentref01_Flows.ok hy39) b34 (opds_cons tm (opds_cons tm (opds_cons tm opds_nil)))) (s3 rfl rfl rfl) <| cp (oFldP o72_0 tm) (s1 rfl) <| cwn (oSt (n := 0) (k := 0) rfl rfl rfl rfl z4 tm tm) (s2 rfl rfl) <| .nil) (by kernel_rfl) ?_
                    refine pBlkN ?_
                    exact pJ2 _ _ (so h) ⟨rfl, rfl, trivial⟩ rfl
                  · refine wCF hp38 tm (s1 rfl) ?_
                    refine wSeq ?_
                    refine rg (cp (oEq rfl tm (cI (by decide))) (s1 rfl) <| cp (oAs tm) (s1 rfl) <| .nil) (by kernel_rfl) ?_
                    refine pSeq ?_
                    rcases ic h with ⟨hp40, h⟩ | ⟨hp40, h⟩
                    · refine wCT hp40 tm (s1 rfl) ?_
                      obtain ⟨y41, hy41, h⟩ := bd h
                      refine rg (cp (oLd t42 tm) (s1 rfl) <| cp (oFldP o72_1 tm) (s1 rfl) <| cr (oLdB (n := 1) (k := 1) rfl rfl rfl t3 tm) (s1 rfl) <| cp (oFldP o72_1 tm) (s1 rfl) <| cr (oLdB (n := 2) (k := 1) rfl rfl rfl t3 tm) (s1 rfl) <| cp (oCall rfl (reticentref01_Join.ok hy41) b35 (opds_cons tm (opds_cons tm (opds_cons tm opds_nil)))) (s3 rfl rfl rfl) <| cp (oFldP o72_1 tm) (s1 rfl) <| cwn (oSt (n := 0) (k := 1) rfl rfl rfl rfl z3 tm tm) (s2 rfl rfl) <| .nil) (by kernel_rfl) ?_
                      refine pBlkN ?_
                      exact pJ2 _ _ (so h) ⟨rfl, rfl, trivial⟩ rfl
                    · refine wCF hp40 tm (s1 rfl) ?_
                      refine wSeq ?_
                      refine rg (cp (oEq rfl tm (cI (by decide))) (s1 rfl) <| cp (oAs tm) (s1 rfl) <| .nil) (by kernel_rfl) ?_
                      refine pSeq ?_
                      rcases ic h with ⟨hp42, h⟩ | ⟨hp42, h⟩
                      · refine wCT hp42 tm (s1 rfl) ?_
                        obtain ⟨y43, hy43, h⟩ := bd h
                        refine rg (cp (oLd t42 tm) (s1 rfl) <| cp (oFldP o72_1 tm) (s1 rfl) <| cr (oLdB (n := 1) (k := 1) rfl rfl rfl t3 tm) (s1 rfl) <| cp (oFldP o72_1 tm) (s1 rfl) <| cr (oLdB (n := 2) (k := 1) rfl rfl rfl t3 tm) (s1 rfl) <| cp (oCall rfl (reticentref01_Meet.ok hy43) b36 (opds_cons tm (opds_cons tm (opds_cons tm opds_nil)))) (s3 rfl rfl rfl) <| cp (oFldP o72_1 tm) (s1 rfl) <| cwn (oSt (n := 0) (k := 1) rfl rfl rfl rfl z3 tm tm) (s2 rfl rfl) <| .nil) (by kernel_rfl) ?_
                        refine pBlkN ?_
                        exact pJ2 _ _ (so h) ⟨rfl, rfl, trivial⟩ rfl
                      · refine wCF hp42 tm (s1 rfl) ?_
                        refine wSkip ?_
                        refine pBlkN ?_
                        exact pJ2 _ _ (so h) ⟨rfl, rfl, trivial⟩ rfl
            · rintro x28 x29 rfl
              replace h := hk1
              refine pSeq ?_
              refine wSeq ?_
              refine rg (cr (oLdA (n := 0) (fs := f_reticentref07_V) (u := ⟨x28, x29, (⟨false, 0, y13.From⟩ : reticentref07_V).From⟩) rfl ⟨rfl, rfl, rfl, trivial⟩ t72 tm) (s1 rfl) <| cwn (oStA (n := 3) (fs := f_reticentref07_V) rfl rfl z72 tm tm) (s2 rfl rfl) <| .nil) (by kernel_rfl) ?_
              refine pSeq ?_
              refine wRet ?_
              obtain rfl := so h
              exact pR1 (.inl rfl) rfl (.box (n := 3) (fs := f_reticentref07_V) (u := ⟨(⟨x28, x29, (⟨false, 0, y13.From⟩ : reticentref07_V).From⟩ : reticentref07_V).Is, (⟨x28, x29, (⟨false, 0, y13.From⟩ : reticentref07_V).From⟩ : reticentref07_V).A, (⟨x28, x29, (⟨false, 0, y13.From⟩ : reticentref07_V).From⟩ : reticentref07_V).From⟩) rfl rfl ⟨rfl, rfl, rfl, trivial⟩ t72 <| .nil)
theorem reticentref07_Thing.okF : ∀ (k : Nat) {a0 : api_Lattice} {a1 : List Int} {a2 : List Int} {a3 : Int} {r : reticentref07_V}, reticentref07_Thing.F k a0 a1 a2 a3 = some r → FnA Try.prog 89 [(kR f_api_Lattice).sig a0, (kL (kI .i64)).sig a1, (kL (kI .i64)).sig a2, (kI .i64).sig a3] ((kR f_reticentref07_V).sig r)
  | 0, _, _, _, _, _, h => by cases h
  | k + 1, _, _, _, _, _, h => reticentref07_Thing.okB (fun h => reticentref07_Thing.okF k h) h
theorem reticentref07_Thing.ok {a0 : api_Lattice} {a1 : List Int} {a2 : List Int} {a3 : Int} {r : reticentref07_V} (h : reticentref07_Thing.f a0 a1 a2 a3 = some r) : FnA Try.prog 89 [(kR f_api_Lattice).sig a0, (kL (kI .i64)).sig a1, (kL (kI .i64)).sig a2, (kI .i64).sig a3] ((kR f_reticentref07_V).sig r) := reticentref07_Thing.okF 1000 h

theorem reticentref07_Judge.ok {a0 : api_Lattice} {a1 : List Int} {a2 : List Int} {r : reticentref07_V} (h : reticentref07_Judge.f a0 a1 a2 = some r) : FnA Try.prog 56 [(kR f_api_Lattice).sig a0, (kL (kI .i64)).sig a1, (kL (kI .i64)).sig a2] ((kR f_reticentref07_V).sig r) := by
  refine fnIntro Try.func56 rfl (by kernel_rfl) fun H0 w0 => ?_
  unfold reticentref07_Judge.f at h
  refine wSeq ?_
  refine rg (cp (oBox tm) (s1 rfl) <| cw (oAlloc (id := 6) (ls := [.d kB false, .d (kI .i64) 0, .d (kI .i64) 0]) ze72 (fun g => ⟨[(.bool false)], _, rfl, zB g.H, ⟨[(.int .i64 0)], _, rfl, zI_i64 g.H, ⟨[(.int .i64 0)], _, rfl, zI_i64 g.H, rfl⟩⟩⟩)) trivial <| .nil) (by kernel_rfl) ?_
  refine pSeq ?_
  refine wSeq ?_
  obtain ⟨y1, hy1, h⟩ := bd h
  refine rg (cp (oLd t42 tm) (s1 rfl) <| cp (oMv tm) (s1 rfl) <| cp (oMv tm) (s1 rfl) <| cp (oMv tm) (s1 rfl) <| cp (oLenL u22 tm) (s1 rfl) <| cp (oSub tm (cI (by decide))) (s1 rfl) <| cp (oCall rfl (reticentref07_Thing.ok hy1) b89 (opds_cons tm (opds_cons tm (opds_cons tm (opds_cons tm opds_nil))))) ⟨rfl, rfl, rfl, rfl, trivial⟩ <| cwn (oStA (n := 0) (fs := f_reticentref07_V) rfl rfl z72 tm tm) (s2 rfl rfl) <| .nil) (by kernel_rfl) ?_
  refine pSeq ?_
  refine wRet ?_
  obtain rfl := so h
  exact pR1 (.inl rfl) rfl (.box (n := 0) (fs := f_reticentref07_V) (u := ⟨y1.Is, y1.A, y1.From⟩) rfl rfl ⟨rfl, rfl, rfl, trivial⟩ t72 <| .nil)

theorem reticentlaw07_JudgeComes.ok {a0 : api_Lattice} {a1 : List Int} {a2 : List Int} {r : Bool} (h : reticentlaw07_JudgeComes.f a0 a1 a2 = some r) : FnA Try.prog 11 [(kR f_api_Lattice).sig a0, (kL (kI .i64)).sig a1, (kL (kI .i64)).sig a2] (kB.sig r) := by
  refine fnIntro Try.func11 rfl (by kernel_rfl) fun H0 w0 => ?_
  unfold reticentlaw07_JudgeComes.f at h
  refine wSeq ?_
  refine rg (cw (oBoxS (id := 3) (fs := f_api_Lattice) tm) (s1 rfl) <| cp (oAs cB) trivial <| .nil) (by kernel_rfl) ?_
  refine pSeq ?_
  refine wSeq ?_
  obtain ⟨y1, hy1, h⟩ := bd h
  obtain ⟨hc2, h⟩ := ib h
  obtain ⟨hc3, h⟩ := ib h
  refine rgD hm (cr (oLdA (n := 0) (fs := f_api_Lattice) (u := ⟨a0.Names, a0.Up⟩) rfl ⟨rfl, rfl, trivial⟩ t42 tm) (s1 rfl) <| cp (oCall rfl (reticentlaw07_few.ok hy1) b51 (opds_cons tm opds_nil)) (s1 rfl) <| cp (oMv tm) (s1 rfl) <| cp (oMv tm) (s1 rfl) <| cp (oLenL u22 tm) (s1 rfl) <| cp (oMin tm (cI (by decide))) (s1 rfl) <| cp (oCutHi u22 z3 hc2.1 hc2.2 tm tm) (s2 rfl rfl) <| cp (oMv tm) (s1 rfl) <| cp (oMv tm) (s1 rfl) <| cp (oLenL u22 tm) (s1 rfl) <| cp (oMin tm (cI (by decide))) (s1 rfl) <| cp (oCutHi u22 z3 hc3.1 hc3.2 tm tm) (s2 rfl rfl) <| cwn (oStA (n := 0) (fs := f_api_Lattice) rfl rfl z42 tm tm) (s2 rfl rfl) <| cp (oAs tm) (s1 rfl) <| cp (oAs tm) (s1 rfl) <| .nil) (by kernel_rfl) (by kernel_rfl) ?_
  refine pSeq ?_
  refine wSeq ?_
  obtain ⟨y4, hy4, h⟩ := bd h
  refine rg (cr (oLdA (n := 0) (fs := f_api_Lattice) (u := ⟨y1.Names, y1.Up⟩) rfl ⟨rfl, rfl, trivial⟩ t42 tm) (s1 rfl) <| cp (oMv tm) (s1 rfl) <| cp (oMv tm) (s1 rfl) <| cp (oCall rfl (judge_Cond.ok hy4) b52 (opds_cons tm (opds_cons tm (opds_cons tm opds_nil)))) (s3 rfl rfl rfl) <| cp (oMv tm) (s1 rfl) <| cp (oExt (k := 0) rfl tm) (s1 rfl) <| cp (oExt (k := 1) rfl tm) (s1 rfl) <| cp (oAs tm) (s1 rfl) <| cp (oAs tm) (s1 rfl) <| .nil) (by kernel_rfl) ?_
  refine pSeq ?_
  refine wSeq ?_
  obtain ⟨y5, hy5, h⟩ := bd h
  refine rg (cr (oLdA (n := 0) (fs := f_api_Lattice) (u := ⟨y1.Names, y1.Up⟩) rfl ⟨rfl, rfl, trivial⟩ t42 tm) (s1 rfl) <| cp (oMv tm) (s1 rfl) <| cp (oMv tm) (s1 rfl) <| cp (oCall rfl (judge_Label.ok hy5) b53 (opds_cons tm (opds_cons tm (opds_cons tm opds_nil)))) (s3 rfl rfl rfl) <| cp (oMv tm) (s1 rfl) <| cp (oExt (k := 0) rfl tm) (s1 rfl) <| cp (oExt (k := 1) rfl tm) (s1 rfl) <| cp (oAs tm) (s1 rfl) <| cp (oAs tm) (s1 rfl) <| .nil) (by kernel_rfl) ?_
  refine pSeq ?_
  refine wSeq ?_
  obtain ⟨y6, hy6, h⟩ := bd h
  obtain ⟨y7, hy7, h⟩ := bd h
  refine rgD hm (cr (oLdA (n := 0) (fs := f_api_Lattice) (u := ⟨y1.Names, y1.Up⟩) rfl ⟨rfl, rfl, trivial⟩ t42 tm) (s1 rfl) <| cp (oMv tm) (s1 rfl) <| cp (oMv tm) (s1 rfl) <| cp (oCall rfl (reticentref07_May.ok hy6) b54 (opds_cons tm (opds_cons tm (opds_cons tm (opds_cons cB opds_nil))))) (s3 rfl rfl rfl) <| cr (oLdA (n := 0) (fs := f_api_Lattice) (u := ⟨y1.Names, y1.Up⟩) rfl ⟨rfl, rfl, trivial⟩ t42 tm) (s1 rfl) <| cp (oMv tm) (s1 rfl) <| cp (oMv tm) (s1 rfl) <| cp (oCall rfl (reticentref07_May.ok hy7) b54 (opds_cons tm (opds_cons tm (opds_cons tm (opds_cons cB opds_nil))))) (s3 rfl rfl rfl) <| cp (oAs tm) (s1 rfl) <| cp (oAs tm) (s1 rfl) <| .nil) (by kernel_rfl) (by kernel_rfl) ?_
  refine pSeq ?_
  refine wSeq ?_
  obtain ⟨o1, h, hk1⟩ := bd h
  refine wJ1 (fun x11 => x11 = o1) (fun x11 => [(1, .d ((kL (kI .i64)).sig (lCut a1 0 (if 45 < (a1.length : Int) then 45 else (a1.length : Int))))), (2, .d ((kL (kI .i64)).sig (lCut a2 0 (if 6 < (a2.length : Int) then 6 else (a2.length : Int))))), (3, .p 3 0), (7, .d (kB.sig y4.1)), (9, .d ((kI .i64).sig y5.1)), (11, .d ((kI .i64).sig y6)), (12, .d ((kI .i64).sig y7)), (58, .d (kB.sig x11))]) (fun x11 => [.box 3 42 [.d (kL kS) y1.Names, .d (kL (kI .u32)) y1.Up]]) ?_ ?_
  · rcases ic h with ⟨hp12, h⟩ | ⟨hp12, h⟩
    · rcases ic h with ⟨hp13, h⟩ | ⟨hp13, h⟩
      · obtain ⟨y14, hy14, h⟩ := bd h
        refine rg (cp (oMv tm) (s1 rfl) <| cp (oMv tm) (s1 rfl) <| cp (oNe rfl tm tm) (s2 rfl rfl) <| cp (oMv tm) (s1 rfl) <| cgB (nf hp12) rfl rfl (oMv tm) (s1 rfl) <| cgB (nf hp12) rfl rfl (oMv tm) (s1 rfl) <| cgB (nf hp12) rfl rfl (oNe rfl tm tm) (s2 rfl rfl) <| cp (oPkF (nf hp12) tm tm) (s2 rfl rfl) <| cp (oMv tm) (s1 rfl) <| cgB (nf hp13) rfl rfl (oCall rfl (reticentlaw07_alive.ok hy14) b55 opds_nil) trivial <| cgB (nf hp13) rfl rfl (oNot tm) (s1 rfl) <| cp (oPkF (nf hp13) tm tm) (s2 rfl rfl) <| .nil) (by kernel_rfl) ?_
        exact pJ1 _ (so h) ⟨rfl, rfl, rfl, rfl, rfl, rfl, rfl, rfl, trivial⟩ rfl
      · refine rg (cp (oMv tm) (s1 rfl) <| cp (oMv tm) (s1 rfl) <| cp (oNe rfl tm tm) (s2 rfl rfl) <| cp (oMv tm) (s1 rfl) <| cgB (nf hp12) rfl rfl (oMv tm) (s1 rfl) <| cgB (nf hp12) rfl rfl (oMv tm) (s1 rfl) <| cgB (nf hp12) rfl rfl (oNe rfl tm tm) (s2 rfl rfl) <| cp (oPkF (nf hp12) tm tm) (s2 rfl rfl) <| cp (oMv tm) (s1 rfl) <| csB (nt hp13) rfl rfl <| csB (nt hp13) rfl rfl <| cp (oPkT (nt hp13) tm cB) (s1 rfl) <| .nil) (by kernel_rfl) ?_
        exact pJ1 _ (so h) ⟨rfl, rfl, rfl, rfl, rfl, rfl, rfl, rfl, trivial⟩ rfl
    · refine rg (cp (oMv tm) (s1 rfl) <| cp (oMv tm) (s1 rfl) <| cp (oNe rfl tm tm) (s2 rfl rfl) <| cp (oMv tm) (s1 rfl) <| csB (nt hp12) rfl rfl <| csB (nt hp12) rfl rfl <| csB (nt hp12) rfl rfl <| cp (oPkT (nt hp12) tm cB) (s1 rfl) <| cp (oMv tm) (s1 rfl) <| csB rfl rfl rfl <| csB rfl rfl rfl <| cp (oPkT rfl tm cB) (s1 rfl) <| .nil) (by kernel_rfl) ?_
      exact pJ1 _ (so h) ⟨rfl, rfl, rfl, rfl, rfl, rfl, rfl, rfl, trivial⟩ rfl
  · rintro x11 rfl
    replace h := hk1
    rcases ic h with ⟨hp15, h⟩ | ⟨hp15, h⟩
    · refine wBT hp15 tm (s1 rfl) ?_
      refine wSeq ?_
      refine rg (cp (oAs cB) trivial <| .nil) (by kernel_rfl) ?_
      refine pSeq ?_
      refine wRet ?_
      refine pThenR ?_
      obtain rfl := so h
      exact pR1 (.inl rfl) rfl (.tmp rfl <| .nil)
    · refine wBF hp15 tm (s1 rfl) ?_
      refine wSkip ?_
      refine pSeq ?_
      refine wSeq ?_
      obtain ⟨o1, h, hk1⟩ := bd h
      refine wJ1 (fun x19 => x19 = o1) (fun x19 => [(1, .d ((kL (kI .i64)).sig (lCut a1 0 (if 45 < (a1.length : Int) then 45 else (a1.length : Int))))), (2, .d ((kL (kI .i64)).sig (lCut a2 0 (if 6 < (a2.length : Int) then 6 else (a2.length : Int))))), (3, .p 3 0), (9, .d ((kI .i64).sig y5.1)), (12, .d ((kI .i64).sig y7)), (76, .d (kB.sig x19))]) (fun x19 => [.box 3 42 [.d (kL kS) y1.Names, .d (kL (kI .u32)) y1.Up]]) ?_ ?_
      · rcases ic h with ⟨hp20, h⟩ | ⟨hp20, h⟩
        · obtain ⟨y21, hy21, h⟩ := bd h
          rcases ic h with ⟨hp22, h⟩ | ⟨hp22, h⟩
          · refine rg (cp (oMv tm) (s1 rfl) <| cp (oEq rfl tm (cI (by decide))) (s1 rfl) <| cp (oMv tm) (s1 rfl) <| cgB (decide_eq_true hp20) rfl rfl (oMv tm) (s1 rfl) <| crgB (decide_eq_true hp20) rfl rfl (oLdA (n := 0) (fs := f_api_Lattice) (u := ⟨y1.Names, y1.Up⟩) rfl ⟨rfl, rfl, trivial⟩ t42 tm) (s1 rfl) <| cgB (decide_eq_true hp20) rfl rfl (oMv tm) (s1 rfl) <| cgB (decide_eq_true hp20) rfl rfl (oMv tm) (s1 rfl) <| cgB (decide_eq_true hp20) rfl rfl (oCall rfl (reticentref07_Judge.ok hy21) b56 (opds_cons tm (opds_cons tm (opds_cons tm opds_nil)))) (s3 rfl rfl rfl) <| cgB (decide_eq_true hp20) rfl rfl (oField (fs := f_reticentref07_V) (k := 0) rfl ff72_0 t4 tm) (s1 rfl) <| cgB (decide_eq_true hp20) rfl rfl (oBNe u4 rfl tm tm) (s2 rfl rfl) <| cp (oPkT (decide_eq_true hp20) tm tm) (s2 rfl rfl) <| cp (oMv tm) (s1 rfl) <| cgB (nf hp22) rfl rfl (oMv tm) (s1 rfl) <| cgB (nf hp22) rfl rfl (oNe rfl tm (cI (by decide))) (s1 rfl) <| cgB (nf hp22) rfl rfl (oMv tm) (s1 rfl) <| csB (nf hp20) rfl rfl <| cgB (nf hp22) rfl rfl (oPkF (nf hp20) tm cB) (s1 rfl) <| cp (oPkF (nf hp22) tm tm) (s2 rfl rfl) <| .nil) (by kernel_rfl) ?_
            exact pJ1 _ (so h) ⟨rfl, rfl, rfl, rfl, rfl, rfl, trivial⟩ rfl
          · refine rg (cp (oMv tm) (s1 rfl) <| cp (oEq rfl tm (cI (by decide))) (s1 rfl) <| cp (oMv tm) (s1 rfl) <| cgB (decide_eq_true hp20) rfl rfl (oMv tm) (s1 rfl) <| crgB (decide_eq_true hp20) rfl rfl (oLdA (n := 0) (fs := f_api_Lattice) (u := ⟨y1.Names, y1.Up⟩) rfl ⟨rfl, rfl, trivial⟩ t42 tm) (s1 rfl) <| cgB (decide_eq_true hp20) rfl rfl (oMv tm) (s1 rfl) <| cgB (decide_eq_true hp20) rfl rfl (oMv tm) (s1 rfl) <| cgB (decide_eq_true hp20) rfl rfl (oCall rfl (reticentref07_Judge.ok hy21) b56 (opds_cons tm (opds_cons tm (opds_cons tm opds_nil)))) (s3 rfl rfl rfl) <| cgB (decide_eq_true hp20) rfl rfl (oField (fs := f_reticentref07_V) (k := 0) rfl ff72_0 t4 tm) (s1 rfl) <| cgB (decide_eq_true hp20) rfl rfl (oBNe u4 rfl tm tm) (s2 rfl rfl) <| cp (oPkT (decide_eq_true hp20) tm tm) (s2 rfl rfl) <| cp (oMv tm) (s1 rfl) <| csB (nt hp22) rfl rfl <| csB (nt hp22) rfl rfl <| csB (nt hp22) rfl rfl <| csU rfl rfl <| csB (nt hp22) rfl rfl <| cp (oPkT (nt hp22) tm cB) (s1 rfl) <| .nil) (by kernel_rfl) ?_
            exact pJ1 _ (so h) ⟨rfl, rfl, rfl, rfl, rfl, rfl, trivial⟩ rfl
        · refine rg (cp (oMv tm) (s1 rfl) <| cp (oEq rfl tm (cI (by decide))) (s1 rfl) <| cp (oMv tm) (s1 rfl) <| csB (decide_eq_false hp20) rfl rfl <| csB (decide_eq_false hp20) rfl rfl <| csB (decide_eq_false hp20) rfl rfl <| csB (decide_eq_false hp20) rfl rfl <| csB (decide_eq_false hp20) rfl rfl <| csB (decide_eq_false hp20) rfl rfl <| csB (decide_eq_false hp20) rfl rfl <| cp (oPkF (decide_eq_false hp20) tm cB) (s1 rfl) <| cp (oMv tm) (s1 rfl) <| cgB rfl rfl rfl (oMv tm) (s1 rfl) <| cgB rfl rfl rfl (oNe rfl tm (cI (by decide))) (s1 rfl) <| cgB rfl rfl rfl (oMv tm) (s1 rfl) <| cgB (nt hp20) rfl rfl (oMv tm) (s1 rfl) <| cgB rfl rfl rfl (oPkT (nt hp20) tm tm) (s2 rfl rfl) <| cp (oPkF rfl tm tm) (s2 rfl rfl) <| .nil) (by kernel_rfl) ?_
          exact pJ1 _ (so h) ⟨rfl, rfl, rfl, rfl, rfl, rfl, trivial⟩ rfl
      · rintro x19 rfl
        replace h := hk1
        rcases ic h with ⟨hp23, h⟩ | ⟨hp23, h⟩
        · refine wBT hp23 tm (s1 rfl) ?_
          refine wSeq ?_
          refine rg (cp (oAs cB) trivial <| .nil) (by kernel_rfl) ?_
          refine pSeq ?_
          refine wRet ?_
          refine pThenR ?_
          obtain rfl := so h
          exact pR1 (.inl rfl) rfl (.tmp rfl <| .nil)
        · refine wBF hp23 tm (s1 rfl) ?_
          refine wSkip ?_
          refine pSeq ?_
          obtain ⟨o1, h, hk1⟩ := bd h
          refine wJ1 (fun x27 => x27 = o1) (fun x27 => [(6, .d (kB.sig x27))]) (fun x27 => [.box 3 42 [.d (kL kS) y1.Names, .d (kL (kI .u32)) y1.Up]]) ?_ ?_
          · rcases ic h with ⟨hp28, h⟩ | ⟨hp28, h⟩
            · obtain ⟨y29, hy29, h⟩ := bd h
              rcases ic h with ⟨hp30, h⟩ | ⟨hp30, h⟩
              · refine rg (cp (oMv tm) (s1 rfl) <| cp (oEq rfl tm (cI (by decide))) (s1 rfl) <| cp (oMv tm) (s1 rfl) <| cgB (decide_eq_true hp28) rfl rfl (oMv tm) (s1 rfl) <| crgB (decide_eq_true hp28) rfl rfl (oLdA (n := 0) (fs := f_api_Lattice) (u := ⟨y1.Names, y1.Up⟩) rfl ⟨rfl, rfl, trivial⟩ t42 tm) (s1 rfl) <| cgB (decide_eq_true hp28) rfl rfl (oMv tm) (s1 rfl) <| cgB (decide_eq_true hp28) rfl rfl (oMv tm) (s1 rfl) <| cgB (decide_eq_true hp28) rfl rfl (oCall rfl (reticentref07_Judge.ok hy29) b56 (opds_cons tm (opds_cons tm (opds_cons tm opds_nil)))) (s3 rfl rfl rfl) <| cgB (decide_eq_true hp28) rfl rfl (oField (fs := f_reticentref07_V) (k := 1) rfl ff72_1 t3 tm) (s1 rfl) <| cgB (decide_eq_true hp28) rfl rfl (oEq rfl tm tm) (s2 rfl rfl) <| cp (oPkT (decide_eq_true hp28) tm tm) (s2 rfl rfl) <| cp (oMv tm) (s1 rfl) <| csB (decide_eq_true hp30) rfl rfl <| csB (decide_eq_true hp30) rfl rfl <| csB (decide_eq_true hp30) rfl rfl <| csU rfl rfl <| csU rfl rfl <| csB (decide_eq_true hp30) rfl rfl <| cp (oPkT (decide_eq_true hp30) tm cB) (s1 rfl) <| cp (oAs tm) (s1 rfl) <| .nil) (by kernel_rfl) ?_
                exact pJ1 _ (so h) ⟨rfl, trivial⟩ rfl
              · refine rg (cp (oMv tm) (s1 rfl) <| cp (oEq rfl tm (cI (by decide))) (s1 rfl) <| cp (oMv tm) (s1 rfl) <| cgB (decide_eq_true hp28) rfl rfl (oMv tm) (s1 rfl) <| crgB (decide_eq_true hp28) rfl rfl (oLdA (n := 0) (fs := f_api_Lattice) (u := ⟨y1.Names, y1.Up⟩) rfl ⟨rfl, rfl, trivial⟩ t42 tm) (s1 rfl) <| cgB (decide_eq_true hp28) rfl rfl (oMv tm) (s1 rfl) <| cgB (decide_eq_true hp28) rfl rfl (oMv tm) (s1 rfl) <| cgB (decide_eq_true hp28) rfl rfl (oCall rfl (reticentref07_Judge.ok hy29) b56 (opds_cons tm (opds_cons tm (opds_cons tm opds_nil)))) (s3 rfl rfl rfl) <| cgB (decide_eq_true hp28) rfl rfl (oField (fs := f_reticentref07_V) (k := 1) rfl ff72_1 t3 tm) (s1 rfl) <| cgB (decide_eq_true hp28) rfl rfl (oEq rfl tm tm) (s2 rfl rfl) <| cp (oPkT (decide_eq_true hp28) tm tm) (s2 rfl rfl) <| cp (oMv tm) (s1 rfl) <| cgB (decide_eq_false hp30) rfl rfl (oMv tm) (s1 rfl) <| cgB (decide_eq_false hp30) rfl rfl (oNe rfl tm (cI (by decide))) (s1 rfl) <| cgB (decide_eq_false hp30) rfl rfl (oMv tm) (s1 rfl) <| csB (nf hp28) rfl rfl <| csB (nf hp28) rfl rfl <| cgB (decide_eq_false hp30) rfl rfl (oPkF (nf hp28) tm cB) (s1 rfl) <| cp (oPkF (decide_eq_false hp30) tm tm) (s2 rfl rfl) <| cp (oAs tm) (s1 rfl) <| .nil) (by kernel_rfl) ?_
                exact pJ1 _ (so h) ⟨rfl, trivial⟩ rfl
            · refine rg (cp (oMv tm) (s1 rfl) <| cp (oEq rfl tm (cI (by decide))) (s1 rfl) <| cp (oMv tm) (s1 rfl) <| csB (decide_eq_false hp28) rfl rfl <| csB (decide_eq_false hp28) rfl rfl <| csB (decide_eq_false hp28) rfl rfl <| csB (decide_eq_false hp28) rfl rfl <| csB (decide_eq_false hp28) rfl rfl <| csB (decide_eq_false hp28) rfl rfl <| csB (decide_eq_false hp28) rfl rfl <| cp (oPkF (decide_eq_false hp28) tm cB) (s1 rfl) <| cp (oMv tm) (s1 rfl) <| cgB rfl rfl rfl (oMv tm) (s1 rfl) <| cgB rfl rfl rfl (oNe rfl tm (cI (by decide))) (s1 rfl) <| cgB rfl rfl rfl (oMv tm) (s1 rfl) <| cgB (nt hp28) rfl rfl (oMv tm) (s1 rfl) <| cgB (nt hp28) rfl rfl (oEq rfl tm (cI (by decide))) (s1 rfl) <| cgB rfl rfl rfl (oPkT (nt hp28) tm tm) (s2 rfl rfl) <| cp (oPkF rfl tm tm) (s2 rfl rfl) <| cp (oAs tm) (s1 rfl) <| .nil) (by kernel_rfl) ?_
              exact pJ1 _ (so h) ⟨rfl, trivial⟩ rfl
          · rintro x27 rfl
            replace h := hk1
            refine wRet ?_
            obtain rfl := so h
            exact pR1 (.inl rfl) rfl (.tmp rfl <| .nil)

theorem rule_Uses.ok {a0 : List Int} {r : Int × Int} (h : rule_Uses.f a0 = some r) : FnA Try.prog 48 [(kL (kI .i64)).sig a0] (tup [(kI .u32).sig r.1, (kI .i64).sig r.2]) := by
  refine fnIntro Try.func48 rfl (by kernel_rfl) fun H0 w0 => ?_
  unfold rule_Uses.f at h
  refine wSeq ?_
  refine rg (cp (oAs (cI (by decide))) trivial <| cp (oAs (cI (by decide))) trivial <| .nil) (by kernel_rfl) ?_
  refine pSeq ?_
  refine wSeq ?_
  refine wSeq ?_
  obtain ⟨y1, hy1, h⟩ := bd h
  refine rg (cp (oMv tm) (s1 rfl) <| cp (oCall rfl (rule_made.ok hy1) b85 (opds_cons tm opds_nil)) (s1 rfl) <| cp (oMv tm) (s1 rfl) <| cp (oExt (k := 0) rfl tm) (s1 rfl) <| cp (oExt (k := 1) rfl tm) (s1 rfl) <| cp (oAs tm) (s1 rfl) <| cp (oAs tm) (s1 rfl) <| .nil) (by kernel_rfl) ?_
  refine pSeq ?_
  refine wSeq ?_
  refine rg (cp (oMv tm) (s1 rfl) <| cp (oNot tm) (s1 rfl) <| .nil) (by kernel_rfl) ?_
  refine pSeq ?_
  rcases ic h with ⟨hp2, h⟩ | ⟨hp2, h⟩
  · refine wBT hp2 tm (s1 rfl) ?_
    refine wSeq ?_
    refine rg (cp (oAs (cI (by decide))) trivial <| cp (oAs (cI (by decide))) trivial <| .nil) (by kernel_rfl) ?_
    refine pSeq ?_
    refine wRet ?_
    refine pThenR ?_
    obtain rfl := so h
    exact pRn (.inl rfl) rfl rfl (.tmp rfl <| .tmp rfl <| .nil)
  · refine wBF hp2 tm (s1 rfl) ?_
    refine wSkip ?_
    refine pSeq ?_
    refine wSeq ?_
    refine rg (cp (oAs (cI (by decide))) trivial <| .nil) (by kernel_rfl) ?_
    refine pSeq ?_
    refine wSeq ?_
    refine wSeq ?_
    refine rg (cp (oMv tm) (s1 rfl) <| cp (oLenL u22 tm) (s1 rfl) <| cp (oMv (cI (by decide))) trivial <| .nil) (by kernel_rfl) ?_
    refine pSeq ?_
    obtain ⟨o1, h, hk1⟩ := bd h
    refine wK1 (fun x33 => x33 = o1) (fun x33 => [(6, .d ((kI .u32).sig x33))]) (fun x33 => []) ?_ ?_
    · refine wBlock (wLoop ?_)
      refine lW (pc2 o1 (fun v31 v32 => [(6, .d ((kI .u32).sig v32)), (16, .d ((kL (kI .i64)).sig a0)), (17, .d ((kI .i64).sig (a0.length : Int))), (18, .d ((kI .i64).sig v31))]) (fun v31 v32 => []) (rule_Uses.l0.partial_correctness a0) ?_ _ _ h) ⟨rfl, rfl, rfl, rfl, trivial⟩ rfl
      clear h
      intro f' ih v31 v32 h
      refine wSeq ?_
      refine rg (cp (oLt rfl tm tm) (s2 rfl rfl) <| .nil) (by kernel_rfl) ?_
      refine pSeq ?_
      refine wSeq ?_
      rcases ic h with ⟨hp34, h⟩ | ⟨hp34, h⟩
      · refine wCT hp34 tm (s1 rfl) ?_
        refine wSkip ?_
        refine pSeq ?_
        obtain ⟨o2, h, hk2⟩ := bd h
        refine wJ1 (fun x41 => x41 = o2) (fun x41 => [(6, .d ((kI .u32).sig x41)), (16, .d ((kL (kI .i64)).sig a0)), (17, .d ((kI .i64).sig (a0.length : Int))), (18, .d ((kI .i64).sig v31))]) (fun x41 => []) ?_ ?_
        · refine wBlock ?_
          refine wSeq ?_
          obtain ⟨y42, hy42, h⟩ := bd h
          refine rg (cp (oIdx u22 z3 hy42 tm tm) (s2 rfl rfl) <| cp (oLd t3 tm) (s1 rfl) <| cp (oAs tm) (s1 rfl) <| .nil) (by kernel_rfl) ?_
          refine pSeq ?_
          obtain ⟨o3, h, hk3⟩ := bd h
          refine wJ1 (fun x44 => x44 = o3) (fun x44 => [(6, .d ((kI .u32).sig v32)), (8, .d ((kI .i64).sig y42)), (16, .d ((kL (kI .i64)).sig a0)), (17, .d ((kI .i64).sig (a0.length : Int))), (18, .d ((kI .i64).sig v31)), (27, .d (kB.sig x44))]) (fun x44 => []) ?_ ?_
          · rcases ic h with ⟨hp45, h⟩ | ⟨hp45, h⟩
            · refine rg (cp (oMv tm) (s1 rfl) <| cp (oGe rfl tm (cI (by decide))) (s1 rfl) <| cp (oMv tm) (s1 rfl) <| cgB (decide_eq_true hp45) rfl rfl (oMv tm) (s1 rfl) <| cgB (decide_eq_true hp45) rfl rfl (oLe rfl tm (cI (by decide))) (s1 rfl) <| cp (oPkT (decide_eq_true hp45) tm tm) (s2 rfl rfl) <| .nil) (by kernel_rfl) ?_
              exact pJ1 _ (so h) ⟨rfl, rfl, rfl, rfl, rfl, rfl, trivial⟩ rfl
            · refine rg (cp (oMv tm) (s1 rfl) <| cp (oGe rfl tm (cI (by decide))) (s1 rfl) <| cp (oMv tm) (s1 rfl) <| csB (decide_eq_false hp45) rfl rfl <| csB (decide_eq_false hp45) rfl rfl <| cp (oPkF (decide_eq_false hp45) tm cB) (s1 rfl) <| .nil) (by kernel_rfl) ?_
              exact pJ1 _ (so h) ⟨rfl, rfl, rfl, rfl, rfl, rfl, trivial⟩ rfl
          · rintro x44 rfl
            replace h := hk3
            rcases ic h with ⟨hp46, h⟩ | ⟨hp46, h⟩
            · refine wBT hp46 tm (s1 rfl) ?_
              obtain ⟨hc47, h⟩ := ib h
              refine rg (cp (oMv tm) (s1 rfl) <| cp (oMv tm) (s1 rfl) <| cp (oSub tm (cI (by decide))) (s1 rfl) <| cp (oShl hc47 (cI (by decide)) tm) (s1 rfl) <| cp (oOr tm tm) (s2 rfl rfl) <| cp (oAs tm) (s1 rfl) <| .nil) (by kernel_rfl) ?_
              refine pBlkN ?_
              exact pJ1 _ (so h) ⟨rfl, rfl, rfl, rfl, trivial⟩ rfl
            · refine wBF hp46 tm (s1 rfl) ?_
              refine wSkip ?_
              refine pBlkN ?_
              exact pJ1 _ (so h) ⟨rfl, rfl, rfl, rfl, trivial⟩ rfl
        · rintro x41 rfl
          replace h := hk2
          refine rg (cp (oAdd tm (cI (by decide))) (s1 rfl) <| cp (oMv tm) (s1 rfl) <| .nil) (by kernel_rfl) ?_
          exact pLoop (lW (ih _ _ h) ⟨rfl, rfl, rfl, rfl, trivial⟩ rfl)
      · refine wCF hp34 tm (s1 rfl) ?_
        refine wExit ?_
        refine pThenX ?_
        refine pThenX ?_
        refine pBlkX ?_
        exact pJ1 _ (so h) ⟨rfl, trivial⟩ rfl
    · rintro x33 rfl
      replace h := hk1
      refine pSeq ?_
      refine wSeq ?_
      refine rg (cp (oMv tm) (s1 rfl) <| cp (oAs tm) (s1 rfl) <| cp (oAs (cI (by decide))) trivial <| .nil) (by kernel_rfl) ?_
      refine pSeq ?_
      refine wRet ?_
      obtain rfl := so h
      exact pRn (.inl rfl) rfl rfl (.tmp rfl <| .tmp rfl <| .nil)

theorem slices_Clone_int_int_nn.okN {a0 : List Int} {r : (List Int)} (h : slices_Clone_int_int_nn.f a0 = some r) : FnS Try.prog 58 [.d (sNN (kI .i64) a0)] [] [] (.v 80000) [.row 80000 3 (kI .i64) r] := by
  refine fnIntroS Try.func58 rfl (by kernel_rfl) fun X H0 w0 pv => ?_
  unfold slices_Clone_int_int_nn.f at h
  refine wSeq ?_
  refine rg (cp (oAs cV) trivial <| .nil) (by kernel_rfl) ?_
  refine pSeq ?_
  refine wSeq ?_
  refine wSeq ?_
  refine rg (cp (oMv tm) (s1 rfl) <| cp (oEqNF (d := (kI .i64)) u22 tm cV) (s1 rfl) <| .nil) (by kernel_rfl) ?_
  refine pSeq ?_
  refine wCondF tm (s1 rfl) ?_
  refine wSkip ?_
  refine pSeq ?_
  refine wSeq ?_
  obtain ⟨hc1, h⟩ := ib h
  refine rg (cw (oLitR (id := 5) (d := (kI .i64)) el22 (by decide) rfl rfl rfl e0) trivial <| cp (oMv tm) (s1 rfl) <| cw (oApp (n := 0) (id' := 7) el22 (by decide) rfl (by decide) hc1 tm tNN) (s2 rfl rfl) <| cp (oAs tm) (s1 rfl) <| .nil) (by kernel_rfl) ?_
  refine pSeq ?_
  refine wRet ?_
  obtain rfl := so h
  refine pSub (Γ' := [(2, .v 7)]) ⟨rfl, trivial⟩ ?_
  refine pRen 7 80000 rfl ?_
  exact pSv [0] rfl rfl (.inl rfl) rfl rfl
theorem slices_Clone_int_int_nn.ok {a0 : List Int} {r : (List Int)} (h : slices_Clone_int_int_nn.f a0 = some r) : FnS Try.prog 58 [.d ((kL (kI .i64)).sig a0)] [] [] (.v 80000) [.row 80000 3 (kI .i64) r] :=
  libClone Try.slices_Clone_nil (by rintro rfl; have h' := h; unfold slices_Clone_int_int_nn.f at h'; split at h' <;> cases h'; rfl) (slices_Clone_int_int_nn.okN h)

theorem reticentlaw07_JudgeRises.ok {a0 : api_Lattice} {a1 : List Int} {a2 : List Int} {a3 : Int} {a4 : Int} {r : Bool} (h : reticentlaw07_JudgeRises.f a0 a1 a2 a3 a4 = some r) : FnA Try.prog 13 [(kR f_api_Lattice).sig a0, (kL (kI .i64)).sig a1, (kL (kI .i64)).sig a2, (kI .i64).sig a3, (kI .i64).sig a4] (kB.sig r) := by
  refine fnIntro Try.func13 rfl (by kernel_rfl) fun H0 w0 => ?_
  unfold reticentlaw07_JudgeRises.f at h
  refine wSeq ?_
  refine rg (cw (oBoxS (id := 5) (fs := f_api_Lattice) tm) (s1 rfl) <| cp (oAs cB) trivial <| .nil) (by kernel_rfl) ?_
  refine pSeq ?_
  refine wSeq ?_
  obtain ⟨y1, hy1, h⟩ := bd h
  obtain ⟨hc2, h⟩ := ib h
  obtain ⟨hc3, h⟩ := ib h
  refine rgD hm (cr (oLdA (n := 0) (fs := f_api_Lattice) (u := ⟨a0.Names, a0.Up⟩) rfl ⟨rfl, rfl, trivial⟩ t42 tm) (s1 rfl) <| cp (oCall rfl (reticentlaw07_few.ok hy1) b51 (opds_cons tm opds_nil)) (s1 rfl) <| cp (oMv tm) (s1 rfl) <| cp (oMv tm) (s1 rfl) <| cp (oLenL u22 tm) (s1 rfl) <| cp (oMin tm (cI (by decide))) (s1 rfl) <| cp (oCutHi u22 z3 hc2.1 hc2.2 tm tm) (s2 rfl rfl) <| cp (oMv tm) (s1 rfl) <| cp (oMv tm) (s1 rfl) <| cp (oLenL u22 tm) (s1 rfl) <| cp (oMin tm (cI (by decide))) (s1 rfl) <| cp (oCutHi u22 z3 hc3.1 hc3.2 tm tm) (s2 rfl rfl) <| cwn (oStA (n := 0) (fs := f_api_Lattice) rfl rfl z42 tm tm) (s2 rfl rfl) <| cp (oAs tm) (s1 rfl) <| cp (oAs tm) (s1 rfl) <| .nil) (by kernel_rfl) (by kernel_rfl) ?_
  refine pSeq ?_
  refine wSeq ?_
  refine rg (cp (oMv tm) (s1 rfl) <| cp (oRem (by decide) tm (cI (by decide))) (s1 rfl) <| cp (oAdd tm (cI (by decide))) (s1 rfl) <| cp (oRem (by decide) tm (cI (by decide))) (s1 rfl) <| cp (oAs tm) (s1 rfl) <| .nil) (by kernel_rfl) ?_
  refine pSeq ?_
  refine wSeq ?_
  obtain ⟨y4, hy4, h⟩ := bd h
  refine rg (cp (oMv tm) (s1 rfl) <| cm (oCallS (rest := [.box 5 42 [.d (kL kS) y1.Names, .d (kL (kI .u32)) y1.Up]]) (R' := [.row 330040 3 (kI .i64) y4, .box 5 42 [.d (kL kS) y1.Names, .d (kL (kI .u32)) y1.Up]]) (out' := .v 330040) [] [(80000, 330040)] [] [0] [0, 1] rfl (slices_Clone_int_int_nn.ok hy4) b58 (oE1 tm oE0) rfl rfl rfl rfl rfl rfl rfl rfl) (s1 rfl) <| cp (oAs tm) (s1 rfl) <| .nil) (by kernel_rfl) ?_
  refine pSeq ?_
  refine wSeq ?_
  refine wSeq ?_
  refine rg (cp (oMv tm) (s1 rfl) <| cr (oLenR (n := 0) u22 rfl tm) (s1 rfl) <| cp (oEq rfl tm (cI (by decide))) (s1 rfl) <| .nil) (by kernel_rfl) ?_
  refine pSeq ?_
  rcases ic h with ⟨hp5, h⟩ | ⟨hp5, h⟩
  · refine wCT hp5 tm (s1 rfl) ?_
    obtain ⟨y6, hy6, h⟩ := bd h
    refine rg (cp (oMv tm) (s1 rfl) <| cp (oMv tm) (s1 rfl) <| cp (oMv tm) (s1 rfl) <| cr (oIdxR (n := 0) u22 z3 rfl hy6 tm tm) (s2 rfl rfl) <| cwn (oStE (n := 0) rfl hy6 rfl z3 tm tm) (s2 rfl rfl) <| .nil) (by kernel_rfl) ?_
    refine pSeq ?_
    refine wSeq ?_
    obtain ⟨y7, hy7, h⟩ := bd h
    refine rg (cp (oMv tm) (s1 rfl) <| cp (oCall rfl (rule_Uses.ok hy7) b48 (opds_cons tm opds_nil)) (s1 rfl) <| cp (oMv tm) (s1 rfl) <| cp (oExt (k := 0) rfl tm) (s1 rfl) <| cp (oExt (k := 1) rfl tm) (s1 rfl) <| cp (oAs tm) (s1 rfl) <| cp (oAs tm) (s1 rfl) <| .nil) (by kernel_rfl) ?_
    refine pSeq ?_
    refine wSeq ?_
    refine wSeq ?_
    refine rg (cp (oMv tm) (s1 rfl) <| cp (oNe rfl tm (cI (by decide))) (s1 rfl) <| .nil) (by kernel_rfl) ?_
    refine pSeq ?_
    rcases ic h with ⟨hp8, h⟩ | ⟨hp8, h⟩
    · refine wNT hp8 tm (s1 rfl) ?_
      refine wSkip ?_
      refine pSeq ?_
      refine wSeq ?_
      obtain ⟨y9, hy9, h⟩ := bd h
      refine rg (cr (oLdA (n := 1) (fs := f_api_Lattice) (u := ⟨y1.Names, y1.Up⟩) rfl ⟨rfl, rfl, trivial⟩ t42 tm) (s1 rfl) <| cp (oMv tm) (s1 rfl) <| cp (oMv tm) (s1 rfl) <| cp (oCall rfl (judge_Cond.ok hy9) b52 (opds_cons tm (opds_cons tm (opds_cons tm opds_nil)))) (s3 rfl rfl rfl) <| cp (oMv tm) (s1 rfl) <| cp (oExt (k := 0) rfl tm) (s1 rfl) <| cp (oExt (k := 1) rfl tm) (s1 rfl) <| cp (oAs tm) (s1 rfl) <| cp (oAs tm) (s1 rfl) <| .nil) (by kernel_rfl) ?_
      refine pSeq ?_
      refine wSeq ?_
      obtain ⟨y10, hy10, h⟩ := bd h
      refine rg (cr (oLdA (n := 1) (fs := f_api_Lattice) (u := ⟨y1.Names, y1.Up⟩) rfl ⟨rfl, rfl, trivial⟩ t42 tm) (s1 rfl) <| cp (oMv tm) (s1 rfl) <| cp (oMv tm) (s1 rfl) <| cr (oCallB rfl (judge_Cond.ok hy10) (fT ⟨fK fB, fK fI, trivial⟩) b52 (rc1 (rD tm) (rc1 (rD tm) (rc1 (rR (n := 0) rfl) rn0)))) (s3 rfl rfl rfl) <| cp (oMv tm) (s1 rfl) <| cp (oExt (k := 0) rfl tm) (s1 rfl) <| cp (oExt (k := 1) rfl tm) (s1 rfl) <| cp (oAs tm) (s1 rfl) <| cp (oAs tm) (s1 rfl) <| .nil) (by kernel_rfl) ?_
      refine pSeq ?_
      refine wSeq ?_
      refine wWeak (Γ' := [(1, .d ((kL (kI .i64)).sig (lCut a1 0 (if 45 < (a1.length : Int) then 45 else (a1.length : Int))))), (2, .d ((kL (kI .i64)).sig (lCut a2 0 (if 4 < (a2.length : Int) then 4 else (a2.length : Int))))), (3, .d ((kI .i64).sig ((IntKind.i64.wrap ((a3.tmod 4) + 4)).tmod 4))), (4, .d ((kI .i64).sig a4)), (5, .p 5 0), (11, .v 330040), (12, .d ((kI .u32).sig y7.1)), (14, .d (kB.sig y9.1)), (15, .d ((kI .i64).sig y9.2)), (16, .d (kB.sig y10.1)), (17, .d ((kI .i64).sig y10.2))]) ⟨rfl, rfl, rfl, rfl, rfl, rfl, rfl, rfl, rfl, rfl, rfl, trivial⟩ ?_
      refine wRen 330040 1011 rfl ?_
      obtain ⟨o1, h, hk1⟩ := bd h
      refine wJ1 (fun x15 => x15 = o1) (fun x15 => [(1, .d ((kL (kI .i64)).sig (lCut a1 0 (if 45 < (a1.length : Int) then 45 else (a1.length : Int))))), (2, .d ((kL (kI .i64)).sig (lCut a2 0 (if 4 < (a2.length : Int) then 4 else (a2.length : Int))))), (3, .d ((kI .i64).sig ((IntKind.i64.wrap ((a3.tmod 4) + 4)).tmod 4))), (4, .d ((kI .i64).sig a4)), (5, .p 5 0), (11, .v 1011), (12, .d ((kI .u32).sig y7.1)), (88, .d (kB.sig x15))]) (fun x15 => [.row 1011 3 (kI .i64) (y4.set ((IntKind.i64.wrap ((a3.tmod 4) + 4)).tmod 4).toNat a4), .box 5 42 [.d (kL kS) y1.Names, .d (kL (kI .u32)) y1.Up]]) ?_ ?_
      · rcases ic h with ⟨hp16, h⟩ | ⟨hp16, h⟩
        · rcases ic h with ⟨hp17, h⟩ | ⟨hp17, h⟩
          · obtain ⟨hc18, h⟩ := ib h
            rcases ic h with ⟨hp19, h⟩ | ⟨hp19, h⟩
            · refine rg (cp (oMv tm) (s1 rfl) <| cp (oEq rfl tm (cI (by decide))) (s1 rfl) <| cp (oMv tm) (s1 rfl) <| cgB (decide_eq_true hp16) rfl rfl (oMv tm) (s1 rfl) <| cgB (decide_eq_true hp16) rfl rfl (oEq rfl tm (cI (by decide))) (s1 rfl) <| cp (oPkT (decide_eq_true hp16) tm tm) (s2 rfl rfl) <| cp (oMv tm) (s1 rfl) <| cgB (decide_eq_true hp17) rfl rfl (oMv tm) (s1 rfl) <| cgB (decide_eq_true hp17) rfl rfl (oMv tm) (s1 rfl) <| cgB (decide_eq_true hp17) rfl rfl (oShr hc18 tm tm) (s2 rfl rfl) <| cgB (decide_eq_true hp17) rfl rfl (oAnd tm (cI (by decide))) (s1 rfl) <| cgB (decide_eq_true hp17) rfl rfl (oEq rfl tm (cI (by decide))) (s1 rfl) <| cp (oPkT (decide_eq_true hp17) tm tm) (s2 rfl rfl) <| cp (oMv tm) (s1 rfl) <| cgB (decide_eq_true hp19) rfl rfl (oMv tm) (s1 rfl) <| cgB (decide_eq_true hp19) rfl rfl (oMv tm) (s1 rfl) <| cgB (decide_eq_true hp19) rfl rfl (oBNe u4 rfl tm tm) (s2 rfl rfl) <| cp (oPkT (decide_eq_true hp19) tm tm) (s2 rfl rfl) <| .nil) (by kernel_rfl) ?_
              exact pJ1 _ (so h) ⟨rfl, rfl, rfl, rfl, rfl, rfl, rfl, rfl, trivial⟩ rfl
            · refine rg (cp (oMv tm) (s1 rfl) <| cp (oEq rfl tm (cI (by decide))) (s1 rfl) <| cp (oMv tm) (s1 rfl) <| cgB (decide_eq_true hp16) rfl rfl (oMv tm) (s1 rfl) <| cgB (decide_eq_true hp16) rfl rfl (oEq rfl tm (cI (by decide))) (s1 rfl) <| cp (oPkT (decide_eq_true hp16) tm tm) (s2 rfl rfl) <| cp (oMv tm) (s1 rfl) <| cgB (decide_eq_true hp17) rfl rfl (oMv tm) (s1 rfl) <| cgB (decide_eq_true hp17) rfl rfl (oMv tm) (s1 rfl) <| cgB (decide_eq_true hp17) rfl rfl (oShr hc18 tm tm) (s2 rfl rfl) <| cgB (decide_eq_true hp17) rfl rfl (oAnd tm (cI (by decide))) (s1 rfl) <| cgB (decide_eq_true hp17) rfl rfl (oEq rfl tm (cI (by decide))) (s1 rfl) <| cp (oPkT (decide_eq_true hp17) tm tm) (s2 rfl rfl) <| cp (oMv tm) (s1 rfl) <| csB (decide_eq_false hp19) rfl rfl <| csB (decide_eq_false hp19) rfl rfl <| csB (decide_eq_false hp19) rfl rfl <| cp (oPkF (decide_eq_false hp19) tm cB) (s1 rfl) <| .nil) (by kernel_rfl) ?_
              exact pJ1 _ (so h) ⟨rfl, rfl, rfl, rfl, rfl, rfl, rfl, rfl, trivial⟩ rfl
          · refine rg (cp (oMv tm) (s1 rfl) <| cp (oEq rfl tm (cI (by decide))) (s1 rfl) <| cp (oMv tm) (s1 rfl) <| cgB (decide_eq_true hp16) rfl rfl (oMv tm) (s1 rfl) <| cgB (decide_eq_true hp16) rfl rfl (oEq rfl tm (cI (by decide))) (s1 rfl) <| cp (oPkT (decide_eq_true hp16) tm tm) (s2 rfl rfl) <| cp (oMv tm) (s1 rfl) <| csB (decide_eq_false hp17) rfl rfl <| csB (decide_eq_false hp17) rfl rfl <| csB (decide_eq_false hp17) rfl rfl <| csB (decide_eq_false hp17) rfl rfl <| csB (decide_eq_false hp17) rfl rfl <| cp (oPkF (decide_eq_false hp17) tm cB) (s1 rfl) <| cp (oMv tm) (s1 rfl) <| csB rfl rfl rfl <| csB rfl rfl rfl <| csB rfl rfl rfl <| cp (oPkF rfl tm cB) (s1 rfl) <| .nil) (by kernel_rfl) ?_
            exact pJ1 _ (so h) ⟨rfl, rfl, rfl, rfl, rfl, rfl, rfl, rfl, trivial⟩ rfl
        · refine rg (cp (oMv tm) (s1 rfl) <| cp (oEq rfl tm (cI (by decide))) (s1 rfl) <| cp (oMv tm) (s1 rfl) <| csB (decide_eq_false hp16) rfl rfl <| csB (decide_eq_false hp16) rfl rfl <| cp (oPkF (decide_eq_false hp16) tm cB) (s1 rfl) <| cp (oMv tm) (s1 rfl) <| csB rfl rfl rfl <| csB rfl rfl rfl <| csB rfl rfl rfl <| csB rfl rfl rfl <| csB rfl rfl rfl <| cp (oPkF rfl tm cB) (s1 rfl) <| cp (oMv tm) (s1 rfl) <| csB rfl rfl rfl <| csB rfl rfl rfl <| csB rfl rfl rfl <| cp (oPkF rfl tm cB) (s1 rfl) <| .nil) (by kernel_rfl) ?_
          exact pJ1 _ (so h) ⟨rfl, rfl, rfl, rfl, rfl, rfl, rfl, rfl, trivial⟩ rfl
      · rintro x15 rfl
        replace h := hk1
        rcases ic h with ⟨hp20, h⟩ | ⟨hp20, h⟩
        · refine wBT hp20 tm (s1 rfl) ?_
          refine wSeq ?_
          refine rg (cp (oAs cB) trivial <| .nil) (by kernel_rfl) ?_
          refine pSeq ?_
          refine wRet ?_
          refine pThenR ?_
          obtain rfl := so h
          exact pR1 (.inl rfl) rfl (.tmp rfl <| .nil)
        · refine wBF hp20 tm (s1 rfl) ?_
          refine wSkip ?_
          refine pSeq ?_
          refine wSeq ?_
          obtain ⟨y21, hy21, h⟩ := bd h
          refine rg (cr (oLdA (n := 1) (fs := f_api_Lattice) (u := ⟨y1.Names, y1.Up⟩) rfl ⟨rfl, rfl, trivial⟩ t42 tm) (s1 rfl) <| cp (oMv tm) (s1 rfl) <| cp (oMv tm) (s1 rfl) <| cp (oCall rfl (judge_Label.ok hy21) b53 (opds_cons tm (opds_cons tm (opds_cons tm opds_nil)))) (s3 rfl rfl rfl) <| cp (oMv tm) (s1 rfl) <| cp (oExt (k := 0) rfl tm) (s1 rfl) <| cp (oExt (k := 1) rfl tm) (s1 rfl) <| cp (oAs tm) (s1 rfl) <| cp (oAs tm) (s1 rfl) <| .nil) (by kernel_rfl) ?_
          refine pSeq ?_
          refine wSeq ?_
          obtain ⟨y22, hy22, h⟩ := bd h
          refine rg (cr (oLdA (n := 1) (fs := f_api_Lattice) (u := ⟨y1.Names, y1.Up⟩) rfl ⟨rfl, rfl, trivial⟩ t42 tm) (s1 rfl) <| cp (oMv tm) (s1 rfl) <| cp (oMv tm) (s1 rfl) <| cr (oCallB rfl (judge_Label.ok hy22) (fT ⟨fK fI, fK fI, trivial⟩) b53 (rc1 (rD tm) (rc1 (rD tm) (rc1 (rR (n := 0) rfl) rn0)))) (s3 rfl rfl rfl) <| cp (oMv tm) (s1 rfl) <| cp (oExt (k := 0) rfl tm) (s1 rfl) <| cp (oExt (k := 1) rfl tm) (s1 rfl) <| cp (oAs tm) (s1 rfl) <| cp (oAs tm) (s1 rfl) <| .nil) (by kernel_rfl) ?_
          refine pSeq ?_
          refine wSeq ?_
          refine wDrop (.cons _ (.cons_cons _ .slnil)) ?_
          obtain ⟨o1, h, hk1⟩ := bd h
          refine wJ1 (fun x24 => x24 = o1) (fun x24 => [(2, .d ((kL (kI .i64)).sig (lCut a2 0 (if 4 < (a2.length : Int) then 4 else (a2.length : Int))))), (3, .d ((kI .i64).sig ((IntKind.i64.wrap ((a3.tmod 4) + 4)).tmod 4))), (4, .d ((kI .i64).sig a4)), (5, .p 5 0), (12, .d ((kI .u32).sig y7.1)), (18, .d ((kI .i64).sig y21.1)), (19, .d ((kI .i64).sig y22.1)), (108, .d (kB.sig x24))]) (fun x24 => [.box 5 42 [.d (kL kS) y1.Names, .d (kL (kI .u32)) y1.Up]]) ?_ ?_
          · rcases ic h with ⟨hp25, h⟩ | ⟨hp25, h⟩
            · refine rg (cp (oMv tm) (s1 rfl) <| cp (oNe rfl tm (cI (by decide))) (s1 rfl) <| cp (oMv tm) (s1 rfl) <| cgB (nf hp25) rfl rfl (oMv tm) (s1 rfl) <| cgB (nf hp25) rfl rfl (oNe rfl tm (cI (by decide))) (s1 rfl) <| cp (oPkF (nf hp25) tm tm) (s2 rfl rfl) <| .nil) (by kernel_rfl) ?_
              exact pJ1 _ (so h) ⟨rfl, rfl, rfl, rfl, rfl, rfl, rfl, rfl, trivial⟩ rfl
            · refine rg (cp (oMv tm) (s1 rfl) <| cp (oNe rfl tm (cI (by decide))) (s1 rfl) <| cp (oMv tm) (s1 rfl) <| csB (nt hp25) rfl rfl <| csB (nt hp25) rfl rfl <| cp (oPkT (nt hp25) tm cB) (s1 rfl) <| .nil) (by kernel_rfl) ?_
              exact pJ1 _ (so h) ⟨rfl, rfl, rfl, rfl, rfl, rfl, rfl, rfl, trivial⟩ rfl
          · rintro x24 rfl
            replace h := hk1
            rcases ic h with ⟨hp26, h⟩ | ⟨hp26, h⟩
            · refine wBT hp26 tm (s1 rfl) ?_
              refine wSeq ?_
              obtain ⟨y27, hy27, h⟩ := bd h
              refine rg (cp (oCall rfl (reticentlaw07_alive.ok hy27) b55 opds_nil) trivial <| cp (oAs tm) (s1 rfl) <| .nil) (by kernel_rfl) ?_
              refine pSeq ?_
              refine wRet ?_
              refine pThenR ?_
              obtain rfl := so h
              exact pR1 (.inl rfl) rfl (.tmp rfl <| .nil)
            · refine wBF hp26 tm (s1 rfl) ?_
              refine wSkip ?_
              refine pSeq ?_
              refine wSeq ?_
              obtain ⟨y28, hy28, h⟩ := bd h
              obtain ⟨y29, hy29, h⟩ := bd h
              refine rgD hm (cr (oLdA (n := 0) (fs := f_api_Lattice) (u := ⟨y1.Names, y1.Up⟩) rfl ⟨rfl, rfl, trivial⟩ t42 tm) (s1 rfl) <| cp (oMv tm) (s1 rfl) <| cp (oMv tm) (s1 rfl) <| cp (oIdx u22 z3 hy28 tm tm) (s2 rfl rfl) <| cp (oLd t3 tm) (s1 rfl) <| cp (oMv tm) (s1 rfl) <| cp (oCall rfl (lattice_Flows.ok hy29) b26 (opds_cons tm (opds_cons tm (opds_cons tm opds_nil)))) (s3 rfl rfl rfl) <| cp (oMv tm) (s1 rfl) <| cp (oExt (k := 0) rfl tm) (s1 rfl) <| cp (oExt (k := 1) rfl tm) (s1 rfl) <| cp (oAs tm) (s1 rfl) <| cp (oAs tm) (s1 rfl) <| .nil) (by kernel_rfl) (by kernel_rfl) ?_
              refine pSeq ?_
              refine wSeq ?_
              obtain ⟨y30, hy30, h⟩ := bd h
              refine rg (cr (oLdA (n := 0) (fs := f_api_Lattice) (u := ⟨y1.Names, y1.Up⟩) rfl ⟨rfl, rfl, trivial⟩ t42 tm) (s1 rfl) <| cp (oMv tm) (s1 rfl) <| cp (oMv tm) (s1 rfl) <| cp (oCall rfl (lattice_Flows.ok hy30) b26 (opds_cons tm (opds_cons tm (opds_cons tm opds_nil)))) (s3 rfl rfl rfl) <| cp (oMv tm) (s1 rfl) <| cp (oExt (k := 0) rfl tm) (s1 rfl) <| cp (oExt (k := 1) rfl tm) (s1 rfl) <| cp (oAs tm) (s1 rfl) <| cp (oAs tm) (s1 rfl) <| .nil) (by kernel_rfl) ?_
              refine pSeq ?_
              obtain ⟨o1, h, hk1⟩ := bd h
              refine wJ1 (fun x40 => x40 = o1) (fun x40 => [(10, .d (kB.sig x40))]) (fun x40 => [.box 5 42 [.d (kL kS) y1.Names, .d (kL (kI .u32)) y1.Up]]) ?_ ?_
              · obtain ⟨y41, hy41, h⟩ := bd h
                rcases ic h with ⟨hp42, h⟩ | ⟨hp42, h⟩
                · rcases ic h with ⟨hp43, h⟩ | ⟨hp43, h⟩
                  · rcases ic h with ⟨hp44, h⟩ | ⟨hp44, h⟩
                    · obtain ⟨hc45, h⟩ := ib h
                      rcases ic h with ⟨hp46, h⟩ | ⟨hp46, h⟩
                      · rcases ic h with ⟨hp47, h⟩ | ⟨hp47, h⟩
                        · refine rg (cp (oCall rfl (reticentlaw07_alive.ok hy41) b55 opds_nil) trivial <| cp (oMv tm) (s1 rfl) <| cgB hp42 rfl rfl (oMv tm) (s1 rfl) <| cgB hp42 rfl rfl (oEq rfl tm (cI (by decide))) (s1 rfl) <| cp (oPkT hp42 tm tm) (s2 rfl rfl) <| cp (oMv tm) (s1 rfl) <| cgB (decide_eq_true hp43) rfl rfl (oMv tm) (s1 rfl) <| cgB (decide_eq_true hp43) rfl rfl (oEq rfl tm (cI (by decide))) (s1 rfl) <| cp (oPkT (decide_eq_true hp43) tm tm) (s2 rfl rfl) <| cp (oMv tm) (s1 rfl) <| cgB (decide_eq_true hp44) rfl rfl (oMv tm) (s1 rfl) <| cgB (decide_eq_true hp44) rfl rfl (oMv tm) (s1 rfl) <| cgB (decide_eq_true hp44) rfl rfl (oShr hc45 tm tm) (s2 rfl rfl) <| cgB (decide_eq_true hp44) rfl rfl (oAnd tm (cI (by decide))) (s1 rfl) <| cgB (decide_eq_true hp44) rfl rfl (oEq rfl tm (cI (by decide))) (s1 rfl) <| cgB (decide_eq_true hp44) rfl rfl (oMv tm) (s1 rfl) <| csB (decide_eq_true hp46) rfl rfl <| csB (decide_eq_true hp46) rfl rfl <| csB (decide_eq_true hp46) rfl rfl <| cgB (decide_eq_true hp44) rfl rfl (oPkT (decide_eq_true hp46) tm cB) (s1 rfl) <| cp (oPkT (decide_eq_true hp44) tm tm) (s2 rfl rfl) <| cp (oMv tm) (s1 rfl) <| cgB rfl rfl rfl (oMv tm) (s1 rfl) <| cgB rfl rfl rfl (oNot tm) (s1 rfl) <| cgB rfl rfl rfl (oMv tm) (s1 rfl) <| csB hp47 rfl rfl <| cgB rfl rfl rfl (oPkT hp47 tm cB) (s1 rfl) <| cp (oPkT rfl tm tm) (s2 rfl rfl) <| cp (oAs tm) (s1 rfl) <| .nil) (by kernel_rfl) ?_
                          exact pJ1 _ (so h) ⟨rfl, trivial⟩ rfl
                        · refine rg (cp (oCall rfl (reticentlaw07_alive.ok hy41) b55 opds_nil) trivial <| cp (oMv tm) (s1 rfl) <| cgB hp42 rfl rfl (oMv tm) (s1 rfl) <| cgB hp42 rfl rfl (oEq rfl tm (cI (by decide))) (s1 rfl) <| cp (oPkT hp42 tm tm) (s2 rfl rfl) <| cp (oMv tm) (s1 rfl) <| cgB (decide_eq_true hp43) rfl rfl (oMv tm) (s1 rfl) <| cgB (decide_eq_true hp43) rfl rfl (oEq rfl tm (cI (by decide))) (s1 rfl) <| cp (oPkT (decide_eq_true hp43) tm tm) (s2 rfl rfl) <| cp (oMv tm) (s1 rfl) <| cgB (decide_eq_true hp44) rfl rfl (oMv tm) (s1 rfl) <| cgB (decide_eq_true hp44) rfl rfl (oMv tm) (s1 rfl) <| cgB (decide_eq_true hp44) rfl rfl (oShr hc45 tm tm) (s2 rfl rfl) <| cgB (decide_eq_true hp44) rfl rfl (oAnd tm (cI (by decide))) (s1 rfl) <| cgB (decide_eq_true hp44) rfl rfl (oEq rfl tm (cI (by decide))) (s1 rfl) <| cgB (decide_eq_true hp44) rfl rfl (oMv tm) (s1 rfl) <| csB (decide_eq_true hp46) rfl rfl <| csB (decide_eq_true hp46) rfl rfl <| csB (decide_eq_true hp46) rfl rfl <| cgB (decide_eq_true hp44) rfl rfl (oPkT (decide_eq_true hp46) tm cB) (s1 rfl) <| cp (oPkT (decide_eq_true hp44) tm tm) (s2 rfl rfl) <| cp (oMv tm) (s1 rfl) <| cgB rfl rfl rfl (oMv tm) (s1 rfl) <| cgB rfl rfl rfl (oNot tm) (s1 rfl) <| cgB rfl rfl rfl (oMv tm) (s1 rfl) <| cgB (nb hp47) rfl rfl (oMv tm) (s1 rfl) <| cgB rfl rfl rfl (oPkF (nb hp47) tm tm) (s2 rfl rfl) <| cp (oPkT rfl tm tm) (s2 rfl rfl) <| cp (oAs tm) (s1 rfl) <| .nil) (by kernel_rfl) ?_
                          exact pJ1 _ (so h) ⟨rfl, trivial⟩ rfl
                      · rcases ic h with ⟨hp48, h⟩ | ⟨hp48, h⟩
                        · rcases ic h with ⟨hp49, h⟩ | ⟨hp49, h⟩
                          · refine rg (cp (oCall rfl (reticentlaw07_alive.ok hy41) b55 opds_nil) trivial <| cp (oMv tm) (s1 rfl) <| cgB hp42 rfl rfl (oMv tm) (s1 rfl) <| cgB hp42 rfl rfl (oEq rfl tm (cI (by decide))) (s1 rfl) <| cp (oPkT hp42 tm tm) (s2 rfl rfl) <| cp (oMv tm) (s1 rfl) <| cgB (decide_eq_true hp43) rfl rfl (oMv tm) (s1 rfl) <| cgB (decide_eq_true hp43) rfl rfl (oEq rfl tm (cI (by decide))) (s1 rfl) <| cp (oPkT (decide_eq_true hp43) tm tm) (s2 rfl rfl) <| cp (oMv tm) (s1 rfl) <| cgB (decide_eq_true hp44) rfl rfl (oMv tm) (s1 rfl) <| cgB (decide_eq_true hp44) rfl rfl (oMv tm) (s1 rfl) <| cgB (decide_eq_true hp44) rfl rfl (oShr hc45 tm tm) (s2 rfl rfl) <| cgB (decide_eq_true hp44) rfl rfl (oAnd tm (cI (by decide))) (s1 rfl) <| cgB (decide_eq_true hp44) rfl rfl (oEq rfl tm (cI (by decide))) (s1 rfl) <| cgB (decide_eq_true hp44) rfl rfl (oMv tm) (s1 rfl) <| cgB (decide_eq_false hp46) rfl rfl (oMv tm) (s1 rfl) <| cgB (decide_eq_false hp46) rfl rfl (oMv tm) (s1 rfl) <| cgB (decide_eq_false hp46) rfl rfl (oEq rfl tm tm) (s2 rfl rfl) <| cgB (decide_eq_true hp44) rfl rfl (oPkF (decide_eq_false hp46) tm tm) (s2 rfl rfl) <| cp (oPkT (decide_eq_true hp44) tm tm) (s2 rfl rfl) <| cp (oMv tm) (s1 rfl) <| cgB (decide_eq_true hp48) rfl rfl (oMv tm) (s1 rfl) <| cgB (decide_eq_true hp48) rfl rfl (oNot tm) (s1 rfl) <| cgB (decide_eq_true hp48) rfl rfl (oMv tm) (s1 rfl) <| csB hp49 rfl rfl <| cgB (decide_eq_true hp48) rfl rfl (oPkT hp49 tm cB) (s1 rfl) <| cp (oPkT (decide_eq_true hp48) tm tm) (s2 rfl rfl) <| cp (oAs tm) (s1 rfl) <| .nil) (by kernel_rfl) ?_
                            exact pJ1 _ (so h) ⟨rfl, trivial⟩ rfl
                          · refine rg (cp (oCall rfl (reticentlaw07_alive.ok hy41) b55 opds_nil) trivial <| cp (oMv tm) (s1 rfl) <| cgB hp42 rfl rfl (oMv tm) (s1 rfl) <| cgB hp42 rfl rfl (oEq rfl tm (cI (by decide))) (s1 rfl) <| cp (oPkT hp42 tm tm) (s2 rfl rfl) <| cp (oMv tm) (s1 rfl) <| cgB (decide_eq_true hp43) rfl rfl (oMv tm) (s1 rfl) <| cgB (decide_eq_true hp43) rfl rfl (oEq rfl tm (cI (by decide))) (s1 rfl) <| cp (oPkT (decide_eq_true hp43) tm tm) (s2 rfl rfl) <| cp (oMv tm) (s1 rfl) <| cgB (decide_eq_true hp44) rfl rfl (oMv tm) (s1 rfl) <| cgB (decide_eq_true hp44) rfl rfl (oMv tm) (s1 rfl) <| cgB (decide_eq_true hp44) rfl rfl (oShr hc45 tm tm) (s2 rfl rfl) <| cgB (decide_eq_true hp44) rfl rfl (oAnd tm (cI (by decide))) (s1 rfl) <| cgB (decide_eq_true hp44) rfl rfl (oEq rfl tm (cI (by decide))) (s1 rfl) <| cgB (decide_eq_true hp44) rfl rfl (oMv tm) (s1 rfl) <| cgB (decide_eq_false hp46) rfl rfl (oMv tm) (s1 rfl) <| cgB (decide_eq_false hp46) rfl rfl (oMv tm) (s1 rfl) <| cgB (decide_eq_false hp46) rfl rfl (oEq rfl tm tm) (s2 rfl rfl) <| cgB (decide_eq_true hp44) rfl rfl (oPkF (decide_eq_false hp46) tm tm) (s2 rfl rfl) <| cp (oPkT (decide_eq_true hp44) tm tm) (s2 rfl rfl) <| cp (oMv tm) (s1 rfl) <| cgB (decide_eq_true hp48) rfl rfl (oMv tm) (s1 rfl) <| cgB (decide_eq_true hp48) rfl rfl (oNot tm) (s1 rfl) <| cgB (decide_eq_true hp48) rfl rfl (oMv tm) (s1 rfl) <| cgB (nb hp49) rfl rfl (oMv tm) (s1 rfl) <| cgB (decide_eq_true hp48) rfl rfl (oPkF (nb hp49) tm tm) (s2 rfl rfl) <| cp (oPkT (decide_eq_true hp48) tm tm) (s2 rfl rfl) <| cp (oAs tm) (s1 rfl) <| .nil) (by kernel_rfl) ?_
                            exact pJ1 _ (so h) ⟨rfl, trivial⟩ rfl
                        · refine rg (cp (oCall rfl (reticentlaw07_alive.ok hy41) b55 opds_nil) trivial <| cp (oMv tm) (s1 rfl) <| cgB hp42 rfl rfl (oMv tm) (s1 rfl) <| cgB hp42 rfl rfl (oEq rfl tm (cI (by decide))) (s1 rfl) <| cp (oPkT hp42 tm tm) (s2 rfl rfl) <| cp (oMv tm) (s1 rfl) <| cgB (decide_eq_true hp43) rfl rfl (oMv tm) (s1 rfl) <| cgB (decide_eq_true hp43) rfl rfl (oEq rfl tm (cI (by decide))) (s1 rfl) <| cp (oPkT (decide_eq_true hp43) tm tm) (s2 rfl rfl) <| cp (oMv tm) (s1 rfl) <| cgB (decide_eq_true hp44) rfl rfl (oMv tm) (s1 rfl) <| cgB (decide_eq_true hp44) rfl rfl (oMv tm) (s1 rfl) <| cgB (decide_eq_true hp44) rfl rfl (oShr hc45 tm tm) (s2 rfl rfl) <| cgB (decide_eq_true hp44) rfl rfl (oAnd tm (cI (by decide))) (s1 rfl) <| cgB (decide_eq_true hp44) rfl rfl (oEq rfl tm (cI (by decide))) (s1 rfl) <| cgB (decide_eq_true hp44) rfl rfl (oMv tm) (s1 rfl) <| cgB (decide_eq_false hp46) rfl rfl (oMv tm) (s1 rfl) <| cgB (decide_eq_false hp46) rfl rfl (oMv tm) (s1 rfl) <| cgB (decide_eq_false hp46) rfl rfl (oEq rfl tm tm) (s2 rfl rfl) <| cgB (decide_eq_true hp44) rfl rfl (oPkF (decide_eq_false hp46) tm tm) (s2 rfl rfl) <| cp (oPkT (decide_eq_true hp44) tm tm) (s2 rfl rfl) <| cp (oMv tm) (s1 rfl) <| csB (decide_eq_false hp48) rfl rfl <| csB (decide_eq_false hp48) rfl rfl <| csB (decide_eq_false hp48) rfl rfl <| csU rfl rfl <| csB (decide_eq_false hp48) rfl rfl <| cp (oPkF (decide_eq_false hp48) tm cB) (s1 rfl) <| cp (oAs tm) (s1 rfl) <| .nil) (by kernel_rfl) ?_
                          exact pJ1 _ (so h) ⟨rfl, trivial⟩ rfl
                    · refine rg (cp (oCall rfl (reticentlaw07_alive.ok hy41) b55 opds_nil) trivial <| cp (oMv tm) (s1 rfl) <| cgB hp42 rfl rfl (oMv tm) (s1 rfl) <| cgB hp42 rfl rfl (oEq rfl tm (cI (by decide))) (s1 rfl) <| cp (oPkT hp42 tm tm) (s2 rfl rfl) <| cp (oMv tm) (s1 rfl) <| cgB (decide_eq_true hp43) rfl rfl (oMv tm) (s1 rfl) <| cgB (decide_eq_true hp43) rfl rfl (oEq rfl tm (cI (by decide))) (s1 rfl) <| cp (oPkT (decide_eq_true hp43) tm tm) (s2 rfl rfl) <| cp (oMv tm) (s1 rfl) <| csB (decide_eq_false hp44) rfl rfl <| csB (decide_eq_false hp44) rfl rfl <| csB (decide_eq_false hp44) rfl rfl <| csB (decide_eq_false hp44) rfl rfl <| csB (decide_eq_false hp44) rfl rfl <| csB (decide_eq_false hp44) rfl rfl <| csU rfl rfl <| csU rfl rfl <| csU rfl rfl <| csB (decide_eq_false hp44) rfl rfl <| cp (oPkF (decide_eq_false hp44) tm cB) (s1 rfl) <| cp (oMv tm) (s1 rfl) <| csB rfl rfl rfl <| csB rfl rfl rfl <| csB rfl rfl rfl <| csU rfl rfl <| csB rfl rfl rfl <| cp (oPkF rfl tm cB) (s1 rfl) <| cp (oAs tm) (s1 rfl) <| .nil) (by kernel_rfl) ?_
                      exact pJ1 _ (so h) ⟨rfl, trivial⟩ rfl
                  · refine rg (cp (oCall rfl (reticentlaw07_alive.ok hy41) b55 opds_nil) trivial <| cp (oMv tm) (s1 rfl) <| cgB hp42 rfl rfl (oMv tm) (s1 rfl) <| cgB hp42 rfl rfl (oEq rfl tm (cI (by decide))) (s1 rfl) <| cp (oPkT hp42 tm tm) (s2 rfl rfl) <| cp (oMv tm) (s1 rfl) <| csB (decide_eq_false hp43) rfl rfl <| csB (decide_eq_false hp43) rfl rfl <| cp (oPkF (decide_eq_false hp43) tm cB) (s1 rfl) <| cp (oMv tm) (s1 rfl) <| csB rfl rfl rfl <| csB rfl rfl rfl <| csB rfl rfl rfl <| csB rfl rfl rfl <| csB rfl rfl rfl <| csB rfl rfl rfl <| csU rfl rfl <| csU rfl rfl <| csU rfl rfl <| csB rfl rfl rfl <| cp (oPkF rfl tm cB) (s1 rfl) <| cp (oMv tm) (s1 rfl) <| csB rfl rfl rfl <| csB rfl rfl rfl <| csB rfl rfl rfl <| csU rfl rfl <| csB rfl rfl rfl <| cp (oPkF rfl tm cB) (s1 rfl) <| cp (oAs tm) (s1 rfl) <| .nil) (by kernel_rfl) ?_
                    exact pJ1 _ (so h) ⟨rfl, trivial⟩ rfl
                · refine rg (cp (oCall rfl (reticentlaw07_alive.ok hy41) b55 opds_nil) trivial <| cp (oMv tm) (s1 rfl) <| csB (nb hp42) rfl rfl <| csB (nb hp42) rfl rfl <| cp (oPkF (nb hp42) tm cB) (s1 rfl) <| cp (oMv tm) (s1 rfl) <| csB rfl rfl rfl <| csB rfl rfl rfl <| cp (oPkF rfl tm cB) (s1 rfl) <| cp (oMv tm) (s1 rfl) <| csB rfl rfl rfl <| csB rfl rfl rfl <| csB rfl rfl rfl <| csB rfl rfl rfl <| csB rfl rfl rfl <| csB rfl rfl rfl <| csU rfl rfl <| csU rfl rfl <| csU rfl rfl <| csB rfl rfl rfl <| cp (oPkF rfl tm cB) (s1 rfl) <| cp (oMv tm) (s1 rfl) <| csB rfl rfl rfl <| csB rfl rfl rfl <| csB rfl rfl rfl <| csU rfl rfl <| csB rfl rfl rfl <| cp (oPkF rfl tm cB) (s1 rfl) <| cp (oAs tm) (s1 rfl) <| .nil) (by kernel_rfl) ?_
                  exact pJ1 _ (so h) ⟨rfl, trivial⟩ rfl
              · rintro x40 rfl
                replace h := hk1
                refine wRet ?_
                obtain rfl := so h
                exact pR1 (.inl rfl) rfl (.tmp rfl <| .nil)
    · refine wNF hp8 tm (s1 rfl) ?_
      refine wSeq ?_
      obtain ⟨y50, hy50, h⟩ := bd h
      refine rg (cp (oCall rfl (reticentlaw07_alive.ok hy50) b55 opds_nil) trivial <| cp (oAs tm) (s1 rfl) <| .nil) (by kernel_rfl) ?_
      refine pSeq ?_
      refine wRet ?_
      refine pThenR ?_
      obtain rfl := so h
      exact pR1 (.inl rfl) rfl (.tmp rfl <| .nil)
  · refine wCF hp5 tm (s1 rfl) ?_
    refine wSkip ?_
    refine pSeq ?_
    refine wSeq ?_
    obtain ⟨y51, hy51, h⟩ := bd h
    refine rg (cp (oMv tm) (s1 rfl) <| cp (oCall rfl (rule_Uses.ok hy51) b48 (opds_cons tm opds_nil)) (s1 rfl) <| cp (oMv tm) (s1 rfl) <| cp (oExt (k := 0) rfl tm) (s1 rfl) <| cp (oExt (k := 1) rfl tm) (s1 rfl) <| cp (oAs tm) (s1 rfl) <| cp (oAs tm) (s1 rfl) <| .nil) (by kernel_rfl) ?_
    refine pSeq ?_
    refine wSeq ?_
    refine wSeq ?_
    refine rg (cp (oMv tm) (s1 rfl) <| cp (oNe rfl tm (cI (by decide))) (s1 rfl) <| .nil) (by kernel_rfl) ?_
    refine pSeq ?_
    rcases ic h with ⟨hp52, h⟩ | ⟨hp52, h⟩
    · refine wNT hp52 tm (s1 rfl) ?_
      refine wSkip ?_
      refine pSeq ?_
      refine wSeq ?_
      obtain ⟨y53, hy53, h⟩ := bd h
      refine rg (cr (oLdA (n := 1) (fs := f_api_Lattice) (u := ⟨y1.Names, y1.Up⟩) rfl ⟨rfl, rfl, trivial⟩ t42 tm) (s1 rfl) <| cp (oMv tm) (s1 rfl) <| cp (oMv tm) (s1 rfl) <| cp (oCall rfl (judge_Cond.ok hy53) b52 (opds_cons tm (opds_cons tm (opds_cons tm opds_nil)))) (s3 rfl rfl rfl) <| cp (oMv tm) (s1 rfl) <| cp (oExt (k := 0) rfl tm) (s1 rfl) <| cp (oExt (k := 1) rfl tm) (s1 rfl) <| cp (oAs tm) (s1 rfl) <| cp (oAs tm) (s1 rfl) <| .nil) (by kernel_rfl) ?_
      refine pSeq ?_
      refine wSeq ?_
      obtain ⟨y54, hy54, h⟩ := bd h
      refine rg (cr (oLdA (n := 1) (fs := f_api_Lattice) (u := ⟨y1.Names, y1.Up⟩) rfl ⟨rfl, rfl, trivial⟩ t42 tm) (s1 rfl) <| cp (oMv tm) (s1 rfl) <| cp (oMv tm) (s1 rfl) <| cr (oCallB rfl (judge_Cond.ok hy54) (fT ⟨fK fB, fK fI, trivial⟩) b52 (rc1 (rD tm) (rc1 (rD tm) (rc1 (rR (n := 0) rfl) rn0)))) (s3 rfl rfl rfl) <| cp (oMv tm) (s1 rfl) <| cp (oExt (k := 0) rfl tm) (s1 rfl) <| cp (oExt (k := 1) rfl tm) (s1 rfl) <| cp (oAs tm) (s1 rfl) <| cp (oAs tm) (s1 rfl) <| .nil) (by kernel_rfl) ?_
      refine pSeq ?_
      refine wSeq ?_
      refine wWeak (Γ' := [(1, .d ((kL (kI .i64)).sig (lCut a1 0 (if 45 < (a1.length : Int) then 45 else (a1.length : Int))))), (2, .d ((kL (kI .i64)).sig (lCut a2 0 (if 4 < (a2.length : Int) then 4 else (a2.length : Int))))), (3, .d ((kI .i64).sig ((IntKind.i64.wrap ((a3.tmod 4) + 4)).tmod 4))), (4, .d ((kI .i64).sig a4)), (5, .p 5 0), (11, .v 330040), (12, .d ((kI .u32).sig y51.1)), (14, .d (kB.sig y53.1)), (15, .d ((kI .i64).sig y53.2)), (16, .d (kB.sig y54.1)), (17, .d ((kI .i64).sig y54.2))]) ⟨rfl, rfl, rfl, rfl, rfl, rfl, rfl, rfl, rfl, rfl, rfl, trivial⟩ ?_
      refine wRen 330040 1011 rfl ?_
      obtain ⟨o1, h, hk1⟩ := bd h
      refine wJ1 (fun x59 => x59 = o1) (fun x59 => [(1, .d ((kL (kI .i64)).sig (lCut a1 0 (if 45 < (a1.length : Int) then 45 else (a1.length : Int))))), (2, .d ((kL (kI .i64)).sig (lCut a2 0 (if 4 < (a2.length : Int) then 4 else (a2.length : Int))))), (3, .d ((kI .i64).sig ((IntKind.i64.wrap ((a3.tmod 4) + 4)).tmod 4))), (4, .d ((kI .i64).sig a4)), (5, .p 5 0), (11, .v 1011), (12, .d ((kI .u32).sig y51.1)), (88, .d (kB.sig x59))]) (fun x59 => [.row 1011 3 (kI .i64) y4, .box 5 42 [.d (kL kS) y1.Names, .d (kL (kI .u32)) y1.Up]]) ?_ ?_
      · rcases ic h with ⟨hp60, h⟩ | ⟨hp60, h⟩
        · rcases ic h with ⟨hp61, h⟩ | ⟨hp61, h⟩
          · obtain ⟨hc62, h⟩ := ib h
            rcases ic h with ⟨hp63, h⟩ | ⟨hp63, h⟩
            · refine rg (cp (oMv tm) (s1 rfl) <| cp (oEq rfl tm (cI (by decide))) (s1 rfl) <| cp (oMv tm) (s1 rfl) <| cgB (decide_eq_true hp60) rfl rfl (oMv tm) (s1 rfl) <| cgB (decide_eq_true hp60) rfl rfl (oEq rfl tm (cI (by decide))) (s1 rfl) <| cp (oPkT (decide_eq_true hp60) tm tm) (s2 rfl rfl) <| cp (oMv tm) (s1 rfl) <| cgB (decide_eq_true hp61) rfl rfl (oMv tm) (s1 rfl) <| cgB (decide_eq_true hp61) rfl rfl (oMv tm) (s1 rfl) <| cgB (decide_eq_true hp61) rfl rfl (oShr hc62 tm tm) (s2 rfl rfl) <| cgB (decide_eq_true hp61) rfl rfl (oAnd tm (cI (by decide))) (s1 rfl) <| cgB (decide_eq_true hp61) rfl rfl (oEq rfl tm (cI (by decide))) (s1 rfl) <| cp (oPkT (decide_eq_true hp61) tm tm) (s2 rfl rfl) <| cp (oMv tm) (s1 rfl) <| cgB (decide_eq_true hp63) rfl rfl (oMv tm) (s1 rfl) <| cgB (decide_eq_true hp63) rfl rfl (oMv tm) (s1 rfl) <| cgB (decide_eq_true hp63) rfl rfl (oBNe u4 rfl tm tm) (s2 rfl rfl) <| cp (oPkT (decide_eq_true hp63) tm tm) (s2 rfl rfl) <| .nil) (by kernel_rfl) ?_
              exact pJ1 _ (so h) ⟨rfl, rfl, rfl, rfl, rfl, rfl, rfl, rfl, trivial⟩ rfl
            · refine rg (cp (oMv tm) (s1 rfl) <| cp (oEq rfl tm (cI (by decide))) (s1 rfl) <| cp (oMv tm) (s1 rfl) <| cgB (decide_eq_true hp60) rfl rfl (oMv tm) (s1 rfl) <| cgB (decide_eq_true hp60) rfl rfl (oEq rfl tm (cI (by decide))) (s1 rfl) <| cp (oPkT (decide_eq_true hp60) tm tm) (s2 rfl rfl) <| cp (oMv tm) (s1 rfl) <| cgB (decide_eq_true hp61) rfl rfl (oMv tm) (s1 rfl) <| cgB (decide_eq_true hp61) rfl rfl (oMv tm) (s1 rfl) <| cgB (decide_eq_true hp61) rfl rfl (oShr hc62 tm tm) (s2 rfl rfl) <| cgB (decide_eq_true hp61) rfl rfl (oAnd tm (cI (by decide))) (s1 rfl) <| cgB (decide_eq_true hp61) rfl rfl (oEq rfl tm (cI (by decide))) (s1 rfl) <| cp (oPkT (decide_eq_true hp61) tm tm) (s2 rfl rfl) <| cp (oMv tm) (s1 rfl) <| csB (decide_eq_false hp63) rfl rfl <| csB (decide_eq_false hp63) rfl rfl <| csB (decide_eq_false hp63) rfl rfl <| cp (oPkF (decide_eq_false hp63) tm cB) (s1 rfl) <| .nil) (by kernel_rfl) ?_
              exact pJ1 _ (so h) ⟨rfl, rfl, rfl, rfl, rfl, rfl, rfl, rfl, trivial⟩ rfl
          · refine rg (cp (oMv tm) (s1 rfl) <| cp (oEq rfl tm (cI (by decide))) (s1 rfl) <| cp (oMv tm) (s1 rfl) <| cgB (decide_eq_true hp60) rfl rfl (oMv tm) (s1 rfl) <| cgB (decide_eq_true hp60) rfl rfl (oEq rfl tm (cI (by decide))) (s1 rfl) <| cp (oPkT (decide_eq_true hp60) tm tm) (s2 rfl rfl) <| cp (oMv tm) (s1 rfl) <| csB (decide_eq_false hp61) rfl rfl <| csB (decide_eq_false hp61) rfl rfl <| csB (decide_eq_false hp61) rfl rfl <| csB (decide_eq_false hp61) rfl rfl <| csB (decide_eq_false hp61) rfl rfl <| cp (oPkF (decide_eq_false hp61) tm cB) (s1 rfl) <| cp (oMv tm) (s1 rfl) <| csB rfl rfl rfl <| csB rfl rfl rfl <| csB rfl rfl rfl <| cp (oPkF rfl tm cB) (s1 rfl) <| .nil) (by kernel_rfl) ?_
            exact pJ1 _ (so h) ⟨rfl, rfl, rfl, rfl, rfl, rfl, rfl, rfl, trivial⟩ rfl
        · refine rg (cp (oMv tm) (s1 rfl) <| cp (oEq rfl tm (cI (by decide))) (s1 rfl) <| cp (oMv tm) (s1 rfl) <| csB (decide_eq_false hp60) rfl rfl <| csB (decide_eq_false hp60) rfl rfl <| cp (oPkF (decide_eq_false hp60) tm cB) (s1 rfl) <| cp (oMv tm) (s1 rfl) <| csB rfl rfl rfl <| csB rfl rfl rfl <| csB rfl rfl rfl <| csB rfl rfl rfl <| csB rfl rfl rfl <| cp (oPkF rfl tm cB) (s1 rfl) <| cp (oMv tm) (s1 rfl) <| csB rfl rfl rfl <| csB rfl rfl rfl <| csB rfl rfl rfl <| cp (oPkF rfl tm cB) (s1 rfl) <| .nil) (by kernel_rfl) ?_
          exact pJ1 _ (so h) ⟨rfl, rfl, rfl, rfl, rfl, rfl, rfl, rfl, trivial⟩ rfl
      · rintro x59 rfl
        replace h := hk1
        rcases ic h with ⟨hp64, h⟩ | ⟨hp64, h⟩
        · refine wBT hp64 tm (s1 rfl) ?_
          refine wSeq ?_
          refine rg (cp (oAs cB) trivial <| .nil) (by kernel_rfl) ?_
          refine pSeq ?_
          refine wRet ?_
          refine pThenR ?_
          obtain rfl := so h
          exact pR1 (.inl rfl) rfl (.tmp rfl <| .nil)
        · refine wBF hp64 tm (s1 rfl) ?_
          refine wSkip ?_
          refine pSeq ?_
          refine wSeq ?_
          obtain ⟨y65, hy65, h⟩ := bd h
          refine rg (cr (oLdA (n := 1) (fs := f_api_Lattice) (u := ⟨y1.Names, y1.Up⟩) rfl ⟨rfl, rfl, trivial⟩ t42 tm) (s1 rfl) <| cp (oMv tm) (s1 rfl) <| cp (oMv tm) (s1 rfl) <| cp (oCall rfl (judge_Label.ok hy65) b53 (opds_cons tm (opds_cons tm (opds_cons tm opds_nil)))) (s3 rfl rfl rfl) <| cp (oMv tm) (s1 rfl) <| cp (oExt (k := 0) rfl tm) (s1 rfl) <| cp (oExt (k := 1) rfl tm) (s1 rfl) <| cp (oAs tm) (s1 rfl) <| cp (oAs tm) (s1 rfl) <| .nil) (by kernel_rfl) ?_
          refine pSeq ?_
          refine wSeq ?_
          obtain ⟨y66, hy66, h⟩ := bd h
          refine rg (cr (oLdA (n := 1) (fs := f_api_Lattice) (u := ⟨y1.Names, y1.Up⟩) rfl ⟨rfl, rfl, trivial⟩ t42 tm) (s1 rfl) <| cp (oMv tm) (s1 rfl) <| cp (oMv tm) (s1 rfl) <| cr (oCallB rfl (judge_Label.ok hy66) (fT ⟨fK fI, fK fI, trivial⟩) b53 (rc1 (rD tm) (rc1 (rD tm) (rc1 (rR (n := 0) rfl) rn0)))) (s3 rfl rfl rfl) <| cp (oMv tm) (s1 rfl) <| cp (oExt (k := 0) rfl tm) (s1 rfl) <| cp (oExt (k := 1) rfl tm) (s1 rfl) <| cp (oAs tm) (s1 rfl) <| cp (oAs tm) (s1 rfl) <| .nil) (by kernel_rfl) ?_
          refine pSeq ?_
          refine wSeq ?_
          refine wDrop (.cons _ (.cons_cons _ .slnil)) ?_
          obtain ⟨o1, h, hk1⟩ := bd h
          refine wJ1 (fun x68 => x68 = o1) (fun x68 => [(2, .d ((kL (kI .i64)).sig (lCut a2 0 (if 4 < (a2.length : Int) then 4 else (a2.length : Int))))), (3, .d ((kI .i64).sig ((IntKind.i64.wrap ((a3.tmod 4) + 4)).tmod 4))), (4, .d ((kI .i64).sig a4)), (5, .p 5 0), (12, .d ((kI .u32).sig y51.1)), (18, .d ((kI .i64).sig y65.1)), (19, .d ((kI .i64).sig y66.1)), (108, .d (kB.sig x68))]) (fun x68 => [.box 5 42 [.d (kL kS) y1.Names, .d (kL (kI .u32)) y1.Up]]) ?_ ?_
          · rcases ic h with ⟨hp69, h⟩ | ⟨hp69, h⟩
            · refine rg (cp (oMv tm) (s1 rfl) <| cp (oNe rfl tm (cI (by decide))) (s1 rfl) <| cp (oMv tm) (s1 rfl) <| cgB (nf hp69) rfl rfl (oMv tm) (s1 rfl) <| cgB (nf hp69) rfl rfl (oNe rfl tm (cI (by decide))) (s1 rfl) <| cp (oPkF (nf hp69) tm tm) (s2 rfl rfl) <| .nil) (by kernel_rfl) ?_
              exact pJ1 _ (so h) ⟨rfl, rfl, rfl, rfl, rfl, rfl, rfl, rfl, trivial⟩ rfl
            · refine rg (cp (oMv tm) (s1 rfl) <| cp (oNe rfl tm (cI (by decide))) (s1 rfl) <| cp (oMv tm) (s1 rfl) <| csB (nt hp69) rfl rfl <| csB (nt hp69) rfl rfl <| cp (oPkT (nt hp69) tm cB) (s1 rfl) <| .nil) (by kernel_rfl) ?_
              exact pJ1 _ (so h) ⟨rfl, rfl, rfl, rfl, rfl, rfl, rfl, rfl, trivial⟩ rfl
          · rintro x68 rfl
            replace h := hk1
            rcases ic h with ⟨hp70, h⟩ | ⟨hp70, h⟩
            · refine wBT hp70 tm (s1 rfl) ?_
              refine wSeq ?_
              obtain ⟨y71, hy71, h⟩ := bd h
              refine rg (cp (oCall rfl (reticentlaw07_alive.ok hy71) b55 opds_nil) trivial <| cp (oAs tm) (s1 rfl) <| .nil) (by kernel_rfl) ?_
              refine pSeq ?_
              refine wRet ?_
              refine pThenR ?_
              obtain rfl := so h
              exact pR1 (.inl rfl) rfl (.tmp rfl <| .nil)
            · refine wBF hp70 tm (s1 rfl) ?_
              refine wSkip ?_
              refine pSeq ?_
              refine wSeq ?_
              obtain ⟨y72, hy72, h⟩ := bd h
              obtain ⟨y73, hy73, h⟩ := bd h
              refine rgD hm (cr (oLdA (n := 0) (fs := f_api_Lattice) (u := ⟨y1.Names, y1.Up⟩) rfl ⟨rfl, rfl, trivial⟩ t42 tm) (s1 rfl) <| cp (oMv tm) (s1 rfl) <| cp (oMv tm) (s1 rfl) <| cp (oIdx u22 z3 hy72 tm tm) (s2 rfl rfl) <| cp (oLd t3 tm) (s1 rfl) <| cp (oMv tm) (s1 rfl) <| cp (oCall rfl (lattice_Flows.ok hy73) b26 (opds_cons tm (opds_cons tm (opds_cons tm opds_nil)))) (s3 rfl rfl rfl) <| cp (oMv tm) (s1 rfl) <| cp (oExt (k := 0) rfl tm) (s1 rfl) <| cp (oExt (k := 1) rfl tm) (s1 rfl) <| cp (oAs tm) (s1 rfl) <| cp (oAs tm) (s1 rfl) <| .nil) (by kernel_rfl) (by kernel_rfl) ?_
              refine pSeq ?_
              refine wSeq ?_
              obtain ⟨y74, hy74, h⟩ := bd h
              refine rg (cr (oLdA (n := 0) (fs := f_api_Lattice) (u := ⟨y1.Names, y1.Up⟩) rfl ⟨rfl, rfl, trivial⟩ t42 tm) (s1 rfl) <| cp (oMv tm) (s1 rfl) <| cp (oMv tm) (s1 rfl) <| cp (oCall rfl (lattice_Flows.ok hy74) b26 (opds_cons tm (opds_cons tm (opds_cons tm opds_nil)))) (s3 rfl rfl rfl) <| cp (oMv tm) (s1 rfl) <| cp (oExt (k := 0) rfl tm) (s1 rfl) <| cp (oExt (k := 1) rfl tm) (s1 rfl) <| cp (oAs tm) (s1 rfl) <| cp (oAs tm) (s1 rfl) <| .nil) (by kernel_rfl) ?_
              refine pSeq ?_
              obtain ⟨o1, h, hk1⟩ := bd h
              refine wJ1 (fun x84 => x84 = o1) (fun x84 => [(10, .d (kB.sig x84))]) (fun x84 => [.box 5 42 [.d (kL kS) y1.Names, .d (kL (kI .u32)) y1.Up]]) ?_ ?_
              · obtain ⟨y85, hy85, h⟩ := bd h
                rcases ic h with ⟨hp86, h⟩ | ⟨hp86, h⟩
                · rcases ic h with ⟨hp87, h⟩ | ⟨hp87, h⟩
                  · rcases ic h with ⟨hp88, h⟩ | ⟨hp88, h⟩
                    · obtain ⟨hc89, h⟩ := ib h
                      rcases ic h with ⟨hp90, h⟩ | ⟨hp90, h⟩
                      · rcases ic h with ⟨hp91, h⟩ | ⟨hp91, h⟩
                        · refine rg (cp (oCall rfl (reticentlaw07_alive.ok hy85) b55 opds_nil) trivial <| cp (oMv tm) (s1 rfl) <| cgB hp86 rfl rfl (oMv tm) (s1 rfl) <| cgB hp86 rfl rfl (oEq rfl tm (cI (by decide))) (s1 rfl) <| cp (oPkT hp86 tm tm) (s2 rfl rfl) <| cp (oMv tm) (s1 rfl) <| cgB (decide_eq_true hp87) rfl rfl (oMv tm) (s1 rfl) <| cgB (decide_eq_true hp87) rfl rfl (oEq rfl tm (cI (by decide))) (s1 rfl) <| cp (oPkT (decide_eq_true hp87) tm tm) (s2 rfl rfl) <| cp (oMv tm) (s1 rfl) <| cgB (decide_eq_true hp88) rfl rfl (oMv tm) (s1 rfl) <| cgB (decide_eq_true hp88) rfl rfl (oMv tm) (s1 rfl) <| cgB (decide_eq_true hp88) rfl rfl (oShr hc89 tm tm) (s2 rfl rfl) <| cgB (decide_eq_true hp88) rfl rfl (oAnd tm (cI (by decide))) (s1 rfl) <| cgB (decide_eq_true hp88) rfl rfl (oEq rfl tm (cI (by decide))) (s1 rfl) <| cgB (decide_eq_true hp88) rfl rfl (oMv tm) (s1 rfl) <| csB (decide_eq_true hp90) rfl rfl <| csB (decide_eq_true hp90) rfl rfl <| csB (decide_eq_true hp90) rfl rfl <| cgB (decide_eq_true hp88) rfl rfl (oPkT (decide_eq_true hp90) tm cB) (s1 rfl) <| cp (oPkT (decide_eq_true hp88) tm tm) (s2 rfl rfl) <| cp (oMv tm) (s1 rfl) <| cgB rfl rfl rfl (oMv tm) (s1 rfl) <| cgB rfl rfl rfl (oNot tm) (s1 rfl) <| cgB rfl rfl rfl (oMv tm) (s1 rfl) <| csB hp91 rfl rfl <| cgB rfl rfl rfl (oPkT hp91 tm cB) (s1 rfl) <| cp (oPkT rfl tm tm) (s2 rfl rfl) <| cp (oAs tm) (s1 rfl) <| .nil) (by kernel_rfl) ?_
                          exact pJ1 _ (so h) ⟨rfl, trivial⟩ rfl
                        · refine rg (cp (oCall rfl (reticentlaw07_alive.ok hy85) b55 opds_nil) trivial <| cp (oMv tm) (s1 rfl) <| cgB hp86 rfl rfl (oMv tm) (s1 rfl) <| cgB hp86 rfl rfl (oEq rfl tm (cI (by decide))) (s1 rfl) <| cp (oPkT hp86 tm tm) (s2 rfl rfl) <| cp (oMv tm) (s1 rfl) <| cgB (decide_eq_true hp87) rfl rfl (oMv tm) (s1 rfl) <| cgB (decide_eq_true hp87) rfl rfl (oEq rfl tm (cI (by decide))) (s1 rfl) <| cp (oPkT (decide_eq_true hp87) tm tm) (s2 rfl rfl) <| cp (oMv tm) (s1 rfl) <| cgB (decide_eq_true hp88) rfl rfl (oMv tm) (s1 rfl) <| cgB (decide_eq_true hp88) rfl rfl (oMv tm) (s1 rfl) <| cgB (decide_eq_true hp88) rfl rfl (oShr hc89 tm tm) (s2 rfl rfl) <| cgB (decide_eq_true hp88) rfl rfl (oAnd tm (cI (by decide))) (s1 rfl) <| cgB (decide_eq_true hp88) rfl rfl (oEq rfl tm (cI (by decide))) (s1 rfl) <| cgB (decide_eq_true hp88) rfl rfl (oMv tm) (s1 rfl) <| csB (decide_eq_true hp90) rfl rfl <| csB (decide_eq_true hp90) rfl rfl <| csB (decide_eq_true hp90) rfl rfl <| cgB (decide_eq_true hp88) rfl rfl (oPkT (decide_eq_true hp90) tm cB) (s1 rfl) <| cp (oPkT (decide_eq_true hp88) tm tm) (s2 rfl rfl) <| cp (oMv tm) (s1 rfl) <| cgB rfl rfl rfl (oMv tm) (s1 rfl) <| cgB rfl rfl rfl (oNot tm) (s1 rfl) <| cgB rfl rfl rfl (oMv tm) (s1 rfl) <| cgB (nb hp91) rfl rfl (oMv tm) (s1 rfl) <| cgB rfl rfl rfl (oPkF (nb hp91) tm tm) (s2 rfl rfl) <| cp (oPkT rfl tm tm) (s2 rfl rfl) <| cp (oAs tm) (s1 rfl) <| .nil) (by kernel_rfl) ?_
                          exact pJ1 _ (so h) ⟨rfl, trivial⟩ rfl
                      · rcases ic h with ⟨hp92, h⟩ | ⟨hp92, h⟩
                        · rcases ic h with ⟨hp93, h⟩ | ⟨hp93, h⟩
                          · refine rg (cp (oCall rfl (reticentlaw07_alive.ok hy85) b55 opds_nil) trivial <| cp (oMv tm) (s1 rfl) <| cgB hp86 rfl rfl (oMv tm) (s1 rfl) <| cgB hp86 rfl rfl (oEq rfl tm (cI (by decide))) (s1 rfl) <| cp (oPkT hp86 tm tm) (s2 rfl rfl) <| cp (oMv tm) (s1 rfl) <| cgB (decide_eq_true hp87) rfl rfl (oMv tm) (s1 rfl) <| cgB (decide_eq_true hp87) rfl rfl (oEq rfl tm (cI (by decide))) (s1 rfl) <| cp (oPkT (decide_eq_true hp87) tm tm) (s2 rfl rfl) <| cp (oMv tm) (s1 rfl) <| cgB (decide_eq_true hp88) rfl rfl (oMv tm) (s1 rfl) <| cgB (decide_eq_true hp88) rfl rfl (oMv tm) (s1 rfl) <| cgB (decide_eq_true hp88) rfl rfl (oShr hc89 tm tm) (s2 rfl rfl) <| cgB (decide_eq_true hp88) rfl rfl (oAnd tm (cI (by decide))) (s1 rfl) <| cgB (decide_eq_true hp88) rfl rfl (oEq rfl tm (cI (by decide))) (s1 rfl) <| cgB (decide_eq_true hp88) rfl rfl (oMv tm) (s1 rfl) <| cgB (decide_eq_false hp90) rfl rfl (oMv tm) (s1 rfl) <| cgB (decide_eq_false hp90) rfl rfl (oMv tm) (s1 rfl) <| cgB (decide_eq_false hp90) rfl rfl (oEq rfl tm tm) (s2 rfl rfl) <| cgB (decide_eq_true hp88) rfl rfl (oPkF (decide_eq_false hp90) tm tm) (s2 rfl rfl) <| cp (oPkT (decide_eq_true hp88) tm tm) (s2 rfl rfl) <| cp (oMv tm) (s1 rfl) <| cgB (decide_eq_true hp92) rfl rfl (oMv tm) (s1 rfl) <| cgB (decide_eq_true hp92) rfl rfl (oNot tm) (s1 rfl) <| cgB (decide_eq_true hp92) rfl rfl (oMv tm) (s1 rfl) <| csB hp93 rfl rfl <| cgB (decide_eq_true hp92) rfl rfl (oPkT hp93 tm cB) (s1 rfl) <| cp (oPkT (decide_eq_true hp92) tm tm) (s2 rfl rfl) <| cp (oAs tm) (s1 rfl) <| .nil) (by kernel_rfl) ?_
                            exact pJ1 _ (so h) ⟨rfl, trivial⟩ rfl
                          · refine rg (cp (oCall rfl (reticentlaw07_alive.ok hy85) b55 opds_nil) trivial <| cp (oMv tm) (s1 rfl) <| cgB hp86 rfl rfl (oMv tm) (s1 rfl) <| cgB hp86 rfl rfl (oEq rfl tm (cI (by decide))) (s1 rfl) <| cp (oPkT hp86 tm tm) (s2 rfl rfl) <| cp (oMv tm) (s1 rfl) <| cgB (decide_eq_true hp87) rfl rfl (oMv tm) (s1 rfl) <| cgB (decide_eq_true hp87) rfl rfl (oEq rfl tm (cI (by decide))) (s1 rfl) <| cp (oPkT (decide_eq_true hp87) tm tm) (s2 rfl rfl) <| cp (oMv tm) (s1 rfl) <| cgB (decide_eq_true hp88) rfl rfl (oMv tm) (s1 rfl) <| cgB (decide_eq_true hp88) rfl rfl (oMv tm) (s1 rfl) <| cgB (decide_eq_true hp88) rfl rfl (oShr hc89 tm tm) (s2 rfl rfl) <| cgB (decide_eq_true hp88) rfl rfl (oAnd tm (cI (by decide))) (s1 rfl) <| cgB (decide_eq_true hp88) rfl rfl (oEq rfl tm (cI (by decide))) (s1 rfl) <| cgB (decide_eq_true hp88) rfl rfl (oMv tm) (s1 rfl) <| cgB (decide_eq_false hp90) rfl rfl (oMv tm) (s1 rfl) <| cgB (decide_eq_false hp90) rfl rfl (oMv tm) (s1 rfl) <| cgB (decide_eq_false hp90) rfl rfl (oEq rfl tm tm) (s2 rfl rfl) <| cgB (decide_eq_true hp88) rfl rfl (oPkF (decide_eq_false hp90) tm tm) (s2 rfl rfl) <| cp (oPkT (decide_eq_true hp88) tm tm) (s2 rfl rfl) <| cp (oMv tm) (s1 rfl) <| cgB (decide_eq_true hp92) rfl rfl (oMv tm) (s1 rfl) <| cgB (decide_eq_true hp92) rfl rfl (oNot tm) (s1 rfl) <| cgB (decide_eq_true hp92) rfl rfl (oMv tm) (s1 rfl) <| cgB (nb hp93) rfl rfl (oMv tm) (s1 rfl) <| cgB (decide_eq_true hp92) rfl rfl (oPkF (nb hp93) tm tm) (s2 rfl rfl) <| cp (oPkT (decide_eq_true hp92) tm tm) (s2 rfl rfl) <| cp (oAs tm) (s1 rfl) <| .nil) (by kernel_rfl) ?_
                            exact pJ1 _ (so h) ⟨rfl, trivial⟩ rfl
                        · refine rg (cp (oCall rfl (reticentlaw07_alive.ok hy85) b55 opds_nil) trivial <| cp (oMv tm) (s1 rfl) <| cgB hp86 rfl rfl (oMv tm) (s1 rfl) <| cgB hp86 rfl rfl (oEq rfl tm (cI (by decide))) (s1 rfl) <| cp (oPkT hp86 tm tm) (s2 rfl rfl) <| cp (oMv tm) (s1 rfl) <| cgB (decide_eq_true hp87) rfl rfl (oMv tm) (s1 rfl) <| cgB (decide_eq_true hp87) rfl rfl (oEq rfl tm (cI (by decide))) (s1 rfl) <| cp (oPkT (decide_eq_true hp87) tm tm) (s2 rfl rfl) <| cp (oMv tm) (s1 rfl) <| cgB (decide_eq_true hp88) rfl rfl (oMv tm) (s1 rfl) <| cgB (decide_eq_true hp88) rfl rfl (oMv tm) (s1 rfl) <| cgB (decide_eq_true hp88) rfl rfl (oShr hc89 tm tm) (s2 rfl rfl) <| cgB (decide_eq_true hp88) rfl rfl (oAnd tm (cI (by decide))) (s1 rfl) <| cgB (decide_eq_true hp88) rfl rfl (oEq rfl tm (cI (by decide))) (s1 rfl) <| cgB (decide_eq_true hp88) rfl rfl (oMv tm) (s1 rfl) <| cgB (decide_eq_false hp90) rfl rfl (oMv tm) (s1 rfl) <| cgB (decide_eq_false hp90) rfl rfl (oMv tm) (s1 rfl) <| cgB (decide_eq_false hp90) rfl rfl (oEq rfl tm tm) (s2 rfl rfl) <| cgB (decide_eq_true hp88) rfl rfl (oPkF (decide_eq_false hp90) tm tm) (s2 rfl rfl) <| cp (oPkT (decide_eq_true hp88) tm tm) (s2 rfl rfl) <| cp (oMv tm) (s1 rfl) <| csB (decide_eq_false hp92) rfl rfl <| csB (decide_eq_false hp92) rfl rfl <| csB (decide_eq_false hp92) rfl rfl <| csU rfl rfl <| csB (decide_eq_false hp92) rfl rfl <| cp (oPkF (decide_eq_false hp92) tm cB) (s1 rfl) <| cp (oAs tm) (s1 rfl) <| .nil) (by kernel_rfl) ?_
                          exact pJ1 _ (so h) ⟨rfl, trivial⟩ rfl
                    · refine rg (cp (oCall rfl (reticentlaw07_alive.ok hy85) b55 opds_nil) trivial <| cp (oMv tm) (s1 rfl) <| cgB hp86 rfl rfl (oMv tm) (s1 rfl) <| cgB hp86 rfl rfl (oEq rfl tm (cI (by decide))) (s1 rfl) <| cp (oPkT hp86 tm tm) (s2 rfl rfl) <| cp (oMv tm) (s1 rfl) <| cgB (decide_eq_true hp87) rfl rfl (oMv tm) (s1 rfl) <| cgB (decide_eq_true hp87) rfl rfl (oEq rfl tm (cI (by decide))) (s1 rfl) <| cp (oPkT (decide_eq_true hp87) tm tm) (s2 rfl rfl) <| cp (oMv tm) (s1 rfl) <| csB (decide_eq_false hp88) rfl rfl <| csB (decide_eq_false hp88) rfl rfl <| csB (decide_eq_false hp88) rfl rfl <| csB (decide_eq_false hp88) rfl rfl <| csB (decide_eq_false hp88) rfl rfl <| csB (decide_eq_false hp88) rfl rfl <| csU rfl rfl <| csU rfl rfl <| csU rfl rfl <| csB (decide_eq_false hp88) rfl rfl <| cp (oPkF (decide_eq_false hp88) tm cB) (s1 rfl) <| cp (oMv tm) (s1 rfl) <| csB rfl rfl rfl <| csB rfl rfl rfl <| csB rfl rfl rfl <| csU rfl rfl <| csB rfl rfl rfl <| cp (oPkF rfl tm cB) (s1 rfl) <| cp (oAs tm) (s1 rfl) <| .nil) (by kernel_rfl) ?_
                      exact pJ1 _ (so h) ⟨rfl, trivial⟩ rfl
                  · refine rg (cp (oCall rfl (reticentlaw07_alive.ok hy85) b55 opds_nil) trivial <| cp (oMv tm) (s1 rfl) <| cgB hp86 rfl rfl (oMv tm) (s1 rfl) <| cgB hp86 rfl rfl (oEq rfl tm (cI (by decide))) (s1 rfl) <| cp (oPkT hp86 tm tm) (s2 rfl rfl) <| cp (oMv tm) (s1 rfl) <| csB (decide_eq_false hp87) rfl rfl <| csB (decide_eq_false hp87) rfl rfl <| cp (oPkF (decide_eq_false hp87) tm cB) (s1 rfl) <| cp (oMv tm) (s1 rfl) <| csB rfl rfl rfl <| csB rfl rfl rfl <| csB rfl rfl rfl <| csB rfl rfl rfl <| csB rfl rfl rfl <| csB rfl rfl rfl <| csU rfl rfl <| csU rfl rfl <| csU rfl rfl <| csB rfl rfl rfl <| cp (oPkF rfl tm cB) (s1 rfl) <| cp (oMv tm) (s1 rfl) <| csB rfl rfl rfl <| csB rfl rfl rfl <| csB rfl rfl rfl <| csU rfl rfl <| csB rfl rfl rfl <| cp (oPkF rfl tm cB) (s1 rfl) <| cp (oAs tm) (s1 rfl) <| .nil) (by kernel_rfl) ?_
                    exact pJ1 _ (so h) ⟨rfl, trivial⟩ rfl
                · refine rg (cp (oCall rfl (reticentlaw07_alive.ok hy85) b55 opds_nil) trivial <| cp (oMv tm) (s1 rfl) <| csB (nb hp86) rfl rfl <| csB (nb hp86) rfl rfl <| cp (oPkF (nb hp86) tm cB) (s1 rfl) <| cp (oMv tm) (s1 rfl) <| csB rfl rfl rfl <| csB rfl rfl rfl <| cp (oPkF rfl tm cB) (s1 rfl) <| cp (oMv tm) (s1 rfl) <| csB rfl rfl rfl <| csB rfl rfl rfl <| csB rfl rfl rfl <| csB rfl rfl rfl <| csB rfl rfl rfl <| csB rfl rfl rfl <| csU rfl rfl <| csU rfl rfl <| csU rfl rfl <| csB rfl rfl rfl <| cp (oPkF rfl tm cB) (s1 rfl) <| cp (oMv tm) (s1 rfl) <| csB rfl rfl rfl <| csB rfl rfl rfl <| csB rfl rfl rfl <| csU rfl rfl <| csB rfl rfl rfl <| cp (oPkF rfl tm cB) (s1 rfl) <| cp (oAs tm) (s1 rfl) <| .nil) (by kernel_rfl) ?_
                  exact pJ1 _ (so h) ⟨rfl, trivial⟩ rfl
              · rintro x84 rfl
                replace h := hk1
                refine wRet ?_
                obtain rfl := so h
                exact pR1 (.inl rfl) rfl (.tmp rfl <| .nil)
    · refine wNF hp52 tm (s1 rfl) ?_
      refine wSeq ?_
      obtain ⟨y94, hy94, h⟩ := bd h
      refine rg (cp (oCall rfl (reticentlaw07_alive.ok hy94) b55 opds_nil) trivial <| cp (oAs tm) (s1 rfl) <| .nil) (by kernel_rfl) ?_
      refine pSeq ?_
      refine wRet ?_
      refine pThenR ?_
      obtain rfl := so h
      exact pR1 (.inl rfl) rfl (.tmp rfl <| .nil)

end Go.Proofs.Ythpmbokenhpakaa.LE
